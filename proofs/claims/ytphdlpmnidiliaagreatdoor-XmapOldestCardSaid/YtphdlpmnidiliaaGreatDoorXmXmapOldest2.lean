/-
  Own work: contracts of functions that the statement reaches, and plain facts on what they compute; each theorem says its conditions.
-/
import Derived.Test.YtphdlpmnidiliaaGreatDoorXmXmapOldest1
import Derived.Test.YtphdlpmnidiliaaGreatDoorXmS1
import Derived.Test.YtphdlpmnidiliaaGreatDoorXmA
set_option linter.all false
set_option linter.unusedSimpArgs false
set_option linter.unusedVariables false
namespace Go.Proofs.YtphdlpmnidiliaaGreatDoor
open Go Go.Sl
attribute [local irreducible] W
theorem AtIs.snoc {u : List Int} {key z av : Int} {j : Nat} (h : AtIs (u.take j) key z) (hx : u[j]? = some av) : (av = key → AtIs (u.take (j + 1)) key (j : Int)) ∧ (av ≠ key → AtIs (u.take (j + 1)) key z) := by
  have hj := (List.getElem?_eq_some_iff.1 hx).1
  refine ⟨fun e => .inr ⟨j, rfl, by rw [List.getElem?_take, if_pos (by omega), hx, e]⟩, fun e => ?_⟩
  rcases h with ⟨hz, hn⟩ | ⟨q, hz, hq⟩
  · refine .inl ⟨hz, ?_⟩
    rw [takeAt' hx, List.mem_append]
    rintro (h | h)
    · exact hn h
    · exact e (List.mem_singleton.1 h).symm
  · refine .inr ⟨q, hz, ?_⟩
    rw [List.getElem?_take] at hq ⊢
    split at hq
    · rw [if_pos (by omega)]; exact hq
    · cases hq
theorem old_ways (E : Nat) (y : Xm) (fl : List Bool) (i : Nat) {key z : Int} (h : AtIs y.used key z) :
    (fl.length ≤ i ∧ z = -1 ∧ key ∉ y.used ∧ y.C.length = E) ∨ (fl.length ≤ i ∧ z = -1 ∧ key ∉ y.used ∧ y.C.length ≠ E) ∨ (fl.length ≤ i ∧ ∃ q : Nat, z = (q : Int) ∧ y.used[q]? = some key) ∨
    (fl[i]? = some false ∧ z = -1 ∧ key ∉ y.used ∧ y.C.length = E) ∨ (fl[i]? = some false ∧ z = -1 ∧ key ∉ y.used ∧ y.C.length ≠ E) ∨ (fl[i]? = some false ∧ ∃ q : Nat, z = (q : Int) ∧ y.used[q]? = some key) ∨
    (fl[i]? = some true ∧ z = -1 ∧ key ∉ y.used) ∨ (fl[i]? = some true ∧ ∃ q : Nat, z = (q : Int) ∧ y.used[q]? = some key) := by
  rcases h with ⟨hz, hn⟩ | hq
  · by_cases c : fl.length ≤ i
    · by_cases c2 : y.C.length = E
      · exact .inl ⟨c, hz, hn, c2⟩
      · exact .inr (.inl ⟨c, hz, hn, c2⟩)
    · have hf : fl[i]? = some fl[i] := List.getElem?_eq_getElem (by omega)
      cases hb : fl[i] with
      | true => rw [hb] at hf; exact .inr (.inr (.inr (.inr (.inr (.inr (.inl ⟨hf, hz, hn⟩))))))
      | false =>
        rw [hb] at hf
        by_cases c2 : y.C.length = E
        · exact .inr (.inr (.inr (.inl ⟨hf, hz, hn, c2⟩)))
        · exact .inr (.inr (.inr (.inr (.inl ⟨hf, hz, hn, c2⟩))))
  · by_cases c : fl.length ≤ i
    · exact .inr (.inr (.inl ⟨c, hq⟩))
    · have hf : fl[i]? = some fl[i] := List.getElem?_eq_getElem (by omega)
      cases hb : fl[i] with
      | true => rw [hb] at hf; exact .inr (.inr (.inr (.inr (.inr (.inr (.inr ⟨hf, hq⟩))))))
      | false => rw [hb] at hf; exact .inr (.inr (.inr (.inr (.inr (.inl ⟨hf, hq⟩)))))
structure OldX where
  i : Nat
  x : Xm
  HX : Heap
  a : List Int
theorem old_0 {E : Nat} : OInv E 0 (Xm.new 2 E 1) := by
  refine ⟨rfl, rfl, rfl, rfl, cnt_arr 0 (Nat.zero_le _), fun s hs => ?_⟩
  obtain ⟨i, hi⟩ := List.mem_iff_getElem?.1 hs
  have hl := (List.getElem?_eq_some_iff.1 hi).1
  have e : (Xm.new 2 E 1).L = arrL (2 * E) 0 := rfl
  rw [e] at hi hl
  rw [arrL_len] at hl
  rw [arrL_at hl, if_neg (by omega)] at hi
  obtain rfl := Option.some.inj hi
  exact ⟨.inl rfl, by show (1 : Int) ≤ ((0 : Nat) : Int) + 1; decide⟩
set_option maxHeartbeats 16000000 in
theorem xmapOldest_L {w0 : World} {H : Heap} {z : Int} {keys : List Int} {fl : List Bool} {adk adf : Option Addr} {capk capf : Nat} (huk : ∀ x ∈ keys, 0 ≤ x ∧ x ≤ 18446744073709551615) (hrk : Holds w0 H adk (keys.map (Value.int .u64))) (hrf : Holds w0 H adf (fl.map Value.bool)) (hlk : keys.length ≤ 9223372036854775807) (hlf : fl.length ≤ 9223372036854775807) (hTab : Tab w0) : LCalls Tryz.prog w0 4 #[.int .i64 z, .slice adk keys.length capk, .slice adf fl.length capf] (H) (fun v H' => v = .bool true ∧ H' = H) := by
  obtain ⟨n, hn8, hn⟩ : ∃ n : Nat, n < 8 ∧ (IntKind.u64.wrap z).tmod 8 = (n : Int) := modX z (by decide)
  refine L_enter (l := [.int .i64 z, .slice adk keys.length capk, .slice adf fl.length capf]) Tryz.func4 rfl Tryz.ntmps4 rfl rfl ?_
  refine W_sr ?_
  refine W_assign rfl rfl ?_
  refine W_nil ?_
  refine W_sr ?_
  refine W_move rfl rfl ?_
  refine W_conv (m := IntKind.u64.wrap z) rfl ty3 ty22 rfl rfl ?_
  refine W_bin rfl rfl (b_rem (by decide) (m := (n : Int)) hn) rfl ?_
  refine W_conv rfl ty22 ty3 (i64w (by omega)) rfl ?_
  refine W_bin rfl rfl (b_add (m := ((n + 1 : Nat) : Int)) (by rw [i64w (by omega)]; omega)) rfl ?_
  obtain ⟨E, hE⟩ : ∃ E, E = n + 1 := ⟨_, rfl⟩
  rw [← hE]
  clear hn
  refine W_assign rfl rfl ?_
  refine W_nil ?_
  refine W_sr ?_
  refine W_move rfl rfl ?_
  refine W_call (.cons rfl (.cons rfl (.cons rfl .nil))) Tryz.call8 rfl (XmH.new hTab (kind := 2) (entries := E) (words := 1) (by decide) (by omega) (by decide)) ?_
  rintro v H' ⟨mb, HX0, hX0, rfl, rfl⟩
  refine W_move rfl rfl ?_
  refine W_extract rfl rfl rfl ?_
  refine W_extract rfl rfl rfl ?_
  refine W_assign rfl rfl ?_
  refine W_assign rfl rfl ?_
  refine W_nil ?_
  refine W_seq ?_
  refine W_sr ?_
  refine W_move rfl rfl ?_
  refine W_bin rfl rfl b_neq rfl ?_
  rw [decide_eq_false (by decide)]
  refine W_nil ?_
  refine W_condF rfl rfl ?_
  refine W_skip ?_
  refine W_sr ?_
  refine W_alloc (l := (List.replicate 60 (0 : Int)).map (Value.int .u64)) ty44 (by kernel_rfl) rfl (fun b9 => ?_)
  refine W_nil ?_
  refine W_sr ?_
  refine W_assign rfl rfl ?_
  refine W_nil ?_
  refine W_seq ?_
  refine W_sr ?_
  refine W_assign rfl rfl ?_
  refine W_nil ?_
  refine W_block ?_
  refine W_loopC (X := OldX) [(0, _), (1, _), (2, _), (7, _), (9, _)] (fun (x : OldX) => [(10, .int .i64 (x.x.used.length : Int)), (11, .int .i64 (x.i : Int))]) (fun _ => _) (fun (x : OldX) => x.HX ++ ((b9, .cells 44 60 ((x.a).map (Value.int .u64))) :: H)) (fun (x : OldX) => x.i ≤ keys.length ∧ x.i ≤ 60 ∧ XmH mb (10 + 2 * x.i) x.x x.HX ∧ OInv E x.i x.x ∧ x.a.length = 60 ∧ x.a.take x.x.used.length = x.x.used) (fun (x : OldX) => keys.length - x.i) ⟨0, Xm.new 2 E 1, HX0, List.replicate 60 0⟩ ⟨Nat.zero_le _, Nat.zero_le _, hX0.up (by show 8 ≤ 10 + 2 * 0; decide), old_0, List.length_replicate, rfl⟩ (sub_cons rfl (sub_cons rfl (sub_cons rfl (sub_cons rfl (sub_cons rfl (sub_nil _)))))) (sub_cons rfl (sub_cons rfl (sub_nil _))) rfl zH ?_
  rintro ⟨i, y, HY, a⟩ ⟨hi, hi60, hY, hI, hal, hau⟩
  dsimp only at hi hi60 hY hI hal hau ⊢
  simp only [List.cons_append, List.nil_append]
  refine W_seq ?_
  refine W_sr ?_
  refine W_move rfl rfl ?_
  refine W_move rfl rfl ?_
  refine W_len rfl ty42 rfl rfl ?_
  refine W_bin rfl rfl b_lss rfl ?_
  refine W_move rfl rfl ?_
  apply W_and
  iterate 4 exact rfl
  case h1 =>
    intro hg4
    refine W_gyes rfl rfl ?_
    refine W_move rfl rfl ?_
    refine W_gyes rfl rfl ?_
    refine W_bin rfl rfl b_lss rfl ?_
    exact W_met rfl zR
  refine W_nil ?_
  refine W_condPS (p := (i : Int) < (keys.length : Int) ∧ (i : Int) < 60) rfl (by simp) (fun q0 => ?_) (fun q0 => ?_)
  · skip
    refine W_skip ?_
    refine W_seq ?_
    refine W_block ?_
    refine W_sr ?_
    obtain ⟨key, hkey⟩ : ∃ key, keys[i]? = some key := ⟨_, List.getElem?_eq_getElem (by omega)⟩
    obtain ⟨q0, p0, rfl, hck⟩ := hrk.at (i := i) (v := .int .u64 key) (by rw [List.getElem?_map, hkey]; rfl)
    have hkr : 0 ≤ key ∧ key < 18446744073709551616 := by have := huk key (List.mem_of_getElem? hkey); omega
    have hok := hY.ok
    have hund := hok.und
    have hul : y.used.length ≤ E := by have h1 := hok.ulen; have h2 := hok.le; have h3 := hI.ent; omega
    have hcu := hok.ulen
    refine W_assign rfl rfl ?_
    refine W_nil ?_
    refine W_seq ?_
    refine W_sr ?_
    refine W_assign rfl rfl ?_
    refine W_nil ?_
    refine W_block ?_
    refine W_loopC (X := (Nat × Int)) [(0, _), (1, _), (2, _), (7, _), (9, _), (10, _), (11, _)] (fun (x : (Nat × Int)) => [(12, .int .i64 x.2), (13, .int .i64 (x.1 : Int))]) (fun _ => _) (fun (x : (Nat × Int)) => HY ++ ((b9, .cells 44 60 ((a).map (Value.int .u64))) :: H)) (fun (x : (Nat × Int)) => x.1 ≤ y.used.length ∧ AtIs (y.used.take x.1) key x.2) (fun (x : (Nat × Int)) => y.used.length - x.1) (0, -1) ⟨Nat.zero_le _, .inl ⟨rfl, by simp⟩⟩ (sub_cons rfl (sub_cons rfl (sub_cons rfl (sub_cons rfl (sub_cons rfl (sub_cons rfl (sub_cons rfl (sub_nil _)))))))) (sub_cons rfl (sub_cons rfl (sub_nil _))) rfl zH ?_
    rintro ⟨j, z1⟩ ⟨hj, hat⟩
    dsimp only at hj hat ⊢
    simp only [List.cons_append, List.nil_append]
    refine W_seq ?_
    refine W_sr ?_
    refine W_move rfl rfl ?_
    refine W_move rfl rfl ?_
    refine W_bin rfl rfl b_lss rfl ?_
    refine W_nil ?_
    refine W_condPS (p := (j : Int) < (y.used.length : Int)) rfl (by simp) (fun q1 => ?_) (fun q1 => ?_)
    · skip
      refine W_skip ?_
      refine W_seq ?_
      refine W_block ?_
      refine W_quietsr (by kernel_rfl) (by decide +kernel) ?_
      have hjl : j < a.length := by omega
      obtain ⟨av, hav⟩ : ∃ av, a[j]? = some av := ⟨_, List.getElem?_eq_getElem hjl⟩
      have huv : y.used[j]? = some av := by rw [← hau, List.getElem?_take, if_pos (by omega)]; exact hav
      refine WQ_x (X_move rfl) rfl ?_
      refine WQ_x (X_indexAddrA (j := j) rfl rfl ty44 ty22 (by first | rfl | omega) (by omega) rfl) rfl ?_
      refine WQ_x (X_load (v := .int .u64 av) rfl ty22 rfl (Cell.own (b := b9) zM (by rw [Nat.zero_add, Nat.mul_one, List.getElem?_map, hav]; rfl))) rfl ?_
      refine WQ_x (X_move rfl) rfl ?_
      refine WQ_x (X_move rfl) rfl ?_
      refine WQ_x (X_indexAddr (j := i) rfl rfl ty42 ty22 rfl (by have := (List.getElem?_eq_some_iff.1 hkey).1; omega) rfl) rfl ?_
      refine WQ_x (X_load (v := .int .u64 key) rfl ty22 rfl (by rw [Nat.mul_one]; exact hck.up zH)) rfl ?_
      refine WQ_x (X_bin rfl rfl b_eql) rfl ?_
      refine WQ_nil ?_
      refine W_condPS (p := av = key) rfl (by simp) (fun q2 => ?_) (fun q2 => ?_)
      · skip
        refine W_region ?_
        refine W_move rfl rfl ?_
        refine W_assign rfl rfl ?_
        refine W_nil ?_
        refine W_blk ?_
        refine W_region ?_
        refine W_move rfl rfl ?_
        refine W_bin rfl rfl (b_add (m := ((j + 1 : Nat) : Int)) ((i64w (by omega)).trans (by omega))) rfl ?_
        refine W_assign rfl rfl ?_
        refine W_nil ?_
        refine W_again (j + 1, (j : Int)) ⟨by show j + 1 ≤ y.used.length; omega, (hat.snoc huv).1 q2⟩ (by show y.used.length - (j + 1) < y.used.length - j; omega) (sub_cons rfl (sub_cons rfl (sub_cons rfl (sub_cons rfl (sub_cons rfl (sub_cons rfl (sub_cons rfl (sub_cons rfl (sub_cons rfl (sub_nil _)))))))))) rfl zH
      · skip
        refine W_skip ?_
        refine W_blk ?_
        refine W_region ?_
        refine W_move rfl rfl ?_
        refine W_bin rfl rfl (b_add (m := ((j + 1 : Nat) : Int)) ((i64w (by omega)).trans (by omega))) rfl ?_
        refine W_assign rfl rfl ?_
        refine W_nil ?_
        refine W_again (j + 1, z1) ⟨by show j + 1 ≤ y.used.length; omega, (hat.snoc huv).2 q2⟩ (by show y.used.length - (j + 1) < y.used.length - j; omega) (sub_cons rfl (sub_cons rfl (sub_cons rfl (sub_cons rfl (sub_cons rfl (sub_cons rfl (sub_cons rfl (sub_cons rfl (sub_cons rfl (sub_nil _)))))))))) rfl zH
    · skip
      refine W_exit rfl ?_
      refine W_seq ?_
      refine W_sr ?_
      obtain rfl : j = y.used.length := by omega
      rw [List.take_length] at hat
      rcases old_ways E y fl i hat with ⟨hfg, rfl, hno, hcE⟩ | ⟨hfg, rfl, hno, hcE⟩ | ⟨hfg, q, rfl, hq⟩ | ⟨hfg, rfl, hno, hcE⟩ | ⟨hfg, rfl, hno, hcE⟩ | ⟨hfg, q, rfl, hq⟩ | ⟨hfg, rfl, hno⟩ | ⟨hfg, q, rfl, hq⟩
      · skip
        obtain ⟨o, ho⟩ : ∃ o, y.used[0]? = some o := ⟨_, List.getElem?_eq_getElem (by omega)⟩
        have ha0 : a[0]? = some o := by have h := ho; rw [← hau, List.getElem?_take, if_pos (by omega)] at h; exact h
        have hpi := hI.put_out hi60 hok hno hkr hcE ho
        rw [drop1O_at hund ho] at hpi
        obtain ⟨ph, pg, po, hpp⟩ : ∃ ph pg po, (Xm.put y 0 key [key]).2.1 = ⟨ph, pg, po⟩ := ⟨_, _, _, rfl⟩
        obtain rfl : po = true := by have h := hpi.2.1; rw [hpp] at h; exact h
        rw [hpp] at hpi
        dsimp only at hpi
        refine W_move rfl rfl ?_
        refine W_move rfl rfl ?_
        refine W_len rfl ty43 rfl rfl ?_
        refine W_bin rfl rfl b_lss rfl ?_
        rw [decide_eq_false (by omega)]
        refine W_move rfl rfl ?_
        refine W_gno rfl rfl rfl ?_
        refine W_gno rfl rfl rfl ?_
        refine W_gno rfl rfl rfl ?_
        refine W_gno rfl rfl rfl ?_
        first | refine W_pickt rfl rfl rfl ?_ | refine W_pickf rfl rfl rfl ?_
        refine W_move rfl rfl ?_
        refine W_gno rfl rfl rfl ?_
        refine W_gno rfl rfl rfl ?_
        first | refine W_pickt rfl rfl rfl ?_ | refine W_pickf rfl rfl rfl ?_
        refine W_nil ?_
        refine W_condF rfl rfl ?_
        refine W_skip ?_
        refine W_seq ?_
        refine W_sr ?_
        refine W_move rfl rfl ?_
        refine W_move rfl rfl ?_
        refine W_len rfl ty43 rfl rfl ?_
        refine W_bin rfl rfl b_lss rfl ?_
        rw [decide_eq_false (by omega)]
        refine W_move rfl rfl ?_
        refine W_gno rfl rfl rfl ?_
        refine W_gno rfl rfl rfl ?_
        refine W_gno rfl rfl rfl ?_
        refine W_gno rfl rfl rfl ?_
        first | refine W_pickt rfl rfl rfl ?_ | refine W_pickf rfl rfl rfl ?_
        refine W_nil ?_
        refine W_condF rfl rfl ?_
        refine W_seq ?_
        refine W_cutX (X := (Heap × Nat)) (fun x => [(0, .int .i64 (E : Int)), (1, .slice (some ⟨q0, p0, none⟩) keys.length capk), (2, .slice adf fl.length capf), (7, .pointer (some ⟨mb, 0, none⟩)), (9, .pointer (some ⟨b9, 0, none⟩)), (10, .int .i64 (y.used.length : Int)), (11, .int .i64 (i : Int)), (12, .int .i64 (-1)), (18, .pointer (some ⟨x.2, 0, none⟩)), (19, .int .i64 0)]) (fun x => (x.2, .cells 31 5 (puttC ⟨ph, pg, true⟩)) :: (x.1 ++ ((b9, .cells 44 60 ((a).map (Value.int .u64))) :: H))) (fun x => XmH mb (10 + 2 * i + 2) (Xm.put y 0 key [key]).1 x.1) ?_ ?_
        · skip
          refine W_anyC H (by kernel_rfl) ?_
          refine WC_take 0 (l' := #[true, false, false, false, false, false, false, false, false, false, false, false, false, false, false, false, false]) rfl (by decide +kernel) (by decide +kernel) (by decide +kernel) rfl (by decide +kernel) (X_move rfl) rfl ?_
          refine WC_take 1 (l' := #[true, true, false, false, false, false, false, false, false, false, false, false, false, false, false, false, false]) rfl (by decide +kernel) (by decide +kernel) (by decide +kernel) rfl (by decide +kernel) (X_move rfl) rfl ?_
          refine WC_take 2 (l' := #[true, true, true, false, false, false, false, false, false, false, false, false, false, false, false, false, false]) rfl (by decide +kernel) (by decide +kernel) (by decide +kernel) rfl (by decide +kernel) (X_move rfl) rfl ?_
          refine WC_take 3 (l' := #[true, true, true, true, false, false, false, false, false, false, false, false, false, false, false, false, false]) rfl (by decide +kernel) (by decide +kernel) (by decide +kernel) rfl (by decide +kernel) (X_indexAddr (j := i) rfl rfl ty42 ty22 rfl (by have := (List.getElem?_eq_some_iff.1 hkey).1; omega) rfl) rfl ?_
          refine WC_take 4 (l' := #[true, true, true, true, true, false, false, false, false, false, false, false, false, false, false, false, false]) rfl (by decide +kernel) (by decide +kernel) (by decide +kernel) rfl (by decide +kernel) (X_load (v := .int .u64 key) rfl ty22 rfl (by rw [Nat.mul_one]; exact hck.up zH)) rfl ?_
          refine WC_take 5 (l' := #[true, true, true, true, true, true, false, false, false, false, false, false, false, false, false, false, false]) rfl (by decide +kernel) (by decide +kernel) (by decide +kernel) rfl (by decide +kernel) (X_move rfl) rfl ?_
          refine WC_take 6 (l' := #[true, true, true, true, true, true, true, false, false, false, false, false, false, false, false, false, false]) rfl (by decide +kernel) (by decide +kernel) (by decide +kernel) rfl (by decide +kernel) (X_move rfl) rfl ?_
          refine WC_take 7 (l' := #[true, true, true, true, true, true, true, true, false, false, false, false, false, false, false, false, false]) rfl (by decide +kernel) (by decide +kernel) (by decide +kernel) rfl (by decide +kernel) (X_indexAddr (j := i) rfl rfl ty42 ty22 rfl (by have := (List.getElem?_eq_some_iff.1 hkey).1; omega) rfl) rfl ?_
          refine WC_take 8 (l' := #[true, true, true, true, true, true, true, true, true, false, false, false, false, false, false, false, false]) rfl (by decide +kernel) (by decide +kernel) (by decide +kernel) rfl (by decide +kernel) (X_load (v := .int .u64 key) rfl ty22 rfl (by rw [Nat.mul_one]; exact hck.up zH)) rfl ?_
          refine WC_two 9 14 (l' := #[true, true, true, true, true, true, true, true, true, true, false, false, false, false, false, false, false]) (l'' := #[true, true, true, true, true, true, true, true, true, false, false, false, false, false, true, false, false]) zH (by decide +kernel) rfl rfl (by decide +kernel) (by decide +kernel) ?_ ?_
          · skip
            refine W_buildSlice (l := [.int .u64 key]) ty42 ty22 (.cons rfl rfl rfl rfl rfl .nil) rfl rfl rfl rfl rfl rfl rfl (fun b115 => ?_)
            refine W_nil ?_
            refine WC_goal ?_
            refine WC_two 10 14 (l' := #[true, true, true, true, true, true, true, true, true, true, true, false, false, false, false, false, false]) (l'' := #[true, true, true, true, true, true, true, true, true, true, false, false, false, false, true, false, false]) zH (by decide +kernel) rfl rfl (by decide +kernel) (by decide +kernel) ?_ ?_
            · skip
              refine W_call (.cons rfl (.cons rfl (.cons rfl (.cons rfl .nil)))) Tryz.call11 rfl ((hY.put hTab (by omega) (how := 0) (k := key) (ws := [key]) (cap := 1) hkr (Holds.own (b := b115) zM) (H := (b115, .cells 22 (1 * 1) [.int .u64 key]) :: (b9, .cells 44 60 ((a).map (Value.int .u64))) :: H)).hsub zH) ?_
              rintro v H' ⟨HX8, hX8, rfl, rfl⟩
              rw [hpp, hpi.1]
              refine W_nil ?_
              refine WC_goal ?_
              refine WC_take 11 (l' := #[true, true, true, true, true, true, true, true, true, true, true, true, false, false, false, false, false]) rfl (by decide +kernel) (by decide +kernel) (by decide +kernel) rfl (by decide +kernel) (X_move rfl) rfl ?_
              refine WC_take 12 (l' := #[true, true, true, true, true, true, true, true, true, true, true, true, true, false, false, false, false]) rfl (by decide +kernel) (by decide +kernel) (by decide +kernel) rfl (by decide +kernel) (X_extract rfl rfl) rfl ?_
              refine WC_take 13 (l' := #[true, true, true, true, true, true, true, true, true, true, true, true, true, true, false, false, false]) rfl (by decide +kernel) (by decide +kernel) (by decide +kernel) rfl (by decide +kernel) (X_extract rfl rfl) rfl ?_
              refine WC_one 14 (l' := #[true, true, true, true, true, true, true, true, true, true, true, true, true, true, true, false, false]) zH (by decide +kernel) rfl (by decide +kernel) ?_
              refine W_alloc (l := puttC zPutt) ty31 rfl rfl (fun b18 => ?_)
              refine W_nil ?_
              refine WC_goal ?_
              refine WC_one 15 (l' := #[true, true, true, true, true, true, true, true, true, true, true, true, true, true, true, true, false]) zH (by decide +kernel) rfl (by decide +kernel) ?_
              refine W_storeA (l' := puttC ⟨ph, pg, true⟩) rfl rfl ty31 rfl rfl (b := b18) zM (by exact Nat.le_refl 5) rfl zU ?_
              refine W_nil ?_
              refine WC_goal ?_
              refine WC_take 16 (l' := #[true, true, true, true, true, true, true, true, true, true, true, true, true, true, true, true, true]) rfl (by decide +kernel) (by decide +kernel) (by decide +kernel) rfl (by decide +kernel) (X_assign rfl) rfl ?_
              refine WC_done zH (by decide +kernel) ?_
              refine W_joinX (HX8, b18) hX8 (sub_cons rfl (sub_cons rfl (sub_cons rfl (sub_cons rfl (sub_cons rfl (sub_cons rfl (sub_cons rfl (sub_cons rfl (sub_cons rfl (sub_cons rfl (sub_nil _))))))))))) zH
            · skip
              refine W_alloc (l := puttC zPutt) ty31 rfl rfl (fun b18 => ?_)
              refine W_nil ?_
              refine WC_goal ?_
              refine WC_one 10 (l' := #[true, true, true, true, true, true, true, true, true, true, true, false, false, false, true, false, false]) zH (by decide +kernel) rfl (by decide +kernel) ?_
              refine W_call (.cons rfl (.cons rfl (.cons rfl (.cons rfl .nil)))) Tryz.call11 rfl ((hY.put hTab (by omega) (how := 0) (k := key) (ws := [key]) (cap := 1) hkr (Holds.own (b := b115) zM) (H := (b115, .cells 22 (1 * 1) [.int .u64 key]) :: (b18, .cells 31 5 (puttC zPutt)) :: (b9, .cells 44 60 ((a).map (Value.int .u64))) :: H)).hsub zH) ?_
              rintro v H' ⟨HX8, hX8, rfl, rfl⟩
              rw [hpp, hpi.1]
              refine W_nil ?_
              refine WC_goal ?_
              refine WC_take 11 (l' := #[true, true, true, true, true, true, true, true, true, true, true, true, false, false, true, false, false]) rfl (by decide +kernel) (by decide +kernel) (by decide +kernel) rfl (by decide +kernel) (X_move rfl) rfl ?_
              refine WC_take 12 (l' := #[true, true, true, true, true, true, true, true, true, true, true, true, true, false, true, false, false]) rfl (by decide +kernel) (by decide +kernel) (by decide +kernel) rfl (by decide +kernel) (X_extract rfl rfl) rfl ?_
              refine WC_take 13 (l' := #[true, true, true, true, true, true, true, true, true, true, true, true, true, true, true, false, false]) rfl (by decide +kernel) (by decide +kernel) (by decide +kernel) rfl (by decide +kernel) (X_extract rfl rfl) rfl ?_
              refine WC_one 15 (l' := #[true, true, true, true, true, true, true, true, true, true, true, true, true, true, true, true, false]) zH (by decide +kernel) rfl (by decide +kernel) ?_
              refine W_storeA (l' := puttC ⟨ph, pg, true⟩) rfl rfl ty31 rfl rfl (b := b18) zM (by exact Nat.le_refl 5) rfl zU ?_
              refine W_nil ?_
              refine WC_goal ?_
              refine WC_take 16 (l' := #[true, true, true, true, true, true, true, true, true, true, true, true, true, true, true, true, true]) rfl (by decide +kernel) (by decide +kernel) (by decide +kernel) rfl (by decide +kernel) (X_assign rfl) rfl ?_
              refine WC_done zH (by decide +kernel) ?_
              refine W_joinX (HX8, b18) hX8 (sub_cons rfl (sub_cons rfl (sub_cons rfl (sub_cons rfl (sub_cons rfl (sub_cons rfl (sub_cons rfl (sub_cons rfl (sub_cons rfl (sub_cons rfl (sub_nil _))))))))))) zH
          · skip
            refine W_alloc (l := puttC zPutt) ty31 rfl rfl (fun b18 => ?_)
            refine W_nil ?_
            refine WC_goal ?_
            refine WC_one 9 (l' := #[true, true, true, true, true, true, true, true, true, true, false, false, false, false, true, false, false]) zH (by decide +kernel) rfl (by decide +kernel) ?_
            refine W_buildSlice (l := [.int .u64 key]) ty42 ty22 (.cons rfl rfl rfl rfl rfl .nil) rfl rfl rfl rfl rfl rfl rfl (fun b115 => ?_)
            refine W_nil ?_
            refine WC_goal ?_
            refine WC_one 10 (l' := #[true, true, true, true, true, true, true, true, true, true, true, false, false, false, true, false, false]) zH (by decide +kernel) rfl (by decide +kernel) ?_
            refine W_call (.cons rfl (.cons rfl (.cons rfl (.cons rfl .nil)))) Tryz.call11 rfl ((hY.put hTab (by omega) (how := 0) (k := key) (ws := [key]) (cap := 1) hkr (Holds.own (b := b115) zM) (H := (b115, .cells 22 (1 * 1) [.int .u64 key]) :: (b18, .cells 31 5 (puttC zPutt)) :: (b9, .cells 44 60 ((a).map (Value.int .u64))) :: H)).hsub zH) ?_
            rintro v H' ⟨HX8, hX8, rfl, rfl⟩
            rw [hpp, hpi.1]
            refine W_nil ?_
            refine WC_goal ?_
            refine WC_take 11 (l' := #[true, true, true, true, true, true, true, true, true, true, true, true, false, false, true, false, false]) rfl (by decide +kernel) (by decide +kernel) (by decide +kernel) rfl (by decide +kernel) (X_move rfl) rfl ?_
            refine WC_take 12 (l' := #[true, true, true, true, true, true, true, true, true, true, true, true, true, false, true, false, false]) rfl (by decide +kernel) (by decide +kernel) (by decide +kernel) rfl (by decide +kernel) (X_extract rfl rfl) rfl ?_
            refine WC_take 13 (l' := #[true, true, true, true, true, true, true, true, true, true, true, true, true, true, true, false, false]) rfl (by decide +kernel) (by decide +kernel) (by decide +kernel) rfl (by decide +kernel) (X_extract rfl rfl) rfl ?_
            refine WC_one 15 (l' := #[true, true, true, true, true, true, true, true, true, true, true, true, true, true, true, true, false]) zH (by decide +kernel) rfl (by decide +kernel) ?_
            refine W_storeA (l' := puttC ⟨ph, pg, true⟩) rfl rfl ty31 rfl rfl (b := b18) zM (by exact Nat.le_refl 5) rfl zU ?_
            refine W_nil ?_
            refine WC_goal ?_
            refine WC_take 16 (l' := #[true, true, true, true, true, true, true, true, true, true, true, true, true, true, true, true, true]) rfl (by decide +kernel) (by decide +kernel) (by decide +kernel) rfl (by decide +kernel) (X_assign rfl) rfl ?_
            refine WC_done zH (by decide +kernel) ?_
            refine W_joinX (HX8, b18) hX8 (sub_cons rfl (sub_cons rfl (sub_cons rfl (sub_cons rfl (sub_cons rfl (sub_cons rfl (sub_cons rfl (sub_cons rfl (sub_cons rfl (sub_cons rfl (sub_nil _))))))))))) zH
        rintro ⟨HX8, b18⟩ hX8
        dsimp only at hX8 ⊢
        refine W_seq ?_
        refine W_sr ?_
        refine W_move rfl rfl ?_
        refine W_bin rfl rfl b_neq rfl ?_
        rw [decide_eq_false (by decide)]
        refine W_move rfl rfl ?_
        refine W_gyes rfl rfl ?_
        refine W_fieldAddr rfl fld31_2 (by decide) rfl ?_
        refine W_gyes rfl rfl ?_
        refine W_load (v := .bool true) rfl ty4 rfl (Cell.own (b := b18) zM rfl) rfl ?_
        refine W_gyes rfl rfl ?_
        refine W_move rfl rfl ?_
        refine W_gyes rfl rfl ?_
        refine W_bin rfl rfl b_lss rfl ?_
        rw [decide_eq_true (by omega)]
        refine W_gyes rfl rfl ?_
        refine W_move rfl rfl ?_
        refine W_gyes rfl rfl ?_
        refine W_move rfl rfl ?_
        refine W_gyes rfl rfl ?_
        refine W_move rfl rfl ?_
        refine W_gyes rfl rfl ?_
        refine W_bin rfl rfl b_eql rfl ?_
        rw [decide_eq_true (by omega)]
        refine W_gyes rfl rfl ?_
        first | refine W_pickt rfl rfl rfl ?_ | refine W_pickf rfl rfl rfl ?_
        refine W_gyes rfl rfl ?_
        refine W_bne rfl rfl ty4 rfl ?_
        first | refine W_pickt rfl rfl rfl ?_ | refine W_pickf rfl rfl rfl ?_
        refine W_nil ?_
        refine W_condF rfl rfl ?_
        refine W_skip ?_
        refine W_sr ?_
        refine W_fieldAddr rfl fld31_2 (by decide) rfl ?_
        refine W_load (v := .bool true) rfl ty4 rfl (Cell.own (b := b18) zM rfl) rfl ?_
        refine W_nil ?_
        refine W_condT rfl rfl ?_
        refine W_sr ?_
        refine W_move rfl rfl ?_
        refine W_fieldAddr rfl fld31_1 (by decide) rfl ?_
        refine W_loadB (vs := hdC pg) rfl ty29 rfl (b := b18) zM rfl rfl rfl ?_
        refine W_callq (.cons rfl (.cons rfl .nil)) Tryz.call18 rfl (hX8.key (h := pg) (fun p hp => by repeat (first | exact List.mem_append_left _ hp | apply List.mem_cons_of_mem | apply List.mem_append_right))) ?_
        rw [hpi.2.2.1]
        dsimp only
        refine W_move rfl rfl ?_
        refine W_extract rfl rfl rfl ?_
        refine W_extract rfl rfl rfl ?_
        refine W_assign rfl rfl ?_
        refine W_assign rfl rfl ?_
        refine W_nil ?_
        refine W_seq ?_
        refine W_sr ?_
        refine W_move rfl rfl ?_
        refine W_bin rfl rfl b_neq rfl ?_
        rw [decide_eq_false (by decide)]
        refine W_move rfl rfl ?_
        refine W_gyes rfl rfl ?_
        refine W_move rfl rfl ?_
        refine W_gyes rfl rfl ?_
        refine W_indexAddrA (j := 0) rfl rfl ty44 ty22 rfl (by decide) rfl rfl ?_
        refine W_gyes rfl rfl ?_
        refine W_load (v := .int .u64 o) rfl ty22 rfl (Cell.own (b := b9) zM (by show (a.map (Value.int .u64))[0]? = _; rw [List.getElem?_map, ha0]; rfl)) rfl ?_
        refine W_gyes rfl rfl ?_
        refine W_bin rfl rfl b_neq rfl ?_
        rw [decide_eq_false (fun h => h rfl)]
        first | refine W_pickt rfl rfl rfl ?_ | refine W_pickf rfl rfl rfl ?_
        refine W_move rfl rfl ?_
        refine W_gyes rfl rfl ?_
        refine W_move rfl rfl ?_
        refine W_gyes rfl rfl ?_
        refine W_fieldAddr rfl fld31_1 (by decide) rfl ?_
        refine W_gyes rfl rfl ?_
        refine W_loadB (vs := hdC pg) rfl ty29 rfl (b := b18) zM rfl rfl rfl ?_
        refine W_gyes rfl rfl ?_
        refine W_call (.cons rfl (.cons rfl .nil)) Tryz.call19 rfl ((hX8.free (h := pg) (H := (b9, .cells 44 60 ((a).map (Value.int .u64))) :: H)).hsub zH) ?_
        rintro v H' ⟨HX9, hX9, rfl, rfl⟩
        rw [hpi.2.2.2.1]
        obtain ⟨x9, hx9⟩ : ∃ x9, x9 = (Xm.free (Xm.put y 0 key [key]).1 pg).1 := ⟨_, rfl⟩
        rw [← hx9] at hX9 hpi
        have hI9 := hpi.2.2.2.2.1
        have hnu : x9.used = y.used.eraseIdx 0 ++ [key] := hpi.2.2.2.2.2
        refine W_gyes rfl rfl ?_
        refine W_bin rfl rfl b_neq rfl ?_
        rw [decide_eq_false (by decide)]
        first | refine W_pickt rfl rfl rfl ?_ | refine W_pickf rfl rfl rfl ?_
        refine W_nil ?_
        refine W_condF rfl rfl ?_
        refine W_skip ?_
        refine W_region ?_
        obtain ⟨q, hq0⟩ : ∃ q : Nat, q = 0 := ⟨0, rfl⟩
        have hql : q < y.used.length := by have := (List.getElem?_eq_some_iff.1 ho).1; omega
        rw [← hq0] at hnu
        refine W_assign (v := .int .i64 ((q : Nat) : Int)) (by rw [hq0]; rfl) rfl ?_
        refine W_nil ?_
        refine W_seq ?_
        refine W_sr ?_
        refine W_move rfl rfl ?_
        refine W_bin rfl rfl b_geq rfl ?_
        rw [decide_eq_true (by omega)]
        refine W_nil ?_
        refine W_condT rfl rfl ?_
        refine W_seq ?_
        refine W_sr ?_
        refine W_move rfl rfl ?_
        refine W_assign rfl rfl ?_
        refine W_nil ?_
        refine W_block ?_
        refine W_loopC (X := (Nat × List Int)) [(0, _), (1, _), (2, _), (7, _), (9, _), (10, _), (11, _)] (fun (x : (Nat × List Int)) => [(22, .int .i64 (x.1 : Int))]) (fun _ => _) (fun (x : (Nat × List Int)) => HX9 ++ ((b9, .cells 44 60 ((x.2).map (Value.int .u64))) :: H)) (fun (x : (Nat × List Int)) => q ≤ x.1 ∧ x.1 ≤ y.used.length - 1 ∧ ShAt a x.2 q x.1) (fun (x : (Nat × List Int)) => y.used.length - x.1) (q, a) ⟨Nat.le_refl _, by show q ≤ y.used.length - 1; omega, ShAt.start a q⟩ (sub_cons rfl (sub_cons rfl (sub_cons rfl (sub_cons rfl (sub_cons rfl (sub_cons rfl (sub_cons rfl (sub_nil _)))))))) (sub_cons rfl (sub_nil _)) rfl zH ?_
        rintro ⟨k, b⟩ ⟨hqk, hkl, hsh⟩
        dsimp only at hqk hkl hsh ⊢
        have hbl := hsh.1
        simp only [List.cons_append, List.nil_append]
        refine W_seq ?_
        refine W_sr ?_
        refine W_move rfl rfl ?_
        refine W_bin rfl rfl (b_add (m := ((k + 1 : Nat) : Int)) (by rw [i64w (by omega)]; omega)) rfl ?_
        refine W_move rfl rfl ?_
        refine W_bin rfl rfl b_lss rfl ?_
        refine W_nil ?_
        refine W_condPS (p := ((k + 1 : Nat) : Int) < (y.used.length : Int)) rfl (by simp) (fun q2 => ?_) (fun q2 => ?_)
        · skip
          refine W_skip ?_
          refine W_seq ?_
          refine W_block ?_
          refine W_region ?_
          obtain ⟨av, hav⟩ : ∃ av, b[k + 1]? = some av := ⟨_, List.getElem?_eq_getElem (by omega)⟩
          refine W_move rfl rfl ?_
          refine W_move rfl rfl ?_
          refine W_bin rfl rfl (b_add (m := ((k + 1 : Nat) : Int)) (by rw [i64w (by omega)]; omega)) rfl ?_
          refine W_indexAddrA (j := (k + 1)) rfl rfl ty44 ty22 (by first | rfl | omega) (by omega) rfl rfl ?_
          refine W_load (v := .int .u64 av) rfl ty22 rfl (Cell.own (b := b9) zM (by rw [Nat.zero_add, Nat.mul_one, List.getElem?_map, hav]; rfl)) rfl ?_
          refine W_indexAddrA (j := k) rfl rfl ty44 ty22 (by first | rfl | omega) (by omega) rfl rfl ?_
          refine W_store (l' := (b.set k av).map (Value.int .u64)) rfl rfl ty22 rfl rfl (b := b9) zM (by rw [Nat.zero_add, Nat.mul_one, List.length_map, Nat.blt_eq]; omega) (by rw [Nat.zero_add, Nat.mul_one, List.map_set]) zU ?_
          refine W_nil ?_
          refine W_blk ?_
          refine W_region ?_
          refine W_move rfl rfl ?_
          refine W_bin rfl rfl (b_add (m := ((k + 1 : Nat) : Int)) (by rw [i64w (by omega)]; omega)) rfl ?_
          refine W_assign rfl rfl ?_
          refine W_nil ?_
          refine W_again (k + 1, b.set k av) ⟨by show q ≤ k + 1; omega, by show k + 1 ≤ y.used.length - 1; omega, hsh.step hqk (by omega) (by rw [← hsh.next]; exact hav)⟩ (by show y.used.length - (k + 1) < y.used.length - k; omega) (sub_cons rfl (sub_cons rfl (sub_cons rfl (sub_cons rfl (sub_cons rfl (sub_cons rfl (sub_cons rfl (sub_cons rfl (sub_nil _))))))))) rfl zH
        · skip
          refine W_exit rfl ?_
          refine W_region ?_
          refine W_move rfl rfl ?_
          refine W_bin rfl rfl (b_sub (m := ((y.used.length - 1 : Nat) : Int)) (by rw [i64w (by omega)]; omega)) rfl ?_
          refine W_assign rfl rfl ?_
          refine W_nil ?_
          refine W_sr ?_
          refine W_move rfl rfl ?_
          refine W_move rfl rfl ?_
          refine W_move rfl rfl ?_
          refine W_indexAddr (j := i) rfl rfl ty42 ty22 rfl (by have := (List.getElem?_eq_some_iff.1 hkey).1; omega) rfl rfl ?_
          refine W_load (v := .int .u64 key) rfl ty22 rfl (by rw [Nat.mul_one]; exact hck.up zH) rfl ?_
          refine W_indexAddrA (j := (y.used.length - 1)) rfl rfl ty44 ty22 (by first | rfl | omega) (by omega) rfl rfl ?_
          obtain ⟨a', ha'⟩ : ∃ a', a' = b.set (y.used.length - 1) key := ⟨_, rfl⟩
          have hal' : a'.length = 60 := by rw [ha', List.length_set]; omega
          have hau' : a'.take x9.used.length = x9.used := by
            have hel : (y.used.eraseIdx q).length = y.used.length - 1 := List.length_eraseIdx_of_lt hql
            rw [hnu, ha', List.length_append, List.length_singleton, hel, show y.used.length - 1 + 1 = y.used.length by omega]
            exact ShAt.over (by rw [show y.used.length - 1 = k by omega]; exact hsh) rfl hql (by omega) hau
          refine W_store (l' := a'.map (Value.int .u64)) rfl rfl ty22 rfl rfl (b := b9) zM (by rw [Nat.zero_add, Nat.mul_one, List.length_map, Nat.blt_eq]; omega) (by rw [ha', Nat.zero_add, Nat.mul_one, List.map_set]) zU ?_
          refine W_nil ?_
          refine W_sr ?_
          refine W_move rfl rfl ?_
          have hn9 : x9.used.length = y.used.length - 1 + 1 := by rw [hnu, List.length_append, List.length_eraseIdx_of_lt hql]; rfl
          refine W_bin rfl rfl (b_add (m := (x9.used.length : Int)) (by rw [i64w (by omega)]; omega)) rfl ?_
          refine W_assign rfl rfl ?_
          refine W_nil ?_
          refine W_sr ?_
          refine W_move rfl rfl ?_
          refine W_callq (.cons rfl .nil) Tryz.call9 rfl (hX9.len (fun p hp => by repeat (first | exact List.mem_append_left _ hp | apply List.mem_cons_of_mem | apply List.mem_append_right))) ?_
          refine W_move rfl rfl ?_
          refine W_bin rfl rfl b_neq rfl ?_
          rw [decide_eq_false (by have := hX9.ok.ulen; omega)]
          refine W_move rfl rfl ?_
          refine W_gyes rfl rfl ?_
          refine W_move rfl rfl ?_
          refine W_gyes rfl rfl ?_
          refine W_callq (.cons rfl .nil) Tryz.call10 rfl (hX9.held (fun p hp => by repeat (first | exact List.mem_append_left _ hp | apply List.mem_cons_of_mem | apply List.mem_append_right))) ?_
          refine W_gyes rfl rfl ?_
          refine W_move rfl rfl ?_
          refine W_gyes rfl rfl ?_
          refine W_bin rfl rfl b_neq rfl ?_
          rw [decide_eq_false (by have h1 := hX9.ok.ulen; have h2 := hI9.cnt; omega)]
          first | refine W_pickt rfl rfl rfl ?_ | refine W_pickf rfl rfl rfl ?_
          refine W_nil ?_
          refine W_condF rfl rfl ?_
          refine W_skip ?_
          refine W_blk ?_
          refine W_region ?_
          refine W_move rfl rfl ?_
          refine W_bin rfl rfl (b_add (m := ((i + 1 : Nat) : Int)) ((i64w (by omega)).trans (by omega))) rfl ?_
          refine W_assign rfl rfl ?_
          refine W_nil ?_
          refine W_again ⟨i + 1, x9, HX9, a'⟩ ⟨by show i + 1 ≤ keys.length; omega, by show i + 1 ≤ 60; omega, hX9.up (by show _ ≤ 10 + 2 * (i + 1); omega), hI9, hal', hau'⟩ (by show keys.length - (i + 1) < keys.length - i; omega) (sub_cons rfl (sub_cons rfl (sub_cons rfl (sub_cons rfl (sub_cons rfl (sub_cons rfl (sub_cons rfl (sub_nil _)))))))) rfl zH
      · skip
        have hpi := hI.put_new hok hno hcE
        obtain ⟨ph, pg, po, hpp⟩ : ∃ ph pg po, (Xm.put y 0 key [key]).2.1 = ⟨ph, pg, po⟩ := ⟨_, _, _, rfl⟩
        obtain rfl : po = false := by have h := hpi.2.1; rw [hpp] at h; exact h
        refine W_move rfl rfl ?_
        refine W_move rfl rfl ?_
        refine W_len rfl ty43 rfl rfl ?_
        refine W_bin rfl rfl b_lss rfl ?_
        rw [decide_eq_false (by omega)]
        refine W_move rfl rfl ?_
        refine W_gno rfl rfl rfl ?_
        refine W_gno rfl rfl rfl ?_
        refine W_gno rfl rfl rfl ?_
        refine W_gno rfl rfl rfl ?_
        first | refine W_pickt rfl rfl rfl ?_ | refine W_pickf rfl rfl rfl ?_
        refine W_move rfl rfl ?_
        refine W_gno rfl rfl rfl ?_
        refine W_gno rfl rfl rfl ?_
        first | refine W_pickt rfl rfl rfl ?_ | refine W_pickf rfl rfl rfl ?_
        refine W_nil ?_
        refine W_condF rfl rfl ?_
        refine W_skip ?_
        refine W_seq ?_
        refine W_sr ?_
        refine W_move rfl rfl ?_
        refine W_move rfl rfl ?_
        refine W_len rfl ty43 rfl rfl ?_
        refine W_bin rfl rfl b_lss rfl ?_
        rw [decide_eq_false (by omega)]
        refine W_move rfl rfl ?_
        refine W_gno rfl rfl rfl ?_
        refine W_gno rfl rfl rfl ?_
        refine W_gno rfl rfl rfl ?_
        refine W_gno rfl rfl rfl ?_
        first | refine W_pickt rfl rfl rfl ?_ | refine W_pickf rfl rfl rfl ?_
        refine W_nil ?_
        refine W_condF rfl rfl ?_
        refine W_seq ?_
        refine W_cutX (X := (Heap × Nat)) (fun x => [(0, .int .i64 (E : Int)), (1, .slice (some ⟨q0, p0, none⟩) keys.length capk), (2, .slice adf fl.length capf), (7, .pointer (some ⟨mb, 0, none⟩)), (9, .pointer (some ⟨b9, 0, none⟩)), (10, .int .i64 (y.used.length : Int)), (11, .int .i64 (i : Int)), (12, .int .i64 (-1)), (18, .pointer (some ⟨x.2, 0, none⟩)), (19, .int .i64 0)]) (fun x => (x.2, .cells 31 5 (puttC ⟨ph, pg, false⟩)) :: (x.1 ++ ((b9, .cells 44 60 ((a).map (Value.int .u64))) :: H))) (fun x => XmH mb (10 + 2 * i + 2) (Xm.put y 0 key [key]).1 x.1) ?_ ?_
        · skip
          refine W_anyC H (by kernel_rfl) ?_
          refine WC_take 0 (l' := #[true, false, false, false, false, false, false, false, false, false, false, false, false, false, false, false, false]) rfl (by decide +kernel) (by decide +kernel) (by decide +kernel) rfl (by decide +kernel) (X_move rfl) rfl ?_
          refine WC_take 1 (l' := #[true, true, false, false, false, false, false, false, false, false, false, false, false, false, false, false, false]) rfl (by decide +kernel) (by decide +kernel) (by decide +kernel) rfl (by decide +kernel) (X_move rfl) rfl ?_
          refine WC_take 2 (l' := #[true, true, true, false, false, false, false, false, false, false, false, false, false, false, false, false, false]) rfl (by decide +kernel) (by decide +kernel) (by decide +kernel) rfl (by decide +kernel) (X_move rfl) rfl ?_
          refine WC_take 3 (l' := #[true, true, true, true, false, false, false, false, false, false, false, false, false, false, false, false, false]) rfl (by decide +kernel) (by decide +kernel) (by decide +kernel) rfl (by decide +kernel) (X_indexAddr (j := i) rfl rfl ty42 ty22 rfl (by have := (List.getElem?_eq_some_iff.1 hkey).1; omega) rfl) rfl ?_
          refine WC_take 4 (l' := #[true, true, true, true, true, false, false, false, false, false, false, false, false, false, false, false, false]) rfl (by decide +kernel) (by decide +kernel) (by decide +kernel) rfl (by decide +kernel) (X_load (v := .int .u64 key) rfl ty22 rfl (by rw [Nat.mul_one]; exact hck.up zH)) rfl ?_
          refine WC_take 5 (l' := #[true, true, true, true, true, true, false, false, false, false, false, false, false, false, false, false, false]) rfl (by decide +kernel) (by decide +kernel) (by decide +kernel) rfl (by decide +kernel) (X_move rfl) rfl ?_
          refine WC_take 6 (l' := #[true, true, true, true, true, true, true, false, false, false, false, false, false, false, false, false, false]) rfl (by decide +kernel) (by decide +kernel) (by decide +kernel) rfl (by decide +kernel) (X_move rfl) rfl ?_
          refine WC_take 7 (l' := #[true, true, true, true, true, true, true, true, false, false, false, false, false, false, false, false, false]) rfl (by decide +kernel) (by decide +kernel) (by decide +kernel) rfl (by decide +kernel) (X_indexAddr (j := i) rfl rfl ty42 ty22 rfl (by have := (List.getElem?_eq_some_iff.1 hkey).1; omega) rfl) rfl ?_
          refine WC_take 8 (l' := #[true, true, true, true, true, true, true, true, true, false, false, false, false, false, false, false, false]) rfl (by decide +kernel) (by decide +kernel) (by decide +kernel) rfl (by decide +kernel) (X_load (v := .int .u64 key) rfl ty22 rfl (by rw [Nat.mul_one]; exact hck.up zH)) rfl ?_
          refine WC_two 9 14 (l' := #[true, true, true, true, true, true, true, true, true, true, false, false, false, false, false, false, false]) (l'' := #[true, true, true, true, true, true, true, true, true, false, false, false, false, false, true, false, false]) zH (by decide +kernel) rfl rfl (by decide +kernel) (by decide +kernel) ?_ ?_
          · skip
            refine W_buildSlice (l := [.int .u64 key]) ty42 ty22 (.cons rfl rfl rfl rfl rfl .nil) rfl rfl rfl rfl rfl rfl rfl (fun b115 => ?_)
            refine W_nil ?_
            refine WC_goal ?_
            refine WC_two 10 14 (l' := #[true, true, true, true, true, true, true, true, true, true, true, false, false, false, false, false, false]) (l'' := #[true, true, true, true, true, true, true, true, true, true, false, false, false, false, true, false, false]) zH (by decide +kernel) rfl rfl (by decide +kernel) (by decide +kernel) ?_ ?_
            · skip
              refine W_call (.cons rfl (.cons rfl (.cons rfl (.cons rfl .nil)))) Tryz.call11 rfl ((hY.put hTab (by omega) (how := 0) (k := key) (ws := [key]) (cap := 1) hkr (Holds.own (b := b115) zM) (H := (b115, .cells 22 (1 * 1) [.int .u64 key]) :: (b9, .cells 44 60 ((a).map (Value.int .u64))) :: H)).hsub zH) ?_
              rintro v H' ⟨HX8, hX8, rfl, rfl⟩
              rw [hpp, hpi.1]
              refine W_nil ?_
              refine WC_goal ?_
              refine WC_take 11 (l' := #[true, true, true, true, true, true, true, true, true, true, true, true, false, false, false, false, false]) rfl (by decide +kernel) (by decide +kernel) (by decide +kernel) rfl (by decide +kernel) (X_move rfl) rfl ?_
              refine WC_take 12 (l' := #[true, true, true, true, true, true, true, true, true, true, true, true, true, false, false, false, false]) rfl (by decide +kernel) (by decide +kernel) (by decide +kernel) rfl (by decide +kernel) (X_extract rfl rfl) rfl ?_
              refine WC_take 13 (l' := #[true, true, true, true, true, true, true, true, true, true, true, true, true, true, false, false, false]) rfl (by decide +kernel) (by decide +kernel) (by decide +kernel) rfl (by decide +kernel) (X_extract rfl rfl) rfl ?_
              refine WC_one 14 (l' := #[true, true, true, true, true, true, true, true, true, true, true, true, true, true, true, false, false]) zH (by decide +kernel) rfl (by decide +kernel) ?_
              refine W_alloc (l := puttC zPutt) ty31 rfl rfl (fun b18 => ?_)
              refine W_nil ?_
              refine WC_goal ?_
              refine WC_one 15 (l' := #[true, true, true, true, true, true, true, true, true, true, true, true, true, true, true, true, false]) zH (by decide +kernel) rfl (by decide +kernel) ?_
              refine W_storeA (l' := puttC ⟨ph, pg, false⟩) rfl rfl ty31 rfl rfl (b := b18) zM (by exact Nat.le_refl 5) rfl zU ?_
              refine W_nil ?_
              refine WC_goal ?_
              refine WC_take 16 (l' := #[true, true, true, true, true, true, true, true, true, true, true, true, true, true, true, true, true]) rfl (by decide +kernel) (by decide +kernel) (by decide +kernel) rfl (by decide +kernel) (X_assign rfl) rfl ?_
              refine WC_done zH (by decide +kernel) ?_
              refine W_joinX (HX8, b18) hX8 (sub_cons rfl (sub_cons rfl (sub_cons rfl (sub_cons rfl (sub_cons rfl (sub_cons rfl (sub_cons rfl (sub_cons rfl (sub_cons rfl (sub_cons rfl (sub_nil _))))))))))) zH
            · skip
              refine W_alloc (l := puttC zPutt) ty31 rfl rfl (fun b18 => ?_)
              refine W_nil ?_
              refine WC_goal ?_
              refine WC_one 10 (l' := #[true, true, true, true, true, true, true, true, true, true, true, false, false, false, true, false, false]) zH (by decide +kernel) rfl (by decide +kernel) ?_
              refine W_call (.cons rfl (.cons rfl (.cons rfl (.cons rfl .nil)))) Tryz.call11 rfl ((hY.put hTab (by omega) (how := 0) (k := key) (ws := [key]) (cap := 1) hkr (Holds.own (b := b115) zM) (H := (b115, .cells 22 (1 * 1) [.int .u64 key]) :: (b18, .cells 31 5 (puttC zPutt)) :: (b9, .cells 44 60 ((a).map (Value.int .u64))) :: H)).hsub zH) ?_
              rintro v H' ⟨HX8, hX8, rfl, rfl⟩
              rw [hpp, hpi.1]
              refine W_nil ?_
              refine WC_goal ?_
              refine WC_take 11 (l' := #[true, true, true, true, true, true, true, true, true, true, true, true, false, false, true, false, false]) rfl (by decide +kernel) (by decide +kernel) (by decide +kernel) rfl (by decide +kernel) (X_move rfl) rfl ?_
              refine WC_take 12 (l' := #[true, true, true, true, true, true, true, true, true, true, true, true, true, false, true, false, false]) rfl (by decide +kernel) (by decide +kernel) (by decide +kernel) rfl (by decide +kernel) (X_extract rfl rfl) rfl ?_
              refine WC_take 13 (l' := #[true, true, true, true, true, true, true, true, true, true, true, true, true, true, true, false, false]) rfl (by decide +kernel) (by decide +kernel) (by decide +kernel) rfl (by decide +kernel) (X_extract rfl rfl) rfl ?_
              refine WC_one 15 (l' := #[true, true, true, true, true, true, true, true, true, true, true, true, true, true, true, true, false]) zH (by decide +kernel) rfl (by decide +kernel) ?_
              refine W_storeA (l' := puttC ⟨ph, pg, false⟩) rfl rfl ty31 rfl rfl (b := b18) zM (by exact Nat.le_refl 5) rfl zU ?_
              refine W_nil ?_
              refine WC_goal ?_
              refine WC_take 16 (l' := #[true, true, true, true, true, true, true, true, true, true, true, true, true, true, true, true, true]) rfl (by decide +kernel) (by decide +kernel) (by decide +kernel) rfl (by decide +kernel) (X_assign rfl) rfl ?_
              refine WC_done zH (by decide +kernel) ?_
              refine W_joinX (HX8, b18) hX8 (sub_cons rfl (sub_cons rfl (sub_cons rfl (sub_cons rfl (sub_cons rfl (sub_cons rfl (sub_cons rfl (sub_cons rfl (sub_cons rfl (sub_cons rfl (sub_nil _))))))))))) zH
          · skip
            refine W_alloc (l := puttC zPutt) ty31 rfl rfl (fun b18 => ?_)
            refine W_nil ?_
            refine WC_goal ?_
            refine WC_one 9 (l' := #[true, true, true, true, true, true, true, true, true, true, false, false, false, false, true, false, false]) zH (by decide +kernel) rfl (by decide +kernel) ?_
            refine W_buildSlice (l := [.int .u64 key]) ty42 ty22 (.cons rfl rfl rfl rfl rfl .nil) rfl rfl rfl rfl rfl rfl rfl (fun b115 => ?_)
            refine W_nil ?_
            refine WC_goal ?_
            refine WC_one 10 (l' := #[true, true, true, true, true, true, true, true, true, true, true, false, false, false, true, false, false]) zH (by decide +kernel) rfl (by decide +kernel) ?_
            refine W_call (.cons rfl (.cons rfl (.cons rfl (.cons rfl .nil)))) Tryz.call11 rfl ((hY.put hTab (by omega) (how := 0) (k := key) (ws := [key]) (cap := 1) hkr (Holds.own (b := b115) zM) (H := (b115, .cells 22 (1 * 1) [.int .u64 key]) :: (b18, .cells 31 5 (puttC zPutt)) :: (b9, .cells 44 60 ((a).map (Value.int .u64))) :: H)).hsub zH) ?_
            rintro v H' ⟨HX8, hX8, rfl, rfl⟩
            rw [hpp, hpi.1]
            refine W_nil ?_
            refine WC_goal ?_
            refine WC_take 11 (l' := #[true, true, true, true, true, true, true, true, true, true, true, true, false, false, true, false, false]) rfl (by decide +kernel) (by decide +kernel) (by decide +kernel) rfl (by decide +kernel) (X_move rfl) rfl ?_
            refine WC_take 12 (l' := #[true, true, true, true, true, true, true, true, true, true, true, true, true, false, true, false, false]) rfl (by decide +kernel) (by decide +kernel) (by decide +kernel) rfl (by decide +kernel) (X_extract rfl rfl) rfl ?_
            refine WC_take 13 (l' := #[true, true, true, true, true, true, true, true, true, true, true, true, true, true, true, false, false]) rfl (by decide +kernel) (by decide +kernel) (by decide +kernel) rfl (by decide +kernel) (X_extract rfl rfl) rfl ?_
            refine WC_one 15 (l' := #[true, true, true, true, true, true, true, true, true, true, true, true, true, true, true, true, false]) zH (by decide +kernel) rfl (by decide +kernel) ?_
            refine W_storeA (l' := puttC ⟨ph, pg, false⟩) rfl rfl ty31 rfl rfl (b := b18) zM (by exact Nat.le_refl 5) rfl zU ?_
            refine W_nil ?_
            refine WC_goal ?_
            refine WC_take 16 (l' := #[true, true, true, true, true, true, true, true, true, true, true, true, true, true, true, true, true]) rfl (by decide +kernel) (by decide +kernel) (by decide +kernel) rfl (by decide +kernel) (X_assign rfl) rfl ?_
            refine WC_done zH (by decide +kernel) ?_
            refine W_joinX (HX8, b18) hX8 (sub_cons rfl (sub_cons rfl (sub_cons rfl (sub_cons rfl (sub_cons rfl (sub_cons rfl (sub_cons rfl (sub_cons rfl (sub_cons rfl (sub_cons rfl (sub_nil _))))))))))) zH
        rintro ⟨HX8, b18⟩ hX8
        dsimp only at hX8 ⊢
        refine W_seq ?_
        refine W_sr ?_
        refine W_move rfl rfl ?_
        refine W_bin rfl rfl b_neq rfl ?_
        rw [decide_eq_false (by decide)]
        refine W_move rfl rfl ?_
        refine W_gyes rfl rfl ?_
        refine W_fieldAddr rfl fld31_2 (by decide) rfl ?_
        refine W_gyes rfl rfl ?_
        refine W_load (v := .bool false) rfl ty4 rfl (Cell.own (b := b18) zM rfl) rfl ?_
        refine W_gyes rfl rfl ?_
        refine W_move rfl rfl ?_
        refine W_gyes rfl rfl ?_
        refine W_bin rfl rfl b_lss rfl ?_
        rw [decide_eq_true (by omega)]
        refine W_gyes rfl rfl ?_
        refine W_move rfl rfl ?_
        refine W_gyes rfl rfl ?_
        refine W_move rfl rfl ?_
        refine W_gyes rfl rfl ?_
        refine W_move rfl rfl ?_
        refine W_gyes rfl rfl ?_
        refine W_bin rfl rfl b_eql rfl ?_
        rw [decide_eq_false (by omega)]
        refine W_gyes rfl rfl ?_
        first | refine W_pickt rfl rfl rfl ?_ | refine W_pickf rfl rfl rfl ?_
        refine W_gyes rfl rfl ?_
        refine W_bne rfl rfl ty4 rfl ?_
        first | refine W_pickt rfl rfl rfl ?_ | refine W_pickf rfl rfl rfl ?_
        refine W_nil ?_
        refine W_condF rfl rfl ?_
        refine W_skip ?_
        refine W_sr ?_
        obtain ⟨x9, hx9⟩ : ∃ x9, x9 = (Xm.put y 0 key [key]).1 := ⟨_, rfl⟩
        rw [← hx9] at hX8 hpi
        have hX9 := hX8
        have hI9 := hpi.2.2.1.up (Nat.le_succ i)
        have hnu := hpi.2.2.2
        obtain ⟨HX9, hH9⟩ : ∃ h, h = HX8 := ⟨_, rfl⟩
        rw [← hH9] at hX9 hX8 ⊢
        refine W_fieldAddr rfl fld31_2 (by decide) rfl ?_
        refine W_load (v := .bool false) rfl ty4 rfl (Cell.own (b := b18) zM rfl) rfl ?_
        refine W_nil ?_
        refine W_condF rfl rfl ?_
        refine W_skip ?_
        refine W_seq ?_
        refine W_sr ?_
        refine W_move rfl rfl ?_
        refine W_bin rfl rfl b_geq rfl ?_
        rw [decide_eq_false (by omega)]
        refine W_nil ?_
        refine W_condF rfl rfl ?_
        refine W_skip ?_
        refine W_sr ?_
        refine W_move rfl rfl ?_
        refine W_move rfl rfl ?_
        refine W_move rfl rfl ?_
        refine W_indexAddr (j := i) rfl rfl ty42 ty22 rfl (by have := (List.getElem?_eq_some_iff.1 hkey).1; omega) rfl rfl ?_
        refine W_load (v := .int .u64 key) rfl ty22 rfl (by rw [Nat.mul_one]; exact hck.up zH) rfl ?_
        refine W_indexAddrA (j := y.used.length) rfl rfl ty44 ty22 (by first | rfl | omega) (by omega) rfl rfl ?_
        obtain ⟨a', ha'⟩ : ∃ a', a' = a.set y.used.length key := ⟨_, rfl⟩
        have hal' : a'.length = 60 := by rw [ha', List.length_set]; omega
        have hau' : a'.take x9.used.length = x9.used := by rw [hnu, ha', List.length_append, List.length_singleton]; exact take_new (by omega) hau
        refine W_store (l' := a'.map (Value.int .u64)) rfl rfl ty22 rfl rfl (b := b9) zM (by rw [Nat.zero_add, Nat.mul_one, List.length_map, Nat.blt_eq]; omega) (by rw [ha', Nat.zero_add, Nat.mul_one, List.map_set]) zU ?_
        refine W_nil ?_
        refine W_sr ?_
        refine W_move rfl rfl ?_
        have hn9 : x9.used.length = y.used.length + 1 := by rw [hnu, List.length_append]; rfl
        refine W_bin rfl rfl (b_add (m := (x9.used.length : Int)) (by rw [i64w (by omega)]; omega)) rfl ?_
        refine W_assign rfl rfl ?_
        refine W_nil ?_
        refine W_sr ?_
        refine W_move rfl rfl ?_
        refine W_callq (.cons rfl .nil) Tryz.call9 rfl (hX9.len (fun p hp => by repeat (first | exact List.mem_append_left _ hp | apply List.mem_cons_of_mem | apply List.mem_append_right))) ?_
        refine W_move rfl rfl ?_
        refine W_bin rfl rfl b_neq rfl ?_
        rw [decide_eq_false (by have := hX9.ok.ulen; omega)]
        refine W_move rfl rfl ?_
        refine W_gyes rfl rfl ?_
        refine W_move rfl rfl ?_
        refine W_gyes rfl rfl ?_
        refine W_callq (.cons rfl .nil) Tryz.call10 rfl (hX9.held (fun p hp => by repeat (first | exact List.mem_append_left _ hp | apply List.mem_cons_of_mem | apply List.mem_append_right))) ?_
        refine W_gyes rfl rfl ?_
        refine W_move rfl rfl ?_
        refine W_gyes rfl rfl ?_
        refine W_bin rfl rfl b_neq rfl ?_
        rw [decide_eq_false (by have h1 := hX9.ok.ulen; have h2 := hI9.cnt; omega)]
        first | refine W_pickt rfl rfl rfl ?_ | refine W_pickf rfl rfl rfl ?_
        refine W_nil ?_
        refine W_condF rfl rfl ?_
        refine W_skip ?_
        refine W_blk ?_
        refine W_region ?_
        refine W_move rfl rfl ?_
        refine W_bin rfl rfl (b_add (m := ((i + 1 : Nat) : Int)) ((i64w (by omega)).trans (by omega))) rfl ?_
        refine W_assign rfl rfl ?_
        refine W_nil ?_
        refine W_again ⟨i + 1, x9, HX9, a'⟩ ⟨by show i + 1 ≤ keys.length; omega, by show i + 1 ≤ 60; omega, hX9.up (by show _ ≤ 10 + 2 * (i + 1); omega), hI9, hal', hau'⟩ (by show keys.length - (i + 1) < keys.length - i; omega) (sub_cons rfl (sub_cons rfl (sub_cons rfl (sub_cons rfl (sub_cons rfl (sub_cons rfl (sub_cons rfl (sub_nil _)))))))) rfl zH
      · skip
        have hql := (List.getElem?_eq_some_iff.1 hq).1
        have hkin := List.mem_of_getElem? hq
        have hpi := hI.put_in hok hkin
        rw [drop1O_at hund hq] at hpi
        obtain ⟨ph, pg, po, hpp⟩ : ∃ ph pg po, (Xm.put y 0 key [key]).2.1 = ⟨ph, pg, po⟩ := ⟨_, _, _, rfl⟩
        obtain rfl : po = false := by have h := hpi.2.1; rw [hpp] at h; exact h
        refine W_move rfl rfl ?_
        refine W_move rfl rfl ?_
        refine W_len rfl ty43 rfl rfl ?_
        refine W_bin rfl rfl b_lss rfl ?_
        rw [decide_eq_false (by omega)]
        refine W_move rfl rfl ?_
        refine W_gno rfl rfl rfl ?_
        refine W_gno rfl rfl rfl ?_
        refine W_gno rfl rfl rfl ?_
        refine W_gno rfl rfl rfl ?_
        first | refine W_pickt rfl rfl rfl ?_ | refine W_pickf rfl rfl rfl ?_
        refine W_move rfl rfl ?_
        refine W_gno rfl rfl rfl ?_
        refine W_gno rfl rfl rfl ?_
        first | refine W_pickt rfl rfl rfl ?_ | refine W_pickf rfl rfl rfl ?_
        refine W_nil ?_
        refine W_condF rfl rfl ?_
        refine W_skip ?_
        refine W_seq ?_
        refine W_sr ?_
        refine W_move rfl rfl ?_
        refine W_move rfl rfl ?_
        refine W_len rfl ty43 rfl rfl ?_
        refine W_bin rfl rfl b_lss rfl ?_
        rw [decide_eq_false (by omega)]
        refine W_move rfl rfl ?_
        refine W_gno rfl rfl rfl ?_
        refine W_gno rfl rfl rfl ?_
        refine W_gno rfl rfl rfl ?_
        refine W_gno rfl rfl rfl ?_
        first | refine W_pickt rfl rfl rfl ?_ | refine W_pickf rfl rfl rfl ?_
        refine W_nil ?_
        refine W_condF rfl rfl ?_
        refine W_seq ?_
        refine W_cutX (X := (Heap × Nat)) (fun x => [(0, .int .i64 (E : Int)), (1, .slice (some ⟨q0, p0, none⟩) keys.length capk), (2, .slice adf fl.length capf), (7, .pointer (some ⟨mb, 0, none⟩)), (9, .pointer (some ⟨b9, 0, none⟩)), (10, .int .i64 (y.used.length : Int)), (11, .int .i64 (i : Int)), (12, .int .i64 (q : Int)), (18, .pointer (some ⟨x.2, 0, none⟩)), (19, .int .i64 0)]) (fun x => (x.2, .cells 31 5 (puttC ⟨ph, pg, false⟩)) :: (x.1 ++ ((b9, .cells 44 60 ((a).map (Value.int .u64))) :: H))) (fun x => XmH mb (10 + 2 * i + 2) (Xm.put y 0 key [key]).1 x.1) ?_ ?_
        · skip
          refine W_anyC H (by kernel_rfl) ?_
          refine WC_take 0 (l' := #[true, false, false, false, false, false, false, false, false, false, false, false, false, false, false, false, false]) rfl (by decide +kernel) (by decide +kernel) (by decide +kernel) rfl (by decide +kernel) (X_move rfl) rfl ?_
          refine WC_take 1 (l' := #[true, true, false, false, false, false, false, false, false, false, false, false, false, false, false, false, false]) rfl (by decide +kernel) (by decide +kernel) (by decide +kernel) rfl (by decide +kernel) (X_move rfl) rfl ?_
          refine WC_take 2 (l' := #[true, true, true, false, false, false, false, false, false, false, false, false, false, false, false, false, false]) rfl (by decide +kernel) (by decide +kernel) (by decide +kernel) rfl (by decide +kernel) (X_move rfl) rfl ?_
          refine WC_take 3 (l' := #[true, true, true, true, false, false, false, false, false, false, false, false, false, false, false, false, false]) rfl (by decide +kernel) (by decide +kernel) (by decide +kernel) rfl (by decide +kernel) (X_indexAddr (j := i) rfl rfl ty42 ty22 rfl (by have := (List.getElem?_eq_some_iff.1 hkey).1; omega) rfl) rfl ?_
          refine WC_take 4 (l' := #[true, true, true, true, true, false, false, false, false, false, false, false, false, false, false, false, false]) rfl (by decide +kernel) (by decide +kernel) (by decide +kernel) rfl (by decide +kernel) (X_load (v := .int .u64 key) rfl ty22 rfl (by rw [Nat.mul_one]; exact hck.up zH)) rfl ?_
          refine WC_take 5 (l' := #[true, true, true, true, true, true, false, false, false, false, false, false, false, false, false, false, false]) rfl (by decide +kernel) (by decide +kernel) (by decide +kernel) rfl (by decide +kernel) (X_move rfl) rfl ?_
          refine WC_take 6 (l' := #[true, true, true, true, true, true, true, false, false, false, false, false, false, false, false, false, false]) rfl (by decide +kernel) (by decide +kernel) (by decide +kernel) rfl (by decide +kernel) (X_move rfl) rfl ?_
          refine WC_take 7 (l' := #[true, true, true, true, true, true, true, true, false, false, false, false, false, false, false, false, false]) rfl (by decide +kernel) (by decide +kernel) (by decide +kernel) rfl (by decide +kernel) (X_indexAddr (j := i) rfl rfl ty42 ty22 rfl (by have := (List.getElem?_eq_some_iff.1 hkey).1; omega) rfl) rfl ?_
          refine WC_take 8 (l' := #[true, true, true, true, true, true, true, true, true, false, false, false, false, false, false, false, false]) rfl (by decide +kernel) (by decide +kernel) (by decide +kernel) rfl (by decide +kernel) (X_load (v := .int .u64 key) rfl ty22 rfl (by rw [Nat.mul_one]; exact hck.up zH)) rfl ?_
          refine WC_two 9 14 (l' := #[true, true, true, true, true, true, true, true, true, true, false, false, false, false, false, false, false]) (l'' := #[true, true, true, true, true, true, true, true, true, false, false, false, false, false, true, false, false]) zH (by decide +kernel) rfl rfl (by decide +kernel) (by decide +kernel) ?_ ?_
          · skip
            refine W_buildSlice (l := [.int .u64 key]) ty42 ty22 (.cons rfl rfl rfl rfl rfl .nil) rfl rfl rfl rfl rfl rfl rfl (fun b115 => ?_)
            refine W_nil ?_
            refine WC_goal ?_
            refine WC_two 10 14 (l' := #[true, true, true, true, true, true, true, true, true, true, true, false, false, false, false, false, false]) (l'' := #[true, true, true, true, true, true, true, true, true, true, false, false, false, false, true, false, false]) zH (by decide +kernel) rfl rfl (by decide +kernel) (by decide +kernel) ?_ ?_
            · skip
              refine W_call (.cons rfl (.cons rfl (.cons rfl (.cons rfl .nil)))) Tryz.call11 rfl ((hY.put hTab (by omega) (how := 0) (k := key) (ws := [key]) (cap := 1) hkr (Holds.own (b := b115) zM) (H := (b115, .cells 22 (1 * 1) [.int .u64 key]) :: (b9, .cells 44 60 ((a).map (Value.int .u64))) :: H)).hsub zH) ?_
              rintro v H' ⟨HX8, hX8, rfl, rfl⟩
              rw [hpp, hpi.1]
              refine W_nil ?_
              refine WC_goal ?_
              refine WC_take 11 (l' := #[true, true, true, true, true, true, true, true, true, true, true, true, false, false, false, false, false]) rfl (by decide +kernel) (by decide +kernel) (by decide +kernel) rfl (by decide +kernel) (X_move rfl) rfl ?_
              refine WC_take 12 (l' := #[true, true, true, true, true, true, true, true, true, true, true, true, true, false, false, false, false]) rfl (by decide +kernel) (by decide +kernel) (by decide +kernel) rfl (by decide +kernel) (X_extract rfl rfl) rfl ?_
              refine WC_take 13 (l' := #[true, true, true, true, true, true, true, true, true, true, true, true, true, true, false, false, false]) rfl (by decide +kernel) (by decide +kernel) (by decide +kernel) rfl (by decide +kernel) (X_extract rfl rfl) rfl ?_
              refine WC_one 14 (l' := #[true, true, true, true, true, true, true, true, true, true, true, true, true, true, true, false, false]) zH (by decide +kernel) rfl (by decide +kernel) ?_
              refine W_alloc (l := puttC zPutt) ty31 rfl rfl (fun b18 => ?_)
              refine W_nil ?_
              refine WC_goal ?_
              refine WC_one 15 (l' := #[true, true, true, true, true, true, true, true, true, true, true, true, true, true, true, true, false]) zH (by decide +kernel) rfl (by decide +kernel) ?_
              refine W_storeA (l' := puttC ⟨ph, pg, false⟩) rfl rfl ty31 rfl rfl (b := b18) zM (by exact Nat.le_refl 5) rfl zU ?_
              refine W_nil ?_
              refine WC_goal ?_
              refine WC_take 16 (l' := #[true, true, true, true, true, true, true, true, true, true, true, true, true, true, true, true, true]) rfl (by decide +kernel) (by decide +kernel) (by decide +kernel) rfl (by decide +kernel) (X_assign rfl) rfl ?_
              refine WC_done zH (by decide +kernel) ?_
              refine W_joinX (HX8, b18) hX8 (sub_cons rfl (sub_cons rfl (sub_cons rfl (sub_cons rfl (sub_cons rfl (sub_cons rfl (sub_cons rfl (sub_cons rfl (sub_cons rfl (sub_cons rfl (sub_nil _))))))))))) zH
            · skip
              refine W_alloc (l := puttC zPutt) ty31 rfl rfl (fun b18 => ?_)
              refine W_nil ?_
              refine WC_goal ?_
              refine WC_one 10 (l' := #[true, true, true, true, true, true, true, true, true, true, true, false, false, false, true, false, false]) zH (by decide +kernel) rfl (by decide +kernel) ?_
              refine W_call (.cons rfl (.cons rfl (.cons rfl (.cons rfl .nil)))) Tryz.call11 rfl ((hY.put hTab (by omega) (how := 0) (k := key) (ws := [key]) (cap := 1) hkr (Holds.own (b := b115) zM) (H := (b115, .cells 22 (1 * 1) [.int .u64 key]) :: (b18, .cells 31 5 (puttC zPutt)) :: (b9, .cells 44 60 ((a).map (Value.int .u64))) :: H)).hsub zH) ?_
              rintro v H' ⟨HX8, hX8, rfl, rfl⟩
              rw [hpp, hpi.1]
              refine W_nil ?_
              refine WC_goal ?_
              refine WC_take 11 (l' := #[true, true, true, true, true, true, true, true, true, true, true, true, false, false, true, false, false]) rfl (by decide +kernel) (by decide +kernel) (by decide +kernel) rfl (by decide +kernel) (X_move rfl) rfl ?_
              refine WC_take 12 (l' := #[true, true, true, true, true, true, true, true, true, true, true, true, true, false, true, false, false]) rfl (by decide +kernel) (by decide +kernel) (by decide +kernel) rfl (by decide +kernel) (X_extract rfl rfl) rfl ?_
              refine WC_take 13 (l' := #[true, true, true, true, true, true, true, true, true, true, true, true, true, true, true, false, false]) rfl (by decide +kernel) (by decide +kernel) (by decide +kernel) rfl (by decide +kernel) (X_extract rfl rfl) rfl ?_
              refine WC_one 15 (l' := #[true, true, true, true, true, true, true, true, true, true, true, true, true, true, true, true, false]) zH (by decide +kernel) rfl (by decide +kernel) ?_
              refine W_storeA (l' := puttC ⟨ph, pg, false⟩) rfl rfl ty31 rfl rfl (b := b18) zM (by exact Nat.le_refl 5) rfl zU ?_
              refine W_nil ?_
              refine WC_goal ?_
              refine WC_take 16 (l' := #[true, true, true, true, true, true, true, true, true, true, true, true, true, true, true, true, true]) rfl (by decide +kernel) (by decide +kernel) (by decide +kernel) rfl (by decide +kernel) (X_assign rfl) rfl ?_
              refine WC_done zH (by decide +kernel) ?_
              refine W_joinX (HX8, b18) hX8 (sub_cons rfl (sub_cons rfl (sub_cons rfl (sub_cons rfl (sub_cons rfl (sub_cons rfl (sub_cons rfl (sub_cons rfl (sub_cons rfl (sub_cons rfl (sub_nil _))))))))))) zH
          · skip
            refine W_alloc (l := puttC zPutt) ty31 rfl rfl (fun b18 => ?_)
            refine W_nil ?_
            refine WC_goal ?_
            refine WC_one 9 (l' := #[true, true, true, true, true, true, true, true, true, true, false, false, false, false, true, false, false]) zH (by decide +kernel) rfl (by decide +kernel) ?_
            refine W_buildSlice (l := [.int .u64 key]) ty42 ty22 (.cons rfl rfl rfl rfl rfl .nil) rfl rfl rfl rfl rfl rfl rfl (fun b115 => ?_)
            refine W_nil ?_
            refine WC_goal ?_
            refine WC_one 10 (l' := #[true, true, true, true, true, true, true, true, true, true, true, false, false, false, true, false, false]) zH (by decide +kernel) rfl (by decide +kernel) ?_
            refine W_call (.cons rfl (.cons rfl (.cons rfl (.cons rfl .nil)))) Tryz.call11 rfl ((hY.put hTab (by omega) (how := 0) (k := key) (ws := [key]) (cap := 1) hkr (Holds.own (b := b115) zM) (H := (b115, .cells 22 (1 * 1) [.int .u64 key]) :: (b18, .cells 31 5 (puttC zPutt)) :: (b9, .cells 44 60 ((a).map (Value.int .u64))) :: H)).hsub zH) ?_
            rintro v H' ⟨HX8, hX8, rfl, rfl⟩
            rw [hpp, hpi.1]
            refine W_nil ?_
            refine WC_goal ?_
            refine WC_take 11 (l' := #[true, true, true, true, true, true, true, true, true, true, true, true, false, false, true, false, false]) rfl (by decide +kernel) (by decide +kernel) (by decide +kernel) rfl (by decide +kernel) (X_move rfl) rfl ?_
            refine WC_take 12 (l' := #[true, true, true, true, true, true, true, true, true, true, true, true, true, false, true, false, false]) rfl (by decide +kernel) (by decide +kernel) (by decide +kernel) rfl (by decide +kernel) (X_extract rfl rfl) rfl ?_
            refine WC_take 13 (l' := #[true, true, true, true, true, true, true, true, true, true, true, true, true, true, true, false, false]) rfl (by decide +kernel) (by decide +kernel) (by decide +kernel) rfl (by decide +kernel) (X_extract rfl rfl) rfl ?_
            refine WC_one 15 (l' := #[true, true, true, true, true, true, true, true, true, true, true, true, true, true, true, true, false]) zH (by decide +kernel) rfl (by decide +kernel) ?_
            refine W_storeA (l' := puttC ⟨ph, pg, false⟩) rfl rfl ty31 rfl rfl (b := b18) zM (by exact Nat.le_refl 5) rfl zU ?_
            refine W_nil ?_
            refine WC_goal ?_
            refine WC_take 16 (l' := #[true, true, true, true, true, true, true, true, true, true, true, true, true, true, true, true, true]) rfl (by decide +kernel) (by decide +kernel) (by decide +kernel) rfl (by decide +kernel) (X_assign rfl) rfl ?_
            refine WC_done zH (by decide +kernel) ?_
            refine W_joinX (HX8, b18) hX8 (sub_cons rfl (sub_cons rfl (sub_cons rfl (sub_cons rfl (sub_cons rfl (sub_cons rfl (sub_cons rfl (sub_cons rfl (sub_cons rfl (sub_cons rfl (sub_nil _))))))))))) zH
        rintro ⟨HX8, b18⟩ hX8
        dsimp only at hX8 ⊢
        refine W_seq ?_
        refine W_sr ?_
        refine W_move rfl rfl ?_
        refine W_bin rfl rfl b_neq rfl ?_
        rw [decide_eq_false (by decide)]
        refine W_move rfl rfl ?_
        refine W_gyes rfl rfl ?_
        refine W_fieldAddr rfl fld31_2 (by decide) rfl ?_
        refine W_gyes rfl rfl ?_
        refine W_load (v := .bool false) rfl ty4 rfl (Cell.own (b := b18) zM rfl) rfl ?_
        refine W_gyes rfl rfl ?_
        refine W_move rfl rfl ?_
        refine W_gyes rfl rfl ?_
        refine W_bin rfl rfl b_lss rfl ?_
        rw [decide_eq_false (by omega)]
        refine W_gyes rfl rfl ?_
        refine W_move rfl rfl ?_
        refine W_gno rfl rfl rfl ?_
        refine W_gno rfl rfl rfl ?_
        refine W_gno rfl rfl rfl ?_
        refine W_gyes rfl rfl ?_
        first | refine W_pickt rfl rfl rfl ?_ | refine W_pickf rfl rfl rfl ?_
        refine W_gyes rfl rfl ?_
        refine W_bne rfl rfl ty4 rfl ?_
        first | refine W_pickt rfl rfl rfl ?_ | refine W_pickf rfl rfl rfl ?_
        refine W_nil ?_
        refine W_condF rfl rfl ?_
        refine W_skip ?_
        refine W_sr ?_
        obtain ⟨x9, hx9⟩ : ∃ x9, x9 = (Xm.put y 0 key [key]).1 := ⟨_, rfl⟩
        rw [← hx9] at hX8 hpi
        have hX9 := hX8
        have hI9 := hpi.2.2.1.up (Nat.le_succ i)
        have hnu := hpi.2.2.2
        obtain ⟨HX9, hH9⟩ : ∃ h, h = HX8 := ⟨_, rfl⟩
        rw [← hH9] at hX9 hX8 ⊢
        refine W_fieldAddr rfl fld31_2 (by decide) rfl ?_
        refine W_load (v := .bool false) rfl ty4 rfl (Cell.own (b := b18) zM rfl) rfl ?_
        refine W_nil ?_
        refine W_condF rfl rfl ?_
        refine W_skip ?_
        refine W_seq ?_
        refine W_sr ?_
        refine W_move rfl rfl ?_
        refine W_bin rfl rfl b_geq rfl ?_
        rw [decide_eq_true (by omega)]
        refine W_nil ?_
        refine W_condT rfl rfl ?_
        refine W_seq ?_
        refine W_sr ?_
        refine W_move rfl rfl ?_
        refine W_assign rfl rfl ?_
        refine W_nil ?_
        refine W_block ?_
        refine W_loopC (X := (Nat × List Int)) [(0, _), (1, _), (2, _), (7, _), (9, _), (10, _), (11, _)] (fun (x : (Nat × List Int)) => [(22, .int .i64 (x.1 : Int))]) (fun _ => _) (fun (x : (Nat × List Int)) => HX9 ++ ((b9, .cells 44 60 ((x.2).map (Value.int .u64))) :: H)) (fun (x : (Nat × List Int)) => q ≤ x.1 ∧ x.1 ≤ y.used.length - 1 ∧ ShAt a x.2 q x.1) (fun (x : (Nat × List Int)) => y.used.length - x.1) (q, a) ⟨Nat.le_refl _, by show q ≤ y.used.length - 1; omega, ShAt.start a q⟩ (sub_cons rfl (sub_cons rfl (sub_cons rfl (sub_cons rfl (sub_cons rfl (sub_cons rfl (sub_cons rfl (sub_nil _)))))))) (sub_cons rfl (sub_nil _)) rfl zH ?_
        rintro ⟨k, b⟩ ⟨hqk, hkl, hsh⟩
        dsimp only at hqk hkl hsh ⊢
        have hbl := hsh.1
        simp only [List.cons_append, List.nil_append]
        refine W_seq ?_
        refine W_sr ?_
        refine W_move rfl rfl ?_
        refine W_bin rfl rfl (b_add (m := ((k + 1 : Nat) : Int)) (by rw [i64w (by omega)]; omega)) rfl ?_
        refine W_move rfl rfl ?_
        refine W_bin rfl rfl b_lss rfl ?_
        refine W_nil ?_
        refine W_condPS (p := ((k + 1 : Nat) : Int) < (y.used.length : Int)) rfl (by simp) (fun q2 => ?_) (fun q2 => ?_)
        · skip
          refine W_skip ?_
          refine W_seq ?_
          refine W_block ?_
          refine W_region ?_
          obtain ⟨av, hav⟩ : ∃ av, b[k + 1]? = some av := ⟨_, List.getElem?_eq_getElem (by omega)⟩
          refine W_move rfl rfl ?_
          refine W_move rfl rfl ?_
          refine W_bin rfl rfl (b_add (m := ((k + 1 : Nat) : Int)) (by rw [i64w (by omega)]; omega)) rfl ?_
          refine W_indexAddrA (j := (k + 1)) rfl rfl ty44 ty22 (by first | rfl | omega) (by omega) rfl rfl ?_
          refine W_load (v := .int .u64 av) rfl ty22 rfl (Cell.own (b := b9) zM (by rw [Nat.zero_add, Nat.mul_one, List.getElem?_map, hav]; rfl)) rfl ?_
          refine W_indexAddrA (j := k) rfl rfl ty44 ty22 (by first | rfl | omega) (by omega) rfl rfl ?_
          refine W_store (l' := (b.set k av).map (Value.int .u64)) rfl rfl ty22 rfl rfl (b := b9) zM (by rw [Nat.zero_add, Nat.mul_one, List.length_map, Nat.blt_eq]; omega) (by rw [Nat.zero_add, Nat.mul_one, List.map_set]) zU ?_
          refine W_nil ?_
          refine W_blk ?_
          refine W_region ?_
          refine W_move rfl rfl ?_
          refine W_bin rfl rfl (b_add (m := ((k + 1 : Nat) : Int)) (by rw [i64w (by omega)]; omega)) rfl ?_
          refine W_assign rfl rfl ?_
          refine W_nil ?_
          refine W_again (k + 1, b.set k av) ⟨by show q ≤ k + 1; omega, by show k + 1 ≤ y.used.length - 1; omega, hsh.step hqk (by omega) (by rw [← hsh.next]; exact hav)⟩ (by show y.used.length - (k + 1) < y.used.length - k; omega) (sub_cons rfl (sub_cons rfl (sub_cons rfl (sub_cons rfl (sub_cons rfl (sub_cons rfl (sub_cons rfl (sub_cons rfl (sub_nil _))))))))) rfl zH
        · skip
          refine W_exit rfl ?_
          refine W_region ?_
          refine W_move rfl rfl ?_
          refine W_bin rfl rfl (b_sub (m := ((y.used.length - 1 : Nat) : Int)) (by rw [i64w (by omega)]; omega)) rfl ?_
          refine W_assign rfl rfl ?_
          refine W_nil ?_
          refine W_sr ?_
          refine W_move rfl rfl ?_
          refine W_move rfl rfl ?_
          refine W_move rfl rfl ?_
          refine W_indexAddr (j := i) rfl rfl ty42 ty22 rfl (by have := (List.getElem?_eq_some_iff.1 hkey).1; omega) rfl rfl ?_
          refine W_load (v := .int .u64 key) rfl ty22 rfl (by rw [Nat.mul_one]; exact hck.up zH) rfl ?_
          refine W_indexAddrA (j := (y.used.length - 1)) rfl rfl ty44 ty22 (by first | rfl | omega) (by omega) rfl rfl ?_
          obtain ⟨a', ha'⟩ : ∃ a', a' = b.set (y.used.length - 1) key := ⟨_, rfl⟩
          have hal' : a'.length = 60 := by rw [ha', List.length_set]; omega
          have hau' : a'.take x9.used.length = x9.used := by
            have hel : (y.used.eraseIdx q).length = y.used.length - 1 := List.length_eraseIdx_of_lt hql
            rw [hnu, ha', List.length_append, List.length_singleton, hel, show y.used.length - 1 + 1 = y.used.length by omega]
            exact ShAt.over (by rw [show y.used.length - 1 = k by omega]; exact hsh) rfl hql (by omega) hau
          refine W_store (l' := a'.map (Value.int .u64)) rfl rfl ty22 rfl rfl (b := b9) zM (by rw [Nat.zero_add, Nat.mul_one, List.length_map, Nat.blt_eq]; omega) (by rw [ha', Nat.zero_add, Nat.mul_one, List.map_set]) zU ?_
          refine W_nil ?_
          refine W_sr ?_
          refine W_move rfl rfl ?_
          have hn9 : x9.used.length = y.used.length - 1 + 1 := by rw [hnu, List.length_append, List.length_eraseIdx_of_lt hql]; rfl
          refine W_bin rfl rfl (b_add (m := (x9.used.length : Int)) (by rw [i64w (by omega)]; omega)) rfl ?_
          refine W_assign rfl rfl ?_
          refine W_nil ?_
          refine W_sr ?_
          refine W_move rfl rfl ?_
          refine W_callq (.cons rfl .nil) Tryz.call9 rfl (hX9.len (fun p hp => by repeat (first | exact List.mem_append_left _ hp | apply List.mem_cons_of_mem | apply List.mem_append_right))) ?_
          refine W_move rfl rfl ?_
          refine W_bin rfl rfl b_neq rfl ?_
          rw [decide_eq_false (by have := hX9.ok.ulen; omega)]
          refine W_move rfl rfl ?_
          refine W_gyes rfl rfl ?_
          refine W_move rfl rfl ?_
          refine W_gyes rfl rfl ?_
          refine W_callq (.cons rfl .nil) Tryz.call10 rfl (hX9.held (fun p hp => by repeat (first | exact List.mem_append_left _ hp | apply List.mem_cons_of_mem | apply List.mem_append_right))) ?_
          refine W_gyes rfl rfl ?_
          refine W_move rfl rfl ?_
          refine W_gyes rfl rfl ?_
          refine W_bin rfl rfl b_neq rfl ?_
          rw [decide_eq_false (by have h1 := hX9.ok.ulen; have h2 := hI9.cnt; omega)]
          first | refine W_pickt rfl rfl rfl ?_ | refine W_pickf rfl rfl rfl ?_
          refine W_nil ?_
          refine W_condF rfl rfl ?_
          refine W_skip ?_
          refine W_blk ?_
          refine W_region ?_
          refine W_move rfl rfl ?_
          refine W_bin rfl rfl (b_add (m := ((i + 1 : Nat) : Int)) ((i64w (by omega)).trans (by omega))) rfl ?_
          refine W_assign rfl rfl ?_
          refine W_nil ?_
          refine W_again ⟨i + 1, x9, HX9, a'⟩ ⟨by show i + 1 ≤ keys.length; omega, by show i + 1 ≤ 60; omega, hX9.up (by show _ ≤ 10 + 2 * (i + 1); omega), hI9, hal', hau'⟩ (by show keys.length - (i + 1) < keys.length - i; omega) (sub_cons rfl (sub_cons rfl (sub_cons rfl (sub_cons rfl (sub_cons rfl (sub_cons rfl (sub_cons rfl (sub_nil _)))))))) rfl zH
      · skip
        obtain ⟨q1, p1, rfl, hcf⟩ := hrf.at (i := i) (v := .bool false) (by rw [List.getElem?_map, hfg]; rfl)
        obtain ⟨o, ho⟩ : ∃ o, y.used[0]? = some o := ⟨_, List.getElem?_eq_getElem (by omega)⟩
        have ha0 : a[0]? = some o := by have h := ho; rw [← hau, List.getElem?_take, if_pos (by omega)] at h; exact h
        have hpi := hI.put_out hi60 hok hno hkr hcE ho
        rw [drop1O_at hund ho] at hpi
        obtain ⟨ph, pg, po, hpp⟩ : ∃ ph pg po, (Xm.put y 0 key [key]).2.1 = ⟨ph, pg, po⟩ := ⟨_, _, _, rfl⟩
        obtain rfl : po = true := by have h := hpi.2.1; rw [hpp] at h; exact h
        rw [hpp] at hpi
        dsimp only at hpi
        refine W_move rfl rfl ?_
        refine W_move rfl rfl ?_
        refine W_len rfl ty43 rfl rfl ?_
        refine W_bin rfl rfl b_lss rfl ?_
        rw [decide_eq_true (by have := (List.getElem?_eq_some_iff.1 hfg).1; omega)]
        refine W_move rfl rfl ?_
        refine W_gyes rfl rfl ?_
        refine W_move rfl rfl ?_
        refine W_gyes rfl rfl ?_
        refine W_move rfl rfl ?_
        refine W_gyes rfl rfl ?_
        refine W_indexAddr (j := i) rfl rfl ty43 ty4 rfl (by have := (List.getElem?_eq_some_iff.1 hfg).1; omega) rfl rfl ?_
        refine W_gyes rfl rfl ?_
        refine W_load (v := .bool false) rfl ty4 rfl (by rw [Nat.mul_one]; exact hcf.up zH) rfl ?_
        first | refine W_pickt rfl rfl rfl ?_ | refine W_pickf rfl rfl rfl ?_
        refine W_move rfl rfl ?_
        refine W_gno rfl rfl rfl ?_
        refine W_gno rfl rfl rfl ?_
        first | refine W_pickt rfl rfl rfl ?_ | refine W_pickf rfl rfl rfl ?_
        refine W_nil ?_
        refine W_condF rfl rfl ?_
        refine W_skip ?_
        refine W_seq ?_
        refine W_sr ?_
        refine W_move rfl rfl ?_
        refine W_move rfl rfl ?_
        refine W_len rfl ty43 rfl rfl ?_
        refine W_bin rfl rfl b_lss rfl ?_
        rw [decide_eq_true (by have := (List.getElem?_eq_some_iff.1 hfg).1; omega)]
        refine W_move rfl rfl ?_
        refine W_gyes rfl rfl ?_
        refine W_move rfl rfl ?_
        refine W_gyes rfl rfl ?_
        refine W_move rfl rfl ?_
        refine W_gyes rfl rfl ?_
        refine W_indexAddr (j := i) rfl rfl ty43 ty4 rfl (by have := (List.getElem?_eq_some_iff.1 hfg).1; omega) rfl rfl ?_
        refine W_gyes rfl rfl ?_
        refine W_load (v := .bool false) rfl ty4 rfl (by rw [Nat.mul_one]; exact hcf.up zH) rfl ?_
        first | refine W_pickt rfl rfl rfl ?_ | refine W_pickf rfl rfl rfl ?_
        refine W_nil ?_
        refine W_condF rfl rfl ?_
        refine W_seq ?_
        refine W_cutX (X := (Heap × Nat)) (fun x => [(0, .int .i64 (E : Int)), (1, .slice (some ⟨q0, p0, none⟩) keys.length capk), (2, .slice (some ⟨q1, p1, none⟩) fl.length capf), (7, .pointer (some ⟨mb, 0, none⟩)), (9, .pointer (some ⟨b9, 0, none⟩)), (10, .int .i64 (y.used.length : Int)), (11, .int .i64 (i : Int)), (12, .int .i64 (-1)), (18, .pointer (some ⟨x.2, 0, none⟩)), (19, .int .i64 0)]) (fun x => (x.2, .cells 31 5 (puttC ⟨ph, pg, true⟩)) :: (x.1 ++ ((b9, .cells 44 60 ((a).map (Value.int .u64))) :: H))) (fun x => XmH mb (10 + 2 * i + 2) (Xm.put y 0 key [key]).1 x.1) ?_ ?_
        · skip
          refine W_anyC H (by kernel_rfl) ?_
          refine WC_take 0 (l' := #[true, false, false, false, false, false, false, false, false, false, false, false, false, false, false, false, false]) rfl (by decide +kernel) (by decide +kernel) (by decide +kernel) rfl (by decide +kernel) (X_move rfl) rfl ?_
          refine WC_take 1 (l' := #[true, true, false, false, false, false, false, false, false, false, false, false, false, false, false, false, false]) rfl (by decide +kernel) (by decide +kernel) (by decide +kernel) rfl (by decide +kernel) (X_move rfl) rfl ?_
          refine WC_take 2 (l' := #[true, true, true, false, false, false, false, false, false, false, false, false, false, false, false, false, false]) rfl (by decide +kernel) (by decide +kernel) (by decide +kernel) rfl (by decide +kernel) (X_move rfl) rfl ?_
          refine WC_take 3 (l' := #[true, true, true, true, false, false, false, false, false, false, false, false, false, false, false, false, false]) rfl (by decide +kernel) (by decide +kernel) (by decide +kernel) rfl (by decide +kernel) (X_indexAddr (j := i) rfl rfl ty42 ty22 rfl (by have := (List.getElem?_eq_some_iff.1 hkey).1; omega) rfl) rfl ?_
          refine WC_take 4 (l' := #[true, true, true, true, true, false, false, false, false, false, false, false, false, false, false, false, false]) rfl (by decide +kernel) (by decide +kernel) (by decide +kernel) rfl (by decide +kernel) (X_load (v := .int .u64 key) rfl ty22 rfl (by rw [Nat.mul_one]; exact hck.up zH)) rfl ?_
          refine WC_take 5 (l' := #[true, true, true, true, true, true, false, false, false, false, false, false, false, false, false, false, false]) rfl (by decide +kernel) (by decide +kernel) (by decide +kernel) rfl (by decide +kernel) (X_move rfl) rfl ?_
          refine WC_take 6 (l' := #[true, true, true, true, true, true, true, false, false, false, false, false, false, false, false, false, false]) rfl (by decide +kernel) (by decide +kernel) (by decide +kernel) rfl (by decide +kernel) (X_move rfl) rfl ?_
          refine WC_take 7 (l' := #[true, true, true, true, true, true, true, true, false, false, false, false, false, false, false, false, false]) rfl (by decide +kernel) (by decide +kernel) (by decide +kernel) rfl (by decide +kernel) (X_indexAddr (j := i) rfl rfl ty42 ty22 rfl (by have := (List.getElem?_eq_some_iff.1 hkey).1; omega) rfl) rfl ?_
          refine WC_take 8 (l' := #[true, true, true, true, true, true, true, true, true, false, false, false, false, false, false, false, false]) rfl (by decide +kernel) (by decide +kernel) (by decide +kernel) rfl (by decide +kernel) (X_load (v := .int .u64 key) rfl ty22 rfl (by rw [Nat.mul_one]; exact hck.up zH)) rfl ?_
          refine WC_two 9 14 (l' := #[true, true, true, true, true, true, true, true, true, true, false, false, false, false, false, false, false]) (l'' := #[true, true, true, true, true, true, true, true, true, false, false, false, false, false, true, false, false]) zH (by decide +kernel) rfl rfl (by decide +kernel) (by decide +kernel) ?_ ?_
          · skip
            refine W_buildSlice (l := [.int .u64 key]) ty42 ty22 (.cons rfl rfl rfl rfl rfl .nil) rfl rfl rfl rfl rfl rfl rfl (fun b115 => ?_)
            refine W_nil ?_
            refine WC_goal ?_
            refine WC_two 10 14 (l' := #[true, true, true, true, true, true, true, true, true, true, true, false, false, false, false, false, false]) (l'' := #[true, true, true, true, true, true, true, true, true, true, false, false, false, false, true, false, false]) zH (by decide +kernel) rfl rfl (by decide +kernel) (by decide +kernel) ?_ ?_
            · skip
              refine W_call (.cons rfl (.cons rfl (.cons rfl (.cons rfl .nil)))) Tryz.call11 rfl ((hY.put hTab (by omega) (how := 0) (k := key) (ws := [key]) (cap := 1) hkr (Holds.own (b := b115) zM) (H := (b115, .cells 22 (1 * 1) [.int .u64 key]) :: (b9, .cells 44 60 ((a).map (Value.int .u64))) :: H)).hsub zH) ?_
              rintro v H' ⟨HX8, hX8, rfl, rfl⟩
              rw [hpp, hpi.1]
              refine W_nil ?_
              refine WC_goal ?_
              refine WC_take 11 (l' := #[true, true, true, true, true, true, true, true, true, true, true, true, false, false, false, false, false]) rfl (by decide +kernel) (by decide +kernel) (by decide +kernel) rfl (by decide +kernel) (X_move rfl) rfl ?_
              refine WC_take 12 (l' := #[true, true, true, true, true, true, true, true, true, true, true, true, true, false, false, false, false]) rfl (by decide +kernel) (by decide +kernel) (by decide +kernel) rfl (by decide +kernel) (X_extract rfl rfl) rfl ?_
              refine WC_take 13 (l' := #[true, true, true, true, true, true, true, true, true, true, true, true, true, true, false, false, false]) rfl (by decide +kernel) (by decide +kernel) (by decide +kernel) rfl (by decide +kernel) (X_extract rfl rfl) rfl ?_
              refine WC_one 14 (l' := #[true, true, true, true, true, true, true, true, true, true, true, true, true, true, true, false, false]) zH (by decide +kernel) rfl (by decide +kernel) ?_
              refine W_alloc (l := puttC zPutt) ty31 rfl rfl (fun b18 => ?_)
              refine W_nil ?_
              refine WC_goal ?_
              refine WC_one 15 (l' := #[true, true, true, true, true, true, true, true, true, true, true, true, true, true, true, true, false]) zH (by decide +kernel) rfl (by decide +kernel) ?_
              refine W_storeA (l' := puttC ⟨ph, pg, true⟩) rfl rfl ty31 rfl rfl (b := b18) zM (by exact Nat.le_refl 5) rfl zU ?_
              refine W_nil ?_
              refine WC_goal ?_
              refine WC_take 16 (l' := #[true, true, true, true, true, true, true, true, true, true, true, true, true, true, true, true, true]) rfl (by decide +kernel) (by decide +kernel) (by decide +kernel) rfl (by decide +kernel) (X_assign rfl) rfl ?_
              refine WC_done zH (by decide +kernel) ?_
              refine W_joinX (HX8, b18) hX8 (sub_cons rfl (sub_cons rfl (sub_cons rfl (sub_cons rfl (sub_cons rfl (sub_cons rfl (sub_cons rfl (sub_cons rfl (sub_cons rfl (sub_cons rfl (sub_nil _))))))))))) zH
            · skip
              refine W_alloc (l := puttC zPutt) ty31 rfl rfl (fun b18 => ?_)
              refine W_nil ?_
              refine WC_goal ?_
              refine WC_one 10 (l' := #[true, true, true, true, true, true, true, true, true, true, true, false, false, false, true, false, false]) zH (by decide +kernel) rfl (by decide +kernel) ?_
              refine W_call (.cons rfl (.cons rfl (.cons rfl (.cons rfl .nil)))) Tryz.call11 rfl ((hY.put hTab (by omega) (how := 0) (k := key) (ws := [key]) (cap := 1) hkr (Holds.own (b := b115) zM) (H := (b115, .cells 22 (1 * 1) [.int .u64 key]) :: (b18, .cells 31 5 (puttC zPutt)) :: (b9, .cells 44 60 ((a).map (Value.int .u64))) :: H)).hsub zH) ?_
              rintro v H' ⟨HX8, hX8, rfl, rfl⟩
              rw [hpp, hpi.1]
              refine W_nil ?_
              refine WC_goal ?_
              refine WC_take 11 (l' := #[true, true, true, true, true, true, true, true, true, true, true, true, false, false, true, false, false]) rfl (by decide +kernel) (by decide +kernel) (by decide +kernel) rfl (by decide +kernel) (X_move rfl) rfl ?_
              refine WC_take 12 (l' := #[true, true, true, true, true, true, true, true, true, true, true, true, true, false, true, false, false]) rfl (by decide +kernel) (by decide +kernel) (by decide +kernel) rfl (by decide +kernel) (X_extract rfl rfl) rfl ?_
              refine WC_take 13 (l' := #[true, true, true, true, true, true, true, true, true, true, true, true, true, true, true, false, false]) rfl (by decide +kernel) (by decide +kernel) (by decide +kernel) rfl (by decide +kernel) (X_extract rfl rfl) rfl ?_
              refine WC_one 15 (l' := #[true, true, true, true, true, true, true, true, true, true, true, true, true, true, true, true, false]) zH (by decide +kernel) rfl (by decide +kernel) ?_
              refine W_storeA (l' := puttC ⟨ph, pg, true⟩) rfl rfl ty31 rfl rfl (b := b18) zM (by exact Nat.le_refl 5) rfl zU ?_
              refine W_nil ?_
              refine WC_goal ?_
              refine WC_take 16 (l' := #[true, true, true, true, true, true, true, true, true, true, true, true, true, true, true, true, true]) rfl (by decide +kernel) (by decide +kernel) (by decide +kernel) rfl (by decide +kernel) (X_assign rfl) rfl ?_
              refine WC_done zH (by decide +kernel) ?_
              refine W_joinX (HX8, b18) hX8 (sub_cons rfl (sub_cons rfl (sub_cons rfl (sub_cons rfl (sub_cons rfl (sub_cons rfl (sub_cons rfl (sub_cons rfl (sub_cons rfl (sub_cons rfl (sub_nil _))))))))))) zH
          · skip
            refine W_alloc (l := puttC zPutt) ty31 rfl rfl (fun b18 => ?_)
            refine W_nil ?_
            refine WC_goal ?_
            refine WC_one 9 (l' := #[true, true, true, true, true, true, true, true, true, true, false, false, false, false, true, false, false]) zH (by decide +kernel) rfl (by decide +kernel) ?_
            refine W_buildSlice (l := [.int .u64 key]) ty42 ty22 (.cons rfl rfl rfl rfl rfl .nil) rfl rfl rfl rfl rfl rfl rfl (fun b115 => ?_)
            refine W_nil ?_
            refine WC_goal ?_
            refine WC_one 10 (l' := #[true, true, true, true, true, true, true, true, true, true, true, false, false, false, true, false, false]) zH (by decide +kernel) rfl (by decide +kernel) ?_
            refine W_call (.cons rfl (.cons rfl (.cons rfl (.cons rfl .nil)))) Tryz.call11 rfl ((hY.put hTab (by omega) (how := 0) (k := key) (ws := [key]) (cap := 1) hkr (Holds.own (b := b115) zM) (H := (b115, .cells 22 (1 * 1) [.int .u64 key]) :: (b18, .cells 31 5 (puttC zPutt)) :: (b9, .cells 44 60 ((a).map (Value.int .u64))) :: H)).hsub zH) ?_
            rintro v H' ⟨HX8, hX8, rfl, rfl⟩
            rw [hpp, hpi.1]
            refine W_nil ?_
            refine WC_goal ?_
            refine WC_take 11 (l' := #[true, true, true, true, true, true, true, true, true, true, true, true, false, false, true, false, false]) rfl (by decide +kernel) (by decide +kernel) (by decide +kernel) rfl (by decide +kernel) (X_move rfl) rfl ?_
            refine WC_take 12 (l' := #[true, true, true, true, true, true, true, true, true, true, true, true, true, false, true, false, false]) rfl (by decide +kernel) (by decide +kernel) (by decide +kernel) rfl (by decide +kernel) (X_extract rfl rfl) rfl ?_
            refine WC_take 13 (l' := #[true, true, true, true, true, true, true, true, true, true, true, true, true, true, true, false, false]) rfl (by decide +kernel) (by decide +kernel) (by decide +kernel) rfl (by decide +kernel) (X_extract rfl rfl) rfl ?_
            refine WC_one 15 (l' := #[true, true, true, true, true, true, true, true, true, true, true, true, true, true, true, true, false]) zH (by decide +kernel) rfl (by decide +kernel) ?_
            refine W_storeA (l' := puttC ⟨ph, pg, true⟩) rfl rfl ty31 rfl rfl (b := b18) zM (by exact Nat.le_refl 5) rfl zU ?_
            refine W_nil ?_
            refine WC_goal ?_
            refine WC_take 16 (l' := #[true, true, true, true, true, true, true, true, true, true, true, true, true, true, true, true, true]) rfl (by decide +kernel) (by decide +kernel) (by decide +kernel) rfl (by decide +kernel) (X_assign rfl) rfl ?_
            refine WC_done zH (by decide +kernel) ?_
            refine W_joinX (HX8, b18) hX8 (sub_cons rfl (sub_cons rfl (sub_cons rfl (sub_cons rfl (sub_cons rfl (sub_cons rfl (sub_cons rfl (sub_cons rfl (sub_cons rfl (sub_cons rfl (sub_nil _))))))))))) zH
        rintro ⟨HX8, b18⟩ hX8
        dsimp only at hX8 ⊢
        refine W_seq ?_
        refine W_sr ?_
        refine W_move rfl rfl ?_
        refine W_bin rfl rfl b_neq rfl ?_
        rw [decide_eq_false (by decide)]
        refine W_move rfl rfl ?_
        refine W_gyes rfl rfl ?_
        refine W_fieldAddr rfl fld31_2 (by decide) rfl ?_
        refine W_gyes rfl rfl ?_
        refine W_load (v := .bool true) rfl ty4 rfl (Cell.own (b := b18) zM rfl) rfl ?_
        refine W_gyes rfl rfl ?_
        refine W_move rfl rfl ?_
        refine W_gyes rfl rfl ?_
        refine W_bin rfl rfl b_lss rfl ?_
        rw [decide_eq_true (by omega)]
        refine W_gyes rfl rfl ?_
        refine W_move rfl rfl ?_
        refine W_gyes rfl rfl ?_
        refine W_move rfl rfl ?_
        refine W_gyes rfl rfl ?_
        refine W_move rfl rfl ?_
        refine W_gyes rfl rfl ?_
        refine W_bin rfl rfl b_eql rfl ?_
        rw [decide_eq_true (by omega)]
        refine W_gyes rfl rfl ?_
        first | refine W_pickt rfl rfl rfl ?_ | refine W_pickf rfl rfl rfl ?_
        refine W_gyes rfl rfl ?_
        refine W_bne rfl rfl ty4 rfl ?_
        first | refine W_pickt rfl rfl rfl ?_ | refine W_pickf rfl rfl rfl ?_
        refine W_nil ?_
        refine W_condF rfl rfl ?_
        refine W_skip ?_
        refine W_sr ?_
        refine W_fieldAddr rfl fld31_2 (by decide) rfl ?_
        refine W_load (v := .bool true) rfl ty4 rfl (Cell.own (b := b18) zM rfl) rfl ?_
        refine W_nil ?_
        refine W_condT rfl rfl ?_
        refine W_sr ?_
        refine W_move rfl rfl ?_
        refine W_fieldAddr rfl fld31_1 (by decide) rfl ?_
        refine W_loadB (vs := hdC pg) rfl ty29 rfl (b := b18) zM rfl rfl rfl ?_
        refine W_callq (.cons rfl (.cons rfl .nil)) Tryz.call18 rfl (hX8.key (h := pg) (fun p hp => by repeat (first | exact List.mem_append_left _ hp | apply List.mem_cons_of_mem | apply List.mem_append_right))) ?_
        rw [hpi.2.2.1]
        dsimp only
        refine W_move rfl rfl ?_
        refine W_extract rfl rfl rfl ?_
        refine W_extract rfl rfl rfl ?_
        refine W_assign rfl rfl ?_
        refine W_assign rfl rfl ?_
        refine W_nil ?_
        refine W_seq ?_
        refine W_sr ?_
        refine W_move rfl rfl ?_
        refine W_bin rfl rfl b_neq rfl ?_
        rw [decide_eq_false (by decide)]
        refine W_move rfl rfl ?_
        refine W_gyes rfl rfl ?_
        refine W_move rfl rfl ?_
        refine W_gyes rfl rfl ?_
        refine W_indexAddrA (j := 0) rfl rfl ty44 ty22 rfl (by decide) rfl rfl ?_
        refine W_gyes rfl rfl ?_
        refine W_load (v := .int .u64 o) rfl ty22 rfl (Cell.own (b := b9) zM (by show (a.map (Value.int .u64))[0]? = _; rw [List.getElem?_map, ha0]; rfl)) rfl ?_
        refine W_gyes rfl rfl ?_
        refine W_bin rfl rfl b_neq rfl ?_
        rw [decide_eq_false (fun h => h rfl)]
        first | refine W_pickt rfl rfl rfl ?_ | refine W_pickf rfl rfl rfl ?_
        refine W_move rfl rfl ?_
        refine W_gyes rfl rfl ?_
        refine W_move rfl rfl ?_
        refine W_gyes rfl rfl ?_
        refine W_fieldAddr rfl fld31_1 (by decide) rfl ?_
        refine W_gyes rfl rfl ?_
        refine W_loadB (vs := hdC pg) rfl ty29 rfl (b := b18) zM rfl rfl rfl ?_
        refine W_gyes rfl rfl ?_
        refine W_call (.cons rfl (.cons rfl .nil)) Tryz.call19 rfl ((hX8.free (h := pg) (H := (b9, .cells 44 60 ((a).map (Value.int .u64))) :: H)).hsub zH) ?_
        rintro v H' ⟨HX9, hX9, rfl, rfl⟩
        rw [hpi.2.2.2.1]
        obtain ⟨x9, hx9⟩ : ∃ x9, x9 = (Xm.free (Xm.put y 0 key [key]).1 pg).1 := ⟨_, rfl⟩
        rw [← hx9] at hX9 hpi
        have hI9 := hpi.2.2.2.2.1
        have hnu : x9.used = y.used.eraseIdx 0 ++ [key] := hpi.2.2.2.2.2
        refine W_gyes rfl rfl ?_
        refine W_bin rfl rfl b_neq rfl ?_
        rw [decide_eq_false (by decide)]
        first | refine W_pickt rfl rfl rfl ?_ | refine W_pickf rfl rfl rfl ?_
        refine W_nil ?_
        refine W_condF rfl rfl ?_
        refine W_skip ?_
        refine W_region ?_
        obtain ⟨q, hq0⟩ : ∃ q : Nat, q = 0 := ⟨0, rfl⟩
        have hql : q < y.used.length := by have := (List.getElem?_eq_some_iff.1 ho).1; omega
        rw [← hq0] at hnu
        refine W_assign (v := .int .i64 ((q : Nat) : Int)) (by rw [hq0]; rfl) rfl ?_
        refine W_nil ?_
        refine W_seq ?_
        refine W_sr ?_
        refine W_move rfl rfl ?_
        refine W_bin rfl rfl b_geq rfl ?_
        rw [decide_eq_true (by omega)]
        refine W_nil ?_
        refine W_condT rfl rfl ?_
        refine W_seq ?_
        refine W_sr ?_
        refine W_move rfl rfl ?_
        refine W_assign rfl rfl ?_
        refine W_nil ?_
        refine W_block ?_
        refine W_loopC (X := (Nat × List Int)) [(0, _), (1, _), (2, _), (7, _), (9, _), (10, _), (11, _)] (fun (x : (Nat × List Int)) => [(22, .int .i64 (x.1 : Int))]) (fun _ => _) (fun (x : (Nat × List Int)) => HX9 ++ ((b9, .cells 44 60 ((x.2).map (Value.int .u64))) :: H)) (fun (x : (Nat × List Int)) => q ≤ x.1 ∧ x.1 ≤ y.used.length - 1 ∧ ShAt a x.2 q x.1) (fun (x : (Nat × List Int)) => y.used.length - x.1) (q, a) ⟨Nat.le_refl _, by show q ≤ y.used.length - 1; omega, ShAt.start a q⟩ (sub_cons rfl (sub_cons rfl (sub_cons rfl (sub_cons rfl (sub_cons rfl (sub_cons rfl (sub_cons rfl (sub_nil _)))))))) (sub_cons rfl (sub_nil _)) rfl zH ?_
        rintro ⟨k, b⟩ ⟨hqk, hkl, hsh⟩
        dsimp only at hqk hkl hsh ⊢
        have hbl := hsh.1
        simp only [List.cons_append, List.nil_append]
        refine W_seq ?_
        refine W_sr ?_
        refine W_move rfl rfl ?_
        refine W_bin rfl rfl (b_add (m := ((k + 1 : Nat) : Int)) (by rw [i64w (by omega)]; omega)) rfl ?_
        refine W_move rfl rfl ?_
        refine W_bin rfl rfl b_lss rfl ?_
        refine W_nil ?_
        refine W_condPS (p := ((k + 1 : Nat) : Int) < (y.used.length : Int)) rfl (by simp) (fun q2 => ?_) (fun q2 => ?_)
        · skip
          refine W_skip ?_
          refine W_seq ?_
          refine W_block ?_
          refine W_region ?_
          obtain ⟨av, hav⟩ : ∃ av, b[k + 1]? = some av := ⟨_, List.getElem?_eq_getElem (by omega)⟩
          refine W_move rfl rfl ?_
          refine W_move rfl rfl ?_
          refine W_bin rfl rfl (b_add (m := ((k + 1 : Nat) : Int)) (by rw [i64w (by omega)]; omega)) rfl ?_
          refine W_indexAddrA (j := (k + 1)) rfl rfl ty44 ty22 (by first | rfl | omega) (by omega) rfl rfl ?_
          refine W_load (v := .int .u64 av) rfl ty22 rfl (Cell.own (b := b9) zM (by rw [Nat.zero_add, Nat.mul_one, List.getElem?_map, hav]; rfl)) rfl ?_
          refine W_indexAddrA (j := k) rfl rfl ty44 ty22 (by first | rfl | omega) (by omega) rfl rfl ?_
          refine W_store (l' := (b.set k av).map (Value.int .u64)) rfl rfl ty22 rfl rfl (b := b9) zM (by rw [Nat.zero_add, Nat.mul_one, List.length_map, Nat.blt_eq]; omega) (by rw [Nat.zero_add, Nat.mul_one, List.map_set]) zU ?_
          refine W_nil ?_
          refine W_blk ?_
          refine W_region ?_
          refine W_move rfl rfl ?_
          refine W_bin rfl rfl (b_add (m := ((k + 1 : Nat) : Int)) (by rw [i64w (by omega)]; omega)) rfl ?_
          refine W_assign rfl rfl ?_
          refine W_nil ?_
          refine W_again (k + 1, b.set k av) ⟨by show q ≤ k + 1; omega, by show k + 1 ≤ y.used.length - 1; omega, hsh.step hqk (by omega) (by rw [← hsh.next]; exact hav)⟩ (by show y.used.length - (k + 1) < y.used.length - k; omega) (sub_cons rfl (sub_cons rfl (sub_cons rfl (sub_cons rfl (sub_cons rfl (sub_cons rfl (sub_cons rfl (sub_cons rfl (sub_nil _))))))))) rfl zH
        · skip
          refine W_exit rfl ?_
          refine W_region ?_
          refine W_move rfl rfl ?_
          refine W_bin rfl rfl (b_sub (m := ((y.used.length - 1 : Nat) : Int)) (by rw [i64w (by omega)]; omega)) rfl ?_
          refine W_assign rfl rfl ?_
          refine W_nil ?_
          refine W_sr ?_
          refine W_move rfl rfl ?_
          refine W_move rfl rfl ?_
          refine W_move rfl rfl ?_
          refine W_indexAddr (j := i) rfl rfl ty42 ty22 rfl (by have := (List.getElem?_eq_some_iff.1 hkey).1; omega) rfl rfl ?_
          refine W_load (v := .int .u64 key) rfl ty22 rfl (by rw [Nat.mul_one]; exact hck.up zH) rfl ?_
          refine W_indexAddrA (j := (y.used.length - 1)) rfl rfl ty44 ty22 (by first | rfl | omega) (by omega) rfl rfl ?_
          obtain ⟨a', ha'⟩ : ∃ a', a' = b.set (y.used.length - 1) key := ⟨_, rfl⟩
          have hal' : a'.length = 60 := by rw [ha', List.length_set]; omega
          have hau' : a'.take x9.used.length = x9.used := by
            have hel : (y.used.eraseIdx q).length = y.used.length - 1 := List.length_eraseIdx_of_lt hql
            rw [hnu, ha', List.length_append, List.length_singleton, hel, show y.used.length - 1 + 1 = y.used.length by omega]
            exact ShAt.over (by rw [show y.used.length - 1 = k by omega]; exact hsh) rfl hql (by omega) hau
          refine W_store (l' := a'.map (Value.int .u64)) rfl rfl ty22 rfl rfl (b := b9) zM (by rw [Nat.zero_add, Nat.mul_one, List.length_map, Nat.blt_eq]; omega) (by rw [ha', Nat.zero_add, Nat.mul_one, List.map_set]) zU ?_
          refine W_nil ?_
          refine W_sr ?_
          refine W_move rfl rfl ?_
          have hn9 : x9.used.length = y.used.length - 1 + 1 := by rw [hnu, List.length_append, List.length_eraseIdx_of_lt hql]; rfl
          refine W_bin rfl rfl (b_add (m := (x9.used.length : Int)) (by rw [i64w (by omega)]; omega)) rfl ?_
          refine W_assign rfl rfl ?_
          refine W_nil ?_
          refine W_sr ?_
          refine W_move rfl rfl ?_
          refine W_callq (.cons rfl .nil) Tryz.call9 rfl (hX9.len (fun p hp => by repeat (first | exact List.mem_append_left _ hp | apply List.mem_cons_of_mem | apply List.mem_append_right))) ?_
          refine W_move rfl rfl ?_
          refine W_bin rfl rfl b_neq rfl ?_
          rw [decide_eq_false (by have := hX9.ok.ulen; omega)]
          refine W_move rfl rfl ?_
          refine W_gyes rfl rfl ?_
          refine W_move rfl rfl ?_
          refine W_gyes rfl rfl ?_
          refine W_callq (.cons rfl .nil) Tryz.call10 rfl (hX9.held (fun p hp => by repeat (first | exact List.mem_append_left _ hp | apply List.mem_cons_of_mem | apply List.mem_append_right))) ?_
          refine W_gyes rfl rfl ?_
          refine W_move rfl rfl ?_
          refine W_gyes rfl rfl ?_
          refine W_bin rfl rfl b_neq rfl ?_
          rw [decide_eq_false (by have h1 := hX9.ok.ulen; have h2 := hI9.cnt; omega)]
          first | refine W_pickt rfl rfl rfl ?_ | refine W_pickf rfl rfl rfl ?_
          refine W_nil ?_
          refine W_condF rfl rfl ?_
          refine W_skip ?_
          refine W_blk ?_
          refine W_region ?_
          refine W_move rfl rfl ?_
          refine W_bin rfl rfl (b_add (m := ((i + 1 : Nat) : Int)) ((i64w (by omega)).trans (by omega))) rfl ?_
          refine W_assign rfl rfl ?_
          refine W_nil ?_
          refine W_again ⟨i + 1, x9, HX9, a'⟩ ⟨by show i + 1 ≤ keys.length; omega, by show i + 1 ≤ 60; omega, hX9.up (by show _ ≤ 10 + 2 * (i + 1); omega), hI9, hal', hau'⟩ (by show keys.length - (i + 1) < keys.length - i; omega) (sub_cons rfl (sub_cons rfl (sub_cons rfl (sub_cons rfl (sub_cons rfl (sub_cons rfl (sub_cons rfl (sub_nil _)))))))) rfl zH
      · skip
        obtain ⟨q1, p1, rfl, hcf⟩ := hrf.at (i := i) (v := .bool false) (by rw [List.getElem?_map, hfg]; rfl)
        have hpi := hI.put_new hok hno hcE
        obtain ⟨ph, pg, po, hpp⟩ : ∃ ph pg po, (Xm.put y 0 key [key]).2.1 = ⟨ph, pg, po⟩ := ⟨_, _, _, rfl⟩
        obtain rfl : po = false := by have h := hpi.2.1; rw [hpp] at h; exact h
        refine W_move rfl rfl ?_
        refine W_move rfl rfl ?_
        refine W_len rfl ty43 rfl rfl ?_
        refine W_bin rfl rfl b_lss rfl ?_
        rw [decide_eq_true (by have := (List.getElem?_eq_some_iff.1 hfg).1; omega)]
        refine W_move rfl rfl ?_
        refine W_gyes rfl rfl ?_
        refine W_move rfl rfl ?_
        refine W_gyes rfl rfl ?_
        refine W_move rfl rfl ?_
        refine W_gyes rfl rfl ?_
        refine W_indexAddr (j := i) rfl rfl ty43 ty4 rfl (by have := (List.getElem?_eq_some_iff.1 hfg).1; omega) rfl rfl ?_
        refine W_gyes rfl rfl ?_
        refine W_load (v := .bool false) rfl ty4 rfl (by rw [Nat.mul_one]; exact hcf.up zH) rfl ?_
        first | refine W_pickt rfl rfl rfl ?_ | refine W_pickf rfl rfl rfl ?_
        refine W_move rfl rfl ?_
        refine W_gno rfl rfl rfl ?_
        refine W_gno rfl rfl rfl ?_
        first | refine W_pickt rfl rfl rfl ?_ | refine W_pickf rfl rfl rfl ?_
        refine W_nil ?_
        refine W_condF rfl rfl ?_
        refine W_skip ?_
        refine W_seq ?_
        refine W_sr ?_
        refine W_move rfl rfl ?_
        refine W_move rfl rfl ?_
        refine W_len rfl ty43 rfl rfl ?_
        refine W_bin rfl rfl b_lss rfl ?_
        rw [decide_eq_true (by have := (List.getElem?_eq_some_iff.1 hfg).1; omega)]
        refine W_move rfl rfl ?_
        refine W_gyes rfl rfl ?_
        refine W_move rfl rfl ?_
        refine W_gyes rfl rfl ?_
        refine W_move rfl rfl ?_
        refine W_gyes rfl rfl ?_
        refine W_indexAddr (j := i) rfl rfl ty43 ty4 rfl (by have := (List.getElem?_eq_some_iff.1 hfg).1; omega) rfl rfl ?_
        refine W_gyes rfl rfl ?_
        refine W_load (v := .bool false) rfl ty4 rfl (by rw [Nat.mul_one]; exact hcf.up zH) rfl ?_
        first | refine W_pickt rfl rfl rfl ?_ | refine W_pickf rfl rfl rfl ?_
        refine W_nil ?_
        refine W_condF rfl rfl ?_
        refine W_seq ?_
        refine W_cutX (X := (Heap × Nat)) (fun x => [(0, .int .i64 (E : Int)), (1, .slice (some ⟨q0, p0, none⟩) keys.length capk), (2, .slice (some ⟨q1, p1, none⟩) fl.length capf), (7, .pointer (some ⟨mb, 0, none⟩)), (9, .pointer (some ⟨b9, 0, none⟩)), (10, .int .i64 (y.used.length : Int)), (11, .int .i64 (i : Int)), (12, .int .i64 (-1)), (18, .pointer (some ⟨x.2, 0, none⟩)), (19, .int .i64 0)]) (fun x => (x.2, .cells 31 5 (puttC ⟨ph, pg, false⟩)) :: (x.1 ++ ((b9, .cells 44 60 ((a).map (Value.int .u64))) :: H))) (fun x => XmH mb (10 + 2 * i + 2) (Xm.put y 0 key [key]).1 x.1) ?_ ?_
        · skip
          refine W_anyC H (by kernel_rfl) ?_
          refine WC_take 0 (l' := #[true, false, false, false, false, false, false, false, false, false, false, false, false, false, false, false, false]) rfl (by decide +kernel) (by decide +kernel) (by decide +kernel) rfl (by decide +kernel) (X_move rfl) rfl ?_
          refine WC_take 1 (l' := #[true, true, false, false, false, false, false, false, false, false, false, false, false, false, false, false, false]) rfl (by decide +kernel) (by decide +kernel) (by decide +kernel) rfl (by decide +kernel) (X_move rfl) rfl ?_
          refine WC_take 2 (l' := #[true, true, true, false, false, false, false, false, false, false, false, false, false, false, false, false, false]) rfl (by decide +kernel) (by decide +kernel) (by decide +kernel) rfl (by decide +kernel) (X_move rfl) rfl ?_
          refine WC_take 3 (l' := #[true, true, true, true, false, false, false, false, false, false, false, false, false, false, false, false, false]) rfl (by decide +kernel) (by decide +kernel) (by decide +kernel) rfl (by decide +kernel) (X_indexAddr (j := i) rfl rfl ty42 ty22 rfl (by have := (List.getElem?_eq_some_iff.1 hkey).1; omega) rfl) rfl ?_
          refine WC_take 4 (l' := #[true, true, true, true, true, false, false, false, false, false, false, false, false, false, false, false, false]) rfl (by decide +kernel) (by decide +kernel) (by decide +kernel) rfl (by decide +kernel) (X_load (v := .int .u64 key) rfl ty22 rfl (by rw [Nat.mul_one]; exact hck.up zH)) rfl ?_
          refine WC_take 5 (l' := #[true, true, true, true, true, true, false, false, false, false, false, false, false, false, false, false, false]) rfl (by decide +kernel) (by decide +kernel) (by decide +kernel) rfl (by decide +kernel) (X_move rfl) rfl ?_
          refine WC_take 6 (l' := #[true, true, true, true, true, true, true, false, false, false, false, false, false, false, false, false, false]) rfl (by decide +kernel) (by decide +kernel) (by decide +kernel) rfl (by decide +kernel) (X_move rfl) rfl ?_
          refine WC_take 7 (l' := #[true, true, true, true, true, true, true, true, false, false, false, false, false, false, false, false, false]) rfl (by decide +kernel) (by decide +kernel) (by decide +kernel) rfl (by decide +kernel) (X_indexAddr (j := i) rfl rfl ty42 ty22 rfl (by have := (List.getElem?_eq_some_iff.1 hkey).1; omega) rfl) rfl ?_
          refine WC_take 8 (l' := #[true, true, true, true, true, true, true, true, true, false, false, false, false, false, false, false, false]) rfl (by decide +kernel) (by decide +kernel) (by decide +kernel) rfl (by decide +kernel) (X_load (v := .int .u64 key) rfl ty22 rfl (by rw [Nat.mul_one]; exact hck.up zH)) rfl ?_
          refine WC_two 9 14 (l' := #[true, true, true, true, true, true, true, true, true, true, false, false, false, false, false, false, false]) (l'' := #[true, true, true, true, true, true, true, true, true, false, false, false, false, false, true, false, false]) zH (by decide +kernel) rfl rfl (by decide +kernel) (by decide +kernel) ?_ ?_
          · skip
            refine W_buildSlice (l := [.int .u64 key]) ty42 ty22 (.cons rfl rfl rfl rfl rfl .nil) rfl rfl rfl rfl rfl rfl rfl (fun b115 => ?_)
            refine W_nil ?_
            refine WC_goal ?_
            refine WC_two 10 14 (l' := #[true, true, true, true, true, true, true, true, true, true, true, false, false, false, false, false, false]) (l'' := #[true, true, true, true, true, true, true, true, true, true, false, false, false, false, true, false, false]) zH (by decide +kernel) rfl rfl (by decide +kernel) (by decide +kernel) ?_ ?_
            · skip
              refine W_call (.cons rfl (.cons rfl (.cons rfl (.cons rfl .nil)))) Tryz.call11 rfl ((hY.put hTab (by omega) (how := 0) (k := key) (ws := [key]) (cap := 1) hkr (Holds.own (b := b115) zM) (H := (b115, .cells 22 (1 * 1) [.int .u64 key]) :: (b9, .cells 44 60 ((a).map (Value.int .u64))) :: H)).hsub zH) ?_
              rintro v H' ⟨HX8, hX8, rfl, rfl⟩
              rw [hpp, hpi.1]
              refine W_nil ?_
              refine WC_goal ?_
              refine WC_take 11 (l' := #[true, true, true, true, true, true, true, true, true, true, true, true, false, false, false, false, false]) rfl (by decide +kernel) (by decide +kernel) (by decide +kernel) rfl (by decide +kernel) (X_move rfl) rfl ?_
              refine WC_take 12 (l' := #[true, true, true, true, true, true, true, true, true, true, true, true, true, false, false, false, false]) rfl (by decide +kernel) (by decide +kernel) (by decide +kernel) rfl (by decide +kernel) (X_extract rfl rfl) rfl ?_
              refine WC_take 13 (l' := #[true, true, true, true, true, true, true, true, true, true, true, true, true, true, false, false, false]) rfl (by decide +kernel) (by decide +kernel) (by decide +kernel) rfl (by decide +kernel) (X_extract rfl rfl) rfl ?_
              refine WC_one 14 (l' := #[true, true, true, true, true, true, true, true, true, true, true, true, true, true, true, false, false]) zH (by decide +kernel) rfl (by decide +kernel) ?_
              refine W_alloc (l := puttC zPutt) ty31 rfl rfl (fun b18 => ?_)
              refine W_nil ?_
              refine WC_goal ?_
              refine WC_one 15 (l' := #[true, true, true, true, true, true, true, true, true, true, true, true, true, true, true, true, false]) zH (by decide +kernel) rfl (by decide +kernel) ?_
              refine W_storeA (l' := puttC ⟨ph, pg, false⟩) rfl rfl ty31 rfl rfl (b := b18) zM (by exact Nat.le_refl 5) rfl zU ?_
              refine W_nil ?_
              refine WC_goal ?_
              refine WC_take 16 (l' := #[true, true, true, true, true, true, true, true, true, true, true, true, true, true, true, true, true]) rfl (by decide +kernel) (by decide +kernel) (by decide +kernel) rfl (by decide +kernel) (X_assign rfl) rfl ?_
              refine WC_done zH (by decide +kernel) ?_
              refine W_joinX (HX8, b18) hX8 (sub_cons rfl (sub_cons rfl (sub_cons rfl (sub_cons rfl (sub_cons rfl (sub_cons rfl (sub_cons rfl (sub_cons rfl (sub_cons rfl (sub_cons rfl (sub_nil _))))))))))) zH
            · skip
              refine W_alloc (l := puttC zPutt) ty31 rfl rfl (fun b18 => ?_)
              refine W_nil ?_
              refine WC_goal ?_
              refine WC_one 10 (l' := #[true, true, true, true, true, true, true, true, true, true, true, false, false, false, true, false, false]) zH (by decide +kernel) rfl (by decide +kernel) ?_
              refine W_call (.cons rfl (.cons rfl (.cons rfl (.cons rfl .nil)))) Tryz.call11 rfl ((hY.put hTab (by omega) (how := 0) (k := key) (ws := [key]) (cap := 1) hkr (Holds.own (b := b115) zM) (H := (b115, .cells 22 (1 * 1) [.int .u64 key]) :: (b18, .cells 31 5 (puttC zPutt)) :: (b9, .cells 44 60 ((a).map (Value.int .u64))) :: H)).hsub zH) ?_
              rintro v H' ⟨HX8, hX8, rfl, rfl⟩
              rw [hpp, hpi.1]
              refine W_nil ?_
              refine WC_goal ?_
              refine WC_take 11 (l' := #[true, true, true, true, true, true, true, true, true, true, true, true, false, false, true, false, false]) rfl (by decide +kernel) (by decide +kernel) (by decide +kernel) rfl (by decide +kernel) (X_move rfl) rfl ?_
              refine WC_take 12 (l' := #[true, true, true, true, true, true, true, true, true, true, true, true, true, false, true, false, false]) rfl (by decide +kernel) (by decide +kernel) (by decide +kernel) rfl (by decide +kernel) (X_extract rfl rfl) rfl ?_
              refine WC_take 13 (l' := #[true, true, true, true, true, true, true, true, true, true, true, true, true, true, true, false, false]) rfl (by decide +kernel) (by decide +kernel) (by decide +kernel) rfl (by decide +kernel) (X_extract rfl rfl) rfl ?_
              refine WC_one 15 (l' := #[true, true, true, true, true, true, true, true, true, true, true, true, true, true, true, true, false]) zH (by decide +kernel) rfl (by decide +kernel) ?_
              refine W_storeA (l' := puttC ⟨ph, pg, false⟩) rfl rfl ty31 rfl rfl (b := b18) zM (by exact Nat.le_refl 5) rfl zU ?_
              refine W_nil ?_
              refine WC_goal ?_
              refine WC_take 16 (l' := #[true, true, true, true, true, true, true, true, true, true, true, true, true, true, true, true, true]) rfl (by decide +kernel) (by decide +kernel) (by decide +kernel) rfl (by decide +kernel) (X_assign rfl) rfl ?_
              refine WC_done zH (by decide +kernel) ?_
              refine W_joinX (HX8, b18) hX8 (sub_cons rfl (sub_cons rfl (sub_cons rfl (sub_cons rfl (sub_cons rfl (sub_cons rfl (sub_cons rfl (sub_cons rfl (sub_cons rfl (sub_cons rfl (sub_nil _))))))))))) zH
          · skip
            refine W_alloc (l := puttC zPutt) ty31 rfl rfl (fun b18 => ?_)
            refine W_nil ?_
            refine WC_goal ?_
            refine WC_one 9 (l' := #[true, true, true, true, true, true, true, true, true, true, false, false, false, false, true, false, false]) zH (by decide +kernel) rfl (by decide +kernel) ?_
            refine W_buildSlice (l := [.int .u64 key]) ty42 ty22 (.cons rfl rfl rfl rfl rfl .nil) rfl rfl rfl rfl rfl rfl rfl (fun b115 => ?_)
            refine W_nil ?_
            refine WC_goal ?_
            refine WC_one 10 (l' := #[true, true, true, true, true, true, true, true, true, true, true, false, false, false, true, false, false]) zH (by decide +kernel) rfl (by decide +kernel) ?_
            refine W_call (.cons rfl (.cons rfl (.cons rfl (.cons rfl .nil)))) Tryz.call11 rfl ((hY.put hTab (by omega) (how := 0) (k := key) (ws := [key]) (cap := 1) hkr (Holds.own (b := b115) zM) (H := (b115, .cells 22 (1 * 1) [.int .u64 key]) :: (b18, .cells 31 5 (puttC zPutt)) :: (b9, .cells 44 60 ((a).map (Value.int .u64))) :: H)).hsub zH) ?_
            rintro v H' ⟨HX8, hX8, rfl, rfl⟩
            rw [hpp, hpi.1]
            refine W_nil ?_
            refine WC_goal ?_
            refine WC_take 11 (l' := #[true, true, true, true, true, true, true, true, true, true, true, true, false, false, true, false, false]) rfl (by decide +kernel) (by decide +kernel) (by decide +kernel) rfl (by decide +kernel) (X_move rfl) rfl ?_
            refine WC_take 12 (l' := #[true, true, true, true, true, true, true, true, true, true, true, true, true, false, true, false, false]) rfl (by decide +kernel) (by decide +kernel) (by decide +kernel) rfl (by decide +kernel) (X_extract rfl rfl) rfl ?_
            refine WC_take 13 (l' := #[true, true, true, true, true, true, true, true, true, true, true, true, true, true, true, false, false]) rfl (by decide +kernel) (by decide +kernel) (by decide +kernel) rfl (by decide +kernel) (X_extract rfl rfl) rfl ?_
            refine WC_one 15 (l' := #[true, true, true, true, true, true, true, true, true, true, true, true, true, true, true, true, false]) zH (by decide +kernel) rfl (by decide +kernel) ?_
            refine W_storeA (l' := puttC ⟨ph, pg, false⟩) rfl rfl ty31 rfl rfl (b := b18) zM (by exact Nat.le_refl 5) rfl zU ?_
            refine W_nil ?_
            refine WC_goal ?_
            refine WC_take 16 (l' := #[true, true, true, true, true, true, true, true, true, true, true, true, true, true, true, true, true]) rfl (by decide +kernel) (by decide +kernel) (by decide +kernel) rfl (by decide +kernel) (X_assign rfl) rfl ?_
            refine WC_done zH (by decide +kernel) ?_
            refine W_joinX (HX8, b18) hX8 (sub_cons rfl (sub_cons rfl (sub_cons rfl (sub_cons rfl (sub_cons rfl (sub_cons rfl (sub_cons rfl (sub_cons rfl (sub_cons rfl (sub_cons rfl (sub_nil _))))))))))) zH
        rintro ⟨HX8, b18⟩ hX8
        dsimp only at hX8 ⊢
        refine W_seq ?_
        refine W_sr ?_
        refine W_move rfl rfl ?_
        refine W_bin rfl rfl b_neq rfl ?_
        rw [decide_eq_false (by decide)]
        refine W_move rfl rfl ?_
        refine W_gyes rfl rfl ?_
        refine W_fieldAddr rfl fld31_2 (by decide) rfl ?_
        refine W_gyes rfl rfl ?_
        refine W_load (v := .bool false) rfl ty4 rfl (Cell.own (b := b18) zM rfl) rfl ?_
        refine W_gyes rfl rfl ?_
        refine W_move rfl rfl ?_
        refine W_gyes rfl rfl ?_
        refine W_bin rfl rfl b_lss rfl ?_
        rw [decide_eq_true (by omega)]
        refine W_gyes rfl rfl ?_
        refine W_move rfl rfl ?_
        refine W_gyes rfl rfl ?_
        refine W_move rfl rfl ?_
        refine W_gyes rfl rfl ?_
        refine W_move rfl rfl ?_
        refine W_gyes rfl rfl ?_
        refine W_bin rfl rfl b_eql rfl ?_
        rw [decide_eq_false (by omega)]
        refine W_gyes rfl rfl ?_
        first | refine W_pickt rfl rfl rfl ?_ | refine W_pickf rfl rfl rfl ?_
        refine W_gyes rfl rfl ?_
        refine W_bne rfl rfl ty4 rfl ?_
        first | refine W_pickt rfl rfl rfl ?_ | refine W_pickf rfl rfl rfl ?_
        refine W_nil ?_
        refine W_condF rfl rfl ?_
        refine W_skip ?_
        refine W_sr ?_
        obtain ⟨x9, hx9⟩ : ∃ x9, x9 = (Xm.put y 0 key [key]).1 := ⟨_, rfl⟩
        rw [← hx9] at hX8 hpi
        have hX9 := hX8
        have hI9 := hpi.2.2.1.up (Nat.le_succ i)
        have hnu := hpi.2.2.2
        obtain ⟨HX9, hH9⟩ : ∃ h, h = HX8 := ⟨_, rfl⟩
        rw [← hH9] at hX9 hX8 ⊢
        refine W_fieldAddr rfl fld31_2 (by decide) rfl ?_
        refine W_load (v := .bool false) rfl ty4 rfl (Cell.own (b := b18) zM rfl) rfl ?_
        refine W_nil ?_
        refine W_condF rfl rfl ?_
        refine W_skip ?_
        refine W_seq ?_
        refine W_sr ?_
        refine W_move rfl rfl ?_
        refine W_bin rfl rfl b_geq rfl ?_
        rw [decide_eq_false (by omega)]
        refine W_nil ?_
        refine W_condF rfl rfl ?_
        refine W_skip ?_
        refine W_sr ?_
        refine W_move rfl rfl ?_
        refine W_move rfl rfl ?_
        refine W_move rfl rfl ?_
        refine W_indexAddr (j := i) rfl rfl ty42 ty22 rfl (by have := (List.getElem?_eq_some_iff.1 hkey).1; omega) rfl rfl ?_
        refine W_load (v := .int .u64 key) rfl ty22 rfl (by rw [Nat.mul_one]; exact hck.up zH) rfl ?_
        refine W_indexAddrA (j := y.used.length) rfl rfl ty44 ty22 (by first | rfl | omega) (by omega) rfl rfl ?_
        obtain ⟨a', ha'⟩ : ∃ a', a' = a.set y.used.length key := ⟨_, rfl⟩
        have hal' : a'.length = 60 := by rw [ha', List.length_set]; omega
        have hau' : a'.take x9.used.length = x9.used := by rw [hnu, ha', List.length_append, List.length_singleton]; exact take_new (by omega) hau
        refine W_store (l' := a'.map (Value.int .u64)) rfl rfl ty22 rfl rfl (b := b9) zM (by rw [Nat.zero_add, Nat.mul_one, List.length_map, Nat.blt_eq]; omega) (by rw [ha', Nat.zero_add, Nat.mul_one, List.map_set]) zU ?_
        refine W_nil ?_
        refine W_sr ?_
        refine W_move rfl rfl ?_
        have hn9 : x9.used.length = y.used.length + 1 := by rw [hnu, List.length_append]; rfl
        refine W_bin rfl rfl (b_add (m := (x9.used.length : Int)) (by rw [i64w (by omega)]; omega)) rfl ?_
        refine W_assign rfl rfl ?_
        refine W_nil ?_
        refine W_sr ?_
        refine W_move rfl rfl ?_
        refine W_callq (.cons rfl .nil) Tryz.call9 rfl (hX9.len (fun p hp => by repeat (first | exact List.mem_append_left _ hp | apply List.mem_cons_of_mem | apply List.mem_append_right))) ?_
        refine W_move rfl rfl ?_
        refine W_bin rfl rfl b_neq rfl ?_
        rw [decide_eq_false (by have := hX9.ok.ulen; omega)]
        refine W_move rfl rfl ?_
        refine W_gyes rfl rfl ?_
        refine W_move rfl rfl ?_
        refine W_gyes rfl rfl ?_
        refine W_callq (.cons rfl .nil) Tryz.call10 rfl (hX9.held (fun p hp => by repeat (first | exact List.mem_append_left _ hp | apply List.mem_cons_of_mem | apply List.mem_append_right))) ?_
        refine W_gyes rfl rfl ?_
        refine W_move rfl rfl ?_
        refine W_gyes rfl rfl ?_
        refine W_bin rfl rfl b_neq rfl ?_
        rw [decide_eq_false (by have h1 := hX9.ok.ulen; have h2 := hI9.cnt; omega)]
        first | refine W_pickt rfl rfl rfl ?_ | refine W_pickf rfl rfl rfl ?_
        refine W_nil ?_
        refine W_condF rfl rfl ?_
        refine W_skip ?_
        refine W_blk ?_
        refine W_region ?_
        refine W_move rfl rfl ?_
        refine W_bin rfl rfl (b_add (m := ((i + 1 : Nat) : Int)) ((i64w (by omega)).trans (by omega))) rfl ?_
        refine W_assign rfl rfl ?_
        refine W_nil ?_
        refine W_again ⟨i + 1, x9, HX9, a'⟩ ⟨by show i + 1 ≤ keys.length; omega, by show i + 1 ≤ 60; omega, hX9.up (by show _ ≤ 10 + 2 * (i + 1); omega), hI9, hal', hau'⟩ (by show keys.length - (i + 1) < keys.length - i; omega) (sub_cons rfl (sub_cons rfl (sub_cons rfl (sub_cons rfl (sub_cons rfl (sub_cons rfl (sub_cons rfl (sub_nil _)))))))) rfl zH
      · skip
        obtain ⟨q1, p1, rfl, hcf⟩ := hrf.at (i := i) (v := .bool false) (by rw [List.getElem?_map, hfg]; rfl)
        have hql := (List.getElem?_eq_some_iff.1 hq).1
        have hkin := List.mem_of_getElem? hq
        have hpi := hI.put_in hok hkin
        rw [drop1O_at hund hq] at hpi
        obtain ⟨ph, pg, po, hpp⟩ : ∃ ph pg po, (Xm.put y 0 key [key]).2.1 = ⟨ph, pg, po⟩ := ⟨_, _, _, rfl⟩
        obtain rfl : po = false := by have h := hpi.2.1; rw [hpp] at h; exact h
        refine W_move rfl rfl ?_
        refine W_move rfl rfl ?_
        refine W_len rfl ty43 rfl rfl ?_
        refine W_bin rfl rfl b_lss rfl ?_
        rw [decide_eq_true (by have := (List.getElem?_eq_some_iff.1 hfg).1; omega)]
        refine W_move rfl rfl ?_
        refine W_gyes rfl rfl ?_
        refine W_move rfl rfl ?_
        refine W_gyes rfl rfl ?_
        refine W_move rfl rfl ?_
        refine W_gyes rfl rfl ?_
        refine W_indexAddr (j := i) rfl rfl ty43 ty4 rfl (by have := (List.getElem?_eq_some_iff.1 hfg).1; omega) rfl rfl ?_
        refine W_gyes rfl rfl ?_
        refine W_load (v := .bool false) rfl ty4 rfl (by rw [Nat.mul_one]; exact hcf.up zH) rfl ?_
        first | refine W_pickt rfl rfl rfl ?_ | refine W_pickf rfl rfl rfl ?_
        refine W_move rfl rfl ?_
        refine W_gno rfl rfl rfl ?_
        refine W_gno rfl rfl rfl ?_
        first | refine W_pickt rfl rfl rfl ?_ | refine W_pickf rfl rfl rfl ?_
        refine W_nil ?_
        refine W_condF rfl rfl ?_
        refine W_skip ?_
        refine W_seq ?_
        refine W_sr ?_
        refine W_move rfl rfl ?_
        refine W_move rfl rfl ?_
        refine W_len rfl ty43 rfl rfl ?_
        refine W_bin rfl rfl b_lss rfl ?_
        rw [decide_eq_true (by have := (List.getElem?_eq_some_iff.1 hfg).1; omega)]
        refine W_move rfl rfl ?_
        refine W_gyes rfl rfl ?_
        refine W_move rfl rfl ?_
        refine W_gyes rfl rfl ?_
        refine W_move rfl rfl ?_
        refine W_gyes rfl rfl ?_
        refine W_indexAddr (j := i) rfl rfl ty43 ty4 rfl (by have := (List.getElem?_eq_some_iff.1 hfg).1; omega) rfl rfl ?_
        refine W_gyes rfl rfl ?_
        refine W_load (v := .bool false) rfl ty4 rfl (by rw [Nat.mul_one]; exact hcf.up zH) rfl ?_
        first | refine W_pickt rfl rfl rfl ?_ | refine W_pickf rfl rfl rfl ?_
        refine W_nil ?_
        refine W_condF rfl rfl ?_
        refine W_seq ?_
        refine W_cutX (X := (Heap × Nat)) (fun x => [(0, .int .i64 (E : Int)), (1, .slice (some ⟨q0, p0, none⟩) keys.length capk), (2, .slice (some ⟨q1, p1, none⟩) fl.length capf), (7, .pointer (some ⟨mb, 0, none⟩)), (9, .pointer (some ⟨b9, 0, none⟩)), (10, .int .i64 (y.used.length : Int)), (11, .int .i64 (i : Int)), (12, .int .i64 (q : Int)), (18, .pointer (some ⟨x.2, 0, none⟩)), (19, .int .i64 0)]) (fun x => (x.2, .cells 31 5 (puttC ⟨ph, pg, false⟩)) :: (x.1 ++ ((b9, .cells 44 60 ((a).map (Value.int .u64))) :: H))) (fun x => XmH mb (10 + 2 * i + 2) (Xm.put y 0 key [key]).1 x.1) ?_ ?_
        · skip
          refine W_anyC H (by kernel_rfl) ?_
          refine WC_take 0 (l' := #[true, false, false, false, false, false, false, false, false, false, false, false, false, false, false, false, false]) rfl (by decide +kernel) (by decide +kernel) (by decide +kernel) rfl (by decide +kernel) (X_move rfl) rfl ?_
          refine WC_take 1 (l' := #[true, true, false, false, false, false, false, false, false, false, false, false, false, false, false, false, false]) rfl (by decide +kernel) (by decide +kernel) (by decide +kernel) rfl (by decide +kernel) (X_move rfl) rfl ?_
          refine WC_take 2 (l' := #[true, true, true, false, false, false, false, false, false, false, false, false, false, false, false, false, false]) rfl (by decide +kernel) (by decide +kernel) (by decide +kernel) rfl (by decide +kernel) (X_move rfl) rfl ?_
          refine WC_take 3 (l' := #[true, true, true, true, false, false, false, false, false, false, false, false, false, false, false, false, false]) rfl (by decide +kernel) (by decide +kernel) (by decide +kernel) rfl (by decide +kernel) (X_indexAddr (j := i) rfl rfl ty42 ty22 rfl (by have := (List.getElem?_eq_some_iff.1 hkey).1; omega) rfl) rfl ?_
          refine WC_take 4 (l' := #[true, true, true, true, true, false, false, false, false, false, false, false, false, false, false, false, false]) rfl (by decide +kernel) (by decide +kernel) (by decide +kernel) rfl (by decide +kernel) (X_load (v := .int .u64 key) rfl ty22 rfl (by rw [Nat.mul_one]; exact hck.up zH)) rfl ?_
          refine WC_take 5 (l' := #[true, true, true, true, true, true, false, false, false, false, false, false, false, false, false, false, false]) rfl (by decide +kernel) (by decide +kernel) (by decide +kernel) rfl (by decide +kernel) (X_move rfl) rfl ?_
          refine WC_take 6 (l' := #[true, true, true, true, true, true, true, false, false, false, false, false, false, false, false, false, false]) rfl (by decide +kernel) (by decide +kernel) (by decide +kernel) rfl (by decide +kernel) (X_move rfl) rfl ?_
          refine WC_take 7 (l' := #[true, true, true, true, true, true, true, true, false, false, false, false, false, false, false, false, false]) rfl (by decide +kernel) (by decide +kernel) (by decide +kernel) rfl (by decide +kernel) (X_indexAddr (j := i) rfl rfl ty42 ty22 rfl (by have := (List.getElem?_eq_some_iff.1 hkey).1; omega) rfl) rfl ?_
          refine WC_take 8 (l' := #[true, true, true, true, true, true, true, true, true, false, false, false, false, false, false, false, false]) rfl (by decide +kernel) (by decide +kernel) (by decide +kernel) rfl (by decide +kernel) (X_load (v := .int .u64 key) rfl ty22 rfl (by rw [Nat.mul_one]; exact hck.up zH)) rfl ?_
          refine WC_two 9 14 (l' := #[true, true, true, true, true, true, true, true, true, true, false, false, false, false, false, false, false]) (l'' := #[true, true, true, true, true, true, true, true, true, false, false, false, false, false, true, false, false]) zH (by decide +kernel) rfl rfl (by decide +kernel) (by decide +kernel) ?_ ?_
          · skip
            refine W_buildSlice (l := [.int .u64 key]) ty42 ty22 (.cons rfl rfl rfl rfl rfl .nil) rfl rfl rfl rfl rfl rfl rfl (fun b115 => ?_)
            refine W_nil ?_
            refine WC_goal ?_
            refine WC_two 10 14 (l' := #[true, true, true, true, true, true, true, true, true, true, true, false, false, false, false, false, false]) (l'' := #[true, true, true, true, true, true, true, true, true, true, false, false, false, false, true, false, false]) zH (by decide +kernel) rfl rfl (by decide +kernel) (by decide +kernel) ?_ ?_
            · skip
              refine W_call (.cons rfl (.cons rfl (.cons rfl (.cons rfl .nil)))) Tryz.call11 rfl ((hY.put hTab (by omega) (how := 0) (k := key) (ws := [key]) (cap := 1) hkr (Holds.own (b := b115) zM) (H := (b115, .cells 22 (1 * 1) [.int .u64 key]) :: (b9, .cells 44 60 ((a).map (Value.int .u64))) :: H)).hsub zH) ?_
              rintro v H' ⟨HX8, hX8, rfl, rfl⟩
              rw [hpp, hpi.1]
              refine W_nil ?_
              refine WC_goal ?_
              refine WC_take 11 (l' := #[true, true, true, true, true, true, true, true, true, true, true, true, false, false, false, false, false]) rfl (by decide +kernel) (by decide +kernel) (by decide +kernel) rfl (by decide +kernel) (X_move rfl) rfl ?_
              refine WC_take 12 (l' := #[true, true, true, true, true, true, true, true, true, true, true, true, true, false, false, false, false]) rfl (by decide +kernel) (by decide +kernel) (by decide +kernel) rfl (by decide +kernel) (X_extract rfl rfl) rfl ?_
              refine WC_take 13 (l' := #[true, true, true, true, true, true, true, true, true, true, true, true, true, true, false, false, false]) rfl (by decide +kernel) (by decide +kernel) (by decide +kernel) rfl (by decide +kernel) (X_extract rfl rfl) rfl ?_
              refine WC_one 14 (l' := #[true, true, true, true, true, true, true, true, true, true, true, true, true, true, true, false, false]) zH (by decide +kernel) rfl (by decide +kernel) ?_
              refine W_alloc (l := puttC zPutt) ty31 rfl rfl (fun b18 => ?_)
              refine W_nil ?_
              refine WC_goal ?_
              refine WC_one 15 (l' := #[true, true, true, true, true, true, true, true, true, true, true, true, true, true, true, true, false]) zH (by decide +kernel) rfl (by decide +kernel) ?_
              refine W_storeA (l' := puttC ⟨ph, pg, false⟩) rfl rfl ty31 rfl rfl (b := b18) zM (by exact Nat.le_refl 5) rfl zU ?_
              refine W_nil ?_
              refine WC_goal ?_
              refine WC_take 16 (l' := #[true, true, true, true, true, true, true, true, true, true, true, true, true, true, true, true, true]) rfl (by decide +kernel) (by decide +kernel) (by decide +kernel) rfl (by decide +kernel) (X_assign rfl) rfl ?_
              refine WC_done zH (by decide +kernel) ?_
              refine W_joinX (HX8, b18) hX8 (sub_cons rfl (sub_cons rfl (sub_cons rfl (sub_cons rfl (sub_cons rfl (sub_cons rfl (sub_cons rfl (sub_cons rfl (sub_cons rfl (sub_cons rfl (sub_nil _))))))))))) zH
            · skip
              refine W_alloc (l := puttC zPutt) ty31 rfl rfl (fun b18 => ?_)
              refine W_nil ?_
              refine WC_goal ?_
              refine WC_one 10 (l' := #[true, true, true, true, true, true, true, true, true, true, true, false, false, false, true, false, false]) zH (by decide +kernel) rfl (by decide +kernel) ?_
              refine W_call (.cons rfl (.cons rfl (.cons rfl (.cons rfl .nil)))) Tryz.call11 rfl ((hY.put hTab (by omega) (how := 0) (k := key) (ws := [key]) (cap := 1) hkr (Holds.own (b := b115) zM) (H := (b115, .cells 22 (1 * 1) [.int .u64 key]) :: (b18, .cells 31 5 (puttC zPutt)) :: (b9, .cells 44 60 ((a).map (Value.int .u64))) :: H)).hsub zH) ?_
              rintro v H' ⟨HX8, hX8, rfl, rfl⟩
              rw [hpp, hpi.1]
              refine W_nil ?_
              refine WC_goal ?_
              refine WC_take 11 (l' := #[true, true, true, true, true, true, true, true, true, true, true, true, false, false, true, false, false]) rfl (by decide +kernel) (by decide +kernel) (by decide +kernel) rfl (by decide +kernel) (X_move rfl) rfl ?_
              refine WC_take 12 (l' := #[true, true, true, true, true, true, true, true, true, true, true, true, true, false, true, false, false]) rfl (by decide +kernel) (by decide +kernel) (by decide +kernel) rfl (by decide +kernel) (X_extract rfl rfl) rfl ?_
              refine WC_take 13 (l' := #[true, true, true, true, true, true, true, true, true, true, true, true, true, true, true, false, false]) rfl (by decide +kernel) (by decide +kernel) (by decide +kernel) rfl (by decide +kernel) (X_extract rfl rfl) rfl ?_
              refine WC_one 15 (l' := #[true, true, true, true, true, true, true, true, true, true, true, true, true, true, true, true, false]) zH (by decide +kernel) rfl (by decide +kernel) ?_
              refine W_storeA (l' := puttC ⟨ph, pg, false⟩) rfl rfl ty31 rfl rfl (b := b18) zM (by exact Nat.le_refl 5) rfl zU ?_
              refine W_nil ?_
              refine WC_goal ?_
              refine WC_take 16 (l' := #[true, true, true, true, true, true, true, true, true, true, true, true, true, true, true, true, true]) rfl (by decide +kernel) (by decide +kernel) (by decide +kernel) rfl (by decide +kernel) (X_assign rfl) rfl ?_
              refine WC_done zH (by decide +kernel) ?_
              refine W_joinX (HX8, b18) hX8 (sub_cons rfl (sub_cons rfl (sub_cons rfl (sub_cons rfl (sub_cons rfl (sub_cons rfl (sub_cons rfl (sub_cons rfl (sub_cons rfl (sub_cons rfl (sub_nil _))))))))))) zH
          · skip
            refine W_alloc (l := puttC zPutt) ty31 rfl rfl (fun b18 => ?_)
            refine W_nil ?_
            refine WC_goal ?_
            refine WC_one 9 (l' := #[true, true, true, true, true, true, true, true, true, true, false, false, false, false, true, false, false]) zH (by decide +kernel) rfl (by decide +kernel) ?_
            refine W_buildSlice (l := [.int .u64 key]) ty42 ty22 (.cons rfl rfl rfl rfl rfl .nil) rfl rfl rfl rfl rfl rfl rfl (fun b115 => ?_)
            refine W_nil ?_
            refine WC_goal ?_
            refine WC_one 10 (l' := #[true, true, true, true, true, true, true, true, true, true, true, false, false, false, true, false, false]) zH (by decide +kernel) rfl (by decide +kernel) ?_
            refine W_call (.cons rfl (.cons rfl (.cons rfl (.cons rfl .nil)))) Tryz.call11 rfl ((hY.put hTab (by omega) (how := 0) (k := key) (ws := [key]) (cap := 1) hkr (Holds.own (b := b115) zM) (H := (b115, .cells 22 (1 * 1) [.int .u64 key]) :: (b18, .cells 31 5 (puttC zPutt)) :: (b9, .cells 44 60 ((a).map (Value.int .u64))) :: H)).hsub zH) ?_
            rintro v H' ⟨HX8, hX8, rfl, rfl⟩
            rw [hpp, hpi.1]
            refine W_nil ?_
            refine WC_goal ?_
            refine WC_take 11 (l' := #[true, true, true, true, true, true, true, true, true, true, true, true, false, false, true, false, false]) rfl (by decide +kernel) (by decide +kernel) (by decide +kernel) rfl (by decide +kernel) (X_move rfl) rfl ?_
            refine WC_take 12 (l' := #[true, true, true, true, true, true, true, true, true, true, true, true, true, false, true, false, false]) rfl (by decide +kernel) (by decide +kernel) (by decide +kernel) rfl (by decide +kernel) (X_extract rfl rfl) rfl ?_
            refine WC_take 13 (l' := #[true, true, true, true, true, true, true, true, true, true, true, true, true, true, true, false, false]) rfl (by decide +kernel) (by decide +kernel) (by decide +kernel) rfl (by decide +kernel) (X_extract rfl rfl) rfl ?_
            refine WC_one 15 (l' := #[true, true, true, true, true, true, true, true, true, true, true, true, true, true, true, true, false]) zH (by decide +kernel) rfl (by decide +kernel) ?_
            refine W_storeA (l' := puttC ⟨ph, pg, false⟩) rfl rfl ty31 rfl rfl (b := b18) zM (by exact Nat.le_refl 5) rfl zU ?_
            refine W_nil ?_
            refine WC_goal ?_
            refine WC_take 16 (l' := #[true, true, true, true, true, true, true, true, true, true, true, true, true, true, true, true, true]) rfl (by decide +kernel) (by decide +kernel) (by decide +kernel) rfl (by decide +kernel) (X_assign rfl) rfl ?_
            refine WC_done zH (by decide +kernel) ?_
            refine W_joinX (HX8, b18) hX8 (sub_cons rfl (sub_cons rfl (sub_cons rfl (sub_cons rfl (sub_cons rfl (sub_cons rfl (sub_cons rfl (sub_cons rfl (sub_cons rfl (sub_cons rfl (sub_nil _))))))))))) zH
        rintro ⟨HX8, b18⟩ hX8
        dsimp only at hX8 ⊢
        refine W_seq ?_
        refine W_sr ?_
        refine W_move rfl rfl ?_
        refine W_bin rfl rfl b_neq rfl ?_
        rw [decide_eq_false (by decide)]
        refine W_move rfl rfl ?_
        refine W_gyes rfl rfl ?_
        refine W_fieldAddr rfl fld31_2 (by decide) rfl ?_
        refine W_gyes rfl rfl ?_
        refine W_load (v := .bool false) rfl ty4 rfl (Cell.own (b := b18) zM rfl) rfl ?_
        refine W_gyes rfl rfl ?_
        refine W_move rfl rfl ?_
        refine W_gyes rfl rfl ?_
        refine W_bin rfl rfl b_lss rfl ?_
        rw [decide_eq_false (by omega)]
        refine W_gyes rfl rfl ?_
        refine W_move rfl rfl ?_
        refine W_gno rfl rfl rfl ?_
        refine W_gno rfl rfl rfl ?_
        refine W_gno rfl rfl rfl ?_
        refine W_gyes rfl rfl ?_
        first | refine W_pickt rfl rfl rfl ?_ | refine W_pickf rfl rfl rfl ?_
        refine W_gyes rfl rfl ?_
        refine W_bne rfl rfl ty4 rfl ?_
        first | refine W_pickt rfl rfl rfl ?_ | refine W_pickf rfl rfl rfl ?_
        refine W_nil ?_
        refine W_condF rfl rfl ?_
        refine W_skip ?_
        refine W_sr ?_
        obtain ⟨x9, hx9⟩ : ∃ x9, x9 = (Xm.put y 0 key [key]).1 := ⟨_, rfl⟩
        rw [← hx9] at hX8 hpi
        have hX9 := hX8
        have hI9 := hpi.2.2.1.up (Nat.le_succ i)
        have hnu := hpi.2.2.2
        obtain ⟨HX9, hH9⟩ : ∃ h, h = HX8 := ⟨_, rfl⟩
        rw [← hH9] at hX9 hX8 ⊢
        refine W_fieldAddr rfl fld31_2 (by decide) rfl ?_
        refine W_load (v := .bool false) rfl ty4 rfl (Cell.own (b := b18) zM rfl) rfl ?_
        refine W_nil ?_
        refine W_condF rfl rfl ?_
        refine W_skip ?_
        refine W_seq ?_
        refine W_sr ?_
        refine W_move rfl rfl ?_
        refine W_bin rfl rfl b_geq rfl ?_
        rw [decide_eq_true (by omega)]
        refine W_nil ?_
        refine W_condT rfl rfl ?_
        refine W_seq ?_
        refine W_sr ?_
        refine W_move rfl rfl ?_
        refine W_assign rfl rfl ?_
        refine W_nil ?_
        refine W_block ?_
        refine W_loopC (X := (Nat × List Int)) [(0, _), (1, _), (2, _), (7, _), (9, _), (10, _), (11, _)] (fun (x : (Nat × List Int)) => [(22, .int .i64 (x.1 : Int))]) (fun _ => _) (fun (x : (Nat × List Int)) => HX9 ++ ((b9, .cells 44 60 ((x.2).map (Value.int .u64))) :: H)) (fun (x : (Nat × List Int)) => q ≤ x.1 ∧ x.1 ≤ y.used.length - 1 ∧ ShAt a x.2 q x.1) (fun (x : (Nat × List Int)) => y.used.length - x.1) (q, a) ⟨Nat.le_refl _, by show q ≤ y.used.length - 1; omega, ShAt.start a q⟩ (sub_cons rfl (sub_cons rfl (sub_cons rfl (sub_cons rfl (sub_cons rfl (sub_cons rfl (sub_cons rfl (sub_nil _)))))))) (sub_cons rfl (sub_nil _)) rfl zH ?_
        rintro ⟨k, b⟩ ⟨hqk, hkl, hsh⟩
        dsimp only at hqk hkl hsh ⊢
        have hbl := hsh.1
        simp only [List.cons_append, List.nil_append]
        refine W_seq ?_
        refine W_sr ?_
        refine W_move rfl rfl ?_
        refine W_bin rfl rfl (b_add (m := ((k + 1 : Nat) : Int)) (by rw [i64w (by omega)]; omega)) rfl ?_
        refine W_move rfl rfl ?_
        refine W_bin rfl rfl b_lss rfl ?_
        refine W_nil ?_
        refine W_condPS (p := ((k + 1 : Nat) : Int) < (y.used.length : Int)) rfl (by simp) (fun q2 => ?_) (fun q2 => ?_)
        · skip
          refine W_skip ?_
          refine W_seq ?_
          refine W_block ?_
          refine W_region ?_
          obtain ⟨av, hav⟩ : ∃ av, b[k + 1]? = some av := ⟨_, List.getElem?_eq_getElem (by omega)⟩
          refine W_move rfl rfl ?_
          refine W_move rfl rfl ?_
          refine W_bin rfl rfl (b_add (m := ((k + 1 : Nat) : Int)) (by rw [i64w (by omega)]; omega)) rfl ?_
          refine W_indexAddrA (j := (k + 1)) rfl rfl ty44 ty22 (by first | rfl | omega) (by omega) rfl rfl ?_
          refine W_load (v := .int .u64 av) rfl ty22 rfl (Cell.own (b := b9) zM (by rw [Nat.zero_add, Nat.mul_one, List.getElem?_map, hav]; rfl)) rfl ?_
          refine W_indexAddrA (j := k) rfl rfl ty44 ty22 (by first | rfl | omega) (by omega) rfl rfl ?_
          refine W_store (l' := (b.set k av).map (Value.int .u64)) rfl rfl ty22 rfl rfl (b := b9) zM (by rw [Nat.zero_add, Nat.mul_one, List.length_map, Nat.blt_eq]; omega) (by rw [Nat.zero_add, Nat.mul_one, List.map_set]) zU ?_
          refine W_nil ?_
          refine W_blk ?_
          refine W_region ?_
          refine W_move rfl rfl ?_
          refine W_bin rfl rfl (b_add (m := ((k + 1 : Nat) : Int)) (by rw [i64w (by omega)]; omega)) rfl ?_
          refine W_assign rfl rfl ?_
          refine W_nil ?_
          refine W_again (k + 1, b.set k av) ⟨by show q ≤ k + 1; omega, by show k + 1 ≤ y.used.length - 1; omega, hsh.step hqk (by omega) (by rw [← hsh.next]; exact hav)⟩ (by show y.used.length - (k + 1) < y.used.length - k; omega) (sub_cons rfl (sub_cons rfl (sub_cons rfl (sub_cons rfl (sub_cons rfl (sub_cons rfl (sub_cons rfl (sub_cons rfl (sub_nil _))))))))) rfl zH
        · skip
          refine W_exit rfl ?_
          refine W_region ?_
          refine W_move rfl rfl ?_
          refine W_bin rfl rfl (b_sub (m := ((y.used.length - 1 : Nat) : Int)) (by rw [i64w (by omega)]; omega)) rfl ?_
          refine W_assign rfl rfl ?_
          refine W_nil ?_
          refine W_sr ?_
          refine W_move rfl rfl ?_
          refine W_move rfl rfl ?_
          refine W_move rfl rfl ?_
          refine W_indexAddr (j := i) rfl rfl ty42 ty22 rfl (by have := (List.getElem?_eq_some_iff.1 hkey).1; omega) rfl rfl ?_
          refine W_load (v := .int .u64 key) rfl ty22 rfl (by rw [Nat.mul_one]; exact hck.up zH) rfl ?_
          refine W_indexAddrA (j := (y.used.length - 1)) rfl rfl ty44 ty22 (by first | rfl | omega) (by omega) rfl rfl ?_
          obtain ⟨a', ha'⟩ : ∃ a', a' = b.set (y.used.length - 1) key := ⟨_, rfl⟩
          have hal' : a'.length = 60 := by rw [ha', List.length_set]; omega
          have hau' : a'.take x9.used.length = x9.used := by
            have hel : (y.used.eraseIdx q).length = y.used.length - 1 := List.length_eraseIdx_of_lt hql
            rw [hnu, ha', List.length_append, List.length_singleton, hel, show y.used.length - 1 + 1 = y.used.length by omega]
            exact ShAt.over (by rw [show y.used.length - 1 = k by omega]; exact hsh) rfl hql (by omega) hau
          refine W_store (l' := a'.map (Value.int .u64)) rfl rfl ty22 rfl rfl (b := b9) zM (by rw [Nat.zero_add, Nat.mul_one, List.length_map, Nat.blt_eq]; omega) (by rw [ha', Nat.zero_add, Nat.mul_one, List.map_set]) zU ?_
          refine W_nil ?_
          refine W_sr ?_
          refine W_move rfl rfl ?_
          have hn9 : x9.used.length = y.used.length - 1 + 1 := by rw [hnu, List.length_append, List.length_eraseIdx_of_lt hql]; rfl
          refine W_bin rfl rfl (b_add (m := (x9.used.length : Int)) (by rw [i64w (by omega)]; omega)) rfl ?_
          refine W_assign rfl rfl ?_
          refine W_nil ?_
          refine W_sr ?_
          refine W_move rfl rfl ?_
          refine W_callq (.cons rfl .nil) Tryz.call9 rfl (hX9.len (fun p hp => by repeat (first | exact List.mem_append_left _ hp | apply List.mem_cons_of_mem | apply List.mem_append_right))) ?_
          refine W_move rfl rfl ?_
          refine W_bin rfl rfl b_neq rfl ?_
          rw [decide_eq_false (by have := hX9.ok.ulen; omega)]
          refine W_move rfl rfl ?_
          refine W_gyes rfl rfl ?_
          refine W_move rfl rfl ?_
          refine W_gyes rfl rfl ?_
          refine W_callq (.cons rfl .nil) Tryz.call10 rfl (hX9.held (fun p hp => by repeat (first | exact List.mem_append_left _ hp | apply List.mem_cons_of_mem | apply List.mem_append_right))) ?_
          refine W_gyes rfl rfl ?_
          refine W_move rfl rfl ?_
          refine W_gyes rfl rfl ?_
          refine W_bin rfl rfl b_neq rfl ?_
          rw [decide_eq_false (by have h1 := hX9.ok.ulen; have h2 := hI9.cnt; omega)]
          first | refine W_pickt rfl rfl rfl ?_ | refine W_pickf rfl rfl rfl ?_
          refine W_nil ?_
          refine W_condF rfl rfl ?_
          refine W_skip ?_
          refine W_blk ?_
          refine W_region ?_
          refine W_move rfl rfl ?_
          refine W_bin rfl rfl (b_add (m := ((i + 1 : Nat) : Int)) ((i64w (by omega)).trans (by omega))) rfl ?_
          refine W_assign rfl rfl ?_
          refine W_nil ?_
          refine W_again ⟨i + 1, x9, HX9, a'⟩ ⟨by show i + 1 ≤ keys.length; omega, by show i + 1 ≤ 60; omega, hX9.up (by show _ ≤ 10 + 2 * (i + 1); omega), hI9, hal', hau'⟩ (by show keys.length - (i + 1) < keys.length - i; omega) (sub_cons rfl (sub_cons rfl (sub_cons rfl (sub_cons rfl (sub_cons rfl (sub_cons rfl (sub_cons rfl (sub_nil _)))))))) rfl zH
      · skip
        obtain ⟨q1, p1, rfl, hcf⟩ := hrf.at (i := i) (v := .bool true) (by rw [List.getElem?_map, hfg]; rfl)
        refine W_move rfl rfl ?_
        refine W_move rfl rfl ?_
        refine W_len rfl ty43 rfl rfl ?_
        refine W_bin rfl rfl b_lss rfl ?_
        rw [decide_eq_true (by have := (List.getElem?_eq_some_iff.1 hfg).1; omega)]
        refine W_move rfl rfl ?_
        refine W_gyes rfl rfl ?_
        refine W_move rfl rfl ?_
        refine W_gyes rfl rfl ?_
        refine W_move rfl rfl ?_
        refine W_gyes rfl rfl ?_
        refine W_indexAddr (j := i) rfl rfl ty43 ty4 rfl (by have := (List.getElem?_eq_some_iff.1 hfg).1; omega) rfl rfl ?_
        refine W_gyes rfl rfl ?_
        refine W_load (v := .bool true) rfl ty4 rfl (by rw [Nat.mul_one]; exact hcf.up zH) rfl ?_
        first | refine W_pickt rfl rfl rfl ?_ | refine W_pickf rfl rfl rfl ?_
        refine W_move rfl rfl ?_
        refine W_gyes rfl rfl ?_
        refine W_move rfl rfl ?_
        refine W_gyes rfl rfl ?_
        refine W_bin rfl rfl b_lss rfl ?_
        rw [decide_eq_true (by omega)]
        first | refine W_pickt rfl rfl rfl ?_ | refine W_pickf rfl rfl rfl ?_
        refine W_nil ?_
        refine W_condT rfl rfl ?_
        refine W_seq ?_
        refine W_sr ?_
        refine W_move rfl rfl ?_
        refine W_move rfl rfl ?_
        refine W_move rfl rfl ?_
        refine W_indexAddr (j := i) rfl rfl ty42 ty22 rfl (by have := (List.getElem?_eq_some_iff.1 hkey).1; omega) rfl rfl ?_
        refine W_load (v := .int .u64 key) rfl ty22 rfl (by rw [Nat.mul_one]; exact hck.up zH) rfl ?_
        refine W_call (.cons rfl (.cons rfl .nil)) Tryz.call17 rfl ((hY.find (by omega) (k := key) (H := (b9, .cells 44 60 ((a).map (Value.int .u64))) :: H)).hsub zH) ?_
        rintro v H' ⟨HX9, hX9, rfl, rfl⟩
        have hfe : y.find key = (y, zHd, 4) := by unfold Xm.find; rw [fndC_none.2 (fun hm => hno (hok.umem.2 hm))]
        rw [hfe] at hX9 ⊢
        replace hX9 : XmH _ _ y _ := hX9
        refine W_move rfl rfl ?_
        refine W_extract rfl rfl rfl ?_
        refine W_extract rfl rfl rfl ?_
        refine W_alloc (l := hdC zHd) ty29 rfl rfl (fun b14 => ?_)
        refine W_storeA (l' := hdC zHd) rfl rfl ty29 rfl rfl (b := b14) zM (by exact Nat.le_refl 2) rfl zU ?_
        refine W_assign rfl rfl ?_
        refine W_nil ?_
        refine W_sr ?_
        refine W_move rfl rfl ?_
        refine W_bin rfl rfl b_neq rfl ?_
        rw [decide_eq_false (by show ¬ (4 : Int) ≠ 4; decide)]
        refine W_nil ?_
        refine W_condF rfl rfl ?_
        refine W_skip ?_
        refine W_exit rfl ?_
        refine W_region ?_
        refine W_move rfl rfl ?_
        refine W_bin rfl rfl (b_add (m := ((i + 1 : Nat) : Int)) ((i64w (by omega)).trans (by omega))) rfl ?_
        refine W_assign rfl rfl ?_
        refine W_nil ?_
        refine W_again ⟨i + 1, y, HX9, a⟩ ⟨by show i + 1 ≤ keys.length; omega, by show i + 1 ≤ 60; omega, hX9.up (by show _ ≤ 10 + 2 * (i + 1); omega), hI.up (Nat.le_succ _), hal, hau⟩ (by show keys.length - (i + 1) < keys.length - i; omega) (sub_cons rfl (sub_cons rfl (sub_cons rfl (sub_cons rfl (sub_cons rfl (sub_cons rfl (sub_cons rfl (sub_nil _)))))))) rfl zH
      · skip
        obtain ⟨q1, p1, rfl, hcf⟩ := hrf.at (i := i) (v := .bool true) (by rw [List.getElem?_map, hfg]; rfl)
        have hql := (List.getElem?_eq_some_iff.1 hq).1
        have hkin := List.mem_of_getElem? hq
        refine W_move rfl rfl ?_
        refine W_move rfl rfl ?_
        refine W_len rfl ty43 rfl rfl ?_
        refine W_bin rfl rfl b_lss rfl ?_
        rw [decide_eq_true (by have := (List.getElem?_eq_some_iff.1 hfg).1; omega)]
        refine W_move rfl rfl ?_
        refine W_gyes rfl rfl ?_
        refine W_move rfl rfl ?_
        refine W_gyes rfl rfl ?_
        refine W_move rfl rfl ?_
        refine W_gyes rfl rfl ?_
        refine W_indexAddr (j := i) rfl rfl ty43 ty4 rfl (by have := (List.getElem?_eq_some_iff.1 hfg).1; omega) rfl rfl ?_
        refine W_gyes rfl rfl ?_
        refine W_load (v := .bool true) rfl ty4 rfl (by rw [Nat.mul_one]; exact hcf.up zH) rfl ?_
        first | refine W_pickt rfl rfl rfl ?_ | refine W_pickf rfl rfl rfl ?_
        refine W_move rfl rfl ?_
        refine W_gyes rfl rfl ?_
        refine W_move rfl rfl ?_
        refine W_gyes rfl rfl ?_
        refine W_bin rfl rfl b_lss rfl ?_
        rw [decide_eq_false (by omega)]
        first | refine W_pickt rfl rfl rfl ?_ | refine W_pickf rfl rfl rfl ?_
        refine W_nil ?_
        refine W_condF rfl rfl ?_
        refine W_skip ?_
        refine W_seq ?_
        refine W_sr ?_
        refine W_move rfl rfl ?_
        refine W_move rfl rfl ?_
        refine W_len rfl ty43 rfl rfl ?_
        refine W_bin rfl rfl b_lss rfl ?_
        rw [decide_eq_true (by have := (List.getElem?_eq_some_iff.1 hfg).1; omega)]
        refine W_move rfl rfl ?_
        refine W_gyes rfl rfl ?_
        refine W_move rfl rfl ?_
        refine W_gyes rfl rfl ?_
        refine W_move rfl rfl ?_
        refine W_gyes rfl rfl ?_
        refine W_indexAddr (j := i) rfl rfl ty43 ty4 rfl (by have := (List.getElem?_eq_some_iff.1 hfg).1; omega) rfl rfl ?_
        refine W_gyes rfl rfl ?_
        refine W_load (v := .bool true) rfl ty4 rfl (by rw [Nat.mul_one]; exact hcf.up zH) rfl ?_
        first | refine W_pickt rfl rfl rfl ?_ | refine W_pickf rfl rfl rfl ?_
        refine W_nil ?_
        refine W_condT rfl rfl ?_
        refine W_sr ?_
        refine W_move rfl rfl ?_
        refine W_move rfl rfl ?_
        refine W_move rfl rfl ?_
        refine W_indexAddr (j := i) rfl rfl ty42 ty22 rfl (by have := (List.getElem?_eq_some_iff.1 hkey).1; omega) rfl rfl ?_
        refine W_load (v := .int .u64 key) rfl ty22 rfl (by rw [Nat.mul_one]; exact hck.up zH) rfl ?_
        refine W_call (.cons rfl (.cons rfl .nil)) Tryz.call17 rfl ((hY.find (by omega) (k := key) (H := (b9, .cells 44 60 ((a).map (Value.int .u64))) :: H)).hsub zH) ?_
        rintro v H' ⟨HX9, hX9, rfl, rfl⟩
        obtain ⟨g, hg⟩ : ∃ g, fndC y.C key = some g := by
          cases hf : fndC y.C key with
          | none => exact absurd (hok.umem.1 hkin) (fndC_none.1 hf)
          | some g => exact ⟨g, rfl⟩
        have hfe : y.find key = (y.use key, g, 0) := by unfold Xm.find; rw [hg]
        rw [hfe] at hX9 ⊢
        obtain ⟨x9, hx9⟩ : ∃ x9, x9 = y.use key := ⟨_, rfl⟩
        replace hX9 : XmH _ _ (y.use key) _ := hX9
        rw [← hx9] at hX9
        have hI9 : OInv E (i + 1) x9 := by rw [hx9]; exact (hI.use key).up (Nat.le_succ _)
        have hnu : x9.used = y.used.eraseIdx q ++ [key] := by rw [hx9]; show drop1O y.used key ++ [key] = _; rw [drop1O_at hund hq]
        refine W_move rfl rfl ?_
        refine W_extract rfl rfl rfl ?_
        refine W_extract rfl rfl rfl ?_
        refine W_alloc (l := hdC zHd) ty29 rfl rfl (fun b16 => ?_)
        refine W_storeA (l' := hdC g) rfl rfl ty29 rfl rfl (b := b16) zM (by exact Nat.le_refl 2) rfl zU ?_
        refine W_assign rfl rfl ?_
        refine W_nil ?_
        refine W_sr ?_
        refine W_move rfl rfl ?_
        refine W_bin rfl rfl b_neq rfl ?_
        rw [decide_eq_false (by show ¬ (0 : Int) ≠ 0; decide)]
        refine W_nil ?_
        refine W_condF rfl rfl ?_
        refine W_skip ?_
        refine W_seq ?_
        refine W_sr ?_
        refine W_move rfl rfl ?_
        refine W_bin rfl rfl b_geq rfl ?_
        rw [decide_eq_true (by omega)]
        refine W_nil ?_
        refine W_condT rfl rfl ?_
        refine W_seq ?_
        refine W_sr ?_
        refine W_move rfl rfl ?_
        refine W_assign rfl rfl ?_
        refine W_nil ?_
        refine W_block ?_
        refine W_loopC (X := (Nat × List Int)) [(0, _), (1, _), (2, _), (7, _), (9, _), (10, _), (11, _)] (fun (x : (Nat × List Int)) => [(22, .int .i64 (x.1 : Int))]) (fun _ => _) (fun (x : (Nat × List Int)) => HX9 ++ ((b9, .cells 44 60 ((x.2).map (Value.int .u64))) :: H)) (fun (x : (Nat × List Int)) => q ≤ x.1 ∧ x.1 ≤ y.used.length - 1 ∧ ShAt a x.2 q x.1) (fun (x : (Nat × List Int)) => y.used.length - x.1) (q, a) ⟨Nat.le_refl _, by show q ≤ y.used.length - 1; omega, ShAt.start a q⟩ (sub_cons rfl (sub_cons rfl (sub_cons rfl (sub_cons rfl (sub_cons rfl (sub_cons rfl (sub_cons rfl (sub_nil _)))))))) (sub_cons rfl (sub_nil _)) rfl zH ?_
        rintro ⟨k, b⟩ ⟨hqk, hkl, hsh⟩
        dsimp only at hqk hkl hsh ⊢
        have hbl := hsh.1
        simp only [List.cons_append, List.nil_append]
        refine W_seq ?_
        refine W_sr ?_
        refine W_move rfl rfl ?_
        refine W_bin rfl rfl (b_add (m := ((k + 1 : Nat) : Int)) (by rw [i64w (by omega)]; omega)) rfl ?_
        refine W_move rfl rfl ?_
        refine W_bin rfl rfl b_lss rfl ?_
        refine W_nil ?_
        refine W_condPS (p := ((k + 1 : Nat) : Int) < (y.used.length : Int)) rfl (by simp) (fun q2 => ?_) (fun q2 => ?_)
        · skip
          refine W_skip ?_
          refine W_seq ?_
          refine W_block ?_
          refine W_region ?_
          obtain ⟨av, hav⟩ : ∃ av, b[k + 1]? = some av := ⟨_, List.getElem?_eq_getElem (by omega)⟩
          refine W_move rfl rfl ?_
          refine W_move rfl rfl ?_
          refine W_bin rfl rfl (b_add (m := ((k + 1 : Nat) : Int)) (by rw [i64w (by omega)]; omega)) rfl ?_
          refine W_indexAddrA (j := (k + 1)) rfl rfl ty44 ty22 (by first | rfl | omega) (by omega) rfl rfl ?_
          refine W_load (v := .int .u64 av) rfl ty22 rfl (Cell.own (b := b9) zM (by rw [Nat.zero_add, Nat.mul_one, List.getElem?_map, hav]; rfl)) rfl ?_
          refine W_indexAddrA (j := k) rfl rfl ty44 ty22 (by first | rfl | omega) (by omega) rfl rfl ?_
          refine W_store (l' := (b.set k av).map (Value.int .u64)) rfl rfl ty22 rfl rfl (b := b9) zM (by rw [Nat.zero_add, Nat.mul_one, List.length_map, Nat.blt_eq]; omega) (by rw [Nat.zero_add, Nat.mul_one, List.map_set]) zU ?_
          refine W_nil ?_
          refine W_blk ?_
          refine W_region ?_
          refine W_move rfl rfl ?_
          refine W_bin rfl rfl (b_add (m := ((k + 1 : Nat) : Int)) (by rw [i64w (by omega)]; omega)) rfl ?_
          refine W_assign rfl rfl ?_
          refine W_nil ?_
          refine W_again (k + 1, b.set k av) ⟨by show q ≤ k + 1; omega, by show k + 1 ≤ y.used.length - 1; omega, hsh.step hqk (by omega) (by rw [← hsh.next]; exact hav)⟩ (by show y.used.length - (k + 1) < y.used.length - k; omega) (sub_cons rfl (sub_cons rfl (sub_cons rfl (sub_cons rfl (sub_cons rfl (sub_cons rfl (sub_cons rfl (sub_cons rfl (sub_nil _))))))))) rfl zH
        · skip
          refine W_exit rfl ?_
          refine W_region ?_
          refine W_move rfl rfl ?_
          refine W_bin rfl rfl (b_sub (m := ((y.used.length - 1 : Nat) : Int)) (by rw [i64w (by omega)]; omega)) rfl ?_
          refine W_assign rfl rfl ?_
          refine W_nil ?_
          refine W_sr ?_
          refine W_move rfl rfl ?_
          refine W_move rfl rfl ?_
          refine W_move rfl rfl ?_
          refine W_indexAddr (j := i) rfl rfl ty42 ty22 rfl (by have := (List.getElem?_eq_some_iff.1 hkey).1; omega) rfl rfl ?_
          refine W_load (v := .int .u64 key) rfl ty22 rfl (by rw [Nat.mul_one]; exact hck.up zH) rfl ?_
          refine W_indexAddrA (j := (y.used.length - 1)) rfl rfl ty44 ty22 (by first | rfl | omega) (by omega) rfl rfl ?_
          obtain ⟨a', ha'⟩ : ∃ a', a' = b.set (y.used.length - 1) key := ⟨_, rfl⟩
          have hal' : a'.length = 60 := by rw [ha', List.length_set]; omega
          have hau' : a'.take x9.used.length = x9.used := by
            have hel : (y.used.eraseIdx q).length = y.used.length - 1 := List.length_eraseIdx_of_lt hql
            rw [hnu, ha', List.length_append, List.length_singleton, hel, show y.used.length - 1 + 1 = y.used.length by omega]
            exact ShAt.over (by rw [show y.used.length - 1 = k by omega]; exact hsh) rfl hql (by omega) hau
          refine W_store (l' := a'.map (Value.int .u64)) rfl rfl ty22 rfl rfl (b := b9) zM (by rw [Nat.zero_add, Nat.mul_one, List.length_map, Nat.blt_eq]; omega) (by rw [ha', Nat.zero_add, Nat.mul_one, List.map_set]) zU ?_
          refine W_nil ?_
          refine W_sr ?_
          refine W_move rfl rfl ?_
          have hn9 : x9.used.length = y.used.length - 1 + 1 := by rw [hnu, List.length_append, List.length_eraseIdx_of_lt hql]; rfl
          refine W_bin rfl rfl (b_add (m := (x9.used.length : Int)) (by rw [i64w (by omega)]; omega)) rfl ?_
          refine W_assign rfl rfl ?_
          refine W_nil ?_
          refine W_sr ?_
          refine W_move rfl rfl ?_
          refine W_callq (.cons rfl .nil) Tryz.call9 rfl (hX9.len (fun p hp => by repeat (first | exact List.mem_append_left _ hp | apply List.mem_cons_of_mem | apply List.mem_append_right))) ?_
          refine W_move rfl rfl ?_
          refine W_bin rfl rfl b_neq rfl ?_
          rw [decide_eq_false (by have := hX9.ok.ulen; omega)]
          refine W_move rfl rfl ?_
          refine W_gyes rfl rfl ?_
          refine W_move rfl rfl ?_
          refine W_gyes rfl rfl ?_
          refine W_callq (.cons rfl .nil) Tryz.call10 rfl (hX9.held (fun p hp => by repeat (first | exact List.mem_append_left _ hp | apply List.mem_cons_of_mem | apply List.mem_append_right))) ?_
          refine W_gyes rfl rfl ?_
          refine W_move rfl rfl ?_
          refine W_gyes rfl rfl ?_
          refine W_bin rfl rfl b_neq rfl ?_
          rw [decide_eq_false (by have h1 := hX9.ok.ulen; have h2 := hI9.cnt; omega)]
          first | refine W_pickt rfl rfl rfl ?_ | refine W_pickf rfl rfl rfl ?_
          refine W_nil ?_
          refine W_condF rfl rfl ?_
          refine W_skip ?_
          refine W_blk ?_
          refine W_region ?_
          refine W_move rfl rfl ?_
          refine W_bin rfl rfl (b_add (m := ((i + 1 : Nat) : Int)) ((i64w (by omega)).trans (by omega))) rfl ?_
          refine W_assign rfl rfl ?_
          refine W_nil ?_
          refine W_again ⟨i + 1, x9, HX9, a'⟩ ⟨by show i + 1 ≤ keys.length; omega, by show i + 1 ≤ 60; omega, hX9.up (by show _ ≤ 10 + 2 * (i + 1); omega), hI9, hal', hau'⟩ (by show keys.length - (i + 1) < keys.length - i; omega) (sub_cons rfl (sub_cons rfl (sub_cons rfl (sub_cons rfl (sub_cons rfl (sub_cons rfl (sub_cons rfl (sub_nil _)))))))) rfl zH
  · skip
    refine W_exit rfl ?_
    refine W_sr ?_
    refine W_callp .nil Tryz.call16 rfl hTab xknown_pure ?_
    refine W_assign rfl rfl ?_
    refine W_nil ?_
    refine W_ret1m (H2 := H) Tryz.results4 rfl (.nil _) zH ?_
    exact ⟨rfl, rfl⟩
theorem xmapOldest_pure {z : Int} {keys : List Int} {fl : List Bool} {adk adf : Option Addr} {capk capf : Nat} (huk : ∀ x ∈ keys, 0 ≤ x ∧ x ≤ 18446744073709551615) (hlk : keys.length ≤ 9223372036854775807) (hlf : fl.length ≤ 9223372036854775807) : Pure Tryz.prog (fun w => Tab w ∧ InRow w adk (keys.map (Value.int .u64)) ∧ InRow w adf (fl.map Value.bool)) 4 [.int .i64 z, .slice adk keys.length capk, .slice adf fl.length capf] (.bool true) := fun w0 H hT => xmapOldest_L huk (Holds.old hT.2.1) (Holds.old hT.2.2) hlk hlf hT.1
end Go.Proofs.YtphdlpmnidiliaaGreatDoor
