/-
  Own work: contracts of functions that the statement reaches, and plain facts on what they compute; each theorem says its conditions.
-/
import Derived.Test.YtcmfldfeakmdoaaGreatDoorTpT9
import Derived.Test.YtcmfldfeakmdoaaGreatDoorTpS2
import Derived.Test.YtcmfldfeakmdoaaGreatDoorTpA
set_option linter.all false
set_option linter.unusedSimpArgs false
set_option linter.unusedVariables false
set_option maxHeartbeats 16000000
namespace Go.Proofs.YtcmfldfeakmdoaaGreatDoor
open Go Go.Sl
attribute [local irreducible] W
set_option maxRecDepth 100000
theorem DmV.five {w0 : World} {HR : Heap} {n : Nat} {S : St} {Q Rs : List (Int × Int)} {As : List Tone} {cs : List Value} (h : DmV w0 HR n S Q Rs As cs) : ∃ u1 l1 c1 u1p l1p c1p u1q l1q c1q u1r l1r c1r, cs = [.slice u1 l1 c1, .int .i64 (n : Int), .slice u1p l1p c1p, .slice u1q l1q c1q, .slice u1r l1r c1r] := by
 obtain ⟨adb, capb, Ds, ad1, cap1, ad2, cap2, ad3, cap3, e, _⟩ := h
 exact ⟨_, _, _, _, _, _, _, _, _, _, _, _, e⟩
theorem stop_tok {T : Nat} {Ws : List Wl} {Q : List (Int × Int)} {As : List Tone} (h : TOk T Ws As) (id : Int) : TOk T (stopA Ws Q As id).1 As := by
 unfold stopA
 split
 ·split
  ·unfold stopM
   split
   ·exact ⟨h.bank.del _, h.starts⟩
   ·exact h
  ·exact h
 ·exact h
theorem init_tok {T : Nat} {Ws : List Wl} {As : List Tone} (h : TOk T Ws As) (id : Int) : TOk T Ws (onA initO As id).1 := h.onA (fun o => by unfold initO; split; rfl; split <;> rfl) id
theorem do_L {w0 : World} {H : Heap} {HR HB : Heap} {tb n T at_ : Nat} {Ws : List Wl} {Q Rs : List (Int × Int)} {As : List Tone} {cs : List Value} {a : Tct} (hT4 : TimerH tb n Ws Q Rs As HB) (hO : TOk T Ws As) (hTl : T ≤ 1000000) (hD : DmV w0 HR n (stW Ws) Q Rs As cs) (hHR : HSub H HR) (hat : a.at_ = (at_ : Int)) (hatm : at_ ≤ 18446744073709551615) (hT : Tab w0) : LCalls Tryz.prog w0 23 #[.pointer (some ⟨tb, 0, none⟩), .agg (List.toArray cs), .agg (List.toArray (tcC a))] (HB ++ H) (fun v H' => ∃ Ws' Q' Rs' As' HB' X cs', TimerH tb n Ws' Q' Rs' As' HB' ∧ TOk (T + 1) Ws' As' ∧ DmV w0 (X ++ HR) n (stW Ws') Q' Rs' As' cs' ∧ v = .tuple #[.agg (List.toArray cs'), .bool true] ∧ H' = HB' ++ (X ++ H)) := by
 have hdok := hT4.dok hO
 obtain ⟨u0, l0, c0, u0p, l0p, c0p, u0q, l0q, c0q, u0r, l0r, c0r, rfl⟩ := hD.five
 refine L_enter (l := [.pointer (some ⟨tb, 0, none⟩), .agg (List.toArray [.slice u0 l0 c0, .int .i64 (n : Int), .slice u0p l0p c0p, .slice u0q l0q c0q, .slice u0r l0r c0r]), .agg (List.toArray (tcC a))]) Tryz.func23 rfl Tryz.ntmps23 rfl rfl ?_
 refine W_sr ?_
 refine W_box (l := [.slice u0 l0 c0, .int .i64 (n : Int), .slice u0p l0p c0p, .slice u0q l0q c0q, .slice u0r l0r c0r]) rfl rfl rfl (fun b4 => ?_)
 refine W_box (l := tcC a) rfl rfl rfl (fun b5 => ?_)
 refine W_alloc (l := [.slice none 0 0, .int .i64 0, .slice none 0 0, .slice none 0 0, .slice none 0 0]) ty63 rfl rfl (fun b6 => ?_)
 refine W_assign rfl rfl ?_
 refine W_nil (W_seq (W_sr ?_))
 refine W_fieldAddr rfl fld45_0 zd rfl ?_
 refine W_load (v := .int .i64 a.kind) rfl ty3 rfl (Cell.own (b := b5) zM rfl) rfl ?_
 refine W_conv rfl ty3 ty22 rfl rfl ?_
 obtain ⟨kd, hkd, hremk⟩ := modW_is a.kind (N := 10) zd
 refine W_bin rfl rfl (b_rem zd (m := (kd : Int)) hremk) rfl ?_
 refine W_nil (W_block (W_sr ?_))
 refine W_bin rfl rfl b_eql rfl ?_
 refine W_assign rfl rfl ?_
 refine W_nil ?_
 refine W_condPS (p := kd = 0) rfl (by rw [decide_eq_true_eq]; omega) (fun q0 => ?_) (fun q0 => ?_)
 ·skip
  refine W_sr ?_
  refine W_loadB (vs := [.slice u0 l0 c0, .int .i64 (n : Int), .slice u0p l0p c0p, .slice u0q l0q c0q, .slice u0r l0r c0r]) rfl ty63 rfl (b := b4) zM rfl rfl rfl ?_
  refine W_fieldAddr rfl fld45_1 zd rfl ?_
  refine W_load (v := .int .i64 a.id) rfl ty3 rfl (Cell.own (b := b5) zM rfl) rfl ?_
  refine W_call (.cons rfl (.cons rfl .nil)) Tryz.call57 rfl (LCalls.hsub (dmInit_L (id := a.id) hD ((show HSub _ H from zH).trans hHR) hdok  (H := (b4, .cells 63 5 [.slice u0 l0 c0, .int .i64 (n : Int), .slice u0p l0p c0p, .slice u0q l0q c0q, .slice u0r l0r c0r]) :: (b5, .cells 45 5 (tcC a)) :: (b6, .cells 63 5 [.slice none 0 0, .int .i64 0, .slice none 0 0, .slice none 0 0, .slice none 0 0]) :: (HB ++ H))) zH) ?_
  rintro v H' ⟨cs1, X1, rfl, hD1, rfl⟩
  have hD2 := hD1
  obtain ⟨u1, l1, c1, u1p, l1p, c1p, u1q, l1q, c1q, u1r, l1r, c1r, rfl⟩ := hD1.five
  refine W_move rfl rfl ?_
  refine W_extract rfl rfl rfl ?_
  refine W_extract rfl rfl rfl ?_
  refine W_alloc (l := [.slice none 0 0, .int .i64 0, .slice none 0 0, .slice none 0 0, .slice none 0 0]) ty63 rfl rfl (fun b8 => ?_)
  refine W_storeA (l' := [.slice u1 l1 c1, .int .i64 (n : Int), .slice u1p l1p c1p, .slice u1q l1q c1q, .slice u1r l1r c1r]) rfl rfl ty63 rfl rfl (b := b8) zM (by exact Nat.le_refl 5) rfl zU ?_
  refine W_assign rfl rfl ?_
  refine W_nil (W_seq ?_)
  refine W_anyC [(b8, .cells 63 5 [.slice u1 l1 c1, .int .i64 (n : Int), .slice u1p l1p c1p, .slice u1q l1q c1q, .slice u1r l1r c1r]), (b5, .cells 45 5 (tcC a))] zk ?_
  refine WC_take 0 (l' := #[true, false, false, false, false, false, false, false, false]) rfl zK zK zK rfl zK (X_loadB (vs := [.slice u1 l1 c1, .int .i64 (n : Int), .slice u1p l1p c1p, .slice u1q l1q c1q, .slice u1r l1r c1r]) rfl ty63 rfl (b := b8) zM rfl rfl) rfl ?_
  refine WC_take 1 (l' := #[true, true, false, false, false, false, false, false, false]) rfl zK zK zK rfl zK (X_move rfl) rfl ?_
  refine WC_take 2 (l' := #[true, true, true, false, false, false, false, false, false]) rfl zK zK zK rfl zK (X_fieldAddr rfl fld45_1 zd) rfl ?_
  refine WC_take 3 (l' := #[true, true, true, true, false, false, false, false, false]) rfl zK zK zK rfl zK (X_load (v := .int .i64 a.id) rfl ty3 rfl (Cell.own (b := b5) zM rfl)) rfl ?_
  refine WC_take 5 (l' := #[true, true, true, true, false, true, false, false, false]) rfl zK zK zK rfl zK (X_move rfl) rfl ?_
  refine WC_one 4 (l' := #[true, true, true, true, true, true, false, false, false]) zH zK rfl zK ?_
  refine W_call (.cons rfl (.cons rfl .nil)) Tryz.call9 rfl ((Init_L hT4 (id := a.id) (H := (b8, .cells 63 5 [.slice u1 l1 c1, .int .i64 (n : Int), .slice u1p l1p c1p, .slice u1q l1q c1q, .slice u1r l1r c1r]) :: (b4, .cells 63 5 [.slice u0 l0 c0, .int .i64 (n : Int), .slice u0p l0p c0p, .slice u0q l0q c0q, .slice u0r l0r c0r]) :: (b5, .cells 45 5 (tcC a)) :: (b6, .cells 63 5 [.slice none 0 0, .int .i64 0, .slice none 0 0, .slice none 0 0, .slice none 0 0]) :: (X1 ++ H))).hsub zH) ?_
  rintro v H' ⟨HB5, hT5, rfl, rfl⟩
  refine W_nil ?_
  refine WC_goal ?_
  refine WC_take 6 (l' := #[true, true, true, true, true, true, true, false, false]) rfl zK zK zK rfl zK (X_bin rfl rfl b_eql) rfl ?_
  rw [decide_eq_true rfl]
  refine WC_one 7 (l' := #[true, true, true, true, true, true, true, true, false]) zH zK rfl zK ?_
  refine W_storeA (l' := [.slice u1 l1 c1, .int .i64 (n : Int), .slice u1p l1p c1p, .slice u1q l1q c1q, .slice u1r l1r c1r]) rfl rfl ty63 rfl rfl (b := b6) zM (by exact Nat.le_refl 5) rfl zU ?_
  refine W_nil ?_
  refine WC_goal ?_
  refine WC_take 8 (l' := #[true, true, true, true, true, true, true, true, true]) rfl zK zK zK rfl zK (X_assign rfl) rfl ?_
  refine WC_done zH zK ?_
  refine W_ret2G (H2 := HB5 ++ (X1 ++ H)) Tryz.results23 (.nil _) (.own rfl ty63 rfl zM rfl) (.tmp rfl) zH ?_
  exact ⟨_, _, _, _, HB5, X1, _, hT5, (init_tok hO _).up (Nat.le_succ _), hD1, rfl, rfl⟩
 ·skip
  refine W_sr ?_
  refine W_bin rfl rfl b_eql rfl ?_
  refine W_assign rfl rfl ?_
  refine W_nil ?_
  refine W_condPS (p := kd = 1) rfl (by rw [decide_eq_true_eq]; omega) (fun q1 => ?_) (fun q1 => ?_)
  ·skip
   refine W_sr ?_
   refine W_loadB (vs := [.slice u0 l0 c0, .int .i64 (n : Int), .slice u0p l0p c0p, .slice u0q l0q c0q, .slice u0r l0r c0r]) rfl ty63 rfl (b := b4) zM rfl rfl rfl ?_
   refine W_fieldAddr rfl fld45_1 zd rfl ?_
   refine W_load (v := .int .i64 a.id) rfl ty3 rfl (Cell.own (b := b5) zM rfl) rfl ?_
   refine W_fieldAddr rfl fld45_3 zd rfl ?_
   refine W_load (v := .int .i64 a.n) rfl ty3 rfl (Cell.own (b := b5) zM rfl) rfl ?_
   refine W_call (.cons rfl (.cons rfl (.cons rfl .nil))) Tryz.call58 rfl (LCalls.hsub (dmSet_L (id := a.id) (prog := a.n) hD ((show HSub _ H from zH).trans hHR) hdok  (H := (b4, .cells 63 5 [.slice u0 l0 c0, .int .i64 (n : Int), .slice u0p l0p c0p, .slice u0q l0q c0q, .slice u0r l0r c0r]) :: (b5, .cells 45 5 (tcC a)) :: (b6, .cells 63 5 [.slice none 0 0, .int .i64 0, .slice none 0 0, .slice none 0 0, .slice none 0 0]) :: (HB ++ H))) zH) ?_
   rintro v H' ⟨cs1, X1, rfl, hD1, rfl⟩
   have hD2 := hD1
   obtain ⟨u1, l1, c1, u1p, l1p, c1p, u1q, l1q, c1q, u1r, l1r, c1r, rfl⟩ := hD1.five
   refine W_move rfl rfl ?_
   refine W_extract rfl rfl rfl ?_
   refine W_extract rfl rfl rfl ?_
   refine W_alloc (l := [.slice none 0 0, .int .i64 0, .slice none 0 0, .slice none 0 0, .slice none 0 0]) ty63 rfl rfl (fun b10 => ?_)
   refine W_storeA (l' := [.slice u1 l1 c1, .int .i64 (n : Int), .slice u1p l1p c1p, .slice u1q l1q c1q, .slice u1r l1r c1r]) rfl rfl ty63 rfl rfl (b := b10) zM (by exact Nat.le_refl 5) rfl zU ?_
   refine W_assign rfl rfl ?_
   refine W_nil (W_seq ?_)
   refine W_anyC [(b10, .cells 63 5 [.slice u1 l1 c1, .int .i64 (n : Int), .slice u1p l1p c1p, .slice u1q l1q c1q, .slice u1r l1r c1r]), (b5, .cells 45 5 (tcC a))] zk ?_
   refine WC_take 0 (l' := #[true, false, false, false, false, false, false, false, false, false, false]) rfl zK zK zK rfl zK (X_loadB (vs := [.slice u1 l1 c1, .int .i64 (n : Int), .slice u1p l1p c1p, .slice u1q l1q c1q, .slice u1r l1r c1r]) rfl ty63 rfl (b := b10) zM rfl rfl) rfl ?_
   refine WC_take 1 (l' := #[true, true, false, false, false, false, false, false, false, false, false]) rfl zK zK zK rfl zK (X_move rfl) rfl ?_
   refine WC_take 2 (l' := #[true, true, true, false, false, false, false, false, false, false, false]) rfl zK zK zK rfl zK (X_fieldAddr rfl fld45_1 zd) rfl ?_
   refine WC_take 3 (l' := #[true, true, true, true, false, false, false, false, false, false, false]) rfl zK zK zK rfl zK (X_load (v := .int .i64 a.id) rfl ty3 rfl (Cell.own (b := b5) zM rfl)) rfl ?_
   refine WC_take 4 (l' := #[true, true, true, true, true, false, false, false, false, false, false]) rfl zK zK zK rfl zK (X_fieldAddr rfl fld45_3 zd) rfl ?_
   refine WC_take 5 (l' := #[true, true, true, true, true, true, false, false, false, false, false]) rfl zK zK zK rfl zK (X_load (v := .int .i64 a.n) rfl ty3 rfl (Cell.own (b := b5) zM rfl)) rfl ?_
   refine WC_take 7 (l' := #[true, true, true, true, true, true, false, true, false, false, false]) rfl zK zK zK rfl zK (X_move rfl) rfl ?_
   refine WC_one 6 (l' := #[true, true, true, true, true, true, true, true, false, false, false]) zH zK rfl zK ?_
   refine W_call (.cons rfl (.cons rfl (.cons rfl .nil))) Tryz.call10 rfl ((Set_L hT4 (id := a.id) (prog := a.n) (H := (b10, .cells 63 5 [.slice u1 l1 c1, .int .i64 (n : Int), .slice u1p l1p c1p, .slice u1q l1q c1q, .slice u1r l1r c1r]) :: (b4, .cells 63 5 [.slice u0 l0 c0, .int .i64 (n : Int), .slice u0p l0p c0p, .slice u0q l0q c0q, .slice u0r l0r c0r]) :: (b5, .cells 45 5 (tcC a)) :: (b6, .cells 63 5 [.slice none 0 0, .int .i64 0, .slice none 0 0, .slice none 0 0, .slice none 0 0]) :: (X1 ++ H))).hsub zH) ?_
   rintro v H' ⟨HB5, hT5, rfl, rfl⟩
   refine W_nil ?_
   refine WC_goal ?_
   refine WC_take 8 (l' := #[true, true, true, true, true, true, true, true, true, false, false]) rfl zK zK zK rfl zK (X_bin rfl rfl b_eql) rfl ?_
   rw [decide_eq_true rfl]
   refine WC_one 9 (l' := #[true, true, true, true, true, true, true, true, true, true, false]) zH zK rfl zK ?_
   refine W_storeA (l' := [.slice u1 l1 c1, .int .i64 (n : Int), .slice u1p l1p c1p, .slice u1q l1q c1q, .slice u1r l1r c1r]) rfl rfl ty63 rfl rfl (b := b6) zM (by exact Nat.le_refl 5) rfl zU ?_
   refine W_nil ?_
   refine WC_goal ?_
   refine WC_take 10 (l' := #[true, true, true, true, true, true, true, true, true, true, true]) rfl zK zK zK rfl zK (X_assign rfl) rfl ?_
   refine WC_done zH zK ?_
   refine W_ret2G (H2 := HB5 ++ (X1 ++ H)) Tryz.results23 (.nil _) (.own rfl ty63 rfl zM rfl) (.tmp rfl) zH ?_
   exact ⟨_, _, _, _, HB5, X1, _, hT5, (hO.setA _ _).up (Nat.le_succ _), hD1, rfl, rfl⟩
  ·skip
   refine W_seq (W_sr ?_)
   refine W_bin rfl rfl b_eql rfl ?_
   refine W_assign rfl rfl ?_
   refine W_nil ?_
   refine W_condPS (p := kd = 2) rfl (by rw [decide_eq_true_eq]; omega) (fun q2 => ?_) (fun q2 => ?_)
   ·skip
    refine W_skip ?_
    refine W_condT rfl rfl ?_
    refine W_sr ?_
    refine W_loadB (vs := [.slice u0 l0 c0, .int .i64 (n : Int), .slice u0p l0p c0p, .slice u0q l0q c0q, .slice u0r l0r c0r]) rfl ty63 rfl (b := b4) zM rfl rfl rfl ?_
    refine W_fieldAddr rfl fld45_1 zd rfl ?_
    refine W_load (v := .int .i64 a.id) rfl ty3 rfl (Cell.own (b := b5) zM rfl) rfl ?_
    refine W_fieldAddr rfl fld45_2 zd rfl ?_
    refine W_load (v := .int .i64 a.cpu) rfl ty3 rfl (Cell.own (b := b5) zM rfl) rfl ?_
    refine W_fieldAddr rfl fld45_4 zd rfl ?_
    refine W_load (v := .int .u64 ((at_ : Nat) : Int)) rfl ty22 rfl (Cell.own (b := b5) zM (by show some (Value.int .u64 a.at_) = _; rw [hat])) rfl ?_
    refine W_call (.cons rfl (.cons rfl (.cons rfl (.cons rfl .nil)))) Tryz.call59 rfl (LCalls.hsub (dmStart_L (tn := turnOf Ws a.cpu) (id := a.id) (cpu := a.cpu) (a := at_) hD ((show HSub _ H from zH).trans hHR) hdok hatm (fun o ho => by have := hO.starts o ho; omega) (H := (b4, .cells 63 5 [.slice u0 l0 c0, .int .i64 (n : Int), .slice u0p l0p c0p, .slice u0q l0q c0q, .slice u0r l0r c0r]) :: (b5, .cells 45 5 (tcC a)) :: (b6, .cells 63 5 [.slice none 0 0, .int .i64 0, .slice none 0 0, .slice none 0 0, .slice none 0 0]) :: (HB ++ H))) zH) ?_
    rintro v H' ⟨cs1, X1, rfl, hD1, rfl⟩
    rcases hsr : startR (stW Ws) Q As (turnOf Ws a.cpu) a.id a.cpu at_ with ⟨S1, Q1, A1, s1, e1⟩
    rw [hsr] at hD1
    dsimp only at hD1 ⊢
    have hD2 := hD1
    obtain ⟨u1, l1, c1, u1p, l1p, c1p, u1q, l1q, c1q, u1r, l1r, c1r, rfl⟩ := hD1.five
    refine W_move rfl rfl ?_
    refine W_extract rfl rfl rfl ?_
    refine W_extract rfl rfl rfl ?_
    refine W_extract rfl rfl rfl ?_
    refine W_alloc (l := [.slice none 0 0, .int .i64 0, .slice none 0 0, .slice none 0 0, .slice none 0 0]) ty63 rfl rfl (fun b12 => ?_)
    refine W_alloc (l := zSpot.v) ty70 rfl rfl (fun b13 => ?_)
    refine W_storeA (l' := [.slice u1 l1 c1, .int .i64 (n : Int), .slice u1p l1p c1p, .slice u1q l1q c1q, .slice u1r l1r c1r]) rfl rfl ty63 rfl rfl (b := b12) zM (by exact Nat.le_refl 5) rfl zU ?_
    refine W_storeA (l' := s1.v) rfl rfl ty70 rfl rfl (b := b13) zM (by exact Nat.le_refl 4) rfl zU ?_
    refine W_assign rfl rfl ?_
    refine W_nil (W_sr ?_)
    refine W_move rfl rfl ?_
    refine W_fieldAddr rfl fld45_1 zd rfl ?_
    refine W_load (v := .int .i64 a.id) rfl ty3 rfl (Cell.own (b := b5) zM rfl) rfl ?_
    refine W_fieldAddr rfl fld45_2 zd rfl ?_
    refine W_load (v := .int .i64 a.cpu) rfl ty3 rfl (Cell.own (b := b5) zM rfl) rfl ?_
    refine W_fieldAddr rfl fld45_4 zd rfl ?_
    refine W_load (v := .int .u64 ((at_ : Nat) : Int)) rfl ty22 rfl (Cell.own (b := b5) zM (by show some (Value.int .u64 a.at_) = _; rw [hat])) rfl ?_
    refine W_call (.cons rfl (.cons rfl (.cons rfl (.cons rfl .nil)))) Tryz.call11 rfl ((Start_L hT4 hO hTl (id := a.id) (cpu := a.cpu) (a := at_) hatm (H := (b12, .cells 63 5 [.slice u1 l1 c1, .int .i64 (n : Int), .slice u1p l1p c1p, .slice u1q l1q c1q, .slice u1r l1r c1r]) :: (b13, .cells 70 4 s1.v) :: (b4, .cells 63 5 [.slice u0 l0 c0, .int .i64 (n : Int), .slice u0p l0p c0p, .slice u0q l0q c0q, .slice u0r l0r c0r]) :: (b5, .cells 45 5 (tcC a)) :: (b6, .cells 63 5 [.slice none 0 0, .int .i64 0, .slice none 0 0, .slice none 0 0, .slice none 0 0]) :: (X1 ++ H))).hsub zH) ?_
    rintro v H' ⟨W5, Q5, A5, s5, e5, HB5, hS5, hT5, hO5, rfl, rfl⟩
    have hfn := hS5.fn hT4.len.1 hT4.as hO.bank.uni hT4.rng
    rw [hsr] at hfn
    obtain ⟨rfl, hfn2⟩ := Prod.mk.inj hfn
    obtain ⟨rfl, hfn3⟩ := Prod.mk.inj hfn2
    obtain ⟨rfl, hfn4⟩ := Prod.mk.inj hfn3
    obtain ⟨rfl, rfl⟩ := Prod.mk.inj hfn4
    refine W_move rfl rfl ?_
    refine W_extract rfl rfl rfl ?_
    refine W_extract rfl rfl rfl ?_
    refine W_alloc (l := zSpot.v) ty32 rfl rfl (fun b15 => ?_)
    refine W_storeA (l' := s1.v) rfl rfl ty32 rfl rfl (b := b15) zM (by exact Nat.le_refl 4) rfl zU ?_
    refine W_assign rfl rfl ?_
    refine W_nil (W_seq ?_)
    refine W_anyC [(b12, .cells 63 5 [.slice u1 l1 c1, .int .i64 (n : Int), .slice u1p l1p c1p, .slice u1q l1q c1q, .slice u1r l1r c1r]), (b13, .cells 70 4 s1.v), (b15, .cells 32 4 s1.v)] zk ?_
    refine WC_take 0 (l' := #[true, false, false, false, false, false, false, false, false, false, false, false]) rfl zK zK zK rfl zK (X_loadB (vs := [.slice u1 l1 c1, .int .i64 (n : Int), .slice u1p l1p c1p, .slice u1q l1q c1q, .slice u1r l1r c1r]) rfl ty63 rfl (b := b12) zM rfl rfl) rfl ?_
    refine WC_take 1 (l' := #[true, true, false, false, false, false, false, false, false, false, false, false]) rfl zK zK zK rfl zK (X_move rfl) rfl ?_
    refine WC_take 2 (l' := #[true, true, true, false, false, false, false, false, false, false, false, false]) rfl zK zK zK rfl zK (X_move rfl) rfl ?_
    refine WC_take 3 (l' := #[true, true, true, true, false, false, false, false, false, false, false, false]) rfl zK zK zK rfl zK (X_bin rfl rfl b_eql) rfl ?_
    rw [decide_eq_true rfl]
    refine WC_take 4 (l' := #[true, true, true, true, true, false, false, false, false, false, false, false]) rfl zK zK zK rfl zK (X_move rfl) rfl ?_
    refine WC_gyes 5 (l' := #[true, true, true, true, true, true, false, false, false, false, false, false]) rfl zK zK zK rfl zK rfl rfl (X_loadB (vs := s1.v) rfl ty32 rfl (b := b15) zM rfl rfl) rfl ?_
    refine WC_gyes 7 (l' := #[true, true, true, true, true, true, false, true, false, false, false, false]) rfl zK zK zK rfl zK rfl rfl (X_loadB (vs := s1.v) rfl ty70 rfl (b := b13) zM rfl rfl) rfl ?_
    refine WC_one 6 (l' := #[true, true, true, true, true, true, true, true, false, false, false, false]) zH zK rfl zK ?_
    refine W_gyes rfl rfl ?_
    refine W_callp (.cons rfl .nil) Tryz.call31 rfl (T := fun _ => True) trivial rOfS_pure ?_
    refine W_nil ?_
    refine WC_goal ?_
    refine WC_gyes 8 (l' := #[true, true, true, true, true, true, true, true, true, false, false, false]) rfl zK zK zK rfl zK rfl rfl (X_eqA rfl rfl ty70 zk zk (.cons zd ty3 rfl rfl rfl (eqv_int ty3) (.cons zd ty3 rfl rfl rfl (eqv_int ty3) (.cons zd ty22 rfl rfl rfl (eqv_int ty22) (.cons zd ty22 rfl rfl rfl (eqv_int ty22) .nil))))) rfl ?_
    try simp only [eq_self, decide_true, Bool.and_true]
    first | refine WC_take 9 (l' := #[true, true, true, true, true, true, true, true, true, true, false, false]) rfl zK zK zK rfl zK (X_pickt rfl rfl) rfl ?_ | refine WC_take 9 (l' := #[true, true, true, true, true, true, true, true, true, true, false, false]) rfl zK zK zK rfl zK (X_pickf rfl rfl) rfl ?_
    refine WC_one 10 (l' := #[true, true, true, true, true, true, true, true, true, true, true, false]) zH zK rfl zK ?_
    refine W_storeA (l' := [.slice u1 l1 c1, .int .i64 (n : Int), .slice u1p l1p c1p, .slice u1q l1q c1q, .slice u1r l1r c1r]) rfl rfl ty63 rfl rfl (b := b6) zM (by exact Nat.le_refl 5) rfl zU ?_
    refine W_nil ?_
    refine WC_goal ?_
    refine WC_take 11 (l' := #[true, true, true, true, true, true, true, true, true, true, true, true]) rfl zK zK zK rfl zK (X_assign rfl) rfl ?_
    refine WC_done zH zK ?_
    refine W_ret2G (H2 := HB5 ++ (X1 ++ H)) Tryz.results23 (.nil _) (.own rfl ty63 rfl zM rfl) (.tmp rfl) zH ?_
    exact ⟨_, _, _, _, HB5, X1, _, hT5, hO5, hD1, rfl, rfl⟩
   ·skip
    refine W_region ?_
    refine W_bin rfl rfl b_eql rfl ?_
    refine W_assign rfl rfl ?_
    refine W_nil ?_
    refine W_condPS (p := kd = 3) rfl (by rw [decide_eq_true_eq]; omega) (fun q3 => ?_) (fun q3 => ?_)
    ·skip
     refine W_sr ?_
     refine W_loadB (vs := [.slice u0 l0 c0, .int .i64 (n : Int), .slice u0p l0p c0p, .slice u0q l0q c0q, .slice u0r l0r c0r]) rfl ty63 rfl (b := b4) zM rfl rfl rfl ?_
     refine W_fieldAddr rfl fld45_1 zd rfl ?_
     refine W_load (v := .int .i64 a.id) rfl ty3 rfl (Cell.own (b := b5) zM rfl) rfl ?_
     refine W_fieldAddr rfl fld45_2 zd rfl ?_
     refine W_load (v := .int .i64 a.cpu) rfl ty3 rfl (Cell.own (b := b5) zM rfl) rfl ?_
     refine W_fieldAddr rfl fld45_4 zd rfl ?_
     refine W_load (v := .int .u64 ((at_ : Nat) : Int)) rfl ty22 rfl (Cell.own (b := b5) zM (by show some (Value.int .u64 a.at_) = _; rw [hat])) rfl ?_
     refine W_call (.cons rfl (.cons rfl (.cons rfl (.cons rfl .nil)))) Tryz.call59 rfl (LCalls.hsub (dmStart_L (tn := turnOf Ws a.cpu) (id := a.id) (cpu := a.cpu) (a := at_) hD ((show HSub _ H from zH).trans hHR) hdok hatm (fun o ho => by have := hO.starts o ho; omega) (H := (b4, .cells 63 5 [.slice u0 l0 c0, .int .i64 (n : Int), .slice u0p l0p c0p, .slice u0q l0q c0q, .slice u0r l0r c0r]) :: (b5, .cells 45 5 (tcC a)) :: (b6, .cells 63 5 [.slice none 0 0, .int .i64 0, .slice none 0 0, .slice none 0 0, .slice none 0 0]) :: (HB ++ H))) zH) ?_
     rintro v H' ⟨cs1, X1, rfl, hD1, rfl⟩
     rcases hsr : startR (stW Ws) Q As (turnOf Ws a.cpu) a.id a.cpu at_ with ⟨S1, Q1, A1, s1, e1⟩
     rw [hsr] at hD1
     dsimp only at hD1 ⊢
     have hD2 := hD1
     obtain ⟨u1, l1, c1, u1p, l1p, c1p, u1q, l1q, c1q, u1r, l1r, c1r, rfl⟩ := hD1.five
     refine W_move rfl rfl ?_
     refine W_extract rfl rfl rfl ?_
     refine W_extract rfl rfl rfl ?_
     refine W_extract rfl rfl rfl ?_
     refine W_alloc (l := [.slice none 0 0, .int .i64 0, .slice none 0 0, .slice none 0 0, .slice none 0 0]) ty63 rfl rfl (fun b12 => ?_)
     refine W_alloc (l := zSpot.v) ty70 rfl rfl (fun b13 => ?_)
     refine W_storeA (l' := [.slice u1 l1 c1, .int .i64 (n : Int), .slice u1p l1p c1p, .slice u1q l1q c1q, .slice u1r l1r c1r]) rfl rfl ty63 rfl rfl (b := b12) zM (by exact Nat.le_refl 5) rfl zU ?_
     refine W_storeA (l' := s1.v) rfl rfl ty70 rfl rfl (b := b13) zM (by exact Nat.le_refl 4) rfl zU ?_
     refine W_assign rfl rfl ?_
     refine W_nil (W_sr ?_)
     refine W_move rfl rfl ?_
     refine W_fieldAddr rfl fld45_1 zd rfl ?_
     refine W_load (v := .int .i64 a.id) rfl ty3 rfl (Cell.own (b := b5) zM rfl) rfl ?_
     refine W_fieldAddr rfl fld45_2 zd rfl ?_
     refine W_load (v := .int .i64 a.cpu) rfl ty3 rfl (Cell.own (b := b5) zM rfl) rfl ?_
     refine W_fieldAddr rfl fld45_4 zd rfl ?_
     refine W_load (v := .int .u64 ((at_ : Nat) : Int)) rfl ty22 rfl (Cell.own (b := b5) zM (by show some (Value.int .u64 a.at_) = _; rw [hat])) rfl ?_
     refine W_call (.cons rfl (.cons rfl (.cons rfl (.cons rfl .nil)))) Tryz.call11 rfl ((Start_L hT4 hO hTl (id := a.id) (cpu := a.cpu) (a := at_) hatm (H := (b12, .cells 63 5 [.slice u1 l1 c1, .int .i64 (n : Int), .slice u1p l1p c1p, .slice u1q l1q c1q, .slice u1r l1r c1r]) :: (b13, .cells 70 4 s1.v) :: (b4, .cells 63 5 [.slice u0 l0 c0, .int .i64 (n : Int), .slice u0p l0p c0p, .slice u0q l0q c0q, .slice u0r l0r c0r]) :: (b5, .cells 45 5 (tcC a)) :: (b6, .cells 63 5 [.slice none 0 0, .int .i64 0, .slice none 0 0, .slice none 0 0, .slice none 0 0]) :: (X1 ++ H))).hsub zH) ?_
     rintro v H' ⟨W5, Q5, A5, s5, e5, HB5, hS5, hT5, hO5, rfl, rfl⟩
     have hfn := hS5.fn hT4.len.1 hT4.as hO.bank.uni hT4.rng
     rw [hsr] at hfn
     obtain ⟨rfl, hfn2⟩ := Prod.mk.inj hfn
     obtain ⟨rfl, hfn3⟩ := Prod.mk.inj hfn2
     obtain ⟨rfl, hfn4⟩ := Prod.mk.inj hfn3
     obtain ⟨rfl, rfl⟩ := Prod.mk.inj hfn4
     refine W_move rfl rfl ?_
     refine W_extract rfl rfl rfl ?_
     refine W_extract rfl rfl rfl ?_
     refine W_alloc (l := zSpot.v) ty32 rfl rfl (fun b15 => ?_)
     refine W_storeA (l' := s1.v) rfl rfl ty32 rfl rfl (b := b15) zM (by exact Nat.le_refl 4) rfl zU ?_
     refine W_assign rfl rfl ?_
     refine W_nil (W_seq ?_)
     refine W_anyC [(b12, .cells 63 5 [.slice u1 l1 c1, .int .i64 (n : Int), .slice u1p l1p c1p, .slice u1q l1q c1q, .slice u1r l1r c1r]), (b13, .cells 70 4 s1.v), (b15, .cells 32 4 s1.v)] zk ?_
     refine WC_take 0 (l' := #[true, false, false, false, false, false, false, false, false, false, false, false]) rfl zK zK zK rfl zK (X_loadB (vs := [.slice u1 l1 c1, .int .i64 (n : Int), .slice u1p l1p c1p, .slice u1q l1q c1q, .slice u1r l1r c1r]) rfl ty63 rfl (b := b12) zM rfl rfl) rfl ?_
     refine WC_take 1 (l' := #[true, true, false, false, false, false, false, false, false, false, false, false]) rfl zK zK zK rfl zK (X_move rfl) rfl ?_
     refine WC_take 2 (l' := #[true, true, true, false, false, false, false, false, false, false, false, false]) rfl zK zK zK rfl zK (X_move rfl) rfl ?_
     refine WC_take 3 (l' := #[true, true, true, true, false, false, false, false, false, false, false, false]) rfl zK zK zK rfl zK (X_bin rfl rfl b_eql) rfl ?_
     rw [decide_eq_true rfl]
     refine WC_take 4 (l' := #[true, true, true, true, true, false, false, false, false, false, false, false]) rfl zK zK zK rfl zK (X_move rfl) rfl ?_
     refine WC_gyes 5 (l' := #[true, true, true, true, true, true, false, false, false, false, false, false]) rfl zK zK zK rfl zK rfl rfl (X_loadB (vs := s1.v) rfl ty32 rfl (b := b15) zM rfl rfl) rfl ?_
     refine WC_gyes 7 (l' := #[true, true, true, true, true, true, false, true, false, false, false, false]) rfl zK zK zK rfl zK rfl rfl (X_loadB (vs := s1.v) rfl ty70 rfl (b := b13) zM rfl rfl) rfl ?_
     refine WC_one 6 (l' := #[true, true, true, true, true, true, true, true, false, false, false, false]) zH zK rfl zK ?_
     refine W_gyes rfl rfl ?_
     refine W_callp (.cons rfl .nil) Tryz.call31 rfl (T := fun _ => True) trivial rOfS_pure ?_
     refine W_nil ?_
     refine WC_goal ?_
     refine WC_gyes 8 (l' := #[true, true, true, true, true, true, true, true, true, false, false, false]) rfl zK zK zK rfl zK rfl rfl (X_eqA rfl rfl ty70 zk zk (.cons zd ty3 rfl rfl rfl (eqv_int ty3) (.cons zd ty3 rfl rfl rfl (eqv_int ty3) (.cons zd ty22 rfl rfl rfl (eqv_int ty22) (.cons zd ty22 rfl rfl rfl (eqv_int ty22) .nil))))) rfl ?_
     try simp only [eq_self, decide_true, Bool.and_true]
     first | refine WC_take 9 (l' := #[true, true, true, true, true, true, true, true, true, true, false, false]) rfl zK zK zK rfl zK (X_pickt rfl rfl) rfl ?_ | refine WC_take 9 (l' := #[true, true, true, true, true, true, true, true, true, true, false, false]) rfl zK zK zK rfl zK (X_pickf rfl rfl) rfl ?_
     refine WC_one 10 (l' := #[true, true, true, true, true, true, true, true, true, true, true, false]) zH zK rfl zK ?_
     refine W_storeA (l' := [.slice u1 l1 c1, .int .i64 (n : Int), .slice u1p l1p c1p, .slice u1q l1q c1q, .slice u1r l1r c1r]) rfl rfl ty63 rfl rfl (b := b6) zM (by exact Nat.le_refl 5) rfl zU ?_
     refine W_nil ?_
     refine WC_goal ?_
     refine WC_take 11 (l' := #[true, true, true, true, true, true, true, true, true, true, true, true]) rfl zK zK zK rfl zK (X_assign rfl) rfl ?_
     refine WC_done zH zK ?_
     refine W_ret2G (H2 := HB5 ++ (X1 ++ H)) Tryz.results23 (.nil _) (.own rfl ty63 rfl zM rfl) (.tmp rfl) zH ?_
     exact ⟨_, _, _, _, HB5, X1, _, hT5, hO5, hD1, rfl, rfl⟩
    ·skip
     refine W_sr ?_
     refine W_bin rfl rfl b_eql rfl ?_
     refine W_assign rfl rfl ?_
     refine W_nil ?_
     refine W_condPS (p := kd = 4) rfl (by rw [decide_eq_true_eq]; omega) (fun q4 => ?_) (fun q4 => ?_)
     ·skip
      refine W_sr ?_
      refine W_loadB (vs := [.slice u0 l0 c0, .int .i64 (n : Int), .slice u0p l0p c0p, .slice u0q l0q c0q, .slice u0r l0r c0r]) rfl ty63 rfl (b := b4) zM rfl rfl rfl ?_
      refine W_fieldAddr rfl fld45_1 zd rfl ?_
      refine W_load (v := .int .i64 a.id) rfl ty3 rfl (Cell.own (b := b5) zM rfl) rfl ?_
      refine W_call (.cons rfl (.cons rfl .nil)) Tryz.call60 rfl (LCalls.hsub (dmStop_L (id := a.id) hD ((show HSub _ H from zH).trans hHR) hdok  (H := (b4, .cells 63 5 [.slice u0 l0 c0, .int .i64 (n : Int), .slice u0p l0p c0p, .slice u0q l0q c0q, .slice u0r l0r c0r]) :: (b5, .cells 45 5 (tcC a)) :: (b6, .cells 63 5 [.slice none 0 0, .int .i64 0, .slice none 0 0, .slice none 0 0, .slice none 0 0]) :: (HB ++ H))) zH) ?_
      rintro v H' ⟨cs1, X1, rfl, hD1, rfl⟩
      have hfn := stop_fn Q a.id hT4.as hO.bank.uni
      rcases hsr : stopR (stW Ws) Q As a.id with ⟨S1, Q1, b1, e1⟩
      rw [hsr] at hD1 hfn
      dsimp only at hD1 ⊢
      obtain ⟨rfl, hfn2⟩ := Prod.mk.inj hfn
      obtain ⟨rfl, hfn3⟩ := Prod.mk.inj hfn2
      obtain ⟨rfl, rfl⟩ := Prod.mk.inj hfn3
      have hD2 := hD1
      obtain ⟨u1, l1, c1, u1p, l1p, c1p, u1q, l1q, c1q, u1r, l1r, c1r, rfl⟩ := hD1.five
      refine W_move rfl rfl ?_
      refine W_extract rfl rfl rfl ?_
      refine W_extract rfl rfl rfl ?_
      refine W_extract rfl rfl rfl ?_
      refine W_alloc (l := [.slice none 0 0, .int .i64 0, .slice none 0 0, .slice none 0 0, .slice none 0 0]) ty63 rfl rfl (fun b17 => ?_)
      refine W_storeA (l' := [.slice u1 l1 c1, .int .i64 (n : Int), .slice u1p l1p c1p, .slice u1q l1q c1q, .slice u1r l1r c1r]) rfl rfl ty63 rfl rfl (b := b17) zM (by exact Nat.le_refl 5) rfl zU ?_
      refine W_assign rfl rfl ?_
      refine W_assign rfl rfl ?_
      refine W_nil (W_sr ?_)
      refine W_move rfl rfl ?_
      refine W_fieldAddr rfl fld45_1 zd rfl ?_
      refine W_load (v := .int .i64 a.id) rfl ty3 rfl (Cell.own (b := b5) zM rfl) rfl ?_
      refine W_call (.cons rfl (.cons rfl .nil)) Tryz.call16 rfl ((Stop_L hT4 (id := a.id) (H := (b17, .cells 63 5 [.slice u1 l1 c1, .int .i64 (n : Int), .slice u1p l1p c1p, .slice u1q l1q c1q, .slice u1r l1r c1r]) :: (b4, .cells 63 5 [.slice u0 l0 c0, .int .i64 (n : Int), .slice u0p l0p c0p, .slice u0q l0q c0q, .slice u0r l0r c0r]) :: (b5, .cells 45 5 (tcC a)) :: (b6, .cells 63 5 [.slice none 0 0, .int .i64 0, .slice none 0 0, .slice none 0 0, .slice none 0 0]) :: (X1 ++ H))).hsub zH) ?_
      rintro v H' ⟨HB5, hT5, rfl, rfl⟩
      refine W_move rfl rfl ?_
      refine W_extract rfl rfl rfl ?_
      refine W_extract rfl rfl rfl ?_
      refine W_assign rfl rfl ?_
      refine W_assign rfl rfl ?_
      refine W_nil (W_sr ?_)
      refine W_loadB (vs := [.slice u1 l1 c1, .int .i64 (n : Int), .slice u1p l1p c1p, .slice u1q l1q c1q, .slice u1r l1r c1r]) rfl ty63 rfl (b := b17) zM rfl rfl rfl ?_
      refine W_move rfl rfl ?_
      refine W_move rfl rfl ?_
      refine W_bin rfl rfl b_eql rfl ?_
      rw [decide_eq_true rfl]
      refine W_move rfl rfl ?_
      refine W_gyes rfl rfl ?_
      refine W_move rfl rfl ?_
      refine W_gyes rfl rfl ?_
      refine W_move rfl rfl ?_
      refine W_gyes rfl rfl ?_
      refine W_beq rfl rfl ty4 rfl ?_
      rw [beq_self_eq_true]
      first | refine W_pickt rfl rfl rfl ?_ | refine W_pickf rfl rfl rfl ?_
      refine W_storeA (l' := [.slice u1 l1 c1, .int .i64 (n : Int), .slice u1p l1p c1p, .slice u1q l1q c1q, .slice u1r l1r c1r]) rfl rfl ty63 rfl rfl (b := b6) zM (by exact Nat.le_refl 5) rfl zU ?_
      refine W_assign rfl rfl ?_
      refine W_nil ?_
      refine W_ret2G (H2 := HB5 ++ (X1 ++ H)) Tryz.results23 (.nil _) (.own rfl ty63 rfl zM rfl) (.tmp rfl) zH ?_
      exact ⟨_, _, _, _, HB5, X1, _, hT5, (stop_tok hO _).up (Nat.le_succ _), hD1, rfl, rfl⟩
     ·skip
      refine W_sr ?_
      refine W_bin rfl rfl b_eql rfl ?_
      refine W_assign rfl rfl ?_
      refine W_nil ?_
      refine W_condPS (p := kd = 5) rfl (by rw [decide_eq_true_eq]; omega) (fun q5 => ?_) (fun q5 => ?_)
      ·skip
       refine W_sr ?_
       refine W_loadB (vs := [.slice u0 l0 c0, .int .i64 (n : Int), .slice u0p l0p c0p, .slice u0q l0q c0q, .slice u0r l0r c0r]) rfl ty63 rfl (b := b4) zM rfl rfl rfl ?_
       refine W_fieldAddr rfl fld45_2 zd rfl ?_
       refine W_load (v := .int .i64 a.cpu) rfl ty3 rfl (Cell.own (b := b5) zM rfl) rfl ?_
       refine W_fieldAddr rfl fld45_4 zd rfl ?_
       refine W_load (v := .int .u64 ((at_ : Nat) : Int)) rfl ty22 rfl (Cell.own (b := b5) zM (by show some (Value.int .u64 a.at_) = _; rw [hat])) rfl ?_
       refine W_call (.cons rfl (.cons rfl (.cons rfl .nil))) Tryz.call61 rfl (LCalls.hsub (dmCatch_L (cpu := a.cpu) (a := at_) hD ((show HSub _ H from zH).trans hHR) hdok  (H := (b4, .cells 63 5 [.slice u0 l0 c0, .int .i64 (n : Int), .slice u0p l0p c0p, .slice u0q l0q c0q, .slice u0r l0r c0r]) :: (b5, .cells 45 5 (tcC a)) :: (b6, .cells 63 5 [.slice none 0 0, .int .i64 0, .slice none 0 0, .slice none 0 0, .slice none 0 0]) :: (HB ++ H))) zH) ?_
       rintro v H' ⟨cs1, ov, X1, S1, O1, XO1, rfl, hD1, hO1, hC1, rfl⟩
       rw [List.length_map] at hO1
       obtain ⟨ado, capo, rfl, _, _⟩ := hO1.shape
       have hD2 := hD1
       obtain ⟨u1, l1, c1, u1p, l1p, c1p, u1q, l1q, c1q, u1r, l1r, c1r, rfl⟩ := hD1.five
       refine W_move rfl rfl ?_
       refine W_extract rfl rfl rfl ?_
       refine W_extract rfl rfl rfl ?_
       refine W_alloc (l := [.slice none 0 0, .int .i64 0, .slice none 0 0, .slice none 0 0, .slice none 0 0]) ty63 rfl rfl (fun b22 => ?_)
       refine W_storeA (l' := [.slice u1 l1 c1, .int .i64 (n : Int), .slice u1p l1p c1p, .slice u1q l1q c1q, .slice u1r l1r c1r]) rfl rfl ty63 rfl rfl (b := b22) zM (by exact Nat.le_refl 5) rfl zU ?_
       refine W_assign rfl rfl ?_
       refine W_nil (W_seq ?_)
       refine W_anyC [(b22, .cells 63 5 [.slice u1 l1 c1, .int .i64 (n : Int), .slice u1p l1p c1p, .slice u1q l1q c1q, .slice u1r l1r c1r]), (b5, .cells 45 5 (tcC a))] zk ?_
       refine WC_take 0 (l' := #[true, false, false, false, false, false, false, false, false, false, false]) rfl zK zK zK rfl zK (X_loadB (vs := [.slice u1 l1 c1, .int .i64 (n : Int), .slice u1p l1p c1p, .slice u1q l1q c1q, .slice u1r l1r c1r]) rfl ty63 rfl (b := b22) zM rfl rfl) rfl ?_
       refine WC_take 1 (l' := #[true, true, false, false, false, false, false, false, false, false, false]) rfl zK zK zK rfl zK (X_move rfl) rfl ?_
       refine WC_take 2 (l' := #[true, true, true, false, false, false, false, false, false, false, false]) rfl zK zK zK rfl zK (X_fieldAddr rfl fld45_2 zd) rfl ?_
       refine WC_take 3 (l' := #[true, true, true, true, false, false, false, false, false, false, false]) rfl zK zK zK rfl zK (X_load (v := .int .i64 a.cpu) rfl ty3 rfl (Cell.own (b := b5) zM rfl)) rfl ?_
       refine WC_take 4 (l' := #[true, true, true, true, true, false, false, false, false, false, false]) rfl zK zK zK rfl zK (X_fieldAddr rfl fld45_4 zd) rfl ?_
       refine WC_take 5 (l' := #[true, true, true, true, true, true, false, false, false, false, false]) rfl (by decide +kernel) (by decide +kernel) (by decide +kernel) rfl (by decide +kernel) (X_load (v := .int .u64 ((at_ : Nat) : Int)) rfl ty22 rfl (Cell.own (b := b5) zM (by show some (Value.int .u64 a.at_) = _; rw [hat]))) rfl ?_
       refine WC_take 7 (l' := #[true, true, true, true, true, true, false, true, false, false, false]) rfl zK zK zK rfl zK (X_move rfl) rfl ?_
       refine WC_one 6 (l' := #[true, true, true, true, true, true, true, true, false, false, false]) zH zK rfl zK ?_
       refine W_call (.cons rfl (.cons rfl (.cons rfl .nil))) Tryz.call15 rfl ((Catch_L hT4 hO hT (cpu := a.cpu) (a := at_) hatm (H := (b22, .cells 63 5 [.slice u1 l1 c1, .int .i64 (n : Int), .slice u1p l1p c1p, .slice u1q l1q c1q, .slice u1r l1r c1r]) :: (b4, .cells 63 5 [.slice u0 l0 c0, .int .i64 (n : Int), .slice u0p l0p c0p, .slice u0q l0q c0q, .slice u0r l0r c0r]) :: (b5, .cells 45 5 (tcC a)) :: (b6, .cells 63 5 [.slice none 0 0, .int .i64 0, .slice none 0 0, .slice none 0 0, .slice none 0 0]) :: (XO1 ++ (X1 ++ H)))).hsub zH) ?_
       rintro v H' ⟨W5, O2, XO2, HB5, hC2, hT5, hO5, hO2, hol, rfl⟩
       obtain ⟨rfl, rfl⟩ := hC1.same hC2.fn
       obtain ⟨adp, capp, rfl, _, _⟩ := hO2.shape
       refine W_nil ?_
       refine WC_goal ?_
       refine WC_one 8 (l' := #[true, true, true, true, true, true, true, true, true, false, false]) zH zK rfl zK ?_
       have hsl : ((O1.map (·.id)).length : Nat) = O1.length := List.length_map _
       have hh1 : Holds w0 (XO2 ++ (HB5 ++ ((b22, .cells 63 5 [.slice u1 l1 c1, .int .i64 (n : Int), .slice u1p l1p c1p, .slice u1q l1q c1q, .slice u1r l1r c1r]) :: (b4, .cells 63 5 [.slice u0 l0 c0, .int .i64 (n : Int), .slice u0p l0p c0p, .slice u0q l0q c0q, .slice u0r l0r c0r]) :: (b5, .cells 45 5 (tcC a)) :: (b6, .cells 63 5 [.slice none 0 0, .int .i64 0, .slice none 0 0, .slice none 0 0, .slice none 0 0]) :: (XO1 ++ (X1 ++ H))))) adp ((O1.map (·.id)).map (Value.int .i64)) := OwnS.holds hO2 (fun p hp => List.mem_append_left _ hp)
       have hh2 : Holds w0 (XO2 ++ (HB5 ++ ((b22, .cells 63 5 [.slice u1 l1 c1, .int .i64 (n : Int), .slice u1p l1p c1p, .slice u1q l1q c1q, .slice u1r l1r c1r]) :: (b4, .cells 63 5 [.slice u0 l0 c0, .int .i64 (n : Int), .slice u0p l0p c0p, .slice u0q l0q c0q, .slice u0r l0r c0r]) :: (b5, .cells 45 5 (tcC a)) :: (b6, .cells 63 5 [.slice none 0 0, .int .i64 0, .slice none 0 0, .slice none 0 0, .slice none 0 0]) :: (XO1 ++ (X1 ++ H))))) ado ((O1.map (·.id)).map (Value.int .i64)) := OwnS.holds hO1 (fun p hp => List.mem_append_right _ (List.mem_append_right _ (List.mem_cons_of_mem _ (List.mem_cons_of_mem _ (List.mem_cons_of_mem _ (List.mem_cons_of_mem _ (List.mem_append_left _ hp)))))))
       have hsm := same_q (c1 := capp) (c2 := capo) hh1 hh2 (by rw [hsl]; omega)
       rw [hsl] at hsm
       refine W_callq (.cons rfl (.cons rfl .nil)) Tryz.call43 rfl hsm ?_
       rw [decide_eq_true rfl]
       refine W_nil ?_
       refine WC_goal ?_
       refine WC_one 9 (l' := #[true, true, true, true, true, true, true, true, true, true, false]) zH zK rfl zK ?_
       refine W_storeA (l' := [.slice u1 l1 c1, .int .i64 (n : Int), .slice u1p l1p c1p, .slice u1q l1q c1q, .slice u1r l1r c1r]) rfl rfl ty63 rfl rfl (b := b6) zM (by exact Nat.le_refl 5) rfl zU ?_
       refine W_nil ?_
       refine WC_goal ?_
       refine WC_take 10 (l' := #[true, true, true, true, true, true, true, true, true, true, true]) rfl zK zK zK rfl zK (X_assign rfl) rfl ?_
       refine WC_done zH zK ?_
       refine W_ret2G (H2 := HB5 ++ (X1 ++ H)) Tryz.results23 (.nil _) (.own rfl ty63 rfl zM rfl) (.tmp rfl) zH ?_
       exact ⟨_, _, _, _, HB5, X1, _, hT5, hO5.up (Nat.le_succ _), hD1, rfl, rfl⟩
      ·skip
       refine W_sr ?_
       refine W_bin rfl rfl b_eql rfl ?_
       refine W_assign rfl rfl ?_
       refine W_nil ?_
       refine W_condPS (p := kd = 6) rfl (by rw [decide_eq_true_eq]; omega) (fun q6 => ?_) (fun q6 => ?_)
       ·skip
        refine W_sr ?_
        refine W_loadB (vs := [.slice u0 l0 c0, .int .i64 (n : Int), .slice u0p l0p c0p, .slice u0q l0q c0q, .slice u0r l0r c0r]) rfl ty63 rfl (b := b4) zM rfl rfl rfl ?_
        refine W_fieldAddr rfl fld45_2 zd rfl ?_
        refine W_load (v := .int .i64 a.cpu) rfl ty3 rfl (Cell.own (b := b5) zM rfl) rfl ?_
        refine W_fieldAddr rfl fld45_3 zd rfl ?_
        refine W_load (v := .int .i64 a.n) rfl ty3 rfl (Cell.own (b := b5) zM rfl) rfl ?_
        refine W_call (.cons rfl (.cons rfl (.cons rfl .nil))) Tryz.call62 rfl (LCalls.hsub (dmBegin_L (cpu := a.cpu) (c := a.n) hD ((show HSub _ H from zH).trans hHR) hdok  (H := (b4, .cells 63 5 [.slice u0 l0 c0, .int .i64 (n : Int), .slice u0p l0p c0p, .slice u0q l0q c0q, .slice u0r l0r c0r]) :: (b5, .cells 45 5 (tcC a)) :: (b6, .cells 63 5 [.slice none 0 0, .int .i64 0, .slice none 0 0, .slice none 0 0, .slice none 0 0]) :: (HB ++ H))) zH) ?_
        rintro v H' ⟨cs1, X1, hv, hD1, rfl⟩
        obtain ⟨z1, p1, e1, hbv, hv1⟩ : ∃ z1 p1 e1, begV n Q Rs As a.cpu a.n = .tuple #[.int .i64 z1, .int .i64 p1, .int .i64 e1] ∧ v = .tuple #[.agg (List.toArray cs1), .int .i64 z1, .int .i64 p1, .int .i64 e1] := by
         unfold begV
         by_cases he : (begQ n Q Rs a.cpu a.n).2.2.2 = 0
         ·rw [if_pos he] at hv ⊢; exact ⟨_, _, _, rfl, hv⟩
         ·rw [if_neg he] at hv ⊢; exact ⟨_, _, _, rfl, hv⟩
        subst hv1
        clear hv
        have hD2 := hD1
        obtain ⟨u1, l1, c1, u1p, l1p, c1p, u1q, l1q, c1q, u1r, l1r, c1r, rfl⟩ := hD1.five
        refine W_move rfl rfl ?_
        refine W_extract rfl rfl rfl ?_
        refine W_extract rfl rfl rfl ?_
        refine W_extract rfl rfl rfl ?_
        refine W_extract rfl rfl rfl ?_
        refine W_alloc (l := [.slice none 0 0, .int .i64 0, .slice none 0 0, .slice none 0 0, .slice none 0 0]) ty63 rfl rfl (fun b24 => ?_)
        refine W_storeA (l' := [.slice u1 l1 c1, .int .i64 (n : Int), .slice u1p l1p c1p, .slice u1q l1q c1q, .slice u1r l1r c1r]) rfl rfl ty63 rfl rfl (b := b24) zM (by exact Nat.le_refl 5) rfl zU ?_
        refine W_assign rfl rfl ?_
        refine W_assign rfl rfl ?_
        refine W_assign rfl rfl ?_
        refine W_nil (W_sr ?_)
        refine W_move rfl rfl ?_
        refine W_fieldAddr rfl fld45_2 zd rfl ?_
        refine W_load (v := .int .i64 a.cpu) rfl ty3 rfl (Cell.own (b := b5) zM rfl) rfl ?_
        refine W_fieldAddr rfl fld45_3 zd rfl ?_
        refine W_load (v := .int .i64 a.n) rfl ty3 rfl (Cell.own (b := b5) zM rfl) rfl ?_
        refine W_call (.cons rfl (.cons rfl (.cons rfl .nil))) Tryz.call17 rfl ((tBegin_L hT4 (cpu := a.cpu) (c := a.n) (H := (b24, .cells 63 5 [.slice u1 l1 c1, .int .i64 (n : Int), .slice u1p l1p c1p, .slice u1q l1q c1q, .slice u1r l1r c1r]) :: (b4, .cells 63 5 [.slice u0 l0 c0, .int .i64 (n : Int), .slice u0p l0p c0p, .slice u0q l0q c0q, .slice u0r l0r c0r]) :: (b5, .cells 45 5 (tcC a)) :: (b6, .cells 63 5 [.slice none 0 0, .int .i64 0, .slice none 0 0, .slice none 0 0, .slice none 0 0]) :: (X1 ++ H))).hsub zH) ?_
        rintro v H' ⟨HB5, hT5, rfl, rfl⟩
        rw [hbv]
        refine W_move rfl rfl ?_
        refine W_extract rfl rfl rfl ?_
        refine W_extract rfl rfl rfl ?_
        refine W_extract rfl rfl rfl ?_
        refine W_assign rfl rfl ?_
        refine W_assign rfl rfl ?_
        refine W_assign rfl rfl ?_
        refine W_nil (W_sr ?_)
        refine W_loadB (vs := [.slice u1 l1 c1, .int .i64 (n : Int), .slice u1p l1p c1p, .slice u1q l1q c1q, .slice u1r l1r c1r]) rfl ty63 rfl (b := b24) zM rfl rfl rfl ?_
        refine W_move rfl rfl ?_
        refine W_move rfl rfl ?_
        refine W_bin rfl rfl b_eql rfl ?_
        rw [decide_eq_true rfl]
        refine W_move rfl rfl ?_
        refine W_gyes rfl rfl ?_
        refine W_move rfl rfl ?_
        refine W_gyes rfl rfl ?_
        refine W_move rfl rfl ?_
        refine W_gyes rfl rfl ?_
        refine W_bin rfl rfl b_eql rfl ?_
        rw [decide_eq_true rfl]
        first | refine W_pickt rfl rfl rfl ?_ | refine W_pickf rfl rfl rfl ?_
        refine W_move rfl rfl ?_
        refine W_gyes rfl rfl ?_
        refine W_move rfl rfl ?_
        refine W_gyes rfl rfl ?_
        refine W_move rfl rfl ?_
        refine W_gyes rfl rfl ?_
        refine W_bin rfl rfl b_eql rfl ?_
        rw [decide_eq_true rfl]
        first | refine W_pickt rfl rfl rfl ?_ | refine W_pickf rfl rfl rfl ?_
        refine W_storeA (l' := [.slice u1 l1 c1, .int .i64 (n : Int), .slice u1p l1p c1p, .slice u1q l1q c1q, .slice u1r l1r c1r]) rfl rfl ty63 rfl rfl (b := b6) zM (by exact Nat.le_refl 5) rfl zU ?_
        refine W_assign rfl rfl ?_
        refine W_nil ?_
        refine W_ret2G (H2 := HB5 ++ (X1 ++ H)) Tryz.results23 (.nil _) (.own rfl ty63 rfl zM rfl) (.tmp rfl) zH ?_
        exact ⟨_, _, _, _, HB5, X1, _, hT5, hO.up (Nat.le_succ _), hD1, rfl, rfl⟩
       ·skip
        refine W_sr ?_
        refine W_bin rfl rfl b_eql rfl ?_
        refine W_assign rfl rfl ?_
        refine W_nil ?_
        refine W_condPS (p := kd = 7) rfl (by rw [decide_eq_true_eq]; omega) (fun q7 => ?_) (fun q7 => ?_)
        ·skip
         refine W_sr ?_
         refine W_loadB (vs := [.slice u0 l0 c0, .int .i64 (n : Int), .slice u0p l0p c0p, .slice u0q l0q c0q, .slice u0r l0r c0r]) rfl ty63 rfl (b := b4) zM rfl rfl rfl ?_
         refine W_fieldAddr rfl fld45_3 zd rfl ?_
         refine W_load (v := .int .i64 a.n) rfl ty3 rfl (Cell.own (b := b5) zM rfl) rfl ?_
         refine W_call (.cons rfl (.cons rfl .nil)) Tryz.call63 rfl (LCalls.hsub (dmEnd_L (c := a.n) hD ((show HSub _ H from zH).trans hHR) hdok hT4.rs.1 (fun z hz => hT4.rs.2 _ z hz) (H := (b4, .cells 63 5 [.slice u0 l0 c0, .int .i64 (n : Int), .slice u0p l0p c0p, .slice u0q l0q c0q, .slice u0r l0r c0r]) :: (b5, .cells 45 5 (tcC a)) :: (b6, .cells 63 5 [.slice none 0 0, .int .i64 0, .slice none 0 0, .slice none 0 0, .slice none 0 0]) :: (HB ++ H))) zH) ?_
         rintro v H' ⟨cs1, X1, rfl, hD1, rfl⟩
         have hD2 := hD1
         obtain ⟨u1, l1, c1, u1p, l1p, c1p, u1q, l1q, c1q, u1r, l1r, c1r, rfl⟩ := hD1.five
         refine W_move rfl rfl ?_
         refine W_extract rfl rfl rfl ?_
         refine W_extract rfl rfl rfl ?_
         refine W_extract rfl rfl rfl ?_
         refine W_alloc (l := [.slice none 0 0, .int .i64 0, .slice none 0 0, .slice none 0 0, .slice none 0 0]) ty63 rfl rfl (fun b31 => ?_)
         refine W_storeA (l' := [.slice u1 l1 c1, .int .i64 (n : Int), .slice u1p l1p c1p, .slice u1q l1q c1q, .slice u1r l1r c1r]) rfl rfl ty63 rfl rfl (b := b31) zM (by exact Nat.le_refl 5) rfl zU ?_
         refine W_assign rfl rfl ?_
         refine W_assign rfl rfl ?_
         refine W_nil (W_sr ?_)
         refine W_move rfl rfl ?_
         refine W_fieldAddr rfl fld45_3 zd rfl ?_
         refine W_load (v := .int .i64 a.n) rfl ty3 rfl (Cell.own (b := b5) zM rfl) rfl ?_
         refine W_call (.cons rfl (.cons rfl .nil)) Tryz.call18 rfl ((tEnd_L hT4 (c := a.n) (H := (b31, .cells 63 5 [.slice u1 l1 c1, .int .i64 (n : Int), .slice u1p l1p c1p, .slice u1q l1q c1q, .slice u1r l1r c1r]) :: (b4, .cells 63 5 [.slice u0 l0 c0, .int .i64 (n : Int), .slice u0p l0p c0p, .slice u0q l0q c0q, .slice u0r l0r c0r]) :: (b5, .cells 45 5 (tcC a)) :: (b6, .cells 63 5 [.slice none 0 0, .int .i64 0, .slice none 0 0, .slice none 0 0, .slice none 0 0]) :: (X1 ++ H))).hsub zH) ?_
         rintro v H' ⟨HB5, hT5, rfl, rfl⟩
         refine W_move rfl rfl ?_
         refine W_extract rfl rfl rfl ?_
         refine W_extract rfl rfl rfl ?_
         refine W_assign rfl rfl ?_
         refine W_assign rfl rfl ?_
         refine W_nil (W_sr ?_)
         refine W_loadB (vs := [.slice u1 l1 c1, .int .i64 (n : Int), .slice u1p l1p c1p, .slice u1q l1q c1q, .slice u1r l1r c1r]) rfl ty63 rfl (b := b31) zM rfl rfl rfl ?_
         refine W_move rfl rfl ?_
         refine W_move rfl rfl ?_
         refine W_bin rfl rfl b_eql rfl ?_
         rw [decide_eq_true rfl]
         refine W_move rfl rfl ?_
         refine W_gyes rfl rfl ?_
         refine W_move rfl rfl ?_
         refine W_gyes rfl rfl ?_
         refine W_move rfl rfl ?_
         refine W_gyes rfl rfl ?_
         refine W_bin rfl rfl b_eql rfl ?_
         rw [decide_eq_true rfl]
         first | refine W_pickt rfl rfl rfl ?_ | refine W_pickf rfl rfl rfl ?_
         refine W_storeA (l' := [.slice u1 l1 c1, .int .i64 (n : Int), .slice u1p l1p c1p, .slice u1q l1q c1q, .slice u1r l1r c1r]) rfl rfl ty63 rfl rfl (b := b6) zM (by exact Nat.le_refl 5) rfl zU ?_
         refine W_assign rfl rfl ?_
         refine W_nil ?_
         refine W_ret2G (H2 := HB5 ++ (X1 ++ H)) Tryz.results23 (.nil _) (.own rfl ty63 rfl zM rfl) (.tmp rfl) zH ?_
         exact ⟨_, _, _, _, HB5, X1, _, hT5, hO.up (Nat.le_succ _), hD1, rfl, rfl⟩
        ·skip
         refine W_sr ?_
         refine W_bin rfl rfl b_eql rfl ?_
         refine W_assign rfl rfl ?_
         refine W_nil ?_
         refine W_condPS (p := kd = 8) rfl (by rw [decide_eq_true_eq]; omega) (fun q8 => ?_) (fun q8 => ?_)
         ·skip
          refine W_sr ?_
          refine W_loadB (vs := [.slice u0 l0 c0, .int .i64 (n : Int), .slice u0p l0p c0p, .slice u0q l0q c0q, .slice u0r l0r c0r]) rfl ty63 rfl (b := b4) zM rfl rfl rfl ?_
          refine W_fieldAddr rfl fld45_1 zd rfl ?_
          refine W_load (v := .int .i64 a.id) rfl ty3 rfl (Cell.own (b := b5) zM rfl) rfl ?_
          refine W_call (.cons rfl (.cons rfl .nil)) Tryz.call64 rfl (LCalls.hsub (dmShut_L (id := a.id) hD ((show HSub _ H from zH).trans hHR) hdok  (H := (b4, .cells 63 5 [.slice u0 l0 c0, .int .i64 (n : Int), .slice u0p l0p c0p, .slice u0q l0q c0q, .slice u0r l0r c0r]) :: (b5, .cells 45 5 (tcC a)) :: (b6, .cells 63 5 [.slice none 0 0, .int .i64 0, .slice none 0 0, .slice none 0 0, .slice none 0 0]) :: (HB ++ H))) zH) ?_
          rintro v H' ⟨cs1, X1, rfl, hD1, rfl⟩
          obtain ⟨b1, hfn, hcn⟩ := shut_fn Q a.id hT4.as hO.bank.uni
          rcases hsr : shutR (stW Ws) Q As a.id with ⟨S1, Q1, A1, b2⟩
          rw [hsr] at hD1 hfn
          dsimp only at hD1 ⊢
          obtain ⟨rfl, hfn2⟩ := Prod.mk.inj hfn
          obtain ⟨rfl, hfn3⟩ := Prod.mk.inj hfn2
          obtain ⟨rfl, rfl⟩ := Prod.mk.inj hfn3
          have hD2 := hD1
          obtain ⟨u1, l1, c1, u1p, l1p, c1p, u1q, l1q, c1q, u1r, l1r, c1r, rfl⟩ := hD1.five
          refine W_move rfl rfl ?_
          refine W_extract rfl rfl rfl ?_
          refine W_extract rfl rfl rfl ?_
          refine W_alloc (l := [.slice none 0 0, .int .i64 0, .slice none 0 0, .slice none 0 0, .slice none 0 0]) ty63 rfl rfl (fun b36 => ?_)
          refine W_storeA (l' := [.slice u1 l1 c1, .int .i64 (n : Int), .slice u1p l1p c1p, .slice u1q l1q c1q, .slice u1r l1r c1r]) rfl rfl ty63 rfl rfl (b := b36) zM (by exact Nat.le_refl 5) rfl zU ?_
          refine W_assign rfl rfl ?_
          refine W_nil (W_sr ?_)
          refine W_move rfl rfl ?_
          refine W_fieldAddr rfl fld45_1 zd rfl ?_
          refine W_load (v := .int .i64 a.id) rfl ty3 rfl (Cell.own (b := b5) zM rfl) rfl ?_
          refine W_fieldAddr rfl fld45_1 zd rfl ?_
          refine W_load (v := .int .i64 a.id) rfl ty3 rfl (Cell.own (b := b5) zM rfl) rfl ?_
          refine W_buildSlice (l := [.int .i64 a.id, .int .i64 a.id]) ty24 ty3 (.cons rfl rfl rfl rfl rfl (.cons rfl rfl rfl rfl rfl .nil)) rfl rfl rfl rfl rfl rfl rfl (fun b240 => ?_)
          refine W_call (.cons rfl (.cons rfl .nil)) Tryz.call19 rfl ((Shut_L hT4 hO (ids := [a.id, a.id]) (by show 2 ≤ 1000000; decide) (Holds.own (b := b240) zM) (H := (b240, .cells 3 2 [.int .i64 a.id, .int .i64 a.id]) :: (b36, .cells 63 5 [.slice u1 l1 c1, .int .i64 (n : Int), .slice u1p l1p c1p, .slice u1q l1q c1q, .slice u1r l1r c1r]) :: (b4, .cells 63 5 [.slice u0 l0 c0, .int .i64 (n : Int), .slice u0p l0p c0p, .slice u0q l0q c0q, .slice u0r l0r c0r]) :: (b5, .cells 45 5 (tcC a)) :: (b6, .cells 63 5 [.slice none 0 0, .int .i64 0, .slice none 0 0, .slice none 0 0, .slice none 0 0]) :: (X1 ++ H))).hsub zH) ?_
          rintro v H' ⟨HB5, hT5, hO5, rfl, rfl⟩
          rw [hcn]
          rcases b2
          ·skip
           rw [if_neg (show ¬ false = true by decide)]
           refine W_assign rfl rfl ?_
           refine W_nil (W_sr ?_)
           refine W_loadB (vs := [.slice u1 l1 c1, .int .i64 (n : Int), .slice u1p l1p c1p, .slice u1q l1q c1q, .slice u1r l1r c1r]) rfl ty63 rfl (b := b36) zM rfl rfl rfl ?_
           refine W_move rfl rfl ?_
           refine W_move rfl rfl ?_
           refine W_gno rfl rfl rfl ?_
           refine W_gno rfl rfl rfl ?_
           first | refine W_pickt rfl rfl rfl ?_ | refine W_pickf rfl rfl rfl ?_
           refine W_move rfl rfl ?_
           refine W_gyes rfl rfl ?_
           refine W_move rfl rfl ?_
           refine W_gyes rfl rfl ?_
           refine W_not rfl rfl ?_
           refine W_gyes rfl rfl ?_
           refine W_move rfl rfl ?_
           refine W_gyes rfl rfl ?_
           refine W_move rfl rfl ?_
           refine W_gyes rfl rfl ?_
           refine W_bin rfl rfl b_eql rfl ?_
           refine W_gyes rfl rfl ?_
           first | refine W_pickt rfl rfl rfl ?_ | refine W_pickf rfl rfl rfl ?_
           first | refine W_pickt rfl rfl rfl ?_ | refine W_pickf rfl rfl rfl ?_
           refine W_storeA (l' := [.slice u1 l1 c1, .int .i64 (n : Int), .slice u1p l1p c1p, .slice u1q l1q c1q, .slice u1r l1r c1r]) rfl rfl ty63 rfl rfl (b := b6) zM (by exact Nat.le_refl 5) rfl zU ?_
           refine W_assign rfl rfl ?_
           refine W_nil ?_
           refine W_ret2G (H2 := HB5 ++ (X1 ++ H)) Tryz.results23 (.nil _) (.own rfl ty63 rfl zM rfl) (.tmp rfl) zH ?_
           exact ⟨_, _, _, _, HB5, X1, _, hT5, hO5.up (Nat.le_succ _), hD1, rfl, rfl⟩
          ·skip
           rw [if_pos rfl]
           refine W_assign rfl rfl ?_
           refine W_nil (W_sr ?_)
           refine W_loadB (vs := [.slice u1 l1 c1, .int .i64 (n : Int), .slice u1p l1p c1p, .slice u1q l1q c1q, .slice u1r l1r c1r]) rfl ty63 rfl (b := b36) zM rfl rfl rfl ?_
           refine W_move rfl rfl ?_
           refine W_move rfl rfl ?_
           refine W_gyes rfl rfl ?_
           refine W_move rfl rfl ?_
           refine W_gyes rfl rfl ?_
           refine W_bin rfl rfl b_eql rfl ?_
           first | refine W_pickt rfl rfl rfl ?_ | refine W_pickf rfl rfl rfl ?_
           refine W_move rfl rfl ?_
           refine W_gno rfl rfl rfl ?_
           refine W_gno rfl rfl rfl ?_
           refine W_gno rfl rfl rfl ?_
           refine W_gnou rfl rfl rfl ?_
           refine W_gnou rfl rfl rfl ?_
           refine W_gno rfl rfl rfl ?_
           first | refine W_pickt rfl rfl rfl ?_ | refine W_pickf rfl rfl rfl ?_
           refine W_storeA (l' := [.slice u1 l1 c1, .int .i64 (n : Int), .slice u1p l1p c1p, .slice u1q l1q c1q, .slice u1r l1r c1r]) rfl rfl ty63 rfl rfl (b := b6) zM (by exact Nat.le_refl 5) rfl zU ?_
           refine W_assign rfl rfl ?_
           refine W_nil ?_
           refine W_ret2G (H2 := HB5 ++ (X1 ++ H)) Tryz.results23 (.nil _) (.own rfl ty63 rfl zM rfl) (.tmp rfl) zH ?_
           exact ⟨_, _, _, _, HB5, X1, _, hT5, hO5.up (Nat.le_succ _), hD1, rfl, rfl⟩
         ·skip
          refine W_skip ?_
          refine W_blk ?_
          refine W_sr ?_
          refine W_loadB (vs := [.slice u0 l0 c0, .int .i64 (n : Int), .slice u0p l0p c0p, .slice u0q l0q c0q, .slice u0r l0r c0r]) rfl ty63 rfl (b := b4) zM rfl rfl rfl ?_
          refine W_fieldAddr rfl fld45_1 zd rfl ?_
          refine W_load (v := .int .i64 a.id) rfl ty3 rfl (Cell.own (b := b5) zM rfl) rfl ?_
          refine W_call (.cons rfl (.cons rfl .nil)) Tryz.call65 rfl (LCalls.hsub (dmClear_L (id := a.id) hD ((show HSub _ H from zH).trans hHR) hdok  (H := (b4, .cells 63 5 [.slice u0 l0 c0, .int .i64 (n : Int), .slice u0p l0p c0p, .slice u0q l0q c0q, .slice u0r l0r c0r]) :: (b5, .cells 45 5 (tcC a)) :: (b6, .cells 63 5 [.slice none 0 0, .int .i64 0, .slice none 0 0, .slice none 0 0, .slice none 0 0]) :: (HB ++ H))) zH) ?_
          rintro v H' ⟨cs1, X1, rfl, hD1, rfl⟩
          have hfn := clear_fn Q Rs As a.id hO.bank.uni
          rcases hsr : clearR (stW Ws) Q Rs As a.id with ⟨S1, Q1, A1, e1⟩
          rw [hsr] at hD1 hfn
          dsimp only at hD1 ⊢
          obtain ⟨rfl, hfn2⟩ := Prod.mk.inj hfn
          obtain ⟨rfl, hfn3⟩ := Prod.mk.inj hfn2
          obtain ⟨rfl, rfl⟩ := Prod.mk.inj hfn3
          have hD2 := hD1
          obtain ⟨u1, l1, c1, u1p, l1p, c1p, u1q, l1q, c1q, u1r, l1r, c1r, rfl⟩ := hD1.five
          refine W_move rfl rfl ?_
          refine W_extract rfl rfl rfl ?_
          refine W_extract rfl rfl rfl ?_
          refine W_alloc (l := [.slice none 0 0, .int .i64 0, .slice none 0 0, .slice none 0 0, .slice none 0 0]) ty63 rfl rfl (fun b39 => ?_)
          refine W_storeA (l' := [.slice u1 l1 c1, .int .i64 (n : Int), .slice u1p l1p c1p, .slice u1q l1q c1q, .slice u1r l1r c1r]) rfl rfl ty63 rfl rfl (b := b39) zM (by exact Nat.le_refl 5) rfl zU ?_
          refine W_assign rfl rfl ?_
          refine W_nil (W_seq ?_)
          refine W_anyC [(b39, .cells 63 5 [.slice u1 l1 c1, .int .i64 (n : Int), .slice u1p l1p c1p, .slice u1q l1q c1q, .slice u1r l1r c1r]), (b5, .cells 45 5 (tcC a))] zk ?_
          refine WC_take 0 (l' := #[true, false, false, false, false, false, false, false, false]) rfl zK zK zK rfl zK (X_loadB (vs := [.slice u1 l1 c1, .int .i64 (n : Int), .slice u1p l1p c1p, .slice u1q l1q c1q, .slice u1r l1r c1r]) rfl ty63 rfl (b := b39) zM rfl rfl) rfl ?_
          refine WC_take 1 (l' := #[true, true, false, false, false, false, false, false, false]) rfl zK zK zK rfl zK (X_move rfl) rfl ?_
          refine WC_take 2 (l' := #[true, true, true, false, false, false, false, false, false]) rfl zK zK zK rfl zK (X_fieldAddr rfl fld45_1 zd) rfl ?_
          refine WC_take 3 (l' := #[true, true, true, true, false, false, false, false, false]) rfl zK zK zK rfl zK (X_load (v := .int .i64 a.id) rfl ty3 rfl (Cell.own (b := b5) zM rfl)) rfl ?_
          refine WC_take 5 (l' := #[true, true, true, true, false, true, false, false, false]) rfl zK zK zK rfl zK (X_move rfl) rfl ?_
          refine WC_one 4 (l' := #[true, true, true, true, true, true, false, false, false]) zH zK rfl zK ?_
          refine W_call (.cons rfl (.cons rfl .nil)) Tryz.call20 rfl ((Clear_L hT4 hO (id := a.id) (H := (b39, .cells 63 5 [.slice u1 l1 c1, .int .i64 (n : Int), .slice u1p l1p c1p, .slice u1q l1q c1q, .slice u1r l1r c1r]) :: (b4, .cells 63 5 [.slice u0 l0 c0, .int .i64 (n : Int), .slice u0p l0p c0p, .slice u0q l0q c0q, .slice u0r l0r c0r]) :: (b5, .cells 45 5 (tcC a)) :: (b6, .cells 63 5 [.slice none 0 0, .int .i64 0, .slice none 0 0, .slice none 0 0, .slice none 0 0]) :: (X1 ++ H))).hsub zH) ?_
          rintro v H' ⟨HB5, hT5, hO5, rfl, rfl⟩
          refine W_nil ?_
          refine WC_goal ?_
          refine WC_take 6 (l' := #[true, true, true, true, true, true, true, false, false]) rfl zK zK zK rfl zK (X_bin rfl rfl b_eql) rfl ?_
          rw [decide_eq_true rfl]
          refine WC_one 7 (l' := #[true, true, true, true, true, true, true, true, false]) zH zK rfl zK ?_
          refine W_storeA (l' := [.slice u1 l1 c1, .int .i64 (n : Int), .slice u1p l1p c1p, .slice u1q l1q c1q, .slice u1r l1r c1r]) rfl rfl ty63 rfl rfl (b := b6) zM (by exact Nat.le_refl 5) rfl zU ?_
          refine W_nil ?_
          refine WC_goal ?_
          refine WC_take 8 (l' := #[true, true, true, true, true, true, true, true, true]) rfl zK zK zK rfl zK (X_assign rfl) rfl ?_
          refine WC_done zH zK ?_
          refine W_ret2G (H2 := HB5 ++ (X1 ++ H)) Tryz.results23 (.nil _) (.own rfl ty63 rfl zM rfl) (.tmp rfl) zH ?_
          exact ⟨_, _, _, _, HB5, X1, _, hT5, hO5.up (Nat.le_succ _), hD1, rfl, rfl⟩
set_option maxRecDepth 100000
structure PlS where
 i : Nat
 Ws : List Wl
 Q : List (Int × Int)
 Rs : List (Int × Int)
 As : List Tone
 HB : Heap
 XR : Heap
 cs : List Value
theorem timerPlays_pure {z : Int} {now : Nat} {acts : List Tct} {ada : Option Addr} {capa : Nat} (hnow : now ≤ 18446744073709551615) (hokA : ∀ a ∈ acts, a.In) (hal : acts.length ≤ 9223372036854775807) : Pure Tryz.prog (fun w => Tab w ∧ InRow w ada (tcRow acts)) 6 [.int .i64 z, .int .u64 ((now : Nat) : Int), .slice ada acts.length capa] (.bool true) := by
 intro w0 H hT
 have hacts : Holds w0 H ada (tcRow acts) := Holds.old hT.2
 replace hT := hT.1
 refine L_enter Tryz.func6 rfl Tryz.ntmps6 rfl rfl ?_
 refine W_sr ?_
 refine W_assign rfl rfl ?_
 refine W_nil (W_sr ?_)
 refine W_move rfl rfl ?_
 refine W_conv rfl ty3 ty22 rfl rfl ?_
 obtain ⟨c, hc_, hce⟩ := modC_is z (N := 5) zd
 obtain ⟨n, hN⟩ : ∃ n, n = 1 + c := ⟨_, rfl⟩
 refine W_bin rfl rfl (b_rem zd (m := (c : Int)) hce) rfl ?_
 refine W_conv rfl ty22 ty3 (i64w zO) rfl ?_
 refine W_bin rfl rfl (b_add (m := (n : Int)) (by rw [i64w (by omega)]; omega)) rfl ?_
 refine W_assign rfl rfl ?_
 refine W_nil (W_sr ?_)
 refine W_move rfl rfl ?_
 refine W_move rfl rfl ?_
 refine W_call (.cons rfl (.cons rfl .nil)) Tryz.call8 rfl (tNew_at (n := n) (now := now) ⟨by omega, by omega⟩) ?_
 rintro v H' ⟨tb, Ws0, HB0, rfl, hT0, hWl, hfr, rfl⟩
 refine W_move rfl rfl ?_
 refine W_extract rfl rfl rfl ?_
 refine W_extract rfl rfl rfl ?_
 refine W_assign rfl rfl ?_
 refine W_assign rfl rfl ?_
 refine W_nil (W_seq (W_sr ?_))
 refine W_move rfl rfl ?_
 refine W_bin rfl rfl b_neq rfl ?_
 refine W_nil ?_
 refine W_condF rfl rfl ?_
 refine W_skip (W_sr ?_)
 refine W_move rfl rfl ?_
 refine W_move rfl rfl ?_
 refine W_call (.cons rfl (.cons rfl .nil)) Tryz.call22 rfl ((dmNew_L (n := n) (now := now) zO (H := HB0 ++ H)).hsub (.refl _)) ?_
 rintro v H' ⟨cs0, X0, rfl, hX0, rfl⟩
 rw [← fresh_st hWl hfr] at hX0
 obtain ⟨u0, l0, c0, u0p, l0p, c0p, u0q, l0q, c0q, u0r, l0r, c0r, rfl⟩ := hX0.five
 refine W_alloc (l := [.slice none 0 0, .int .i64 0, .slice none 0 0, .slice none 0 0, .slice none 0 0]) ty63 rfl rfl (fun b9 => ?_)
 refine W_storeA (l' := [.slice u0 l0 c0, .int .i64 (n : Int), .slice u0p l0p c0p, .slice u0q l0q c0q, .slice u0r l0r c0r]) rfl rfl ty63 rfl rfl (b := b9) zM (by exact Nat.le_refl 5) rfl zU ?_
 refine W_nil (W_seq (W_sr ?_))
 refine W_assign rfl rfl ?_
 refine W_nil (W_block ?_)
 refine W_loopC (X := PlS) [(2, _), (7, _), (9, _)] (fun (x : PlS) => [(10, .int .i64 (x.i : Int))]) (fun _ => _) (fun (x : PlS) => x.HB ++ ((b9, .cells 63 5 x.cs) :: (x.XR ++ H))) (fun (x : PlS) => x.i ≤ acts.length ∧ x.i ≤ 60 ∧ TimerH tb n x.Ws x.Q x.Rs x.As x.HB ∧ TOk x.i x.Ws x.As ∧ DmV w0 (x.XR ++ H) n (stW x.Ws) x.Q x.Rs x.As x.cs) (fun (x : PlS) => acts.length - x.i) ⟨0, Ws0, [], [], List.replicate 256 zTone, HB0, X0, [.slice u0 l0 c0, .int .i64 (n : Int), .slice u0p l0p c0p, .slice u0q l0q c0q, .slice u0r l0r c0r]⟩ ⟨Nat.zero_le _, Nat.zero_le _, hT0, tok0 hnow hfr, hX0.up hsub_pre⟩ (sub_cons rfl (sub_cons rfl (sub_cons rfl (sub_nil _)))) (sub_cons rfl (sub_nil _)) rfl zH ?_
 rintro ⟨i, Ws, Q, Rs, As, HB, XR, cs⟩ ⟨hi, hi60, hT4, hO, hD⟩
 dsimp only at hi hi60 hT4 hO hD ⊢
 obtain ⟨u1, l1, c1, u1p, l1p, c1p, u1q, l1q, c1q, u1r, l1r, c1r, rfl⟩ := hD.five
 simp only [List.cons_append, List.nil_append]
 refine W_seq (W_sr ?_)
 refine W_move rfl rfl ?_
 refine W_move rfl rfl ?_
 refine W_len rfl ty39 rfl rfl ?_
 refine W_bin rfl rfl b_lss rfl ?_
 refine W_move rfl rfl ?_
 apply W_and
 iterate 4 exact rfl
 case h1 =>
  intro hg4
  refine W_gyes rfl rfl ?_
  refine W_move rfl rfl ?_
  refine W_gyes rfl rfl ?_
  refine W_bin rfl rfl b_lss rfl ?_
  exact W_met rfl zR
 refine W_nil ?_
 refine W_condPS (p := (i : Int) < (acts.length : Int) ∧ (i : Int) < 60) rfl (by first | exact Iff.rfl | simp) (fun q0 => ?_) (fun q0 => ?_)
 ·skip
  refine W_skip (W_seq ?_)
  refine W_block (W_sr ?_)
  obtain ⟨a, ha⟩ : ∃ a, acts[i]? = some a := ⟨_, List.getElem?_eq_getElem zO⟩
  obtain ⟨qa, pa, rfl, hca⟩ := hacts.row tcC_len zd ha
  have hok := hokA a (List.mem_of_getElem? ha)
  obtain ⟨at_, hat⟩ : ∃ q : Nat, a.at_ = (q : Int) := ⟨a.at_.toNat, by have := hok.2.2.2.2; omega⟩
  have hatm : at_ ≤ 18446744073709551615 := by have := hok.2.2.2.2; omega
  refine W_move rfl rfl ?_
  refine W_move rfl rfl ?_
  refine W_indexAddr (j := i) rfl rfl ty39 ty45 (by first | rfl | omega) (by first | decide | omega | simp) rfl rfl ?_
  refine W_loadA (vs := tcC a) rfl ty45 rfl rfl (hca.up zH) rfl ?_
  refine W_alloc (l := [.int .i64 0, .int .i64 0, .int .i64 0, .int .i64 0, .int .u64 0]) ty45 rfl rfl (fun b11 => ?_)
  refine W_storeA (l' := tcC a) rfl rfl ty45 rfl rfl (b := b11) zM (by exact Nat.le_refl 5) rfl zU ?_
  refine W_nil (W_sr ?_)
  refine W_assign rfl rfl ?_
  refine W_nil (W_sr ?_)
  refine W_move rfl rfl ?_
  refine W_loadB (vs := [.slice u1 l1 c1, .int .i64 (n : Int), .slice u1p l1p c1p, .slice u1q l1q c1q, .slice u1r l1r c1r]) rfl ty63 rfl (b := b9) zM rfl rfl rfl ?_
  refine W_loadB (vs := tcC a) rfl ty45 rfl (b := b11) zM rfl rfl rfl ?_
  refine W_call (.cons rfl (.cons rfl (.cons rfl .nil))) Tryz.call23 rfl (LCalls.hsub (do_L (HR := XR ++ H) (T := i) hT4 hO zO hD (show HSub ((b9, .cells 63 5 [.slice u1 l1 c1, .int .i64 (n : Int), .slice u1p l1p c1p, .slice u1q l1q c1q, .slice u1r l1r c1r]) :: (b11, .cells 45 5 (tcC a)) :: (XR ++ H)) (XR ++ H) from zH) hat hatm hT (H := (b9, .cells 63 5 [.slice u1 l1 c1, .int .i64 (n : Int), .slice u1p l1p c1p, .slice u1q l1q c1q, .slice u1r l1r c1r]) :: (b11, .cells 45 5 (tcC a)) :: (XR ++ H))) zH) ?_
  rintro v H' ⟨W5, Q5, R5, A5, HB5, X5, cs5, hT5, hO5, hD5, rfl, rfl⟩
  have hD6 := hD5
  have hdok := hT5.dok hO5
  have hA5 := hT5.as
  obtain ⟨adb, capb, Ds, ad1, cap1, ad2, cap2, ad3, cap3, rfl, hb, hc1, hc2, hQ0, hR0, hA0, hc3⟩ := hD5
  refine W_move rfl rfl ?_
  refine W_extract rfl rfl rfl ?_
  refine W_extract rfl rfl rfl ?_
  refine W_storeA (l' := [.slice adb ((stW W5)).length capb, .int .i64 (n : Int), .slice ad1 (Q5).length cap1, .slice ad2 (R5).length cap2, .slice ad3 (A5).length cap3]) rfl rfl ty63 rfl rfl (b := b9) zM (by exact Nat.le_refl 5) rfl zU ?_
  refine W_assign rfl rfl ?_
  refine W_nil (W_seq (W_sr ?_))
  refine W_move rfl rfl ?_
  refine W_not rfl rfl ?_
  refine W_nil ?_
  refine W_condF rfl rfl ?_
  refine W_skip (W_sr ?_)
  refine W_move rfl rfl ?_
  refine W_fieldAddr rfl fld45_2 zd rfl ?_
  refine W_load (v := .int .i64 a.cpu) rfl ty3 rfl (Cell.own (b := b11) zM rfl) rfl ?_
  refine W_callq (.cons rfl (.cons rfl .nil)) Tryz.call24 rfl (tReady_q hT5 (fun p hp => List.mem_append_left _ hp)) ?_
  refine W_move rfl rfl ?_
  refine W_extract rfl rfl rfl ?_
  refine W_extract rfl rfl rfl ?_
  refine W_assign rfl rfl ?_
  refine W_assign rfl rfl ?_
  refine W_nil (W_sr ?_)
  refine W_fieldAddr rfl fld63_1 zd rfl ?_
  refine W_loadB (vs := [.int .i64 (n : Int), .slice ad1 (Q5).length cap1, .slice ad2 (R5).length cap2]) rfl ty60 rfl (b := b9) zM rfl rfl rfl ?_
  refine W_fieldAddr rfl fld45_2 zd rfl ?_
  refine W_load (v := .int .i64 a.cpu) rfl ty3 rfl (Cell.own (b := b11) zM rfl) rfl ?_
  refine W_call (.cons rfl (.cons rfl .nil)) Tryz.call25 rfl (dReady_L (HR := X5 ++ (XR ++ H)) (n := n) (Q := Q5) (Rs := R5) ⟨ad1, cap1, ad2, cap2, rfl, hc1, hc2, hQ0, hR0⟩ (show HSub _ (X5 ++ (XR ++ H)) from zH) hdok.q hdok.r) ?_
  rintro v H' ⟨rfl, rfl⟩
  refine W_move rfl rfl ?_
  refine W_extract rfl rfl rfl ?_
  refine W_extract rfl rfl rfl ?_
  refine W_assign rfl rfl ?_
  refine W_assign rfl rfl ?_
  refine W_nil (W_sr ?_)
  refine W_move rfl rfl ?_
  refine W_fieldAddr rfl fld45_1 zd rfl ?_
  refine W_load (v := .int .i64 a.id) rfl ty3 rfl (Cell.own (b := b11) zM rfl) rfl ?_
  obtain ⟨rx, rb, er⟩ : ∃ (x : Int) (b : Bool), optV (inR R5 a.id) = .tuple #[.int .i64 x, .bool b] := by cases inR R5 a.id <;> exact ⟨_, _, rfl⟩
  refine W_callq (.cons rfl (.cons rfl .nil)) Tryz.call26 rfl (tRuns_q hT5 (fun p hp => List.mem_append_left _ hp)) ?_
  rw [er]
  refine W_move rfl rfl ?_
  refine W_extract rfl rfl rfl ?_
  refine W_extract rfl rfl rfl ?_
  refine W_assign rfl rfl ?_
  refine W_assign rfl rfl ?_
  refine W_nil (W_sr ?_)
  refine W_fieldAddr rfl fld63_1 zd rfl ?_
  refine W_loadB (vs := [.int .i64 (n : Int), .slice ad1 (Q5).length cap1, .slice ad2 (R5).length cap2]) rfl ty60 rfl (b := b9) zM rfl rfl rfl ?_
  refine W_fieldAddr rfl fld45_1 zd rfl ?_
  refine W_load (v := .int .i64 a.id) rfl ty3 rfl (Cell.own (b := b11) zM rfl) rfl ?_
  refine W_callq (.cons rfl (.cons rfl .nil)) Tryz.call27 rfl (dIn_q (n := n) (cap1 := cap1) (cap2 := cap2) (Q := Q5) (Rs := R5) (ad1 := ad1) (ad2 := ad2) (id := a.id) (by have := Q_len hdok.q; omega) (by have := hdok.r; omega) (hQ0.up (show HSub _ (X5 ++ (XR ++ H)) from zH)) (hR0.up (show HSub _ (X5 ++ (XR ++ H)) from zH))) ?_
  rw [er]
  refine W_move rfl rfl ?_
  refine W_extract rfl rfl rfl ?_
  refine W_extract rfl rfl rfl ?_
  refine W_assign rfl rfl ?_
  refine W_assign rfl rfl ?_
  refine W_nil (W_seq (W_seq ?_))
  refine W_anyC [(b9, .cells 63 5 [.slice adb ((stW W5)).length capb, .int .i64 (n : Int), .slice ad1 (Q5).length cap1, .slice ad2 (R5).length cap2, .slice ad3 (A5).length cap3]), (b11, .cells 45 5 (tcC a))] zk ?_
  refine WC_take 0 (l' := #[true, false, false, false, false, false, false, false, false, false, false, false, false, false, false, false, false, false, false, false, false, false, false, false, false, false, false, false, false]) rfl zK zK zK rfl zK (X_move rfl) rfl ?_
  refine WC_take 1 (l' := #[true, true, false, false, false, false, false, false, false, false, false, false, false, false, false, false, false, false, false, false, false, false, false, false, false, false, false, false, false]) rfl zK zK zK rfl zK (X_move rfl) rfl ?_
  refine WC_take 2 (l' := #[true, true, true, false, false, false, false, false, false, false, false, false, false, false, false, false, false, false, false, false, false, false, false, false, false, false, false, false, false]) rfl zK zK zK rfl zK (X_bin rfl rfl b_neq) rfl ?_
  rw [decide_eq_false (fun h => h rfl)]
  refine WC_take 3 (l' := #[true, true, true, true, false, false, false, false, false, false, false, false, false, false, false, false, false, false, false, false, false, false, false, false, false, false, false, false, false]) rfl zK zK zK rfl zK (X_move rfl) rfl ?_
  refine WC_gyes 4 (l' := #[true, true, true, true, true, false, false, false, false, false, false, false, false, false, false, false, false, false, false, false, false, false, false, false, false, false, false, false, false]) rfl zK zK zK rfl zK rfl rfl (X_move rfl) rfl ?_
  refine WC_gyes 5 (l' := #[true, true, true, true, true, true, false, false, false, false, false, false, false, false, false, false, false, false, false, false, false, false, false, false, false, false, false, false, false]) rfl zK zK zK rfl zK rfl rfl (X_move rfl) rfl ?_
  refine WC_gyes 6 (l' := #[true, true, true, true, true, true, true, false, false, false, false, false, false, false, false, false, false, false, false, false, false, false, false, false, false, false, false, false, false]) rfl zK zK zK rfl zK rfl rfl (X_bne rfl rfl ty4) rfl ?_
  simp only [beq_self_eq_true, Bool.not_true]
  first | refine WC_take 7 (l' := #[true, true, true, true, true, true, true, true, false, false, false, false, false, false, false, false, false, false, false, false, false, false, false, false, false, false, false, false, false]) rfl zK zK zK rfl zK (X_pickt rfl rfl) rfl ?_ | refine WC_take 7 (l' := #[true, true, true, true, true, true, true, true, false, false, false, false, false, false, false, false, false, false, false, false, false, false, false, false, false, false, false, false, false]) rfl zK zK zK rfl zK (X_pickf rfl rfl) rfl ?_
  refine WC_take 8 (l' := #[true, true, true, true, true, true, true, true, true, false, false, false, false, false, false, false, false, false, false, false, false, false, false, false, false, false, false, false, false]) rfl zK zK zK rfl zK (X_move rfl) rfl ?_
  refine WC_gyes 9 (l' := #[true, true, true, true, true, true, true, true, true, true, false, false, false, false, false, false, false, false, false, false, false, false, false, false, false, false, false, false, false]) rfl zK zK zK rfl zK rfl rfl (X_move rfl) rfl ?_
  refine WC_gyes 10 (l' := #[true, true, true, true, true, true, true, true, true, true, true, false, false, false, false, false, false, false, false, false, false, false, false, false, false, false, false, false, false]) rfl zK zK zK rfl zK rfl rfl (X_move rfl) rfl ?_
  refine WC_gyes 11 (l' := #[true, true, true, true, true, true, true, true, true, true, true, true, false, false, false, false, false, false, false, false, false, false, false, false, false, false, false, false, false]) rfl zK zK zK rfl zK rfl rfl (X_bin rfl rfl b_neq) rfl ?_
  rw [decide_eq_false (fun h => h rfl)]
  first | refine WC_take 12 (l' := #[true, true, true, true, true, true, true, true, true, true, true, true, true, false, false, false, false, false, false, false, false, false, false, false, false, false, false, false, false]) rfl zK zK zK rfl zK (X_pickt rfl rfl) rfl ?_ | refine WC_take 12 (l' := #[true, true, true, true, true, true, true, true, true, true, true, true, true, false, false, false, false, false, false, false, false, false, false, false, false, false, false, false, false]) rfl zK zK zK rfl zK (X_pickf rfl rfl) rfl ?_
  refine WC_take 13 (l' := #[true, true, true, true, true, true, true, true, true, true, true, true, true, true, false, false, false, false, false, false, false, false, false, false, false, false, false, false, false]) rfl zK zK zK rfl zK (X_move rfl) rfl ?_
  refine WC_gyes 14 (l' := #[true, true, true, true, true, true, true, true, true, true, true, true, true, true, true, false, false, false, false, false, false, false, false, false, false, false, false, false, false]) rfl zK zK zK rfl zK rfl rfl (X_move rfl) rfl ?_
  refine WC_gyes 15 (l' := #[true, true, true, true, true, true, true, true, true, true, true, true, true, true, true, true, false, false, false, false, false, false, false, false, false, false, false, false, false]) rfl zK zK zK rfl zK rfl rfl (X_move rfl) rfl ?_
  refine WC_gyes 16 (l' := #[true, true, true, true, true, true, true, true, true, true, true, true, true, true, true, true, true, false, false, false, false, false, false, false, false, false, false, false, false]) rfl zK zK zK rfl zK rfl rfl (X_bne rfl rfl ty4) rfl ?_
  simp only [beq_self_eq_true, Bool.not_true]
  first | refine WC_take 17 (l' := #[true, true, true, true, true, true, true, true, true, true, true, true, true, true, true, true, true, true, false, false, false, false, false, false, false, false, false, false, false]) rfl zK zK zK rfl zK (X_pickt rfl rfl) rfl ?_ | refine WC_take 17 (l' := #[true, true, true, true, true, true, true, true, true, true, true, true, true, true, true, true, true, true, false, false, false, false, false, false, false, false, false, false, false]) rfl zK zK zK rfl zK (X_pickf rfl rfl) rfl ?_
  refine WC_take 18 (l' := #[true, true, true, true, true, true, true, true, true, true, true, true, true, true, true, true, true, true, true, false, false, false, false, false, false, false, false, false, false]) rfl zK zK zK rfl zK (X_move rfl) rfl ?_
  refine WC_gyes 19 (l' := #[true, true, true, true, true, true, true, true, true, true, true, true, true, true, true, true, true, true, true, true, false, false, false, false, false, false, false, false, false]) rfl zK zK zK rfl zK rfl rfl (X_move rfl) rfl ?_
  refine WC_gyes 20 (l' := #[true, true, true, true, true, true, true, true, true, true, true, true, true, true, true, true, true, true, true, true, true, false, false, false, false, false, false, false, false]) rfl zK zK zK rfl zK rfl rfl (X_fieldAddr rfl fld45_1 zd) rfl ?_
  refine WC_gyes 21 (l' := #[true, true, true, true, true, true, true, true, true, true, true, true, true, true, true, true, true, true, true, true, true, true, false, false, false, false, false, false, false]) rfl zK zK zK rfl zK rfl rfl (X_load (v := .int .i64 a.id) rfl ty3 rfl (Cell.own (b := b11) zM rfl)) rfl ?_
  refine WC_gyes 23 (l' := #[true, true, true, true, true, true, true, true, true, true, true, true, true, true, true, true, true, true, true, true, true, true, false, true, false, false, false, false, false]) rfl zK zK zK rfl zK rfl rfl (X_loadB (vs := [.slice adb ((stW W5)).length capb, .int .i64 (n : Int), .slice ad1 (Q5).length cap1, .slice ad2 (R5).length cap2, .slice ad3 (A5).length cap3]) rfl ty63 rfl (b := b9) zM rfl rfl) rfl ?_
  refine WC_gyes 24 (l' := #[true, true, true, true, true, true, true, true, true, true, true, true, true, true, true, true, true, true, true, true, true, true, false, true, true, false, false, false, false]) rfl zK zK zK rfl zK rfl rfl (X_fieldAddr rfl fld45_1 zd) rfl ?_
  refine WC_gyes 25 (l' := #[true, true, true, true, true, true, true, true, true, true, true, true, true, true, true, true, true, true, true, true, true, true, false, true, true, true, false, false, false]) rfl zK zK zK rfl zK rfl rfl (X_load (v := .int .i64 a.id) rfl ty3 rfl (Cell.own (b := b11) zM rfl)) rfl ?_
  refine WC_one 22 (l' := #[true, true, true, true, true, true, true, true, true, true, true, true, true, true, true, true, true, true, true, true, true, true, true, true, true, true, false, false, false]) zH zK rfl zK ?_
  refine W_gyes rfl rfl ?_
  refine W_call (.cons rfl (.cons rfl .nil)) Tryz.call13 rfl ((State_L hT5 (id := a.id) (H := X5 ++ ((b9, .cells 63 5 [.slice adb ((stW W5)).length capb, .int .i64 (n : Int), .slice ad1 (Q5).length cap1, .slice ad2 (R5).length cap2, .slice ad3 (A5).length cap3]) :: (b11, .cells 45 5 (tcC a)) :: (XR ++ H)))).hsub zH) ?_
  rintro v H' ⟨HB6, hT6, rfl, rfl⟩
  refine W_nil ?_
  refine WC_goal ?_
  refine WC_one 26 (l' := #[true, true, true, true, true, true, true, true, true, true, true, true, true, true, true, true, true, true, true, true, true, true, true, true, true, true, true, false, false]) zH zK rfl zK ?_
  refine W_gyes rfl rfl ?_
  refine W_call (.cons rfl (.cons rfl .nil)) Tryz.call28 rfl (dmState_L (HR := X5 ++ (XR ++ H)) (id := a.id) hD6 (show HSub _ (X5 ++ (XR ++ H)) from zH) hdok) ?_
  rintro v H' ⟨rfl, rfl⟩
  rw [state_fn W5 Q5 a.id hA5]
  refine W_nil ?_
  refine WC_goal ?_
  refine WC_gyes 27 (l' := #[true, true, true, true, true, true, true, true, true, true, true, true, true, true, true, true, true, true, true, true, true, true, true, true, true, true, true, true, false]) rfl zK zK zK rfl zK rfl rfl (X_bin rfl rfl b_neq) rfl ?_
  rw [decide_eq_false (fun h => h rfl)]
  first | refine WC_take 28 (l' := #[true, true, true, true, true, true, true, true, true, true, true, true, true, true, true, true, true, true, true, true, true, true, true, true, true, true, true, true, true]) rfl zK zK zK rfl zK (X_pickt rfl rfl) rfl ?_ | refine WC_take 28 (l' := #[true, true, true, true, true, true, true, true, true, true, true, true, true, true, true, true, true, true, true, true, true, true, true, true, true, true, true, true, true]) rfl zK zK zK rfl zK (X_pickf rfl rfl) rfl ?_
  refine WC_done zH zK ?_
  refine W_condF rfl rfl ?_
  refine W_skip (W_sr ?_)
  refine W_move rfl rfl ?_
  refine W_fieldAddr rfl fld45_1 zd rfl ?_
  refine W_load (v := .int .i64 a.id) rfl ty3 rfl (Cell.own (b := b11) zM rfl) rfl ?_
  refine W_call (.cons rfl (.cons rfl .nil)) Tryz.call29 rfl ((Spot_L hT6 (id := a.id) (H := X5 ++ ((b9, .cells 63 5 [.slice adb ((stW W5)).length capb, .int .i64 (n : Int), .slice ad1 (Q5).length cap1, .slice ad2 (R5).length cap2, .slice ad3 (A5).length cap3]) :: (b11, .cells 45 5 (tcC a)) :: (XR ++ H)))).hsub zH) ?_
  rintro v H' ⟨HB7, hT7, rfl, rfl⟩
  rcases hfk : findK W5 a.id with _ | k
  ·skip
   rw [show findV W5 a.id = .tuple #[.int .i64 0, .agg zSpot.v.toArray, .bool false] from by unfold findV; rw [hfk]]
   refine W_move rfl rfl ?_
   refine W_extract rfl rfl rfl ?_
   refine W_extract rfl rfl rfl ?_
   refine W_extract rfl rfl rfl ?_
   refine W_alloc (l := zSpot.v) ty32 rfl rfl (fun b22 => ?_)
   refine W_assign rfl rfl ?_
   refine W_storeA (l' := zSpot.v) rfl rfl ty32 rfl rfl (b := b22) zM (by exact Nat.le_refl 4) rfl zU ?_
   refine W_assign rfl rfl ?_
   refine W_nil (W_sr ?_)
   refine W_fieldAddr rfl fld63_0 zd rfl ?_
   refine W_load (v := .slice adb (stW W5).length capb) rfl ty57 rfl (Cell.own (b := b9) zM rfl) rfl ?_
   refine W_fieldAddr rfl fld45_1 zd rfl ?_
   refine W_load (v := .int .i64 a.id) rfl ty3 rfl (Cell.own (b := b11) zM rfl) rfl ?_
   refine W_callq (.cons rfl (.cons rfl .nil)) Tryz.call30 rfl (rbFind_q (id := a.id) hdok.st ⟨adb, capb, Ds, rfl, hb.up (show HSub _ (X5 ++ (XR ++ H)) from zH)⟩ (by have := hdok.len; have := hdok.n64; omega)) ?_
   rw [show findZ (stW W5) a.id = -1 from by unfold findZ; rw [findS_stW, hfk]]
   refine W_assign rfl rfl ?_
   refine W_nil (W_seq ?_)
   refine W_quietsr zk zK ?_
   refine WQ_x (X_move rfl) rfl ?_
   refine WQ_x (X_move rfl) rfl ?_
   refine WQ_x (X_bin rfl rfl b_geq) rfl ?_
   first | rw [decide_eq_true (by omega)] | rw [decide_eq_false (by omega)]
   refine WQ_x (X_bne rfl rfl ty4) rfl ?_
   simp only [beq_self_eq_true, Bool.not_true]
   refine WQ_x (X_move rfl) rfl ?_
   refine WQ_gyes rfl rfl ?_
   refine WQ_x (X_move rfl) rfl ?_
   refine WQ_gyes rfl rfl ?_
   refine WQ_x (X_move rfl) rfl ?_
   refine WQ_gno rfl rfl rfl rfl ?_
   refine WQ_gno rfl rfl rfl rfl ?_
   refine WQ_gno rfl rfl rfl rfl ?_
   refine WQ_gno rfl rfl rfl rfl ?_
   refine WQ_gnou rfl rfl rfl ?_
   refine WQ_gnou rfl rfl rfl ?_
   refine WQ_gnou rfl rfl rfl ?_
   refine WQ_gnou rfl rfl rfl ?_
   refine WQ_gnou rfl rfl rfl ?_
   refine WQ_gnou rfl rfl rfl ?_
   refine WQ_gnou rfl rfl rfl ?_
   refine WQ_gnou rfl rfl rfl ?_
   refine WQ_gnou rfl rfl rfl ?_
   refine WQ_gnou rfl rfl rfl ?_
   refine WQ_gnou rfl rfl rfl ?_
   refine WQ_gnou rfl rfl rfl ?_
   refine WQ_gnou rfl rfl rfl ?_
   refine WQ_gnou rfl rfl rfl ?_
   refine WQ_gnou rfl rfl rfl ?_
   refine WQ_gnou rfl rfl rfl ?_
   refine WQ_gnou rfl rfl rfl ?_
   refine WQ_gnou rfl rfl rfl ?_
   refine WQ_gnou rfl rfl rfl ?_
   refine WQ_gnou rfl rfl rfl ?_
   refine WQ_gno rfl rfl rfl rfl ?_
   refine WQ_gyes rfl rfl ?_
   first | refine WQ_x (X_pickt rfl rfl) rfl ?_ | refine WQ_x (X_pickf rfl rfl) rfl ?_
   first | refine WQ_x (X_pickt rfl rfl) rfl ?_ | refine WQ_x (X_pickf rfl rfl) rfl ?_
   refine WQ_x (X_move rfl) rfl ?_
   refine WQ_gyes rfl rfl ?_
   refine WQ_x (X_move rfl) rfl ?_
   refine WQ_gyes rfl rfl ?_
   refine WQ_x (X_not rfl) rfl ?_
   refine WQ_gyes rfl rfl ?_
   refine WQ_x (X_move rfl) rfl ?_
   refine WQ_gyes rfl rfl ?_
   refine WQ_x (X_move rfl) rfl ?_
   refine WQ_gyes rfl rfl ?_
   refine WQ_x (X_bin rfl rfl b_neq) rfl ?_
   rw [decide_eq_false (fun h => h rfl)]
   refine WQ_gyes rfl rfl ?_
   first | refine WQ_x (X_pickt rfl rfl) rfl ?_ | refine WQ_x (X_pickf rfl rfl) rfl ?_
   first | refine WQ_x (X_pickt rfl rfl) rfl ?_ | refine WQ_x (X_pickf rfl rfl) rfl ?_
   refine WQ_nil ?_
   refine W_condF rfl rfl ?_
   refine W_skip (W_sr ?_)
   refine W_move rfl rfl ?_
   refine W_fieldAddr rfl fld45_1 zd rfl ?_
   refine W_load (v := .int .i64 a.id) rfl ty3 rfl (Cell.own (b := b11) zM rfl) rfl ?_
   refine W_callq (.cons rfl (.cons rfl .nil)) Tryz.call21 rfl (tProg_q hT7 (fun p hp => by repeat (first | exact List.mem_append_left _ hp | apply List.mem_cons_of_mem))) ?_
   refine W_move rfl rfl ?_
   refine W_extract rfl rfl rfl ?_
   refine W_extract rfl rfl rfl ?_
   refine W_assign rfl rfl ?_
   refine W_assign rfl rfl ?_
   refine W_nil (W_seq (W_sr ?_))
   refine W_fieldAddr rfl fld45_1 zd rfl ?_
   rcases (show a.id < 0 ∨ (0 ≤ a.id ∧ 255 < a.id) ∨ (0 ≤ a.id ∧ a.id ≤ 255 ∧ 0 < (ofA A5 a.id).prog) ∨ (0 ≤ a.id ∧ a.id ≤ 255 ∧ ¬ 0 < (ofA A5 a.id).prog) by omega) with hid | hid | hid | hid
   ·skip
    have hof : ofA A5 a.id = zTone := ofA_out zO
    rw [hof, show max (zTone.prog - 1) 0 = 0 from rfl, show decide (0 < zTone.prog) = false from rfl]
    refine W_load (v := .int .i64 a.id) rfl ty3 rfl (Cell.own (b := b11) zM rfl) rfl ?_
    refine W_bin rfl rfl b_lss rfl ?_
    first | rw [decide_eq_true (by omega)] | rw [decide_eq_false (by omega)]
    refine W_move rfl rfl ?_
    refine W_gno rfl rfl rfl ?_
    refine W_gno rfl rfl rfl ?_
    refine W_gno rfl rfl rfl ?_
    first | refine W_pickt rfl rfl rfl ?_ | refine W_pickf rfl rfl rfl ?_
    refine W_nil ?_
    refine W_condT rfl rfl ?_
    refine W_seq (W_sr ?_)
    refine W_move rfl rfl ?_
    refine W_bin rfl rfl b_neq rfl ?_
    rw [decide_eq_false (fun h => h rfl)]
    refine W_move rfl rfl ?_
    refine W_gyes rfl rfl ?_
    refine W_move rfl rfl ?_
    first | refine W_pickt rfl rfl rfl ?_ | refine W_pickf rfl rfl rfl ?_
    refine W_move rfl rfl ?_
    refine W_gyes rfl rfl ?_
    refine W_move rfl rfl ?_
    refine W_gyes rfl rfl ?_
    refine W_fieldAddr rfl fld45_1 zd rfl ?_
    refine W_gyes rfl rfl ?_
    refine W_load (v := .int .i64 a.id) rfl ty3 rfl (Cell.own (b := b11) zM rfl) rfl ?_
    refine W_gyes rfl rfl ?_
    refine W_callq (.cons rfl (.cons rfl .nil)) Tryz.call14 rfl (tStarts_q hT7 (fun p hp => by repeat (first | exact List.mem_append_left _ hp | apply List.mem_cons_of_mem))) ?_
    rw [hof, show zTone.starts = 0 from rfl]
    refine W_gyes rfl rfl ?_
    refine W_bin rfl rfl b_neq rfl ?_
    rw [decide_eq_false (fun h => h rfl)]
    first | refine W_pickt rfl rfl rfl ?_ | refine W_pickf rfl rfl rfl ?_
    refine W_nil ?_
    refine W_condF rfl rfl ?_
    refine W_skip ?_
    refine W_exit rfl ?_
    refine W_region ?_
    refine W_move rfl rfl ?_
    refine W_bin rfl rfl (b_add (m := ((i + 1 : Nat) : Int)) ((i64w zO).trans zO)) rfl ?_
    refine W_assign rfl rfl ?_
    refine W_nil ?_
    refine W_again ⟨i + 1, W5, Q5, R5, A5, HB7, X5 ++ XR, [.slice adb ((stW W5)).length capb, .int .i64 (n : Int), .slice ad1 (Q5).length cap1, .slice ad2 (R5).length cap2, .slice ad3 (A5).length cap3]⟩ ⟨by show i + 1 ≤ acts.length; omega, by show i + 1 ≤ 60; omega, hT7, hO5, by rw [List.append_assoc]; exact hD6⟩ (by show acts.length - (i + 1) < acts.length - i; omega) (sub_cons rfl (sub_cons rfl (sub_cons rfl (sub_cons rfl (sub_nil _))))) rfl (by show HSub _ (HB7 ++ ((b9, .cells 63 5 [.slice adb ((stW W5)).length capb, .int .i64 (n : Int), .slice ad1 (Q5).length cap1, .slice ad2 (R5).length cap2, .slice ad3 (A5).length cap3]) :: ((X5 ++ XR) ++ H))); rw [List.append_assoc]; first | exact hsubI | (repeat (first | with_reducible exact HSub.refl _ | refine HSub.cons zT ?_ | refine HSub.app zS ?_ | exact HSub.nil _ | exact HSub.refl _ | refine HSub.drop ?_ | refine HSub.dropS ?_)))
   ·skip
    have hof : ofA A5 a.id = zTone := ofA_out zO
    rw [hof, show max (zTone.prog - 1) 0 = 0 from rfl, show decide (0 < zTone.prog) = false from rfl]
    refine W_load (v := .int .i64 a.id) rfl ty3 rfl (Cell.own (b := b11) zM rfl) rfl ?_
    refine W_bin rfl rfl b_lss rfl ?_
    first | rw [decide_eq_true (by omega)] | rw [decide_eq_false (by omega)]
    refine W_move rfl rfl ?_
    refine W_gyes rfl rfl ?_
    refine W_fieldAddr rfl fld45_1 zd rfl ?_
    refine W_gyes rfl rfl ?_
    refine W_load (v := .int .i64 a.id) rfl ty3 rfl (Cell.own (b := b11) zM rfl) rfl ?_
    refine W_gyes rfl rfl ?_
    refine W_bin rfl rfl b_gtr rfl ?_
    first | rw [decide_eq_true (by omega)] | rw [decide_eq_false (by omega)]
    first | refine W_pickt rfl rfl rfl ?_ | refine W_pickf rfl rfl rfl ?_
    refine W_nil ?_
    refine W_condT rfl rfl ?_
    refine W_seq (W_sr ?_)
    refine W_move rfl rfl ?_
    refine W_bin rfl rfl b_neq rfl ?_
    rw [decide_eq_false (fun h => h rfl)]
    refine W_move rfl rfl ?_
    refine W_gyes rfl rfl ?_
    refine W_move rfl rfl ?_
    first | refine W_pickt rfl rfl rfl ?_ | refine W_pickf rfl rfl rfl ?_
    refine W_move rfl rfl ?_
    refine W_gyes rfl rfl ?_
    refine W_move rfl rfl ?_
    refine W_gyes rfl rfl ?_
    refine W_fieldAddr rfl fld45_1 zd rfl ?_
    refine W_gyes rfl rfl ?_
    refine W_load (v := .int .i64 a.id) rfl ty3 rfl (Cell.own (b := b11) zM rfl) rfl ?_
    refine W_gyes rfl rfl ?_
    refine W_callq (.cons rfl (.cons rfl .nil)) Tryz.call14 rfl (tStarts_q hT7 (fun p hp => by repeat (first | exact List.mem_append_left _ hp | apply List.mem_cons_of_mem))) ?_
    rw [hof, show zTone.starts = 0 from rfl]
    refine W_gyes rfl rfl ?_
    refine W_bin rfl rfl b_neq rfl ?_
    rw [decide_eq_false (fun h => h rfl)]
    first | refine W_pickt rfl rfl rfl ?_ | refine W_pickf rfl rfl rfl ?_
    refine W_nil ?_
    refine W_condF rfl rfl ?_
    refine W_skip ?_
    refine W_exit rfl ?_
    refine W_region ?_
    refine W_move rfl rfl ?_
    refine W_bin rfl rfl (b_add (m := ((i + 1 : Nat) : Int)) ((i64w zO).trans zO)) rfl ?_
    refine W_assign rfl rfl ?_
    refine W_nil ?_
    refine W_again ⟨i + 1, W5, Q5, R5, A5, HB7, X5 ++ XR, [.slice adb ((stW W5)).length capb, .int .i64 (n : Int), .slice ad1 (Q5).length cap1, .slice ad2 (R5).length cap2, .slice ad3 (A5).length cap3]⟩ ⟨by show i + 1 ≤ acts.length; omega, by show i + 1 ≤ 60; omega, hT7, hO5, by rw [List.append_assoc]; exact hD6⟩ (by show acts.length - (i + 1) < acts.length - i; omega) (sub_cons rfl (sub_cons rfl (sub_cons rfl (sub_cons rfl (sub_nil _))))) rfl (by show HSub _ (HB7 ++ ((b9, .cells 63 5 [.slice adb ((stW W5)).length capb, .int .i64 (n : Int), .slice ad1 (Q5).length cap1, .slice ad2 (R5).length cap2, .slice ad3 (A5).length cap3]) :: ((X5 ++ XR) ++ H))); rw [List.append_assoc]; first | exact hsubI | (repeat (first | with_reducible exact HSub.refl _ | refine HSub.cons zT ?_ | refine HSub.app zS ?_ | exact HSub.nil _ | exact HSub.refl _ | refine HSub.drop ?_ | refine HSub.dropS ?_)))
   ·skip
    obtain ⟨j, hj⟩ : ∃ j : Nat, a.id = (j : Int) := ⟨a.id.toNat, by omega⟩
    obtain ⟨o, ho⟩ := hA5.at (i := j) zO
    have hof : ofA A5 a.id = o := by rw [hj]; exact ofA_at (by omega) ho
    have hAl := hA5.len
    obtain ⟨q0, p0, eq0, hcx⟩ := Holds.row oneR_len zd hA0 ho
    rw [hof, show max (o.prog - 1) 0 = o.prog - 1 by rw [hof] at hid; omega, decide_eq_true (show 0 < o.prog by rw [hof] at hid; exact hid.2.2)]
    refine W_load (v := .int .i64 a.id) rfl ty3 rfl (Cell.own (b := b11) zM rfl) rfl ?_
    refine W_bin rfl rfl b_lss rfl ?_
    first | rw [decide_eq_true (by omega)] | rw [decide_eq_false (by omega)]
    refine W_move rfl rfl ?_
    refine W_gyes rfl rfl ?_
    refine W_fieldAddr rfl fld45_1 zd rfl ?_
    refine W_gyes rfl rfl ?_
    refine W_load (v := .int .i64 a.id) rfl ty3 rfl (Cell.own (b := b11) zM rfl) rfl ?_
    refine W_gyes rfl rfl ?_
    refine W_bin rfl rfl b_gtr rfl ?_
    first | rw [decide_eq_true (by omega)] | rw [decide_eq_false (by omega)]
    first | refine W_pickt rfl rfl rfl ?_ | refine W_pickf rfl rfl rfl ?_
    refine W_nil ?_
    refine W_condF rfl rfl ?_
    refine W_skip (W_sr ?_)
    refine W_fieldAddr rfl fld63_2 zd rfl ?_
    refine W_load (v := .slice ad3 (A5).length cap3) rfl ty61 rfl (Cell.own (b := b9) zM rfl) rfl ?_
    refine W_fieldAddr rfl fld45_1 zd rfl ?_
    refine W_load (v := .int .i64 (j : Int)) rfl ty3 rfl (Cell.own (b := b11) zM (by show some (Value.int .i64 a.id) = _; rw [hj])) rfl ?_
    refine W_indexAddr (b := q0) (o := p0) (j := j) (by rw [← eq0]; rfl) rfl ty61 ty78 rfl (by omega) rfl rfl ?_
    refine W_loadA (vs := oneR o) rfl ty78 rfl rfl (hcx.up (show HSub _ (X5 ++ (XR ++ H)) from zH)) rfl ?_
    refine W_alloc (l := [.bool false, .bool false, .int .i64 0, .int .i64 0]) ty78 rfl rfl (fun b27 => ?_)
    refine W_storeA (l' := oneR o) rfl rfl ty78 rfl rfl (b := b27) zM (by exact Nat.le_refl 4) rfl zU ?_
    refine W_nil ?_
    refine W_quietsr zk zK ?_
    refine WQ_x (X_move rfl) rfl ?_
    refine WQ_x (X_fieldAddr rfl fld78_2 zd) rfl ?_
    refine WQ_x (X_load (v := .int .i64 (o.prog - 1)) rfl ty3 rfl (Cell.own (b := b27) zM rfl)) rfl ?_
    refine WQ_x (X_bin rfl rfl b_geq) rfl ?_
    rw [hof] at hid
    first | rw [decide_eq_true (by omega)] | rw [decide_eq_false (by omega)]
    refine WQ_x (X_bne rfl rfl ty4) rfl ?_
    simp only [beq_self_eq_true, Bool.not_true]
    refine WQ_x (X_move rfl) rfl ?_
    refine WQ_gyes rfl rfl ?_
    refine WQ_x (X_move rfl) rfl ?_
    refine WQ_gyes rfl rfl ?_
    refine WQ_x (X_move rfl) rfl ?_
    refine WQ_gyes rfl rfl ?_
    refine WQ_x (X_move rfl) rfl ?_
    refine WQ_gyes rfl rfl ?_
    refine WQ_x (X_fieldAddr rfl fld78_2 zd) rfl ?_
    refine WQ_gyes rfl rfl ?_
    refine WQ_x (X_load (v := .int .i64 (o.prog - 1)) rfl ty3 rfl (Cell.own (b := b27) zM rfl)) rfl ?_
    refine WQ_gyes rfl rfl ?_
    refine WQ_x (X_bin rfl rfl b_neq) rfl ?_
    rw [decide_eq_false (fun h => h rfl)]
    refine WQ_gyes rfl rfl ?_
    first | refine WQ_x (X_pickt rfl rfl) rfl ?_ | refine WQ_x (X_pickf rfl rfl) rfl ?_
    first | refine WQ_x (X_pickt rfl rfl) rfl ?_ | refine WQ_x (X_pickf rfl rfl) rfl ?_
    refine WQ_x (X_move rfl) rfl ?_
    refine WQ_gyes rfl rfl ?_
    refine WQ_x (X_move rfl) rfl ?_
    refine WQ_gyes rfl rfl ?_
    refine WQ_x (X_not rfl) rfl ?_
    refine WQ_gyes rfl rfl ?_
    refine WQ_x (X_move rfl) rfl ?_
    refine WQ_gno rfl rfl rfl rfl ?_
    refine WQ_gno rfl rfl rfl rfl ?_
    refine WQ_gyes rfl rfl ?_
    first | refine WQ_x (X_pickt rfl rfl) rfl ?_ | refine WQ_x (X_pickf rfl rfl) rfl ?_
    first | refine WQ_x (X_pickt rfl rfl) rfl ?_ | refine WQ_x (X_pickf rfl rfl) rfl ?_
    refine WQ_x (X_move rfl) rfl ?_
    refine WQ_gyes rfl rfl ?_
    refine WQ_x (X_move rfl) rfl ?_
    refine WQ_gyes rfl rfl ?_
    refine WQ_x (X_fieldAddr rfl fld45_1 zd) rfl ?_
    refine WQ_gyes rfl rfl ?_
    refine WQ_x (X_load (v := .int .i64 a.id) rfl ty3 rfl (Cell.own (b := b11) zM rfl)) rfl ?_
    refine WQ_gyes rfl rfl ?_
    refine WQ_callq (.cons rfl (.cons rfl .nil)) Tryz.call14 rfl (tStarts_q hT7 (fun p hp => by repeat (first | exact List.mem_append_left _ hp | apply List.mem_cons_of_mem))) ?_
    rw [hof]
    refine WQ_gyes rfl rfl ?_
    refine WQ_x (X_fieldAddr rfl fld78_3 zd) rfl ?_
    refine WQ_gyes rfl rfl ?_
    refine WQ_x (X_load (v := .int .i64 o.starts) rfl ty3 rfl (Cell.own (b := b27) zM rfl)) rfl ?_
    refine WQ_gyes rfl rfl ?_
    refine WQ_x (X_bin rfl rfl b_neq) rfl ?_
    rw [decide_eq_false (fun h => h rfl)]
    first | refine WQ_x (X_pickt rfl rfl) rfl ?_ | refine WQ_x (X_pickf rfl rfl) rfl ?_
    refine WQ_nil ?_
    refine W_condF rfl rfl ?_
    refine W_skip ?_
    refine W_blk ?_
    refine W_region ?_
    refine W_move rfl rfl ?_
    refine W_bin rfl rfl (b_add (m := ((i + 1 : Nat) : Int)) ((i64w zO).trans zO)) rfl ?_
    refine W_assign rfl rfl ?_
    refine W_nil ?_
    refine W_again ⟨i + 1, W5, Q5, R5, A5, HB7, X5 ++ XR, [.slice adb ((stW W5)).length capb, .int .i64 (n : Int), .slice ad1 (Q5).length cap1, .slice ad2 (R5).length cap2, .slice ad3 (A5).length cap3]⟩ ⟨by show i + 1 ≤ acts.length; omega, by show i + 1 ≤ 60; omega, hT7, hO5, by rw [List.append_assoc]; exact hD6⟩ (by show acts.length - (i + 1) < acts.length - i; omega) (sub_cons rfl (sub_cons rfl (sub_cons rfl (sub_cons rfl (sub_nil _))))) rfl (by show HSub _ (HB7 ++ ((b9, .cells 63 5 [.slice adb ((stW W5)).length capb, .int .i64 (n : Int), .slice ad1 (Q5).length cap1, .slice ad2 (R5).length cap2, .slice ad3 (A5).length cap3]) :: ((X5 ++ XR) ++ H))); rw [List.append_assoc]; first | exact hsubI | (repeat (first | with_reducible exact HSub.refl _ | refine HSub.cons zT ?_ | refine HSub.app zS ?_ | exact HSub.nil _ | exact HSub.refl _ | refine HSub.drop ?_ | refine HSub.dropS ?_)))
   ·skip
    obtain ⟨j, hj⟩ : ∃ j : Nat, a.id = (j : Int) := ⟨a.id.toNat, by omega⟩
    obtain ⟨o, ho⟩ := hA5.at (i := j) zO
    have hof : ofA A5 a.id = o := by rw [hj]; exact ofA_at (by omega) ho
    have hAl := hA5.len
    obtain ⟨q0, p0, eq0, hcx⟩ := Holds.row oneR_len zd hA0 ho
    rw [hof, show max (o.prog - 1) 0 = 0 by rw [hof] at hid; omega, decide_eq_false (show ¬ 0 < o.prog by rw [hof] at hid; exact hid.2.2)]
    refine W_load (v := .int .i64 a.id) rfl ty3 rfl (Cell.own (b := b11) zM rfl) rfl ?_
    refine W_bin rfl rfl b_lss rfl ?_
    first | rw [decide_eq_true (by omega)] | rw [decide_eq_false (by omega)]
    refine W_move rfl rfl ?_
    refine W_gyes rfl rfl ?_
    refine W_fieldAddr rfl fld45_1 zd rfl ?_
    refine W_gyes rfl rfl ?_
    refine W_load (v := .int .i64 a.id) rfl ty3 rfl (Cell.own (b := b11) zM rfl) rfl ?_
    refine W_gyes rfl rfl ?_
    refine W_bin rfl rfl b_gtr rfl ?_
    first | rw [decide_eq_true (by omega)] | rw [decide_eq_false (by omega)]
    first | refine W_pickt rfl rfl rfl ?_ | refine W_pickf rfl rfl rfl ?_
    refine W_nil ?_
    refine W_condF rfl rfl ?_
    refine W_skip (W_sr ?_)
    refine W_fieldAddr rfl fld63_2 zd rfl ?_
    refine W_load (v := .slice ad3 (A5).length cap3) rfl ty61 rfl (Cell.own (b := b9) zM rfl) rfl ?_
    refine W_fieldAddr rfl fld45_1 zd rfl ?_
    refine W_load (v := .int .i64 (j : Int)) rfl ty3 rfl (Cell.own (b := b11) zM (by show some (Value.int .i64 a.id) = _; rw [hj])) rfl ?_
    refine W_indexAddr (b := q0) (o := p0) (j := j) (by rw [← eq0]; rfl) rfl ty61 ty78 rfl (by omega) rfl rfl ?_
    refine W_loadA (vs := oneR o) rfl ty78 rfl rfl (hcx.up (show HSub _ (X5 ++ (XR ++ H)) from zH)) rfl ?_
    refine W_alloc (l := [.bool false, .bool false, .int .i64 0, .int .i64 0]) ty78 rfl rfl (fun b27 => ?_)
    refine W_storeA (l' := oneR o) rfl rfl ty78 rfl rfl (b := b27) zM (by exact Nat.le_refl 4) rfl zU ?_
    refine W_nil ?_
    refine W_quietsr zk zK ?_
    refine WQ_x (X_move rfl) rfl ?_
    refine WQ_x (X_fieldAddr rfl fld78_2 zd) rfl ?_
    refine WQ_x (X_load (v := .int .i64 (o.prog - 1)) rfl ty3 rfl (Cell.own (b := b27) zM rfl)) rfl ?_
    refine WQ_x (X_bin rfl rfl b_geq) rfl ?_
    rw [hof] at hid
    first | rw [decide_eq_true (by omega)] | rw [decide_eq_false (by omega)]
    refine WQ_x (X_bne rfl rfl ty4) rfl ?_
    simp only [beq_self_eq_true, Bool.not_true]
    refine WQ_x (X_move rfl) rfl ?_
    refine WQ_gyes rfl rfl ?_
    refine WQ_x (X_move rfl) rfl ?_
    refine WQ_gyes rfl rfl ?_
    refine WQ_x (X_move rfl) rfl ?_
    refine WQ_gno rfl rfl rfl rfl ?_
    refine WQ_gno rfl rfl rfl rfl ?_
    refine WQ_gno rfl rfl rfl rfl ?_
    refine WQ_gno rfl rfl rfl rfl ?_
    refine WQ_gyes rfl rfl ?_
    first | refine WQ_x (X_pickt rfl rfl) rfl ?_ | refine WQ_x (X_pickf rfl rfl) rfl ?_
    first | refine WQ_x (X_pickt rfl rfl) rfl ?_ | refine WQ_x (X_pickf rfl rfl) rfl ?_
    refine WQ_x (X_move rfl) rfl ?_
    refine WQ_gyes rfl rfl ?_
    refine WQ_x (X_move rfl) rfl ?_
    refine WQ_gyes rfl rfl ?_
    refine WQ_x (X_not rfl) rfl ?_
    refine WQ_gyes rfl rfl ?_
    refine WQ_x (X_move rfl) rfl ?_
    refine WQ_gyes rfl rfl ?_
    refine WQ_x (X_move rfl) rfl ?_
    refine WQ_gyes rfl rfl ?_
    refine WQ_x (X_bin rfl rfl b_neq) rfl ?_
    rw [decide_eq_false (fun h => h rfl)]
    refine WQ_gyes rfl rfl ?_
    first | refine WQ_x (X_pickt rfl rfl) rfl ?_ | refine WQ_x (X_pickf rfl rfl) rfl ?_
    first | refine WQ_x (X_pickt rfl rfl) rfl ?_ | refine WQ_x (X_pickf rfl rfl) rfl ?_
    refine WQ_x (X_move rfl) rfl ?_
    refine WQ_gyes rfl rfl ?_
    refine WQ_x (X_move rfl) rfl ?_
    refine WQ_gyes rfl rfl ?_
    refine WQ_x (X_fieldAddr rfl fld45_1 zd) rfl ?_
    refine WQ_gyes rfl rfl ?_
    refine WQ_x (X_load (v := .int .i64 a.id) rfl ty3 rfl (Cell.own (b := b11) zM rfl)) rfl ?_
    refine WQ_gyes rfl rfl ?_
    refine WQ_callq (.cons rfl (.cons rfl .nil)) Tryz.call14 rfl (tStarts_q hT7 (fun p hp => by repeat (first | exact List.mem_append_left _ hp | apply List.mem_cons_of_mem))) ?_
    rw [hof]
    refine WQ_gyes rfl rfl ?_
    refine WQ_x (X_fieldAddr rfl fld78_3 zd) rfl ?_
    refine WQ_gyes rfl rfl ?_
    refine WQ_x (X_load (v := .int .i64 o.starts) rfl ty3 rfl (Cell.own (b := b27) zM rfl)) rfl ?_
    refine WQ_gyes rfl rfl ?_
    refine WQ_x (X_bin rfl rfl b_neq) rfl ?_
    rw [decide_eq_false (fun h => h rfl)]
    first | refine WQ_x (X_pickt rfl rfl) rfl ?_ | refine WQ_x (X_pickf rfl rfl) rfl ?_
    refine WQ_nil ?_
    refine W_condF rfl rfl ?_
    refine W_skip ?_
    refine W_blk ?_
    refine W_region ?_
    refine W_move rfl rfl ?_
    refine W_bin rfl rfl (b_add (m := ((i + 1 : Nat) : Int)) ((i64w zO).trans zO)) rfl ?_
    refine W_assign rfl rfl ?_
    refine W_nil ?_
    refine W_again ⟨i + 1, W5, Q5, R5, A5, HB7, X5 ++ XR, [.slice adb ((stW W5)).length capb, .int .i64 (n : Int), .slice ad1 (Q5).length cap1, .slice ad2 (R5).length cap2, .slice ad3 (A5).length cap3]⟩ ⟨by show i + 1 ≤ acts.length; omega, by show i + 1 ≤ 60; omega, hT7, hO5, by rw [List.append_assoc]; exact hD6⟩ (by show acts.length - (i + 1) < acts.length - i; omega) (sub_cons rfl (sub_cons rfl (sub_cons rfl (sub_cons rfl (sub_nil _))))) rfl (by show HSub _ (HB7 ++ ((b9, .cells 63 5 [.slice adb ((stW W5)).length capb, .int .i64 (n : Int), .slice ad1 (Q5).length cap1, .slice ad2 (R5).length cap2, .slice ad3 (A5).length cap3]) :: ((X5 ++ XR) ++ H))); rw [List.append_assoc]; first | exact hsubI | (repeat (first | with_reducible exact HSub.refl _ | refine HSub.cons zT ?_ | refine HSub.app zS ?_ | exact HSub.nil _ | exact HSub.refl _ | refine HSub.drop ?_ | refine HSub.dropS ?_)))
  ·skip
   obtain ⟨w, hw, hh⟩ := findK_at hfk
   have hwm := List.mem_of_getElem? hw
   have hkn := (List.getElem?_eq_some_iff.1 hw).1
   have hids := (hdok.st (w.now, w.L) (List.mem_map_of_mem (f := Wl.nl) hwm)).ids
   have hwl := (hdok.st (w.now, w.L) (List.mem_map_of_mem (f := Wl.nl) hwm)).len
   dsimp only at hids hwl
   obtain ⟨jz, t, hz, hjz, hspot⟩ := atZ_held hh hids
   have hlW : (stW W5).length = W5.length := List.length_map _
   have hDl : Ds.length = W5.length := by rw [← hlW, ← hb.st, List.length_map]
   obtain ⟨d, hd⟩ : ∃ d, Ds[k]? = some d := ⟨_, List.getElem?_eq_getElem zO⟩
   have hdw : d.now = w.now ∧ d.L = w.L := by
    have e : (Ds.map Rw.nl)[k]? = (stW W5)[k]? := by rw [hb.st]
    rw [List.getElem?_map, List.getElem?_map, hd, hw] at e
    exact Prod.mk.inj (Option.some.inj e)
   obtain ⟨hdn, hdL⟩ := hdw
   have hdm := List.mem_of_getElem? hd
   obtain ⟨qd, pd, hade, hcd⟩ := Holds.row rwC_len zd hb.row hd
   rw [← hdL] at hz hjz
   have hjl := (List.getElem?_eq_some_iff.1 hjz).1
   obtain ⟨qt, pt, hadt, hct⟩ := Holds.row tmC_len zd (hb.each d hdm).1 hjz
   rw [show findV W5 a.id = .tuple #[.int .i64 (k : Int), .agg t.s.v.toArray, .bool true] from by unfold findV; rw [hfk]; dsimp only; rw [hw]; dsimp only; rw [hspot]]
   refine W_move rfl rfl ?_
   refine W_extract rfl rfl rfl ?_
   refine W_extract rfl rfl rfl ?_
   refine W_extract rfl rfl rfl ?_
   refine W_alloc (l := zSpot.v) ty32 rfl rfl (fun b22 => ?_)
   refine W_assign rfl rfl ?_
   refine W_storeA (l' := t.s.v) rfl rfl ty32 rfl rfl (b := b22) zM (by exact Nat.le_refl 4) rfl zU ?_
   refine W_assign rfl rfl ?_
   refine W_nil (W_sr ?_)
   refine W_fieldAddr rfl fld63_0 zd rfl ?_
   refine W_load (v := .slice adb (stW W5).length capb) rfl ty57 rfl (Cell.own (b := b9) zM rfl) rfl ?_
   refine W_fieldAddr rfl fld45_1 zd rfl ?_
   refine W_load (v := .int .i64 a.id) rfl ty3 rfl (Cell.own (b := b11) zM rfl) rfl ?_
   refine W_callq (.cons rfl (.cons rfl .nil)) Tryz.call30 rfl (rbFind_q (id := a.id) hdok.st ⟨adb, capb, Ds, rfl, hb.up (show HSub _ (X5 ++ (XR ++ H)) from zH)⟩ (by have := hdok.len; have := hdok.n64; omega)) ?_
   rw [show findZ (stW W5) a.id = (k : Int) from by unfold findZ; rw [findS_stW, hfk]]
   refine W_assign rfl rfl ?_
   refine W_nil (W_seq ?_)
   refine W_quietsr zk zK ?_
   refine WQ_x (X_move rfl) rfl ?_
   refine WQ_x (X_move rfl) rfl ?_
   refine WQ_x (X_bin rfl rfl b_geq) rfl ?_
   first | rw [decide_eq_true (by omega)] | rw [decide_eq_false (by omega)]
   refine WQ_x (X_bne rfl rfl ty4) rfl ?_
   simp only [beq_self_eq_true, Bool.not_true]
   refine WQ_x (X_move rfl) rfl ?_
   refine WQ_gyes rfl rfl ?_
   refine WQ_x (X_move rfl) rfl ?_
   refine WQ_gyes rfl rfl ?_
   refine WQ_x (X_move rfl) rfl ?_
   refine WQ_gyes rfl rfl ?_
   refine WQ_x (X_move rfl) rfl ?_
   refine WQ_gyes rfl rfl ?_
   refine WQ_x (X_move rfl) rfl ?_
   refine WQ_gyes rfl rfl ?_
   refine WQ_x (X_bin rfl rfl b_neq) rfl ?_
   rw [decide_eq_false (fun h => h rfl)]
   refine WQ_gyes rfl rfl ?_
   refine WQ_x (X_move rfl) rfl ?_
   refine WQ_gyes rfl rfl ?_
   refine WQ_x (X_loadB (vs := t.s.v) rfl ty32 rfl (b := b22) zM rfl rfl) rfl ?_
   refine WQ_gyes rfl rfl ?_
   refine WQ_callp (.cons rfl .nil) Tryz.call31 rfl (T := fun _ => True) trivial rOfS_pure ?_
   refine WQ_gyes rfl rfl ?_
   refine WQ_x (X_fieldAddr rfl fld63_0 zd) rfl ?_
   refine WQ_gyes rfl rfl ?_
   refine WQ_x (X_load (v := .slice adb (stW W5).length capb) rfl ty57 rfl (Cell.own (b := b9) zM rfl)) rfl ?_
   refine WQ_gyes rfl rfl ?_
   refine WQ_x (X_move rfl) rfl ?_
   refine WQ_gyes rfl rfl ?_
   refine WQ_x (X_indexAddr (b := qd) (o := pd) (j := k) (by rw [← hade]; rfl) rfl ty57 ty76 rfl (by omega) rfl) rfl ?_
   refine WQ_gyes rfl rfl ?_
   refine WQ_x (X_fieldAddr rfl fld76_1 zd) rfl ?_
   refine WQ_gyes rfl rfl ?_
   refine WQ_x (X_load (v := .slice d.ad d.L.length d.cap) rfl ty74 rfl ((hcd 1 (.slice d.ad d.L.length d.cap) rfl).up (show HSub _ (X5 ++ (XR ++ H)) from zH))) rfl ?_
   refine WQ_gyes rfl rfl ?_
   refine WQ_x (X_fieldAddr rfl fld63_0 zd) rfl ?_
   refine WQ_gyes rfl rfl ?_
   refine WQ_x (X_load (v := .slice adb (stW W5).length capb) rfl ty57 rfl (Cell.own (b := b9) zM rfl)) rfl ?_
   refine WQ_gyes rfl rfl ?_
   refine WQ_x (X_move rfl) rfl ?_
   refine WQ_gyes rfl rfl ?_
   refine WQ_x (X_indexAddr (b := qd) (o := pd) (j := k) (by rw [← hade]; rfl) rfl ty57 ty76 rfl (by omega) rfl) rfl ?_
   refine WQ_gyes rfl rfl ?_
   refine WQ_x (X_loadA (vs := [.int .u64 ((d.now : Nat) : Int), .slice d.ad d.L.length d.cap]) rfl ty76 rfl rfl (hcd.up (show HSub _ (X5 ++ (XR ++ H)) from zH))) rfl ?_
   refine WQ_gyes rfl rfl ?_
   refine WQ_x (X_fieldAddr rfl fld45_1 zd) rfl ?_
   refine WQ_gyes rfl rfl ?_
   refine WQ_x (X_load (v := .int .i64 a.id) rfl ty3 rfl (Cell.own (b := b11) zM rfl)) rfl ?_
   refine WQ_gyes rfl rfl ?_
   refine WQ_callq (.cons rfl (.cons rfl .nil)) Tryz.call32 rfl (rFind_q (now := d.now) (cap := d.cap) (by rw [hdL]; omega) (by rw [hdL]; exact hids) ((hb.each d hdm).1.up (show HSub _ (X5 ++ (XR ++ H)) from zH))) ?_
   rw [hz]
   refine WQ_gyes rfl rfl ?_
   refine WQ_x (X_indexAddr (b := qt) (o := pt) (j := jz) (by rw [← hadt]; rfl) rfl ty74 ty73 rfl (by omega) rfl) rfl ?_
   refine WQ_gyes rfl rfl ?_
   refine WQ_x (X_fieldAddr rfl fld73_1 zd) rfl ?_
   refine WQ_gyes rfl rfl ?_
   refine WQ_x (X_loadA (vs := t.s.v) rfl ty70 rfl rfl ((Cells.tail hct).up (show HSub _ (X5 ++ (XR ++ H)) from zH))) rfl ?_
   refine WQ_gyes rfl rfl ?_
   refine WQ_x (X_neA rfl rfl ty70 zk zk (.cons zd ty3 rfl rfl rfl (eqv_int ty3) (.cons zd ty3 rfl rfl rfl (eqv_int ty3) (.cons zd ty22 rfl rfl rfl (eqv_int ty22) (.cons zd ty22 rfl rfl rfl (eqv_int ty22) .nil))))) rfl ?_
   try simp only [eq_self, decide_true, Bool.and_true, Bool.not_true]
   refine WQ_gyes rfl rfl ?_
   first | refine WQ_x (X_pickt rfl rfl) rfl ?_ | refine WQ_x (X_pickf rfl rfl) rfl ?_
   refine WQ_gyes rfl rfl ?_
   first | refine WQ_x (X_pickt rfl rfl) rfl ?_ | refine WQ_x (X_pickf rfl rfl) rfl ?_
   first | refine WQ_x (X_pickt rfl rfl) rfl ?_ | refine WQ_x (X_pickf rfl rfl) rfl ?_
   refine WQ_x (X_move rfl) rfl ?_
   refine WQ_gyes rfl rfl ?_
   refine WQ_x (X_move rfl) rfl ?_
   refine WQ_gyes rfl rfl ?_
   refine WQ_x (X_not rfl) rfl ?_
   refine WQ_gyes rfl rfl ?_
   refine WQ_x (X_move rfl) rfl ?_
   refine WQ_gno rfl rfl rfl rfl ?_
   refine WQ_gno rfl rfl rfl rfl ?_
   refine WQ_gyes rfl rfl ?_
   first | refine WQ_x (X_pickt rfl rfl) rfl ?_ | refine WQ_x (X_pickf rfl rfl) rfl ?_
   first | refine WQ_x (X_pickt rfl rfl) rfl ?_ | refine WQ_x (X_pickf rfl rfl) rfl ?_
   refine WQ_nil ?_
   refine W_condF rfl rfl ?_
   refine W_skip (W_sr ?_)
   refine W_move rfl rfl ?_
   refine W_fieldAddr rfl fld45_1 zd rfl ?_
   refine W_load (v := .int .i64 a.id) rfl ty3 rfl (Cell.own (b := b11) zM rfl) rfl ?_
   refine W_callq (.cons rfl (.cons rfl .nil)) Tryz.call21 rfl (tProg_q hT7 (fun p hp => by repeat (first | exact List.mem_append_left _ hp | apply List.mem_cons_of_mem))) ?_
   refine W_move rfl rfl ?_
   refine W_extract rfl rfl rfl ?_
   refine W_extract rfl rfl rfl ?_
   refine W_assign rfl rfl ?_
   refine W_assign rfl rfl ?_
   refine W_nil (W_seq (W_sr ?_))
   refine W_fieldAddr rfl fld45_1 zd rfl ?_
   rcases (show a.id < 0 ∨ (0 ≤ a.id ∧ 255 < a.id) ∨ (0 ≤ a.id ∧ a.id ≤ 255 ∧ 0 < (ofA A5 a.id).prog) ∨ (0 ≤ a.id ∧ a.id ≤ 255 ∧ ¬ 0 < (ofA A5 a.id).prog) by omega) with hid | hid | hid | hid
   ·skip
    have hof : ofA A5 a.id = zTone := ofA_out zO
    rw [hof, show max (zTone.prog - 1) 0 = 0 from rfl, show decide (0 < zTone.prog) = false from rfl]
    refine W_load (v := .int .i64 a.id) rfl ty3 rfl (Cell.own (b := b11) zM rfl) rfl ?_
    refine W_bin rfl rfl b_lss rfl ?_
    first | rw [decide_eq_true (by omega)] | rw [decide_eq_false (by omega)]
    refine W_move rfl rfl ?_
    refine W_gno rfl rfl rfl ?_
    refine W_gno rfl rfl rfl ?_
    refine W_gno rfl rfl rfl ?_
    first | refine W_pickt rfl rfl rfl ?_ | refine W_pickf rfl rfl rfl ?_
    refine W_nil ?_
    refine W_condT rfl rfl ?_
    refine W_seq (W_sr ?_)
    refine W_move rfl rfl ?_
    refine W_bin rfl rfl b_neq rfl ?_
    rw [decide_eq_false (fun h => h rfl)]
    refine W_move rfl rfl ?_
    refine W_gyes rfl rfl ?_
    refine W_move rfl rfl ?_
    first | refine W_pickt rfl rfl rfl ?_ | refine W_pickf rfl rfl rfl ?_
    refine W_move rfl rfl ?_
    refine W_gyes rfl rfl ?_
    refine W_move rfl rfl ?_
    refine W_gyes rfl rfl ?_
    refine W_fieldAddr rfl fld45_1 zd rfl ?_
    refine W_gyes rfl rfl ?_
    refine W_load (v := .int .i64 a.id) rfl ty3 rfl (Cell.own (b := b11) zM rfl) rfl ?_
    refine W_gyes rfl rfl ?_
    refine W_callq (.cons rfl (.cons rfl .nil)) Tryz.call14 rfl (tStarts_q hT7 (fun p hp => by repeat (first | exact List.mem_append_left _ hp | apply List.mem_cons_of_mem))) ?_
    rw [hof, show zTone.starts = 0 from rfl]
    refine W_gyes rfl rfl ?_
    refine W_bin rfl rfl b_neq rfl ?_
    rw [decide_eq_false (fun h => h rfl)]
    first | refine W_pickt rfl rfl rfl ?_ | refine W_pickf rfl rfl rfl ?_
    refine W_nil ?_
    refine W_condF rfl rfl ?_
    refine W_skip ?_
    refine W_exit rfl ?_
    refine W_region ?_
    refine W_move rfl rfl ?_
    refine W_bin rfl rfl (b_add (m := ((i + 1 : Nat) : Int)) ((i64w zO).trans zO)) rfl ?_
    refine W_assign rfl rfl ?_
    refine W_nil ?_
    refine W_again ⟨i + 1, W5, Q5, R5, A5, HB7, X5 ++ XR, [.slice adb ((stW W5)).length capb, .int .i64 (n : Int), .slice ad1 (Q5).length cap1, .slice ad2 (R5).length cap2, .slice ad3 (A5).length cap3]⟩ ⟨by show i + 1 ≤ acts.length; omega, by show i + 1 ≤ 60; omega, hT7, hO5, by rw [List.append_assoc]; exact hD6⟩ (by show acts.length - (i + 1) < acts.length - i; omega) (sub_cons rfl (sub_cons rfl (sub_cons rfl (sub_cons rfl (sub_nil _))))) rfl (by show HSub _ (HB7 ++ ((b9, .cells 63 5 [.slice adb ((stW W5)).length capb, .int .i64 (n : Int), .slice ad1 (Q5).length cap1, .slice ad2 (R5).length cap2, .slice ad3 (A5).length cap3]) :: ((X5 ++ XR) ++ H))); rw [List.append_assoc]; first | exact hsubI | (repeat (first | with_reducible exact HSub.refl _ | refine HSub.cons zT ?_ | refine HSub.app zS ?_ | exact HSub.nil _ | exact HSub.refl _ | refine HSub.drop ?_ | refine HSub.dropS ?_)))
   ·skip
    have hof : ofA A5 a.id = zTone := ofA_out zO
    rw [hof, show max (zTone.prog - 1) 0 = 0 from rfl, show decide (0 < zTone.prog) = false from rfl]
    refine W_load (v := .int .i64 a.id) rfl ty3 rfl (Cell.own (b := b11) zM rfl) rfl ?_
    refine W_bin rfl rfl b_lss rfl ?_
    first | rw [decide_eq_true (by omega)] | rw [decide_eq_false (by omega)]
    refine W_move rfl rfl ?_
    refine W_gyes rfl rfl ?_
    refine W_fieldAddr rfl fld45_1 zd rfl ?_
    refine W_gyes rfl rfl ?_
    refine W_load (v := .int .i64 a.id) rfl ty3 rfl (Cell.own (b := b11) zM rfl) rfl ?_
    refine W_gyes rfl rfl ?_
    refine W_bin rfl rfl b_gtr rfl ?_
    first | rw [decide_eq_true (by omega)] | rw [decide_eq_false (by omega)]
    first | refine W_pickt rfl rfl rfl ?_ | refine W_pickf rfl rfl rfl ?_
    refine W_nil ?_
    refine W_condT rfl rfl ?_
    refine W_seq (W_sr ?_)
    refine W_move rfl rfl ?_
    refine W_bin rfl rfl b_neq rfl ?_
    rw [decide_eq_false (fun h => h rfl)]
    refine W_move rfl rfl ?_
    refine W_gyes rfl rfl ?_
    refine W_move rfl rfl ?_
    first | refine W_pickt rfl rfl rfl ?_ | refine W_pickf rfl rfl rfl ?_
    refine W_move rfl rfl ?_
    refine W_gyes rfl rfl ?_
    refine W_move rfl rfl ?_
    refine W_gyes rfl rfl ?_
    refine W_fieldAddr rfl fld45_1 zd rfl ?_
    refine W_gyes rfl rfl ?_
    refine W_load (v := .int .i64 a.id) rfl ty3 rfl (Cell.own (b := b11) zM rfl) rfl ?_
    refine W_gyes rfl rfl ?_
    refine W_callq (.cons rfl (.cons rfl .nil)) Tryz.call14 rfl (tStarts_q hT7 (fun p hp => by repeat (first | exact List.mem_append_left _ hp | apply List.mem_cons_of_mem))) ?_
    rw [hof, show zTone.starts = 0 from rfl]
    refine W_gyes rfl rfl ?_
    refine W_bin rfl rfl b_neq rfl ?_
    rw [decide_eq_false (fun h => h rfl)]
    first | refine W_pickt rfl rfl rfl ?_ | refine W_pickf rfl rfl rfl ?_
    refine W_nil ?_
    refine W_condF rfl rfl ?_
    refine W_skip ?_
    refine W_exit rfl ?_
    refine W_region ?_
    refine W_move rfl rfl ?_
    refine W_bin rfl rfl (b_add (m := ((i + 1 : Nat) : Int)) ((i64w zO).trans zO)) rfl ?_
    refine W_assign rfl rfl ?_
    refine W_nil ?_
    refine W_again ⟨i + 1, W5, Q5, R5, A5, HB7, X5 ++ XR, [.slice adb ((stW W5)).length capb, .int .i64 (n : Int), .slice ad1 (Q5).length cap1, .slice ad2 (R5).length cap2, .slice ad3 (A5).length cap3]⟩ ⟨by show i + 1 ≤ acts.length; omega, by show i + 1 ≤ 60; omega, hT7, hO5, by rw [List.append_assoc]; exact hD6⟩ (by show acts.length - (i + 1) < acts.length - i; omega) (sub_cons rfl (sub_cons rfl (sub_cons rfl (sub_cons rfl (sub_nil _))))) rfl (by show HSub _ (HB7 ++ ((b9, .cells 63 5 [.slice adb ((stW W5)).length capb, .int .i64 (n : Int), .slice ad1 (Q5).length cap1, .slice ad2 (R5).length cap2, .slice ad3 (A5).length cap3]) :: ((X5 ++ XR) ++ H))); rw [List.append_assoc]; first | exact hsubI | (repeat (first | with_reducible exact HSub.refl _ | refine HSub.cons zT ?_ | refine HSub.app zS ?_ | exact HSub.nil _ | exact HSub.refl _ | refine HSub.drop ?_ | refine HSub.dropS ?_)))
   ·skip
    obtain ⟨j, hj⟩ : ∃ j : Nat, a.id = (j : Int) := ⟨a.id.toNat, by omega⟩
    obtain ⟨o, ho⟩ := hA5.at (i := j) zO
    have hof : ofA A5 a.id = o := by rw [hj]; exact ofA_at (by omega) ho
    have hAl := hA5.len
    obtain ⟨q0, p0, eq0, hcx⟩ := Holds.row oneR_len zd hA0 ho
    rw [hof, show max (o.prog - 1) 0 = o.prog - 1 by rw [hof] at hid; omega, decide_eq_true (show 0 < o.prog by rw [hof] at hid; exact hid.2.2)]
    refine W_load (v := .int .i64 a.id) rfl ty3 rfl (Cell.own (b := b11) zM rfl) rfl ?_
    refine W_bin rfl rfl b_lss rfl ?_
    first | rw [decide_eq_true (by omega)] | rw [decide_eq_false (by omega)]
    refine W_move rfl rfl ?_
    refine W_gyes rfl rfl ?_
    refine W_fieldAddr rfl fld45_1 zd rfl ?_
    refine W_gyes rfl rfl ?_
    refine W_load (v := .int .i64 a.id) rfl ty3 rfl (Cell.own (b := b11) zM rfl) rfl ?_
    refine W_gyes rfl rfl ?_
    refine W_bin rfl rfl b_gtr rfl ?_
    first | rw [decide_eq_true (by omega)] | rw [decide_eq_false (by omega)]
    first | refine W_pickt rfl rfl rfl ?_ | refine W_pickf rfl rfl rfl ?_
    refine W_nil ?_
    refine W_condF rfl rfl ?_
    refine W_skip (W_sr ?_)
    refine W_fieldAddr rfl fld63_2 zd rfl ?_
    refine W_load (v := .slice ad3 (A5).length cap3) rfl ty61 rfl (Cell.own (b := b9) zM rfl) rfl ?_
    refine W_fieldAddr rfl fld45_1 zd rfl ?_
    refine W_load (v := .int .i64 (j : Int)) rfl ty3 rfl (Cell.own (b := b11) zM (by show some (Value.int .i64 a.id) = _; rw [hj])) rfl ?_
    refine W_indexAddr (b := q0) (o := p0) (j := j) (by rw [← eq0]; rfl) rfl ty61 ty78 rfl (by omega) rfl rfl ?_
    refine W_loadA (vs := oneR o) rfl ty78 rfl rfl (hcx.up (show HSub _ (X5 ++ (XR ++ H)) from zH)) rfl ?_
    refine W_alloc (l := [.bool false, .bool false, .int .i64 0, .int .i64 0]) ty78 rfl rfl (fun b27 => ?_)
    refine W_storeA (l' := oneR o) rfl rfl ty78 rfl rfl (b := b27) zM (by exact Nat.le_refl 4) rfl zU ?_
    refine W_nil ?_
    refine W_quietsr zk zK ?_
    refine WQ_x (X_move rfl) rfl ?_
    refine WQ_x (X_fieldAddr rfl fld78_2 zd) rfl ?_
    refine WQ_x (X_load (v := .int .i64 (o.prog - 1)) rfl ty3 rfl (Cell.own (b := b27) zM rfl)) rfl ?_
    refine WQ_x (X_bin rfl rfl b_geq) rfl ?_
    rw [hof] at hid
    first | rw [decide_eq_true (by omega)] | rw [decide_eq_false (by omega)]
    refine WQ_x (X_bne rfl rfl ty4) rfl ?_
    simp only [beq_self_eq_true, Bool.not_true]
    refine WQ_x (X_move rfl) rfl ?_
    refine WQ_gyes rfl rfl ?_
    refine WQ_x (X_move rfl) rfl ?_
    refine WQ_gyes rfl rfl ?_
    refine WQ_x (X_move rfl) rfl ?_
    refine WQ_gyes rfl rfl ?_
    refine WQ_x (X_move rfl) rfl ?_
    refine WQ_gyes rfl rfl ?_
    refine WQ_x (X_fieldAddr rfl fld78_2 zd) rfl ?_
    refine WQ_gyes rfl rfl ?_
    refine WQ_x (X_load (v := .int .i64 (o.prog - 1)) rfl ty3 rfl (Cell.own (b := b27) zM rfl)) rfl ?_
    refine WQ_gyes rfl rfl ?_
    refine WQ_x (X_bin rfl rfl b_neq) rfl ?_
    rw [decide_eq_false (fun h => h rfl)]
    refine WQ_gyes rfl rfl ?_
    first | refine WQ_x (X_pickt rfl rfl) rfl ?_ | refine WQ_x (X_pickf rfl rfl) rfl ?_
    first | refine WQ_x (X_pickt rfl rfl) rfl ?_ | refine WQ_x (X_pickf rfl rfl) rfl ?_
    refine WQ_x (X_move rfl) rfl ?_
    refine WQ_gyes rfl rfl ?_
    refine WQ_x (X_move rfl) rfl ?_
    refine WQ_gyes rfl rfl ?_
    refine WQ_x (X_not rfl) rfl ?_
    refine WQ_gyes rfl rfl ?_
    refine WQ_x (X_move rfl) rfl ?_
    refine WQ_gno rfl rfl rfl rfl ?_
    refine WQ_gno rfl rfl rfl rfl ?_
    refine WQ_gyes rfl rfl ?_
    first | refine WQ_x (X_pickt rfl rfl) rfl ?_ | refine WQ_x (X_pickf rfl rfl) rfl ?_
    first | refine WQ_x (X_pickt rfl rfl) rfl ?_ | refine WQ_x (X_pickf rfl rfl) rfl ?_
    refine WQ_x (X_move rfl) rfl ?_
    refine WQ_gyes rfl rfl ?_
    refine WQ_x (X_move rfl) rfl ?_
    refine WQ_gyes rfl rfl ?_
    refine WQ_x (X_fieldAddr rfl fld45_1 zd) rfl ?_
    refine WQ_gyes rfl rfl ?_
    refine WQ_x (X_load (v := .int .i64 a.id) rfl ty3 rfl (Cell.own (b := b11) zM rfl)) rfl ?_
    refine WQ_gyes rfl rfl ?_
    refine WQ_callq (.cons rfl (.cons rfl .nil)) Tryz.call14 rfl (tStarts_q hT7 (fun p hp => by repeat (first | exact List.mem_append_left _ hp | apply List.mem_cons_of_mem))) ?_
    rw [hof]
    refine WQ_gyes rfl rfl ?_
    refine WQ_x (X_fieldAddr rfl fld78_3 zd) rfl ?_
    refine WQ_gyes rfl rfl ?_
    refine WQ_x (X_load (v := .int .i64 o.starts) rfl ty3 rfl (Cell.own (b := b27) zM rfl)) rfl ?_
    refine WQ_gyes rfl rfl ?_
    refine WQ_x (X_bin rfl rfl b_neq) rfl ?_
    rw [decide_eq_false (fun h => h rfl)]
    first | refine WQ_x (X_pickt rfl rfl) rfl ?_ | refine WQ_x (X_pickf rfl rfl) rfl ?_
    refine WQ_nil ?_
    refine W_condF rfl rfl ?_
    refine W_skip ?_
    refine W_blk ?_
    refine W_region ?_
    refine W_move rfl rfl ?_
    refine W_bin rfl rfl (b_add (m := ((i + 1 : Nat) : Int)) ((i64w zO).trans zO)) rfl ?_
    refine W_assign rfl rfl ?_
    refine W_nil ?_
    refine W_again ⟨i + 1, W5, Q5, R5, A5, HB7, X5 ++ XR, [.slice adb ((stW W5)).length capb, .int .i64 (n : Int), .slice ad1 (Q5).length cap1, .slice ad2 (R5).length cap2, .slice ad3 (A5).length cap3]⟩ ⟨by show i + 1 ≤ acts.length; omega, by show i + 1 ≤ 60; omega, hT7, hO5, by rw [List.append_assoc]; exact hD6⟩ (by show acts.length - (i + 1) < acts.length - i; omega) (sub_cons rfl (sub_cons rfl (sub_cons rfl (sub_cons rfl (sub_nil _))))) rfl (by show HSub _ (HB7 ++ ((b9, .cells 63 5 [.slice adb ((stW W5)).length capb, .int .i64 (n : Int), .slice ad1 (Q5).length cap1, .slice ad2 (R5).length cap2, .slice ad3 (A5).length cap3]) :: ((X5 ++ XR) ++ H))); rw [List.append_assoc]; first | exact hsubI | (repeat (first | with_reducible exact HSub.refl _ | refine HSub.cons zT ?_ | refine HSub.app zS ?_ | exact HSub.nil _ | exact HSub.refl _ | refine HSub.drop ?_ | refine HSub.dropS ?_)))
   ·skip
    obtain ⟨j, hj⟩ : ∃ j : Nat, a.id = (j : Int) := ⟨a.id.toNat, by omega⟩
    obtain ⟨o, ho⟩ := hA5.at (i := j) zO
    have hof : ofA A5 a.id = o := by rw [hj]; exact ofA_at (by omega) ho
    have hAl := hA5.len
    obtain ⟨q0, p0, eq0, hcx⟩ := Holds.row oneR_len zd hA0 ho
    rw [hof, show max (o.prog - 1) 0 = 0 by rw [hof] at hid; omega, decide_eq_false (show ¬ 0 < o.prog by rw [hof] at hid; exact hid.2.2)]
    refine W_load (v := .int .i64 a.id) rfl ty3 rfl (Cell.own (b := b11) zM rfl) rfl ?_
    refine W_bin rfl rfl b_lss rfl ?_
    first | rw [decide_eq_true (by omega)] | rw [decide_eq_false (by omega)]
    refine W_move rfl rfl ?_
    refine W_gyes rfl rfl ?_
    refine W_fieldAddr rfl fld45_1 zd rfl ?_
    refine W_gyes rfl rfl ?_
    refine W_load (v := .int .i64 a.id) rfl ty3 rfl (Cell.own (b := b11) zM rfl) rfl ?_
    refine W_gyes rfl rfl ?_
    refine W_bin rfl rfl b_gtr rfl ?_
    first | rw [decide_eq_true (by omega)] | rw [decide_eq_false (by omega)]
    first | refine W_pickt rfl rfl rfl ?_ | refine W_pickf rfl rfl rfl ?_
    refine W_nil ?_
    refine W_condF rfl rfl ?_
    refine W_skip (W_sr ?_)
    refine W_fieldAddr rfl fld63_2 zd rfl ?_
    refine W_load (v := .slice ad3 (A5).length cap3) rfl ty61 rfl (Cell.own (b := b9) zM rfl) rfl ?_
    refine W_fieldAddr rfl fld45_1 zd rfl ?_
    refine W_load (v := .int .i64 (j : Int)) rfl ty3 rfl (Cell.own (b := b11) zM (by show some (Value.int .i64 a.id) = _; rw [hj])) rfl ?_
    refine W_indexAddr (b := q0) (o := p0) (j := j) (by rw [← eq0]; rfl) rfl ty61 ty78 rfl (by omega) rfl rfl ?_
    refine W_loadA (vs := oneR o) rfl ty78 rfl rfl (hcx.up (show HSub _ (X5 ++ (XR ++ H)) from zH)) rfl ?_
    refine W_alloc (l := [.bool false, .bool false, .int .i64 0, .int .i64 0]) ty78 rfl rfl (fun b27 => ?_)
    refine W_storeA (l' := oneR o) rfl rfl ty78 rfl rfl (b := b27) zM (by exact Nat.le_refl 4) rfl zU ?_
    refine W_nil ?_
    refine W_quietsr zk zK ?_
    refine WQ_x (X_move rfl) rfl ?_
    refine WQ_x (X_fieldAddr rfl fld78_2 zd) rfl ?_
    refine WQ_x (X_load (v := .int .i64 (o.prog - 1)) rfl ty3 rfl (Cell.own (b := b27) zM rfl)) rfl ?_
    refine WQ_x (X_bin rfl rfl b_geq) rfl ?_
    rw [hof] at hid
    first | rw [decide_eq_true (by omega)] | rw [decide_eq_false (by omega)]
    refine WQ_x (X_bne rfl rfl ty4) rfl ?_
    simp only [beq_self_eq_true, Bool.not_true]
    refine WQ_x (X_move rfl) rfl ?_
    refine WQ_gyes rfl rfl ?_
    refine WQ_x (X_move rfl) rfl ?_
    refine WQ_gyes rfl rfl ?_
    refine WQ_x (X_move rfl) rfl ?_
    refine WQ_gno rfl rfl rfl rfl ?_
    refine WQ_gno rfl rfl rfl rfl ?_
    refine WQ_gno rfl rfl rfl rfl ?_
    refine WQ_gno rfl rfl rfl rfl ?_
    refine WQ_gyes rfl rfl ?_
    first | refine WQ_x (X_pickt rfl rfl) rfl ?_ | refine WQ_x (X_pickf rfl rfl) rfl ?_
    first | refine WQ_x (X_pickt rfl rfl) rfl ?_ | refine WQ_x (X_pickf rfl rfl) rfl ?_
    refine WQ_x (X_move rfl) rfl ?_
    refine WQ_gyes rfl rfl ?_
    refine WQ_x (X_move rfl) rfl ?_
    refine WQ_gyes rfl rfl ?_
    refine WQ_x (X_not rfl) rfl ?_
    refine WQ_gyes rfl rfl ?_
    refine WQ_x (X_move rfl) rfl ?_
    refine WQ_gyes rfl rfl ?_
    refine WQ_x (X_move rfl) rfl ?_
    refine WQ_gyes rfl rfl ?_
    refine WQ_x (X_bin rfl rfl b_neq) rfl ?_
    rw [decide_eq_false (fun h => h rfl)]
    refine WQ_gyes rfl rfl ?_
    first | refine WQ_x (X_pickt rfl rfl) rfl ?_ | refine WQ_x (X_pickf rfl rfl) rfl ?_
    first | refine WQ_x (X_pickt rfl rfl) rfl ?_ | refine WQ_x (X_pickf rfl rfl) rfl ?_
    refine WQ_x (X_move rfl) rfl ?_
    refine WQ_gyes rfl rfl ?_
    refine WQ_x (X_move rfl) rfl ?_
    refine WQ_gyes rfl rfl ?_
    refine WQ_x (X_fieldAddr rfl fld45_1 zd) rfl ?_
    refine WQ_gyes rfl rfl ?_
    refine WQ_x (X_load (v := .int .i64 a.id) rfl ty3 rfl (Cell.own (b := b11) zM rfl)) rfl ?_
    refine WQ_gyes rfl rfl ?_
    refine WQ_callq (.cons rfl (.cons rfl .nil)) Tryz.call14 rfl (tStarts_q hT7 (fun p hp => by repeat (first | exact List.mem_append_left _ hp | apply List.mem_cons_of_mem))) ?_
    rw [hof]
    refine WQ_gyes rfl rfl ?_
    refine WQ_x (X_fieldAddr rfl fld78_3 zd) rfl ?_
    refine WQ_gyes rfl rfl ?_
    refine WQ_x (X_load (v := .int .i64 o.starts) rfl ty3 rfl (Cell.own (b := b27) zM rfl)) rfl ?_
    refine WQ_gyes rfl rfl ?_
    refine WQ_x (X_bin rfl rfl b_neq) rfl ?_
    rw [decide_eq_false (fun h => h rfl)]
    first | refine WQ_x (X_pickt rfl rfl) rfl ?_ | refine WQ_x (X_pickf rfl rfl) rfl ?_
    refine WQ_nil ?_
    refine W_condF rfl rfl ?_
    refine W_skip ?_
    refine W_blk ?_
    refine W_region ?_
    refine W_move rfl rfl ?_
    refine W_bin rfl rfl (b_add (m := ((i + 1 : Nat) : Int)) ((i64w zO).trans zO)) rfl ?_
    refine W_assign rfl rfl ?_
    refine W_nil ?_
    refine W_again ⟨i + 1, W5, Q5, R5, A5, HB7, X5 ++ XR, [.slice adb ((stW W5)).length capb, .int .i64 (n : Int), .slice ad1 (Q5).length cap1, .slice ad2 (R5).length cap2, .slice ad3 (A5).length cap3]⟩ ⟨by show i + 1 ≤ acts.length; omega, by show i + 1 ≤ 60; omega, hT7, hO5, by rw [List.append_assoc]; exact hD6⟩ (by show acts.length - (i + 1) < acts.length - i; omega) (sub_cons rfl (sub_cons rfl (sub_cons rfl (sub_cons rfl (sub_nil _))))) rfl (by show HSub _ (HB7 ++ ((b9, .cells 63 5 [.slice adb ((stW W5)).length capb, .int .i64 (n : Int), .slice ad1 (Q5).length cap1, .slice ad2 (R5).length cap2, .slice ad3 (A5).length cap3]) :: ((X5 ++ XR) ++ H))); rw [List.append_assoc]; first | exact hsubI | (repeat (first | with_reducible exact HSub.refl _ | refine HSub.cons zT ?_ | refine HSub.app zS ?_ | exact HSub.nil _ | exact HSub.refl _ | refine HSub.drop ?_ | refine HSub.dropS ?_)))
 ·skip
  refine W_exit rfl ?_
  refine W_sr ?_
  refine W_callp .nil Tryz.call12 rfl hT tknown_pure ?_
  refine W_assign rfl rfl ?_
  refine W_nil ?_
  refine W_ret1m (H2 := H) Tryz.results6 rfl (.nil _) zH ?_
  exact ⟨rfl, rfl⟩
end Go.Proofs.YtcmfldfeakmdoaaGreatDoor
