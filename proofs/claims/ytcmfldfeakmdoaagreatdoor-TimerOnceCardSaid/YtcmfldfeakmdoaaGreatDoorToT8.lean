/-
  Own work: contracts of functions that the statement reaches, and plain facts on what they compute; each theorem says its conditions.
-/
import Derived.Test.YtcmfldfeakmdoaaGreatDoorToT7
import Derived.Test.YtcmfldfeakmdoaaGreatDoorToS2
import Derived.Test.YtcmfldfeakmdoaaGreatDoorToA
set_option linter.all false
set_option linter.unusedSimpArgs false
set_option linter.unusedVariables false
namespace Go.Proofs.YtcmfldfeakmdoaaGreatDoor
open Go Go.Sl
attribute [local irreducible] W
set_option maxRecDepth 100000
set_option maxHeartbeats 16000000 in
theorem timerOnce_pure {now : Nat} {acts : List Tct} {ada : Option Addr} {capa : Nat} (hnow : now ≤ 18446744073709551615) (hokA : ∀ a ∈ acts, a.In) (hal : acts.length ≤ 9223372036854775807) : Pure Tryz.prog (fun w => Tab w ∧ InRow w ada (tcRow acts)) 4 [.int .u64 ((now : Nat) : Int), .slice ada acts.length capa] (.bool true) := by
  intro w0 H hT
  have hacts : Holds w0 H ada (tcRow acts) := Holds.old hT.2
  replace hT := hT.1
  refine L_enter Tryz.func4 rfl Tryz.ntmps4 rfl rfl ?_
  refine W_sr ?_
  refine W_assign rfl rfl ?_
  refine W_nil ?_
  refine W_sr ?_
  refine W_move rfl rfl ?_
  refine W_call (.cons rfl (.cons rfl .nil)) Tryz.call8 rfl (tNew_at (n := 3) (now := now) (by decide)) ?_
  rintro v H' ⟨tb, Ws0, HB0, rfl, hT0, hWl, hfr, rfl⟩
  refine W_move rfl rfl ?_
  refine W_extract rfl rfl rfl ?_
  refine W_extract rfl rfl rfl ?_
  refine W_assign rfl rfl ?_
  refine W_assign rfl rfl ?_
  refine W_nil ?_
  refine W_seq ?_
  refine W_sr ?_
  refine W_move rfl rfl ?_
  refine W_bin rfl rfl b_neq rfl ?_
  refine W_nil ?_
  refine W_condF rfl rfl ?_
  refine W_skip ?_
  refine W_sr ?_
  refine W_alloc (l := (List.replicate 16 false).map (Value.bool)) ty40 rfl rfl (fun b7 => ?_)
  refine W_nil ?_
  refine W_sr ?_
  refine W_alloc (l := (List.replicate 16 zSpot).flatMap Spot.v) ty41 rfl rfl (fun b8 => ?_)
  refine W_nil ?_
  refine W_sr ?_
  refine W_alloc (l := (List.replicate 16 (0 : Int)).map (Value.int .i64)) ty42 rfl rfl (fun b9 => ?_)
  refine W_nil ?_
  refine W_sr ?_
  refine W_alloc (l := ([0, 0, 0] : List Nat).map (fun (n : Nat) => Value.int .u64 (n : Int))) ty43 rfl rfl (fun b10 => ?_)
  refine W_nil ?_
  refine W_sr ?_
  refine W_move rfl rfl ?_
  refine W_move rfl rfl ?_
  refine W_move rfl rfl ?_
  refine W_indexAddrA (j := 0) rfl rfl ty43 ty22 (by first | rfl | omega) (by first | decide | omega | simp) rfl rfl ?_
  refine W_store (l' := ([now, 0, 0] : List Nat).map (fun (n : Nat) => Value.int .u64 (n : Int))) rfl rfl ty22 rfl rfl (b := b10) zM rfl rfl zU ?_
  refine W_indexAddrA (j := 1) rfl rfl ty43 ty22 (by first | rfl | omega) (by first | decide | omega | simp) rfl rfl ?_
  refine W_store (l' := ([now, now, 0] : List Nat).map (fun (n : Nat) => Value.int .u64 (n : Int))) rfl rfl ty22 rfl rfl (b := b10) zM rfl rfl zU ?_
  refine W_indexAddrA (j := 2) rfl rfl ty43 ty22 (by first | rfl | omega) (by first | decide | omega | simp) rfl rfl ?_
  refine W_store (l' := ([now, now, now] : List Nat).map (fun (n : Nat) => Value.int .u64 (n : Int))) rfl rfl ty22 rfl rfl (b := b10) zM rfl rfl zU ?_
  refine W_nil ?_
  refine W_seq ?_
  refine W_sr ?_
  refine W_assign rfl rfl ?_
  refine W_nil ?_
  refine W_block ?_
  refine W_loopC (X := OnS) [(1, _), (5, _), (7, _), (8, _), (9, _), (10, _)] (fun (x : OnS) => [(11, .int .i64 (x.i : Int))]) (fun _ => _) (fun (x : OnS) => x.HB ++ ((b7, .cells 40 16 ((x.wl).map (Value.bool))) :: (b8, .cells 41 64 ((x.sl).flatMap Spot.v)) :: (b9, .cells 42 16 ((x.cl).map (Value.int .i64))) :: (b10, .cells 43 3 ((x.ll).map (fun (n : Nat) => Value.int .u64 (n : Int)))) :: H)) (fun (x : OnS) => x.i ≤ min acts.length 100 ∧ TimerH tb 3 x.Ws x.Q x.Rs x.As x.HB ∧ OnI x) (fun (x : OnS) => min acts.length 100 - x.i) ⟨0, Ws0, [], [], List.replicate 256 zTone, HB0, List.replicate 16 false, List.replicate 16 zSpot, List.replicate 16 0, [now, now, now]⟩ ⟨Nat.zero_le _, hT0, on_start hnow hWl hfr⟩ (sub_cons rfl (sub_cons rfl (sub_cons rfl (sub_cons rfl (sub_cons rfl (sub_cons rfl (sub_nil _))))))) (sub_cons rfl (sub_nil _)) rfl zH ?_
  rintro ⟨i, Ws, Q, Rs, As, HB, wl, sl, cl, ll⟩ ⟨hin, hT4, hI⟩
  dsimp only at hin hT4 ⊢
  have hlW : Ws.length = 3 := hI.lenW
  have hl1 : wl.length = 16 := hI.l1
  have hl2 : sl.length = 16 := hI.l2
  have hl3 : cl.length = 16 := hI.l3
  have hl4 : ll.length = 3 := hI.l4
  simp only [List.cons_append, List.nil_append]
  refine W_seq ?_
  refine W_sr ?_
  refine W_move rfl rfl ?_
  refine W_move rfl rfl ?_
  refine W_len rfl ty39 rfl rfl ?_
  refine W_bin rfl rfl b_lss rfl ?_
  refine W_move rfl rfl ?_
  apply W_and
  iterate 4 exact rfl
  case h1 =>
    intro hg4
    refine W_gyes rfl rfl ?_
    refine W_move rfl rfl ?_
    refine W_gyes rfl rfl ?_
    refine W_bin rfl rfl b_lss rfl ?_
    exact W_met rfl zR
  refine W_nil ?_
  refine W_condPS (p := (i : Int) < (acts.length : Int) ∧ (i : Int) < 100) rfl (by first | exact Iff.rfl | simp) (fun q0 => ?_) (fun q0 => ?_)
  · skip
    refine W_skip ?_
    refine W_seq ?_
    refine W_block ?_
    refine W_sr ?_
    obtain ⟨a, ha⟩ : ∃ a, acts[i]? = some a := ⟨_, List.getElem?_eq_getElem (by omega)⟩
    obtain ⟨qa, pa, rfl, hca⟩ := hacts.row tcC_len (by decide) ha
    have hok := hokA a (List.mem_of_getElem? ha)
    obtain ⟨j, hj, hremj⟩ := modW_is a.id (N := 16) (by decide)
    obtain ⟨c, hc, hremc⟩ := modW_is a.cpu (N := 3) (by decide)
    obtain ⟨kd, hkd, hremk⟩ := modW_is a.kind (N := 10) (by decide)
    obtain ⟨m, hm32, hremm⟩ := modW_is a.n (N := 32) (by decide)
    obtain ⟨at_, hat⟩ : ∃ q : Nat, a.at_ = (q : Int) := ⟨a.at_.toNat, by have := hok.2.2.2.2; omega⟩
    have hatm : at_ ≤ 18446744073709551615 := by have := hok.2.2.2.2; omega
    obtain ⟨w, hw⟩ : ∃ w, Ws[c]? = some w := ⟨_, List.getElem?_eq_getElem (by omega)⟩
    have hlast : ll[c]? = some w.now := hI.last c w hw
    have hwn : w.now ≤ 18446744073709551615 := hI.ok.bank.now w (List.mem_of_getElem? hw)
    refine W_move rfl rfl ?_
    refine W_move rfl rfl ?_
    refine W_indexAddr (j := i) rfl rfl ty39 ty45 (by first | rfl | omega) (by first | decide | omega | simp) rfl rfl ?_
    refine W_loadA (vs := tcC a) rfl ty45 rfl rfl (hca.up zH) rfl ?_
    refine W_alloc (l := [.int .i64 0, .int .i64 0, .int .i64 0, .int .i64 0, .int .u64 0]) ty45 rfl rfl (fun b12 => ?_)
    refine W_storeA (l' := tcC a) rfl rfl ty45 rfl rfl (b := b12) zM (by exact Nat.le_refl 5) rfl zU ?_
    refine W_nil ?_
    refine W_quietsr (by kernel_rfl) (by decide +kernel) ?_
    refine WQ_x (X_fieldAddr rfl fld45_1 (by decide)) rfl ?_
    refine WQ_x (X_load (v := .int .i64 a.id) rfl ty3 rfl (Cell.own (b := b12) zM rfl)) rfl ?_
    refine WQ_x (X_conv rfl ty3 ty22 rfl) rfl ?_
    refine WQ_x (X_bin rfl rfl (b_rem (by decide) (m := (j : Int)) hremj)) rfl ?_
    refine WQ_x (X_conv rfl ty22 ty3 (m := (j : Int)) (i64w (by omega))) rfl ?_
    refine WQ_x (X_fieldAddr rfl fld45_2 (by decide)) rfl ?_
    refine WQ_x (X_load (v := .int .i64 a.cpu) rfl ty3 rfl (Cell.own (b := b12) zM rfl)) rfl ?_
    refine WQ_x (X_conv rfl ty3 ty22 rfl) rfl ?_
    refine WQ_x (X_bin rfl rfl (b_rem (by decide) (m := (c : Int)) hremc)) rfl ?_
    refine WQ_x (X_conv rfl ty22 ty3 (m := (c : Int)) (i64w (by omega))) rfl ?_
    refine WQ_x (X_assign rfl) rfl ?_
    refine WQ_x (X_assign rfl) rfl ?_
    refine WQ_nil ?_
    refine W_sr ?_
    refine W_fieldAddr rfl fld45_0 (by decide) rfl ?_
    refine W_load (v := .int .i64 a.kind) rfl ty3 rfl (Cell.own (b := b12) zM rfl) rfl ?_
    refine W_conv rfl ty3 ty22 rfl rfl ?_
    refine W_bin rfl rfl (b_rem (by decide) (m := (kd : Int)) hremk) rfl ?_
    refine W_nil ?_
    refine W_block ?_
    refine W_seq ?_
    refine W_sr ?_
    refine W_bin rfl rfl b_eql rfl ?_
    refine W_assign rfl rfl ?_
    refine W_nil ?_
    refine W_condPS (p := kd = 0) rfl (by rw [decide_eq_true_eq]; omega) (fun q1 => ?_) (fun q1 => ?_)
    · skip
      refine W_skip ?_
      refine W_condT rfl rfl ?_
      refine W_sr ?_
      skip
      · skip
        refine W_move rfl rfl ?_
        refine W_move rfl rfl ?_
        refine W_call (.cons rfl (.cons rfl .nil)) Tryz.call9 rfl ((Init_L hT4 (id := (j : Int)) (H := (b12, .cells 45 5 (tcC a)) :: (b7, .cells 40 16 ((wl).map (Value.bool))) :: (b8, .cells 41 64 ((sl).flatMap Spot.v)) :: (b9, .cells 42 16 ((cl).map (Value.int .i64))) :: (b10, .cells 43 3 ((ll).map (fun (n : Nat) => Value.int .u64 (n : Int)))) :: H)).hsub zH) ?_
        rintro v H' ⟨HB5, hT5, rfl, rfl⟩
        refine W_nil ?_
        refine W_region ?_
        refine W_move rfl rfl ?_
        refine W_move rfl rfl ?_
        refine W_move rfl rfl ?_
        refine W_call (.cons rfl (.cons rfl (.cons rfl .nil))) Tryz.call10 rfl ((Set_L hT5 (id := (j : Int)) (prog := (j : Int)) (H := (b12, .cells 45 5 (tcC a)) :: (b7, .cells 40 16 ((wl).map (Value.bool))) :: (b8, .cells 41 64 ((sl).flatMap Spot.v)) :: (b9, .cells 42 16 ((cl).map (Value.int .i64))) :: (b10, .cells 43 3 ((ll).map (fun (n : Nat) => Value.int .u64 (n : Int)))) :: H)).hsub zH) ?_
        rintro v H' ⟨HB6, hT6, rfl, rfl⟩
        refine W_nil ?_
        refine W_blk ?_
        refine W_blk ?_
        refine W_region ?_
        refine W_move rfl rfl ?_
        refine W_bin rfl rfl (b_add (m := ((i + 1 : Nat) : Int)) ((i64w (by omega)).trans (by omega))) rfl ?_
        refine W_assign rfl rfl ?_
        refine W_nil ?_
        refine W_again ⟨i + 1, Ws, Q, Rs, (setA (onA initO As (j : Int)).1 (j : Int) (j : Int)).1, HB6, wl, sl, cl, ll⟩ ⟨by show i + 1 ≤ min acts.length 100; omega, by exact hT6, hI.initset hj⟩ (by show min acts.length 100 - (i + 1) < min acts.length 100 - i; omega) (sub_cons rfl (sub_cons rfl (sub_cons rfl (sub_cons rfl (sub_cons rfl (sub_cons rfl (sub_cons rfl (sub_nil _)))))))) rfl zH
    · skip
      refine W_region ?_
      refine W_bin rfl rfl b_eql rfl ?_
      refine W_assign rfl rfl ?_
      refine W_nil ?_
      refine W_condPS (p := kd = 1) rfl (by rw [decide_eq_true_eq]; omega) (fun q2 => ?_) (fun q2 => ?_)
      · skip
        refine W_sr ?_
        skip
        · skip
          refine W_move rfl rfl ?_
          refine W_move rfl rfl ?_
          refine W_call (.cons rfl (.cons rfl .nil)) Tryz.call9 rfl ((Init_L hT4 (id := (j : Int)) (H := (b12, .cells 45 5 (tcC a)) :: (b7, .cells 40 16 ((wl).map (Value.bool))) :: (b8, .cells 41 64 ((sl).flatMap Spot.v)) :: (b9, .cells 42 16 ((cl).map (Value.int .i64))) :: (b10, .cells 43 3 ((ll).map (fun (n : Nat) => Value.int .u64 (n : Int)))) :: H)).hsub zH) ?_
          rintro v H' ⟨HB5, hT5, rfl, rfl⟩
          refine W_nil ?_
          refine W_region ?_
          refine W_move rfl rfl ?_
          refine W_move rfl rfl ?_
          refine W_move rfl rfl ?_
          refine W_call (.cons rfl (.cons rfl (.cons rfl .nil))) Tryz.call10 rfl ((Set_L hT5 (id := (j : Int)) (prog := (j : Int)) (H := (b12, .cells 45 5 (tcC a)) :: (b7, .cells 40 16 ((wl).map (Value.bool))) :: (b8, .cells 41 64 ((sl).flatMap Spot.v)) :: (b9, .cells 42 16 ((cl).map (Value.int .i64))) :: (b10, .cells 43 3 ((ll).map (fun (n : Nat) => Value.int .u64 (n : Int)))) :: H)).hsub zH) ?_
          rintro v H' ⟨HB6, hT6, rfl, rfl⟩
          refine W_nil ?_
          refine W_blk ?_
          refine W_blk ?_
          refine W_region ?_
          refine W_move rfl rfl ?_
          refine W_bin rfl rfl (b_add (m := ((i + 1 : Nat) : Int)) ((i64w (by omega)).trans (by omega))) rfl ?_
          refine W_assign rfl rfl ?_
          refine W_nil ?_
          refine W_again ⟨i + 1, Ws, Q, Rs, (setA (onA initO As (j : Int)).1 (j : Int) (j : Int)).1, HB6, wl, sl, cl, ll⟩ ⟨by show i + 1 ≤ min acts.length 100; omega, by exact hT6, hI.initset hj⟩ (by show min acts.length 100 - (i + 1) < min acts.length 100 - i; omega) (sub_cons rfl (sub_cons rfl (sub_cons rfl (sub_cons rfl (sub_cons rfl (sub_cons rfl (sub_cons rfl (sub_nil _)))))))) rfl zH
      · skip
        refine W_seq ?_
        refine W_sr ?_
        refine W_bin rfl rfl b_eql rfl ?_
        refine W_assign rfl rfl ?_
        refine W_nil ?_
        refine W_condPS (p := kd = 2) rfl (by rw [decide_eq_true_eq]; omega) (fun q3 => ?_) (fun q3 => ?_)
        · skip
          refine W_skip ?_
          refine W_condT rfl rfl ?_
          refine W_sr ?_
          refine W_move rfl rfl ?_
          refine W_move rfl rfl ?_
          refine W_move rfl rfl ?_
          refine W_fieldAddr rfl fld45_4 (by decide) rfl ?_
          refine W_load (v := .int .u64 ((at_ : Nat) : Int)) rfl ty22 rfl (Cell.own (b := b12) zM (by show some (Value.int .u64 a.at_) = _; rw [hat])) rfl ?_
          refine W_call (.cons rfl (.cons rfl (.cons rfl (.cons rfl .nil)))) Tryz.call11 rfl ((Start_L hT4 hI.ok (show i ≤ 1000000 by omega) (id := (j : Int)) (cpu := (c : Int)) (a := at_) hatm (H := (b12, .cells 45 5 (tcC a)) :: (b7, .cells 40 16 ((wl).map (Value.bool))) :: (b8, .cells 41 64 ((sl).flatMap Spot.v)) :: (b9, .cells 42 16 ((cl).map (Value.int .i64))) :: (b10, .cells 43 3 ((ll).map (fun (n : Nat) => Value.int .u64 (n : Int)))) :: H)).hsub zH) ?_
          rintro v H' ⟨W5, Q5, A5, s5, e5, HB5, hS5, hT5, hO5, rfl, rfl⟩
          obtain ⟨o, ho⟩ := hT4.as.at (i := j) (by omega)
          rcases start_ways hS5 hlW (by omega) ho hw hwn with ⟨he, rfl, rfl, rfl⟩ | ⟨rfl, hlv, rfl, hW5, rfl, rfl⟩
          · skip
            refine W_move rfl rfl ?_
            refine W_extract rfl rfl rfl ?_
            refine W_extract rfl rfl rfl ?_
            refine W_alloc (l := zSpot.v) ty32 rfl rfl (fun b15 => ?_)
            refine W_storeA (l' := Spot.v s5) rfl rfl ty32 rfl rfl (b := b15) zM (by exact Nat.le_refl 4) rfl zU ?_
            refine W_assign rfl rfl ?_
            refine W_nil ?_
            refine W_sr ?_
            refine W_move rfl rfl ?_
            refine W_bin rfl rfl b_eql rfl ?_
            refine W_nil ?_
            refine W_condF rfl (by simpa using he) ?_
            refine W_skip ?_
            refine W_blk ?_
            refine W_blk ?_
            refine W_region ?_
            refine W_move rfl rfl ?_
            refine W_bin rfl rfl (b_add (m := ((i + 1 : Nat) : Int)) ((i64w (by omega)).trans (by omega))) rfl ?_
            refine W_assign rfl rfl ?_
            refine W_nil ?_
            refine W_again ⟨i + 1, W5, Q5, Rs, A5, HB5, wl, sl, cl, ll⟩ ⟨by show i + 1 ≤ min acts.length 100; omega, by exact hT5, hI.as (hI.ok.up (Nat.le_succ _)) (fun _ hh => hh) hI.prog⟩ (by show min acts.length 100 - (i + 1) < min acts.length 100 - i; omega) (sub_cons rfl (sub_cons rfl (sub_cons rfl (sub_cons rfl (sub_cons rfl (sub_cons rfl (sub_cons rfl (sub_nil _)))))))) rfl zH
          · skip
            have hpg := place_ge (a := at_) hlv.2.2.2
            refine W_move rfl rfl ?_
            refine W_extract rfl rfl rfl ?_
            refine W_extract rfl rfl rfl ?_
            refine W_alloc (l := zSpot.v) ty32 rfl rfl (fun b15 => ?_)
            refine W_storeA (l' := Spot.v (placeT w.now at_).1) rfl rfl ty32 rfl rfl (b := b15) zM (by exact Nat.le_refl 4) rfl zU ?_
            refine W_assign rfl rfl ?_
            refine W_nil ?_
            refine W_sr ?_
            refine W_move rfl rfl ?_
            refine W_bin rfl rfl b_eql rfl ?_
            refine W_nil ?_
            refine W_condT rfl rfl ?_
            refine W_seq ?_
            refine W_quietsr (by kernel_rfl) (by decide +kernel) ?_
            refine WQ_x (X_fieldAddr rfl fld32_3 (by decide)) rfl ?_
            refine WQ_x (X_load (v := .int .u64 (((placeT w.now at_).1.due : Nat) : Int)) rfl ty22 rfl (Cell.own (b := b15) zM rfl)) rfl ?_
            refine WQ_x (X_move rfl) rfl ?_
            refine WQ_x (X_indexAddrA (j := c) rfl rfl ty43 ty22 (by first | rfl | omega) (by first | decide | omega | simp) rfl) rfl ?_
            refine WQ_x (X_load (v := .int .u64 ((w.now : Nat) : Int)) rfl ty22 rfl (Cell.own (b := b10) zM (by rw [show 0 + c * 1 = c by omega, List.getElem?_map, hlast]; rfl))) rfl ?_
            refine WQ_x (X_bin rfl rfl b_leq) rfl ?_
            rw [decide_eq_false (by omega)]
            refine WQ_x (X_move rfl) rfl ?_
            refine WQ_gyes rfl rfl ?_
            refine WQ_x (X_fieldAddr rfl fld32_3 (by decide)) rfl ?_
            refine WQ_gyes rfl rfl ?_
            refine WQ_x (X_load (v := .int .u64 (((placeT w.now at_).1.due : Nat) : Int)) rfl ty22 rfl (Cell.own (b := b15) zM rfl)) rfl ?_
            refine WQ_gyes rfl rfl ?_
            refine WQ_x (X_fieldAddr rfl fld32_2 (by decide)) rfl ?_
            refine WQ_gyes rfl rfl ?_
            refine WQ_x (X_load (v := .int .u64 (((placeT w.now at_).1.at_ : Nat) : Int)) rfl ty22 rfl (Cell.own (b := b15) zM rfl)) rfl ?_
            refine WQ_gyes rfl rfl ?_
            refine WQ_x (X_bin rfl rfl b_lss) rfl ?_
            rw [decide_eq_false (by omega)]
            first | refine WQ_x (X_pickt rfl rfl) rfl ?_ | refine WQ_x (X_pickf rfl rfl) rfl ?_
            refine WQ_nil ?_
            refine W_condF rfl rfl ?_
            refine W_skip ?_
            refine W_anyC [(b15, .cells 32 4 (placeT w.now at_).1.v)] (by kernel_rfl) ?_
            refine WC_take 0 (l' := #[true, false, false, false, false, false, false, false, false, false, false]) rfl (by decide +kernel) (by decide +kernel) (by decide +kernel) rfl (by decide +kernel) (X_move rfl) rfl ?_
            refine WC_take 1 (l' := #[true, true, false, false, false, false, false, false, false, false, false]) rfl (by decide +kernel) (by decide +kernel) (by decide +kernel) rfl (by decide +kernel) (X_move rfl) rfl ?_
            refine WC_take 2 (l' := #[true, true, true, false, false, false, false, false, false, false, false]) rfl (by decide +kernel) (by decide +kernel) (by decide +kernel) rfl (by decide +kernel) (X_move rfl) rfl ?_
            refine WC_take 3 (l' := #[true, true, true, true, false, false, false, false, false, false, false]) rfl (by decide +kernel) (by decide +kernel) (by decide +kernel) rfl (by decide +kernel) (X_loadB (vs := (placeT w.now at_).1.v) rfl ty32 rfl (b := b15) zM rfl rfl) rfl ?_
            refine WC_take 4 (l' := #[true, true, true, true, true, false, false, false, false, false, false]) rfl (by decide +kernel) (by decide +kernel) (by decide +kernel) rfl (by decide +kernel) (X_move rfl) rfl ?_
            refine WC_take 5 (l' := #[true, true, true, true, true, true, false, false, false, false, false]) rfl (by decide +kernel) (by decide +kernel) (by decide +kernel) rfl (by decide +kernel) (X_indexAddrA (j := j) rfl rfl ty40 ty4 (by first | rfl | omega) (by first | decide | omega | simp) rfl) rfl ?_
            refine WC_one 6 (l' := #[true, true, true, true, true, true, true, false, false, false, false]) zH (by decide +kernel) rfl (by decide +kernel) ?_
            refine W_store (l' := ((wl).set j true).map (Value.bool)) rfl rfl ty4 rfl rfl (b := b7) zM (by rw [List.length_map, Nat.blt_eq]; omega) (by rw [List.map_set]; congr 1; omega) zU ?_
            refine W_nil ?_
            refine WC_goal ?_
            refine WC_take 7 (l' := #[true, true, true, true, true, true, true, true, false, false, false]) rfl (by decide +kernel) (by decide +kernel) (by decide +kernel) rfl (by decide +kernel) (X_indexAddrA (j := j) rfl rfl ty41 ty32 (by first | rfl | omega) (by first | decide | omega | simp) rfl) rfl ?_
            refine WC_one 8 (l' := #[true, true, true, true, true, true, true, true, true, false, false]) zH (by decide +kernel) rfl (by decide +kernel) ?_
            refine W_storeA (l' := (sl.set j (placeT w.now at_).1).flatMap Spot.v) rfl rfl ty32 rfl rfl (b := b8) zM (by show 0 + j * 4 + 4 ≤ (sl.flatMap Spot.v).length; rw [flat_length spv_len]; omega) (by rw [Nat.zero_add]; exact flat_set spv_len _ (by omega)) zU ?_
            refine W_nil ?_
            refine WC_goal ?_
            refine WC_take 9 (l' := #[true, true, true, true, true, true, true, true, true, true, false]) rfl (by decide +kernel) (by decide +kernel) (by decide +kernel) rfl (by decide +kernel) (X_indexAddrA (j := j) rfl rfl ty42 ty3 (by first | rfl | omega) (by first | decide | omega | simp) rfl) rfl ?_
            refine WC_one 10 (l' := #[true, true, true, true, true, true, true, true, true, true, true]) zH (by decide +kernel) rfl (by decide +kernel) ?_
            refine W_store (l' := ((cl).set j (c : Int)).map (Value.int .i64)) rfl rfl ty3 rfl rfl (b := b9) zM (by rw [List.length_map, Nat.blt_eq]; omega) (by rw [List.map_set]; congr 1; omega) zU ?_
            refine W_nil ?_
            refine WC_goal ?_
            refine WC_done zH (by decide +kernel) ?_
            refine W_blk ?_
            refine W_blk ?_
            refine W_region ?_
            refine W_move rfl rfl ?_
            refine W_bin rfl rfl (b_add (m := ((i + 1 : Nat) : Int)) ((i64w (by omega)).trans (by omega))) rfl ?_
            refine W_assign rfl rfl ?_
            refine W_nil ?_
            refine W_again ⟨i + 1, W5, delQ Q (j : Int), Rs, As.set j { o with starts := o.starts + 1 }, HB5, wl.set j true, sl.set j (placeT w.now at_).1, cl.set j (c : Int), ll⟩ ⟨by show i + 1 ≤ min acts.length 100; omega, by exact hT5, hI.start hj hw ho hlv hW5 hO5⟩ (by show min acts.length 100 - (i + 1) < min acts.length 100 - i; omega) (sub_cons rfl (sub_cons rfl (sub_cons rfl (sub_cons rfl (sub_cons rfl (sub_cons rfl (sub_cons rfl (sub_nil _)))))))) rfl zH
        · skip
          refine W_sr ?_
          refine W_bin rfl rfl b_eql rfl ?_
          refine W_assign rfl rfl ?_
          refine W_nil ?_
          refine W_condPS (p := kd = 3) rfl (by rw [decide_eq_true_eq]; omega) (fun q4 => ?_) (fun q4 => ?_)
          · skip
            refine W_skip ?_
            refine W_condT rfl rfl ?_
            refine W_sr ?_
            refine W_move rfl rfl ?_
            refine W_move rfl rfl ?_
            refine W_move rfl rfl ?_
            refine W_fieldAddr rfl fld45_4 (by decide) rfl ?_
            refine W_load (v := .int .u64 ((at_ : Nat) : Int)) rfl ty22 rfl (Cell.own (b := b12) zM (by show some (Value.int .u64 a.at_) = _; rw [hat])) rfl ?_
            refine W_call (.cons rfl (.cons rfl (.cons rfl (.cons rfl .nil)))) Tryz.call11 rfl ((Start_L hT4 hI.ok (show i ≤ 1000000 by omega) (id := (j : Int)) (cpu := (c : Int)) (a := at_) hatm (H := (b12, .cells 45 5 (tcC a)) :: (b7, .cells 40 16 ((wl).map (Value.bool))) :: (b8, .cells 41 64 ((sl).flatMap Spot.v)) :: (b9, .cells 42 16 ((cl).map (Value.int .i64))) :: (b10, .cells 43 3 ((ll).map (fun (n : Nat) => Value.int .u64 (n : Int)))) :: H)).hsub zH) ?_
            rintro v H' ⟨W5, Q5, A5, s5, e5, HB5, hS5, hT5, hO5, rfl, rfl⟩
            obtain ⟨o, ho⟩ := hT4.as.at (i := j) (by omega)
            rcases start_ways hS5 hlW (by omega) ho hw hwn with ⟨he, rfl, rfl, rfl⟩ | ⟨rfl, hlv, rfl, hW5, rfl, rfl⟩
            · skip
              refine W_move rfl rfl ?_
              refine W_extract rfl rfl rfl ?_
              refine W_extract rfl rfl rfl ?_
              refine W_alloc (l := zSpot.v) ty32 rfl rfl (fun b15 => ?_)
              refine W_storeA (l' := Spot.v s5) rfl rfl ty32 rfl rfl (b := b15) zM (by exact Nat.le_refl 4) rfl zU ?_
              refine W_assign rfl rfl ?_
              refine W_nil ?_
              refine W_sr ?_
              refine W_move rfl rfl ?_
              refine W_bin rfl rfl b_eql rfl ?_
              refine W_nil ?_
              refine W_condF rfl (by simpa using he) ?_
              refine W_skip ?_
              refine W_blk ?_
              refine W_blk ?_
              refine W_region ?_
              refine W_move rfl rfl ?_
              refine W_bin rfl rfl (b_add (m := ((i + 1 : Nat) : Int)) ((i64w (by omega)).trans (by omega))) rfl ?_
              refine W_assign rfl rfl ?_
              refine W_nil ?_
              refine W_again ⟨i + 1, W5, Q5, Rs, A5, HB5, wl, sl, cl, ll⟩ ⟨by show i + 1 ≤ min acts.length 100; omega, by exact hT5, hI.as (hI.ok.up (Nat.le_succ _)) (fun _ hh => hh) hI.prog⟩ (by show min acts.length 100 - (i + 1) < min acts.length 100 - i; omega) (sub_cons rfl (sub_cons rfl (sub_cons rfl (sub_cons rfl (sub_cons rfl (sub_cons rfl (sub_cons rfl (sub_nil _)))))))) rfl zH
            · skip
              have hpg := place_ge (a := at_) hlv.2.2.2
              refine W_move rfl rfl ?_
              refine W_extract rfl rfl rfl ?_
              refine W_extract rfl rfl rfl ?_
              refine W_alloc (l := zSpot.v) ty32 rfl rfl (fun b15 => ?_)
              refine W_storeA (l' := Spot.v (placeT w.now at_).1) rfl rfl ty32 rfl rfl (b := b15) zM (by exact Nat.le_refl 4) rfl zU ?_
              refine W_assign rfl rfl ?_
              refine W_nil ?_
              refine W_sr ?_
              refine W_move rfl rfl ?_
              refine W_bin rfl rfl b_eql rfl ?_
              refine W_nil ?_
              refine W_condT rfl rfl ?_
              refine W_seq ?_
              refine W_quietsr (by kernel_rfl) (by decide +kernel) ?_
              refine WQ_x (X_fieldAddr rfl fld32_3 (by decide)) rfl ?_
              refine WQ_x (X_load (v := .int .u64 (((placeT w.now at_).1.due : Nat) : Int)) rfl ty22 rfl (Cell.own (b := b15) zM rfl)) rfl ?_
              refine WQ_x (X_move rfl) rfl ?_
              refine WQ_x (X_indexAddrA (j := c) rfl rfl ty43 ty22 (by first | rfl | omega) (by first | decide | omega | simp) rfl) rfl ?_
              refine WQ_x (X_load (v := .int .u64 ((w.now : Nat) : Int)) rfl ty22 rfl (Cell.own (b := b10) zM (by rw [show 0 + c * 1 = c by omega, List.getElem?_map, hlast]; rfl))) rfl ?_
              refine WQ_x (X_bin rfl rfl b_leq) rfl ?_
              rw [decide_eq_false (by omega)]
              refine WQ_x (X_move rfl) rfl ?_
              refine WQ_gyes rfl rfl ?_
              refine WQ_x (X_fieldAddr rfl fld32_3 (by decide)) rfl ?_
              refine WQ_gyes rfl rfl ?_
              refine WQ_x (X_load (v := .int .u64 (((placeT w.now at_).1.due : Nat) : Int)) rfl ty22 rfl (Cell.own (b := b15) zM rfl)) rfl ?_
              refine WQ_gyes rfl rfl ?_
              refine WQ_x (X_fieldAddr rfl fld32_2 (by decide)) rfl ?_
              refine WQ_gyes rfl rfl ?_
              refine WQ_x (X_load (v := .int .u64 (((placeT w.now at_).1.at_ : Nat) : Int)) rfl ty22 rfl (Cell.own (b := b15) zM rfl)) rfl ?_
              refine WQ_gyes rfl rfl ?_
              refine WQ_x (X_bin rfl rfl b_lss) rfl ?_
              rw [decide_eq_false (by omega)]
              first | refine WQ_x (X_pickt rfl rfl) rfl ?_ | refine WQ_x (X_pickf rfl rfl) rfl ?_
              refine WQ_nil ?_
              refine W_condF rfl rfl ?_
              refine W_skip ?_
              refine W_anyC [(b15, .cells 32 4 (placeT w.now at_).1.v)] (by kernel_rfl) ?_
              refine WC_take 0 (l' := #[true, false, false, false, false, false, false, false, false, false, false]) rfl (by decide +kernel) (by decide +kernel) (by decide +kernel) rfl (by decide +kernel) (X_move rfl) rfl ?_
              refine WC_take 1 (l' := #[true, true, false, false, false, false, false, false, false, false, false]) rfl (by decide +kernel) (by decide +kernel) (by decide +kernel) rfl (by decide +kernel) (X_move rfl) rfl ?_
              refine WC_take 2 (l' := #[true, true, true, false, false, false, false, false, false, false, false]) rfl (by decide +kernel) (by decide +kernel) (by decide +kernel) rfl (by decide +kernel) (X_move rfl) rfl ?_
              refine WC_take 3 (l' := #[true, true, true, true, false, false, false, false, false, false, false]) rfl (by decide +kernel) (by decide +kernel) (by decide +kernel) rfl (by decide +kernel) (X_loadB (vs := (placeT w.now at_).1.v) rfl ty32 rfl (b := b15) zM rfl rfl) rfl ?_
              refine WC_take 4 (l' := #[true, true, true, true, true, false, false, false, false, false, false]) rfl (by decide +kernel) (by decide +kernel) (by decide +kernel) rfl (by decide +kernel) (X_move rfl) rfl ?_
              refine WC_take 5 (l' := #[true, true, true, true, true, true, false, false, false, false, false]) rfl (by decide +kernel) (by decide +kernel) (by decide +kernel) rfl (by decide +kernel) (X_indexAddrA (j := j) rfl rfl ty40 ty4 (by first | rfl | omega) (by first | decide | omega | simp) rfl) rfl ?_
              refine WC_one 6 (l' := #[true, true, true, true, true, true, true, false, false, false, false]) zH (by decide +kernel) rfl (by decide +kernel) ?_
              refine W_store (l' := ((wl).set j true).map (Value.bool)) rfl rfl ty4 rfl rfl (b := b7) zM (by rw [List.length_map, Nat.blt_eq]; omega) (by rw [List.map_set]; congr 1; omega) zU ?_
              refine W_nil ?_
              refine WC_goal ?_
              refine WC_take 7 (l' := #[true, true, true, true, true, true, true, true, false, false, false]) rfl (by decide +kernel) (by decide +kernel) (by decide +kernel) rfl (by decide +kernel) (X_indexAddrA (j := j) rfl rfl ty41 ty32 (by first | rfl | omega) (by first | decide | omega | simp) rfl) rfl ?_
              refine WC_one 8 (l' := #[true, true, true, true, true, true, true, true, true, false, false]) zH (by decide +kernel) rfl (by decide +kernel) ?_
              refine W_storeA (l' := (sl.set j (placeT w.now at_).1).flatMap Spot.v) rfl rfl ty32 rfl rfl (b := b8) zM (by show 0 + j * 4 + 4 ≤ (sl.flatMap Spot.v).length; rw [flat_length spv_len]; omega) (by rw [Nat.zero_add]; exact flat_set spv_len _ (by omega)) zU ?_
              refine W_nil ?_
              refine WC_goal ?_
              refine WC_take 9 (l' := #[true, true, true, true, true, true, true, true, true, true, false]) rfl (by decide +kernel) (by decide +kernel) (by decide +kernel) rfl (by decide +kernel) (X_indexAddrA (j := j) rfl rfl ty42 ty3 (by first | rfl | omega) (by first | decide | omega | simp) rfl) rfl ?_
              refine WC_one 10 (l' := #[true, true, true, true, true, true, true, true, true, true, true]) zH (by decide +kernel) rfl (by decide +kernel) ?_
              refine W_store (l' := ((cl).set j (c : Int)).map (Value.int .i64)) rfl rfl ty3 rfl rfl (b := b9) zM (by rw [List.length_map, Nat.blt_eq]; omega) (by rw [List.map_set]; congr 1; omega) zU ?_
              refine W_nil ?_
              refine WC_goal ?_
              refine WC_done zH (by decide +kernel) ?_
              refine W_blk ?_
              refine W_blk ?_
              refine W_region ?_
              refine W_move rfl rfl ?_
              refine W_bin rfl rfl (b_add (m := ((i + 1 : Nat) : Int)) ((i64w (by omega)).trans (by omega))) rfl ?_
              refine W_assign rfl rfl ?_
              refine W_nil ?_
              refine W_again ⟨i + 1, W5, delQ Q (j : Int), Rs, As.set j { o with starts := o.starts + 1 }, HB5, wl.set j true, sl.set j (placeT w.now at_).1, cl.set j (c : Int), ll⟩ ⟨by show i + 1 ≤ min acts.length 100; omega, by exact hT5, hI.start hj hw ho hlv hW5 hO5⟩ (by show min acts.length 100 - (i + 1) < min acts.length 100 - i; omega) (sub_cons rfl (sub_cons rfl (sub_cons rfl (sub_cons rfl (sub_cons rfl (sub_cons rfl (sub_cons rfl (sub_nil _)))))))) rfl zH
          · skip
            refine W_region ?_
            refine W_bin rfl rfl b_eql rfl ?_
            refine W_assign rfl rfl ?_
            refine W_nil ?_
            refine W_condPS (p := kd = 9) rfl (by rw [decide_eq_true_eq]; omega) (fun q5 => ?_) (fun q5 => ?_)
            · skip
              refine W_sr ?_
              refine W_move rfl rfl ?_
              refine W_move rfl rfl ?_
              refine W_move rfl rfl ?_
              refine W_fieldAddr rfl fld45_4 (by decide) rfl ?_
              refine W_load (v := .int .u64 ((at_ : Nat) : Int)) rfl ty22 rfl (Cell.own (b := b12) zM (by show some (Value.int .u64 a.at_) = _; rw [hat])) rfl ?_
              refine W_call (.cons rfl (.cons rfl (.cons rfl (.cons rfl .nil)))) Tryz.call11 rfl ((Start_L hT4 hI.ok (show i ≤ 1000000 by omega) (id := (j : Int)) (cpu := (c : Int)) (a := at_) hatm (H := (b12, .cells 45 5 (tcC a)) :: (b7, .cells 40 16 ((wl).map (Value.bool))) :: (b8, .cells 41 64 ((sl).flatMap Spot.v)) :: (b9, .cells 42 16 ((cl).map (Value.int .i64))) :: (b10, .cells 43 3 ((ll).map (fun (n : Nat) => Value.int .u64 (n : Int)))) :: H)).hsub zH) ?_
              rintro v H' ⟨W5, Q5, A5, s5, e5, HB5, hS5, hT5, hO5, rfl, rfl⟩
              obtain ⟨o, ho⟩ := hT4.as.at (i := j) (by omega)
              rcases start_ways hS5 hlW (by omega) ho hw hwn with ⟨he, rfl, rfl, rfl⟩ | ⟨rfl, hlv, rfl, hW5, rfl, rfl⟩
              · skip
                refine W_move rfl rfl ?_
                refine W_extract rfl rfl rfl ?_
                refine W_extract rfl rfl rfl ?_
                refine W_alloc (l := zSpot.v) ty32 rfl rfl (fun b15 => ?_)
                refine W_storeA (l' := Spot.v s5) rfl rfl ty32 rfl rfl (b := b15) zM (by exact Nat.le_refl 4) rfl zU ?_
                refine W_assign rfl rfl ?_
                refine W_nil ?_
                refine W_sr ?_
                refine W_move rfl rfl ?_
                refine W_bin rfl rfl b_eql rfl ?_
                refine W_nil ?_
                refine W_condF rfl (by simpa using he) ?_
                refine W_skip ?_
                refine W_blk ?_
                refine W_blk ?_
                refine W_region ?_
                refine W_move rfl rfl ?_
                refine W_bin rfl rfl (b_add (m := ((i + 1 : Nat) : Int)) ((i64w (by omega)).trans (by omega))) rfl ?_
                refine W_assign rfl rfl ?_
                refine W_nil ?_
                refine W_again ⟨i + 1, W5, Q5, Rs, A5, HB5, wl, sl, cl, ll⟩ ⟨by show i + 1 ≤ min acts.length 100; omega, by exact hT5, hI.as (hI.ok.up (Nat.le_succ _)) (fun _ hh => hh) hI.prog⟩ (by show min acts.length 100 - (i + 1) < min acts.length 100 - i; omega) (sub_cons rfl (sub_cons rfl (sub_cons rfl (sub_cons rfl (sub_cons rfl (sub_cons rfl (sub_cons rfl (sub_nil _)))))))) rfl zH
              · skip
                have hpg := place_ge (a := at_) hlv.2.2.2
                refine W_move rfl rfl ?_
                refine W_extract rfl rfl rfl ?_
                refine W_extract rfl rfl rfl ?_
                refine W_alloc (l := zSpot.v) ty32 rfl rfl (fun b15 => ?_)
                refine W_storeA (l' := Spot.v (placeT w.now at_).1) rfl rfl ty32 rfl rfl (b := b15) zM (by exact Nat.le_refl 4) rfl zU ?_
                refine W_assign rfl rfl ?_
                refine W_nil ?_
                refine W_sr ?_
                refine W_move rfl rfl ?_
                refine W_bin rfl rfl b_eql rfl ?_
                refine W_nil ?_
                refine W_condT rfl rfl ?_
                refine W_seq ?_
                refine W_quietsr (by kernel_rfl) (by decide +kernel) ?_
                refine WQ_x (X_fieldAddr rfl fld32_3 (by decide)) rfl ?_
                refine WQ_x (X_load (v := .int .u64 (((placeT w.now at_).1.due : Nat) : Int)) rfl ty22 rfl (Cell.own (b := b15) zM rfl)) rfl ?_
                refine WQ_x (X_move rfl) rfl ?_
                refine WQ_x (X_indexAddrA (j := c) rfl rfl ty43 ty22 (by first | rfl | omega) (by first | decide | omega | simp) rfl) rfl ?_
                refine WQ_x (X_load (v := .int .u64 ((w.now : Nat) : Int)) rfl ty22 rfl (Cell.own (b := b10) zM (by rw [show 0 + c * 1 = c by omega, List.getElem?_map, hlast]; rfl))) rfl ?_
                refine WQ_x (X_bin rfl rfl b_leq) rfl ?_
                rw [decide_eq_false (by omega)]
                refine WQ_x (X_move rfl) rfl ?_
                refine WQ_gyes rfl rfl ?_
                refine WQ_x (X_fieldAddr rfl fld32_3 (by decide)) rfl ?_
                refine WQ_gyes rfl rfl ?_
                refine WQ_x (X_load (v := .int .u64 (((placeT w.now at_).1.due : Nat) : Int)) rfl ty22 rfl (Cell.own (b := b15) zM rfl)) rfl ?_
                refine WQ_gyes rfl rfl ?_
                refine WQ_x (X_fieldAddr rfl fld32_2 (by decide)) rfl ?_
                refine WQ_gyes rfl rfl ?_
                refine WQ_x (X_load (v := .int .u64 (((placeT w.now at_).1.at_ : Nat) : Int)) rfl ty22 rfl (Cell.own (b := b15) zM rfl)) rfl ?_
                refine WQ_gyes rfl rfl ?_
                refine WQ_x (X_bin rfl rfl b_lss) rfl ?_
                rw [decide_eq_false (by omega)]
                first | refine WQ_x (X_pickt rfl rfl) rfl ?_ | refine WQ_x (X_pickf rfl rfl) rfl ?_
                refine WQ_nil ?_
                refine W_condF rfl rfl ?_
                refine W_skip ?_
                refine W_anyC [(b15, .cells 32 4 (placeT w.now at_).1.v)] (by kernel_rfl) ?_
                refine WC_take 0 (l' := #[true, false, false, false, false, false, false, false, false, false, false]) rfl (by decide +kernel) (by decide +kernel) (by decide +kernel) rfl (by decide +kernel) (X_move rfl) rfl ?_
                refine WC_take 1 (l' := #[true, true, false, false, false, false, false, false, false, false, false]) rfl (by decide +kernel) (by decide +kernel) (by decide +kernel) rfl (by decide +kernel) (X_move rfl) rfl ?_
                refine WC_take 2 (l' := #[true, true, true, false, false, false, false, false, false, false, false]) rfl (by decide +kernel) (by decide +kernel) (by decide +kernel) rfl (by decide +kernel) (X_move rfl) rfl ?_
                refine WC_take 3 (l' := #[true, true, true, true, false, false, false, false, false, false, false]) rfl (by decide +kernel) (by decide +kernel) (by decide +kernel) rfl (by decide +kernel) (X_loadB (vs := (placeT w.now at_).1.v) rfl ty32 rfl (b := b15) zM rfl rfl) rfl ?_
                refine WC_take 4 (l' := #[true, true, true, true, true, false, false, false, false, false, false]) rfl (by decide +kernel) (by decide +kernel) (by decide +kernel) rfl (by decide +kernel) (X_move rfl) rfl ?_
                refine WC_take 5 (l' := #[true, true, true, true, true, true, false, false, false, false, false]) rfl (by decide +kernel) (by decide +kernel) (by decide +kernel) rfl (by decide +kernel) (X_indexAddrA (j := j) rfl rfl ty40 ty4 (by first | rfl | omega) (by first | decide | omega | simp) rfl) rfl ?_
                refine WC_one 6 (l' := #[true, true, true, true, true, true, true, false, false, false, false]) zH (by decide +kernel) rfl (by decide +kernel) ?_
                refine W_store (l' := ((wl).set j true).map (Value.bool)) rfl rfl ty4 rfl rfl (b := b7) zM (by rw [List.length_map, Nat.blt_eq]; omega) (by rw [List.map_set]; congr 1; omega) zU ?_
                refine W_nil ?_
                refine WC_goal ?_
                refine WC_take 7 (l' := #[true, true, true, true, true, true, true, true, false, false, false]) rfl (by decide +kernel) (by decide +kernel) (by decide +kernel) rfl (by decide +kernel) (X_indexAddrA (j := j) rfl rfl ty41 ty32 (by first | rfl | omega) (by first | decide | omega | simp) rfl) rfl ?_
                refine WC_one 8 (l' := #[true, true, true, true, true, true, true, true, true, false, false]) zH (by decide +kernel) rfl (by decide +kernel) ?_
                refine W_storeA (l' := (sl.set j (placeT w.now at_).1).flatMap Spot.v) rfl rfl ty32 rfl rfl (b := b8) zM (by show 0 + j * 4 + 4 ≤ (sl.flatMap Spot.v).length; rw [flat_length spv_len]; omega) (by rw [Nat.zero_add]; exact flat_set spv_len _ (by omega)) zU ?_
                refine W_nil ?_
                refine WC_goal ?_
                refine WC_take 9 (l' := #[true, true, true, true, true, true, true, true, true, true, false]) rfl (by decide +kernel) (by decide +kernel) (by decide +kernel) rfl (by decide +kernel) (X_indexAddrA (j := j) rfl rfl ty42 ty3 (by first | rfl | omega) (by first | decide | omega | simp) rfl) rfl ?_
                refine WC_one 10 (l' := #[true, true, true, true, true, true, true, true, true, true, true]) zH (by decide +kernel) rfl (by decide +kernel) ?_
                refine W_store (l' := ((cl).set j (c : Int)).map (Value.int .i64)) rfl rfl ty3 rfl rfl (b := b9) zM (by rw [List.length_map, Nat.blt_eq]; omega) (by rw [List.map_set]; congr 1; omega) zU ?_
                refine W_nil ?_
                refine WC_goal ?_
                refine WC_done zH (by decide +kernel) ?_
                refine W_blk ?_
                refine W_blk ?_
                refine W_region ?_
                refine W_move rfl rfl ?_
                refine W_bin rfl rfl (b_add (m := ((i + 1 : Nat) : Int)) ((i64w (by omega)).trans (by omega))) rfl ?_
                refine W_assign rfl rfl ?_
                refine W_nil ?_
                refine W_again ⟨i + 1, W5, delQ Q (j : Int), Rs, As.set j { o with starts := o.starts + 1 }, HB5, wl.set j true, sl.set j (placeT w.now at_).1, cl.set j (c : Int), ll⟩ ⟨by show i + 1 ≤ min acts.length 100; omega, by exact hT5, hI.start hj hw ho hlv hW5 hO5⟩ (by show min acts.length 100 - (i + 1) < min acts.length 100 - i; omega) (sub_cons rfl (sub_cons rfl (sub_cons rfl (sub_cons rfl (sub_cons rfl (sub_cons rfl (sub_cons rfl (sub_nil _)))))))) rfl zH
            · skip
              refine W_sr ?_
              refine W_bin rfl rfl b_eql rfl ?_
              refine W_assign rfl rfl ?_
              refine W_nil ?_
              refine W_condPS (p := kd = 4) rfl (by rw [decide_eq_true_eq]; omega) (fun q6 => ?_) (fun q6 => ?_)
              · skip
                refine W_sr ?_
                obtain ⟨b, hb⟩ := bool_at hl1 hj
                have hstop := (hI.stop (HB := HB) hj hT4.as hb).1
                dsimp only at hstop
                · skip
                  refine W_move rfl rfl ?_
                  refine W_move rfl rfl ?_
                  refine W_call (.cons rfl (.cons rfl .nil)) Tryz.call16 rfl ((Stop_L hT4 (id := (j : Int)) (H := (b12, .cells 45 5 (tcC a)) :: (b7, .cells 40 16 ((wl).map (Value.bool))) :: (b8, .cells 41 64 ((sl).flatMap Spot.v)) :: (b9, .cells 42 16 ((cl).map (Value.int .i64))) :: (b10, .cells 43 3 ((ll).map (fun (n : Nat) => Value.int .u64 (n : Int)))) :: H)).hsub zH) ?_
                  rintro v H' ⟨HB5, hT5, rfl, rfl⟩
                  refine W_move rfl rfl ?_
                  refine W_extract rfl rfl rfl ?_
                  refine W_extract rfl rfl rfl ?_
                  refine W_assign rfl rfl ?_
                  refine W_assign rfl rfl ?_
                  refine W_nil ?_
                  refine W_seq ?_
                  refine W_sr ?_
                  refine W_move rfl rfl ?_
                  refine W_move rfl rfl ?_
                  refine W_indexAddrA (j := j) rfl rfl ty40 ty4 (by first | rfl | omega) (by first | decide | omega | simp) rfl rfl ?_
                  refine W_load (v := .bool b) rfl ty4 rfl (Cell.own (b := b7) zM (by rw [show 0 + j * 1 = j by omega, List.getElem?_map, hb]; rfl)) rfl ?_
                  refine W_bne rfl rfl ty4 rfl ?_
                  rw [hstop, beq_self_eq_true, Bool.not_true]
                  refine W_nil ?_
                  refine W_condF rfl rfl ?_
                  refine W_skip ?_
                  refine W_region ?_
                  refine W_move rfl rfl ?_
                  refine W_indexAddrA (j := j) rfl rfl ty40 ty4 (by first | rfl | omega) (by first | decide | omega | simp) rfl rfl ?_
                  refine W_store (l' := ((wl).set j false).map (Value.bool)) rfl rfl ty4 rfl rfl (b := b7) zM (by rw [List.length_map, Nat.blt_eq]; omega) (by rw [List.map_set]; congr 1; omega) zU ?_
                  refine W_nil ?_
                  refine W_blk ?_
                  refine W_blk ?_
                  refine W_region ?_
                  refine W_move rfl rfl ?_
                  refine W_bin rfl rfl (b_add (m := ((i + 1 : Nat) : Int)) ((i64w (by omega)).trans (by omega))) rfl ?_
                  refine W_assign rfl rfl ?_
                  refine W_nil ?_
                  refine W_again ⟨i + 1, (stopA Ws Q As (j : Int)).1, (stopA Ws Q As (j : Int)).2.1, Rs, As, HB5, wl.set j false, sl, cl, ll⟩ ⟨by show i + 1 ≤ min acts.length 100; omega, by exact hT5, (hI.stop hj hT4.as hb).2⟩ (by show min acts.length 100 - (i + 1) < min acts.length 100 - i; omega) (sub_cons rfl (sub_cons rfl (sub_cons rfl (sub_cons rfl (sub_cons rfl (sub_cons rfl (sub_cons rfl (sub_nil _)))))))) rfl zH
              · skip
                refine W_sr ?_
                refine W_bin rfl rfl b_eql rfl ?_
                refine W_assign rfl rfl ?_
                refine W_nil ?_
                refine W_condPS (p := kd = 5) rfl (by rw [decide_eq_true_eq]; omega) (fun q7 => ?_) (fun q7 => ?_)
                · skip
                  refine W_sr ?_
                  skip
                  · skip
                    refine W_move rfl rfl ?_
                    refine W_move rfl rfl ?_
                    refine W_fieldAddr rfl fld45_4 (by decide) rfl ?_
                    refine W_load (v := .int .u64 ((at_ : Nat) : Int)) rfl ty22 rfl (Cell.own (b := b12) zM (by show some (Value.int .u64 a.at_) = _; rw [hat])) rfl ?_
                    refine W_call (.cons rfl (.cons rfl (.cons rfl .nil))) Tryz.call15 rfl ((Catch_L hT4 hI.ok hT (cpu := (c : Int)) (a := at_) hatm (H := (b12, .cells 45 5 (tcC a)) :: (b7, .cells 40 16 ((wl).map (Value.bool))) :: (b8, .cells 41 64 ((sl).flatMap Spot.v)) :: (b9, .cells 42 16 ((cl).map (Value.int .i64))) :: (b10, .cells 43 3 ((ll).map (fun (n : Nat) => Value.int .u64 (n : Int)))) :: H)).hsub zH) ?_
                    rintro v H' ⟨W5, O, XO, HB5, hC, hT5, hO5, hOO, hol, rfl⟩
                    refine W_nil ?_
                    refine W_anyS [(b10, .cells 43 3 ((ll).map (fun (n : Nat) => Value.int .u64 (n : Int)))), (b12, .cells 45 5 (tcC a))] 8 (by kernel_rfl) ?_
                    refine WS_take 0 (l' := #[true, false, false, false, false, false, false, false, false]) rfl rfl (by decide +kernel) (by decide +kernel) (by decide +kernel) (by decide +kernel) rfl (by decide +kernel) (X_move rfl) rfl ?_
                    refine WS_take 1 (l' := #[true, true, false, false, false, false, false, false, false]) rfl rfl (by decide +kernel) (by decide +kernel) (by decide +kernel) (by decide +kernel) rfl (by decide +kernel) (X_move rfl) rfl ?_
                    refine WS_take 2 (l' := #[true, true, true, false, false, false, false, false, false]) rfl rfl (by decide +kernel) (by decide +kernel) (by decide +kernel) (by decide +kernel) rfl (by decide +kernel) (X_indexAddrA (j := c) rfl rfl ty43 ty22 (by first | rfl | omega) (by first | decide | omega | simp) rfl) rfl ?_
                    refine WS_take 3 (l' := #[true, true, true, true, false, false, false, false, false]) rfl rfl (by decide +kernel) (by decide +kernel) (by decide +kernel) (by decide +kernel) rfl (by decide +kernel) (X_load (v := .int .u64 ((w.now : Nat) : Int)) rfl ty22 rfl (Cell.own (b := b10) zM (by rw [show 0 + c * 1 = c by omega, List.getElem?_map, hlast]; rfl))) rfl ?_
                    refine WS_take 4 (l' := #[true, true, true, true, true, false, false, false, false]) rfl rfl (by decide +kernel) (by decide +kernel) (by decide +kernel) (by decide +kernel) rfl (by decide +kernel) (X_fieldAddr rfl fld45_4 (by decide)) rfl ?_
                    refine WS_take 5 (l' := #[true, true, true, true, true, true, false, false, false]) rfl rfl (by decide +kernel) (by decide +kernel) (by decide +kernel) (by decide +kernel) rfl (by decide +kernel) (X_load (v := .int .u64 ((at_ : Nat) : Int)) rfl ty22 rfl (Cell.own (b := b12) zM (by show some (Value.int .u64 a.at_) = _; rw [hat]))) rfl ?_
                    refine WS_take 6 (l' := #[true, true, true, true, true, true, true, false, false]) rfl rfl (by decide +kernel) (by decide +kernel) (by decide +kernel) (by decide +kernel) rfl (by decide +kernel) (X_max2 rfl rfl (m := ((max w.now at_ : Nat) : Int)) (by split <;> omega)) rfl ?_
                    refine WS_take 7 (l' := #[true, true, true, true, true, true, true, true, false]) rfl rfl (by decide +kernel) (by decide +kernel) (by decide +kernel) (by decide +kernel) rfl (by decide +kernel) (X_indexAddrA (j := c) rfl rfl ty43 ty22 (by first | rfl | omega) (by first | decide | omega | simp) rfl) rfl ?_
                    refine WS_last (l' := #[true, true, true, true, true, true, true, true, true]) zH (by decide +kernel) rfl (by decide +kernel) ?_
                    refine W_store (l' := ((ll).set c (max w.now at_)).map (fun (n : Nat) => Value.int .u64 (n : Int))) rfl rfl ty22 rfl rfl (b := b10) zM (by rw [List.length_map, Nat.blt_eq]; omega) (by rw [List.map_set]; congr 1; omega) zU ?_
                    refine W_nil ?_
                    refine WC_goal ?_
                    refine WC_done (.nil _) (by decide +kernel) ?_
                    refine W_blk ?_
                    refine W_blk ?_
                    refine W_region ?_
                    refine W_move rfl rfl ?_
                    refine W_bin rfl rfl (b_add (m := ((i + 1 : Nat) : Int)) ((i64w (by omega)).trans (by omega))) rfl ?_
                    refine W_assign rfl rfl ?_
                    refine W_nil ?_
                    refine W_again ⟨i + 1, W5, (addsQ 3 Q (c : Int) (O.map (·.id))).1, Rs, As, HB5, wl, sl, cl, ll.set c (max w.now at_)⟩ ⟨by show i + 1 ≤ min acts.length 100; omega, by exact hT5, hI.catch hw hC hT4.nd (hO5.up (Nat.le_succ _))⟩ (by show min acts.length 100 - (i + 1) < min acts.length 100 - i; omega) (sub_cons rfl (sub_cons rfl (sub_cons rfl (sub_cons rfl (sub_cons rfl (sub_cons rfl (sub_cons rfl (sub_nil _)))))))) rfl zH
                · skip
                  refine W_sr ?_
                  refine W_bin rfl rfl b_eql rfl ?_
                  refine W_assign rfl rfl ?_
                  refine W_nil ?_
                  refine W_condPS (p := kd = 6) rfl (by rw [decide_eq_true_eq]; omega) (fun q8 => ?_) (fun q8 => ?_)
                  · skip
                    refine W_sr ?_
                    refine W_move rfl rfl ?_
                    refine W_move rfl rfl ?_
                    refine W_fieldAddr rfl fld45_3 (by decide) rfl ?_
                    refine W_load (v := .int .i64 a.n) rfl ty3 rfl (Cell.own (b := b12) zM rfl) rfl ?_
                    refine W_conv rfl ty3 ty22 rfl rfl ?_
                    refine W_bin rfl rfl (b_rem (by decide) (m := (m : Int)) hremm) rfl ?_
                    refine W_conv rfl ty22 ty3 (m := (m : Int)) (i64w (by omega)) rfl ?_
                    refine W_call (.cons rfl (.cons rfl (.cons rfl .nil))) Tryz.call17 rfl ((tBegin_L hT4 (cpu := (c : Int)) (c := (m : Int)) (H := (b12, .cells 45 5 (tcC a)) :: (b7, .cells 40 16 ((wl).map (Value.bool))) :: (b8, .cells 41 64 ((sl).flatMap Spot.v)) :: (b9, .cells 42 16 ((cl).map (Value.int .i64))) :: (b10, .cells 43 3 ((ll).map (fun (n : Nat) => Value.int .u64 (n : Int)))) :: H)).hsub zH) ?_
                    rintro v H' ⟨HB5, hT5, rfl, rfl⟩
                    rcases begQ_ways 3 Q Rs (c : Int) (m : Int) with ⟨he, h1, h2⟩ | ⟨z, lz, hqz, hbq⟩
                    · skip
                      rw [h1, h2] at hT5
                      rw [show begV 3 Q Rs As (c : Int) (m : Int) = .tuple #[.int .i64 0, .int .i64 0, .int .i64 (begQ 3 Q Rs (c : Int) (m : Int)).2.2.2] from if_neg he]
                      refine W_move rfl rfl ?_
                      refine W_extract rfl rfl rfl ?_
                      refine W_extract rfl rfl rfl ?_
                      refine W_extract rfl rfl rfl ?_
                      refine W_assign rfl rfl ?_
                      refine W_assign rfl rfl ?_
                      refine W_assign rfl rfl ?_
                      refine W_nil ?_
                      refine W_seq ?_
                      refine W_sr ?_
                      refine W_move rfl rfl ?_
                      refine W_bin rfl rfl b_neq rfl ?_
                      refine W_nil ?_
                      refine W_condT rfl (by simpa using he) ?_
                      refine W_exit rfl ?_
                      refine W_blk ?_
                      refine W_region ?_
                      refine W_move rfl rfl ?_
                      refine W_bin rfl rfl (b_add (m := ((i + 1 : Nat) : Int)) ((i64w (by omega)).trans (by omega))) rfl ?_
                      refine W_assign rfl rfl ?_
                      refine W_nil ?_
                      refine W_again ⟨i + 1, Ws, Q, Rs, As, HB5, wl, sl, cl, ll⟩ ⟨by show i + 1 ≤ min acts.length 100; omega, by exact hT5, hI.as (hI.ok.up (Nat.le_succ _)) (fun _ hh => hh) hI.prog⟩ (by show min acts.length 100 - (i + 1) < min acts.length 100 - i; omega) (sub_cons rfl (sub_cons rfl (sub_cons rfl (sub_cons rfl (sub_cons rfl (sub_cons rfl (sub_cons rfl (sub_nil _)))))))) rfl zH
                    · skip
                      obtain ⟨j2, k2, w2, s2, e1, e2, g3, g4, g5, g6, g7, g8, g9, o2, ho2, hom, hos, hop⟩ := hI.queued z (c : Int) (mem_quOf.1 (by rw [hqz]; exact List.mem_cons_self))
                      have hm2 : ((z : Int), (c : Int)) ∈ Q := mem_quOf.1 (by rw [hqz]; exact List.mem_cons_self)
                      obtain rfl : k2 = c := by omega
                      subst e1
                      obtain rfl := Option.some.inj (g7.symm.trans hw)
                      dsimp only at g4 g5 g6 g7 g8 g9 ho2
                      have hpg : progOf As (j2 : Int) = (j2 : Int) := by
                        rw [progOf_at ho2]
                        rcases hI.prog j2 o2 ho2 with e | e
                        · exact absurd e hop
                        · omega
                      rw [hbq] at hT5
                      rw [show begV 3 Q Rs As (k2 : Int) (m : Int) = .tuple #[.int .i64 (j2 : Int), .int .i64 (j2 : Int), .int .i64 0] from by unfold begV; rw [hbq, if_pos rfl, hpg]]
                      refine W_move rfl rfl ?_
                      refine W_extract rfl rfl rfl ?_
                      refine W_extract rfl rfl rfl ?_
                      refine W_extract rfl rfl rfl ?_
                      refine W_assign rfl rfl ?_
                      refine W_assign rfl rfl ?_
                      refine W_assign rfl rfl ?_
                      refine W_nil ?_
                      refine W_seq ?_
                      refine W_sr ?_
                      refine W_move rfl rfl ?_
                      refine W_bin rfl rfl b_neq rfl ?_
                      refine W_nil ?_
                      refine W_condF rfl rfl ?_
                      refine W_skip ?_
                      refine W_seq ?_
                      refine W_quietsr (by kernel_rfl) (by decide +kernel) ?_
                      refine WQ_x (X_move rfl) rfl ?_
                      refine WQ_x (X_bin rfl rfl b_lss) rfl ?_
                      rw [decide_eq_false (by omega)]
                      refine WQ_x (X_move rfl) rfl ?_
                      refine WQ_gyes rfl rfl ?_
                      refine WQ_x (X_move rfl) rfl ?_
                      refine WQ_gyes rfl rfl ?_
                      refine WQ_x (X_bin rfl rfl b_geq) rfl ?_
                      rw [decide_eq_false (by omega)]
                      first | refine WQ_x (X_pickt rfl rfl) rfl ?_ | refine WQ_x (X_pickf rfl rfl) rfl ?_
                      refine WQ_x (X_move rfl) rfl ?_
                      refine WQ_gyes rfl rfl ?_
                      refine WQ_x (X_move rfl) rfl ?_
                      refine WQ_gyes rfl rfl ?_
                      refine WQ_x (X_move rfl) rfl ?_
                      refine WQ_gyes rfl rfl ?_
                      refine WQ_x (X_bin rfl rfl b_neq) rfl ?_
                      rw [decide_eq_false (fun h => h rfl)]
                      first | refine WQ_x (X_pickt rfl rfl) rfl ?_ | refine WQ_x (X_pickf rfl rfl) rfl ?_
                      refine WQ_x (X_move rfl) rfl ?_
                      refine WQ_gyes rfl rfl ?_
                      refine WQ_x (X_move rfl) rfl ?_
                      refine WQ_gyes rfl rfl ?_
                      refine WQ_x (X_indexAddrA (j := j2) rfl rfl ty40 ty4 (by first | rfl | omega) (by first | decide | omega | simp) rfl) rfl ?_
                      refine WQ_gyes rfl rfl ?_
                      refine WQ_x (X_load (v := .bool true) rfl ty4 rfl (Cell.own (b := b7) zM (by rw [show 0 + j2 * 1 = j2 by omega, List.getElem?_map, g4]; rfl))) rfl ?_
                      refine WQ_gyes rfl rfl ?_
                      refine WQ_x (X_not rfl) rfl ?_
                      first | refine WQ_x (X_pickt rfl rfl) rfl ?_ | refine WQ_x (X_pickf rfl rfl) rfl ?_
                      refine WQ_x (X_move rfl) rfl ?_
                      refine WQ_gyes rfl rfl ?_
                      refine WQ_x (X_move rfl) rfl ?_
                      refine WQ_gyes rfl rfl ?_
                      refine WQ_x (X_indexAddrA (j := j2) rfl rfl ty42 ty3 (by first | rfl | omega) (by first | decide | omega | simp) rfl) rfl ?_
                      refine WQ_gyes rfl rfl ?_
                      refine WQ_x (X_load (v := .int .i64 (k2 : Int)) rfl ty3 rfl (Cell.own (b := b9) zM (by rw [show 0 + j2 * 1 = j2 by omega, List.getElem?_map, g5]; rfl))) rfl ?_
                      refine WQ_gyes rfl rfl ?_
                      refine WQ_x (X_move rfl) rfl ?_
                      refine WQ_gyes rfl rfl ?_
                      refine WQ_x (X_bin rfl rfl b_neq) rfl ?_
                      rw [decide_eq_false (fun h => h rfl)]
                      first | refine WQ_x (X_pickt rfl rfl) rfl ?_ | refine WQ_x (X_pickf rfl rfl) rfl ?_
                      refine WQ_x (X_move rfl) rfl ?_
                      refine WQ_gyes rfl rfl ?_
                      refine WQ_x (X_move rfl) rfl ?_
                      refine WQ_gyes rfl rfl ?_
                      refine WQ_x (X_indexAddrA (j := k2) rfl rfl ty43 ty22 (by first | rfl | omega) (by first | decide | omega | simp) rfl) rfl ?_
                      refine WQ_gyes rfl rfl ?_
                      refine WQ_x (X_load (v := .int .u64 ((w2.now : Nat) : Int)) rfl ty22 rfl (Cell.own (b := b10) zM (by rw [show 0 + k2 * 1 = k2 by omega, List.getElem?_map, hlast]; rfl))) rfl ?_
                      refine WQ_gyes rfl rfl ?_
                      refine WQ_x (X_move rfl) rfl ?_
                      refine WQ_gyes rfl rfl ?_
                      refine WQ_x (X_indexAddrA (j := j2) rfl rfl ty41 ty32 (by first | rfl | omega) (by first | decide | omega | simp) rfl) rfl ?_
                      refine WQ_gyes rfl rfl ?_
                      refine WQ_x (X_fieldAddr rfl fld32_3 (by decide)) rfl ?_
                      refine WQ_gyes rfl rfl ?_
                      refine WQ_x (X_load (v := .int .u64 ((s2.due : Nat) : Int)) rfl ty22 rfl (Cell.own (b := b8) zM (spot_get (q := 3) g6 rfl))) rfl ?_
                      refine WQ_gyes rfl rfl ?_
                      refine WQ_x (X_bin rfl rfl b_lss) rfl ?_
                      rw [decide_eq_false (by omega)]
                      first | refine WQ_x (X_pickt rfl rfl) rfl ?_ | refine WQ_x (X_pickf rfl rfl) rfl ?_
                      refine WQ_x (X_move rfl) rfl ?_
                      refine WQ_gyes rfl rfl ?_
                      refine WQ_x (X_move rfl) rfl ?_
                      refine WQ_gyes rfl rfl ?_
                      refine WQ_x (X_indexAddrA (j := k2) rfl rfl ty43 ty22 (by first | rfl | omega) (by first | decide | omega | simp) rfl) rfl ?_
                      refine WQ_gyes rfl rfl ?_
                      refine WQ_x (X_load (v := .int .u64 ((w2.now : Nat) : Int)) rfl ty22 rfl (Cell.own (b := b10) zM (by rw [show 0 + k2 * 1 = k2 by omega, List.getElem?_map, hlast]; rfl))) rfl ?_
                      refine WQ_gyes rfl rfl ?_
                      refine WQ_x (X_move rfl) rfl ?_
                      refine WQ_gyes rfl rfl ?_
                      refine WQ_x (X_indexAddrA (j := j2) rfl rfl ty41 ty32 (by first | rfl | omega) (by first | decide | omega | simp) rfl) rfl ?_
                      refine WQ_gyes rfl rfl ?_
                      refine WQ_x (X_fieldAddr rfl fld32_2 (by decide)) rfl ?_
                      refine WQ_gyes rfl rfl ?_
                      refine WQ_x (X_load (v := .int .u64 ((s2.at_ : Nat) : Int)) rfl ty22 rfl (Cell.own (b := b8) zM (spot_get (q := 2) g6 rfl))) rfl ?_
                      refine WQ_gyes rfl rfl ?_
                      refine WQ_x (X_bin rfl rfl b_lss) rfl ?_
                      rw [decide_eq_false (by omega)]
                      first | refine WQ_x (X_pickt rfl rfl) rfl ?_ | refine WQ_x (X_pickf rfl rfl) rfl ?_
                      refine WQ_nil ?_
                      refine W_condF rfl rfl ?_
                      refine W_skip ?_
                      refine W_region ?_
                      refine W_move rfl rfl ?_
                      refine W_indexAddrA (j := j2) rfl rfl ty40 ty4 (by first | rfl | omega) (by first | decide | omega | simp) rfl rfl ?_
                      refine W_store (l' := ((wl).set j2 false).map (Value.bool)) rfl rfl ty4 rfl rfl (b := b7) zM (by rw [List.length_map, Nat.blt_eq]; omega) (by rw [List.map_set]; congr 1; omega) zU ?_
                      refine W_nil ?_
                      refine W_blk ?_
                      refine W_blk ?_
                      refine W_region ?_
                      refine W_move rfl rfl ?_
                      refine W_bin rfl rfl (b_add (m := ((i + 1 : Nat) : Int)) ((i64w (by omega)).trans (by omega))) rfl ?_
                      refine W_assign rfl rfl ?_
                      refine W_nil ?_
                      refine W_again ⟨i + 1, Ws, delQ Q (j2 : Int), Rs ++ [((j2 : Int), (m : Int))], As, HB5, wl.set j2 false, sl, cl, ll⟩ ⟨by show i + 1 ≤ min acts.length 100; omega, by exact hT5, hI.pop hm2 (hI.ok.up (Nat.le_succ _))⟩ (by show min acts.length 100 - (i + 1) < min acts.length 100 - i; omega) (sub_cons rfl (sub_cons rfl (sub_cons rfl (sub_cons rfl (sub_cons rfl (sub_cons rfl (sub_cons rfl (sub_nil _)))))))) rfl zH
                  · skip
                    refine W_sr ?_
                    refine W_bin rfl rfl b_eql rfl ?_
                    refine W_assign rfl rfl ?_
                    refine W_nil ?_
                    refine W_condPS (p := kd = 7) rfl (by rw [decide_eq_true_eq]; omega) (fun q9 => ?_) (fun q9 => ?_)
                    · skip
                      refine W_region ?_
                      skip
                      · skip
                        refine W_move rfl rfl ?_
                        refine W_fieldAddr rfl fld45_3 (by decide) rfl ?_
                        refine W_load (v := .int .i64 a.n) rfl ty3 rfl (Cell.own (b := b12) zM rfl) rfl ?_
                        refine W_conv rfl ty3 ty22 rfl rfl ?_
                        refine W_bin rfl rfl (b_rem (by decide) (m := (m : Int)) hremm) rfl ?_
                        refine W_conv rfl ty22 ty3 (m := (m : Int)) (i64w (by omega)) rfl ?_
                        refine W_call (.cons rfl (.cons rfl .nil)) Tryz.call18 rfl ((tEnd_L hT4 (c := (m : Int)) (H := (b12, .cells 45 5 (tcC a)) :: (b7, .cells 40 16 ((wl).map (Value.bool))) :: (b8, .cells 41 64 ((sl).flatMap Spot.v)) :: (b9, .cells 42 16 ((cl).map (Value.int .i64))) :: (b10, .cells 43 3 ((ll).map (fun (n : Nat) => Value.int .u64 (n : Int)))) :: H)).hsub zH) ?_
                        rintro v H' ⟨HB5, hT5, rfl, rfl⟩
                        refine W_nil ?_
                        refine W_blk ?_
                        refine W_blk ?_
                        refine W_region ?_
                        refine W_move rfl rfl ?_
                        refine W_bin rfl rfl (b_add (m := ((i + 1 : Nat) : Int)) ((i64w (by omega)).trans (by omega))) rfl ?_
                        refine W_assign rfl rfl ?_
                        refine W_nil ?_
                        refine W_again ⟨i + 1, Ws, Q, (endQ Rs (m : Int)).1, As, HB5, wl, sl, cl, ll⟩ ⟨by show i + 1 ≤ min acts.length 100; omega, by exact hT5, hI.as (hI.ok.up (Nat.le_succ _)) (fun _ hh => hh) hI.prog⟩ (by show min acts.length 100 - (i + 1) < min acts.length 100 - i; omega) (sub_cons rfl (sub_cons rfl (sub_cons rfl (sub_cons rfl (sub_cons rfl (sub_cons rfl (sub_cons rfl (sub_nil _)))))))) rfl zH
                    · skip
                      refine W_sr ?_
                      skip
                      · skip
                        refine W_move rfl rfl ?_
                        refine W_move rfl rfl ?_
                        refine W_buildSlice (l := [.int .i64 (j : Int)]) ty24 ty3 (.cons rfl rfl rfl rfl rfl .nil) rfl rfl rfl rfl rfl rfl rfl (fun b65 => ?_)
                        refine W_call (.cons rfl (.cons rfl .nil)) Tryz.call19 rfl ((Shut_L hT4 hI.ok (ids := [(j : Int)]) (by show 1 ≤ 1000000; decide) (Holds.own (b := b65) zM) (H := (b65, .cells 3 1 [.int .i64 (j : Int)]) :: (b12, .cells 45 5 (tcC a)) :: (b7, .cells 40 16 ((wl).map (Value.bool))) :: (b8, .cells 41 64 ((sl).flatMap Spot.v)) :: (b9, .cells 42 16 ((cl).map (Value.int .i64))) :: (b10, .cells 43 3 ((ll).map (fun (n : Nat) => Value.int .u64 (n : Int)))) :: H)).hsub zH) ?_
                        rintro v H' ⟨HB5, hT5, hO5, rfl, rfl⟩
                        refine W_nil ?_
                        refine W_region ?_
                        refine W_move rfl rfl ?_
                        refine W_indexAddrA (j := j) rfl rfl ty40 ty4 (by first | rfl | omega) (by first | decide | omega | simp) rfl rfl ?_
                        refine W_store (l' := ((wl).set j false).map (Value.bool)) rfl rfl ty4 rfl rfl (b := b7) zM (by rw [List.length_map, Nat.blt_eq]; omega) (by rw [List.map_set]; congr 1; omega) zU ?_
                        refine W_nil ?_
                        refine W_blk ?_
                        refine W_blk ?_
                        refine W_region ?_
                        refine W_move rfl rfl ?_
                        refine W_bin rfl rfl (b_add (m := ((i + 1 : Nat) : Int)) ((i64w (by omega)).trans (by omega))) rfl ?_
                        refine W_assign rfl rfl ?_
                        refine W_nil ?_
                        refine W_again ⟨i + 1, (shutsA Ws Q As [(j : Int)]).1, (shutsA Ws Q As [(j : Int)]).2.1, Rs, (shutsA Ws Q As [(j : Int)]).2.2.1, HB5, wl.set j false, sl, cl, ll⟩ ⟨by show i + 1 ≤ min acts.length 100; omega, by exact hT5, hI.shut hj hT4.as⟩ (by show min acts.length 100 - (i + 1) < min acts.length 100 - i; omega) (sub_cons rfl (sub_cons rfl (sub_cons rfl (sub_cons rfl (sub_cons rfl (sub_cons rfl (sub_cons rfl (sub_nil _)))))))) rfl zH
  · skip
    refine W_exit rfl ?_
    refine W_sr ?_
    refine W_callp .nil Tryz.call12 rfl hT tknown_pure ?_
    refine W_assign rfl rfl ?_
    refine W_nil ?_
    refine W_ret1m (H2 := H) Tryz.results4 rfl (.nil _) zH ?_
    exact ⟨rfl, rfl⟩
end Go.Proofs.YtcmfldfeakmdoaaGreatDoor
