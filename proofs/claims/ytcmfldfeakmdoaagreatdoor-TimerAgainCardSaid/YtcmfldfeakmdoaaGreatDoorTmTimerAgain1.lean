/-
  Own work: contracts of functions that the statement reaches, and plain facts on what they compute; each theorem says its conditions.
-/
import Derived.Test.YtcmfldfeakmdoaaGreatDoorTmT8
import Derived.Test.YtcmfldfeakmdoaaGreatDoorTmS2
import Derived.Test.YtcmfldfeakmdoaaGreatDoorTmA
set_option linter.all false
set_option linter.unusedSimpArgs false
set_option linter.unusedVariables false
namespace Go.Proofs.YtcmfldfeakmdoaaGreatDoor
open Go Go.Sl
attribute [local irreducible] W
set_option maxRecDepth 100000
theorem start_late {n i k a : Nat} {Ws Ws' : List Wl} {Q Q' : List (Int × Int)} {As As' : List Tone} {o : Tone} {w : Wl} {s : Spot} {e : Int} (h : StartIs n Ws Q As (i : Int) (k : Int) a Ws' Q' As' s e) (hi : i < 256) (hk : k < n) (hA : As[i]? = some o) (hw : Ws[k]? = some w) (hs : o.shut = false) (hm : o.made = true) (hp : ¬ o.prog = 0) (hn : w.now = 18446744073709551615) : e = 12 ∧ s = zSpot := by
  generalize hid : (i : Int) = id at h
  generalize hcp : (k : Int) = cpu at h
  cases h with
  | out h => exact absurd h (by omega)
  | @at_ i2 k2 o2 w2 _ _ _ _ _ hi2 ei ek hA2 hw2 hM =>
    subst hid hcp
    obtain rfl : i2 = i := by omega
    obtain rfl : k2 = k := by omega
    obtain rfl : o2 = o := Option.some.inj (hA2.symm.trans hA)
    obtain rfl : w2 = w := Option.some.inj (hw2.symm.trans hw)
    cases hM with
    | gone h => rw [hs] at h; cases h
    | unset _ h => rcases h with h | h
                   · rw [hm] at h; cases h
                   · exact absurd h hp
    | late _ _ h => exact ⟨rfl, rfl⟩
    | put _ _ h _ => exact absurd hn h
structure AgS where
  i : Nat
  Ws : List Wl
  As : List Tone
  HB : Heap
  cpu : Int
  s : Spot
structure AgI (now : Nat) (x : AgS) : Prop where
  ok : TOk x.i x.Ws x.As
  one : x.As[7]? = some ⟨true, false, 2, (x.i : Int)⟩
  len : x.Ws.length = 2
  now : ∀ w ∈ x.Ws, w.now = now
  only : Only 7 x.Ws []
  fnone : x.i = 0 → ∀ w ∈ x.Ws, w.L = []
  fsome : 0 < x.i → ∃ (c : Nat) (w : Wl) (t : Tm), x.cpu = (c : Int) ∧ c < 2 ∧ x.Ws[c]? = some w ∧ w.L = [t] ∧ t.s = x.s ∧ t.id = 7 ∧ t.s.due ≤ 18446744073709551615 ∧ ∀ (k : Nat) u, k ≠ c → x.Ws[k]? = some u → u.L = []
theorem AgI.step {now a c : Nat} {x : AgS} (h : AgI now x) (hc : c < 2) {w : Wl} (hw : x.Ws[c]? = some w) {HB : Heap} {Ws' : List Wl} (hW : Ws' = (x.Ws.map (delW [(7 : Nat)])).set c ⟨w.bw, w.now, delT w.L (7 : Nat) ++ [tmOf w.now a w.turn (7 : Nat)], w.turn + 1⟩) (hO : TOk (x.i + 1) Ws' (x.As.set 7 ⟨true, false, 2, (x.i : Int) + 1⟩)) : AgI now ⟨x.i + 1, Ws', x.As.set 7 ⟨true, false, 2, (x.i : Int) + 1⟩, HB, (c : Int), (placeT w.now a).1⟩ := by
  have hwm := List.mem_of_getElem? hw
  have hd : ∀ u ∈ x.Ws, delT u.L (7 : Nat) = [] := fun u hu => only_L (h.only.1 u hu)
  have hcl : c < (x.Ws.map (delW [(7 : Nat)])).length := by rw [List.length_map, h.len]; exact hc
  refine ⟨hO, ?_, ?_, fun u hu => ?_, ⟨fun u hu t ht => ?_, fun p hp => by cases hp⟩, fun h0 => absurd h0 (Nat.succ_ne_zero _), fun _ => ⟨c, ⟨w.bw, w.now, delT w.L (7 : Nat) ++ [tmOf w.now a w.turn (7 : Nat)], w.turn + 1⟩, tmOf w.now a w.turn (7 : Nat), rfl, hc, ?_, ?_, rfl, rfl, placeT_due, fun k u hk hu => ?_⟩⟩
  · show (x.As.set 7 _)[7]? = _
    rw [List.getElem?_set_self (List.getElem?_eq_some_iff.1 h.one).1]
    show some _ = some (⟨true, false, 2, ((x.i + 1 : Nat) : Int)⟩ : Tone)
    rw [Int.natCast_add]; rfl
  · show Ws'.length = 2
    rw [hW, List.length_set, List.length_map]; exact h.len
  · have hu2 : u ∈ Ws' := hu
    rw [hW] at hu2
    rcases List.mem_or_eq_of_mem_set hu2 with hu2 | rfl
    · obtain ⟨v, hv, rfl⟩ := List.mem_map.1 hu2
      exact h.now v hv
    · exact h.now w hwm
  · have hu2 : u ∈ Ws' := hu
    rw [hW] at hu2
    rcases List.mem_or_eq_of_mem_set hu2 with hu2 | rfl
    · obtain ⟨v, hv, rfl⟩ := List.mem_map.1 hu2
      have ht2 : t ∈ delT v.L (7 : Nat) := ht
      rw [hd v hv] at ht2; cases ht2
    · have ht2 : t ∈ delT w.L (7 : Nat) ++ [tmOf w.now a w.turn (7 : Nat)] := ht
      rw [hd w hwm] at ht2
      rw [List.mem_singleton.1 ht2]; rfl
  · show Ws'[c]? = _
    rw [hW, List.getElem?_set_self hcl]
  · show delT w.L (7 : Nat) ++ _ = _
    rw [hd w hwm]; rfl
  · have hu2 : Ws'[k]? = some u := hu
    rw [hW, List.getElem?_set_ne (Ne.symm hk), List.getElem?_map] at hu2
    obtain ⟨v, hv, rfl⟩ := Option.map_eq_some_iff.1 hu2
    exact hd v (List.mem_of_getElem? hv)
theorem addsQ_nil (n : Nat) (Q : List (Int × Int)) (cpu : Int) : (addsQ n Q cpu []).1 = Q := by unfold addsQ; split <;> rfl
theorem stateA_of {Ws : List Wl} {Q : List (Int × Int)} {As : List Tone} {i : Nat} {p s : Int} (hi : i < 256) (h : As[i]? = some ⟨true, false, p, s⟩) : stateA Ws Q As (i : Int) = if (findK Ws (i : Int)).isSome = true then 2 else if (whQ Q (i : Int)).isSome = true then 3 else 1 := by
  unfold stateA
  rw [ofA_at hi h]
  unfold stateO
  rw [if_neg (show ¬ false = true by decide), if_neg (show ¬ true = false by decide)]
theorem emp_none {Ws : List Wl} {id : Int} (h : ∀ w ∈ Ws, w.L = []) : findK Ws id = none := findK_noneOf fun w hw => by rw [h w hw]; rfl
set_option maxHeartbeats 8000000 in
theorem timerAgain_pure {now : Nat} {ats cps : List Int} {ad1 ad2 : Option Addr} {cap1 cap2 : Nat} (hnow : now ≤ 18446744073709551615) (hats : ∀ x ∈ ats, 0 ≤ x ∧ x ≤ 18446744073709551615) (hal : ats.length ≤ 9223372036854775807) (hcl : cps.length ≤ 9223372036854775807) : Pure Tryz.prog (fun w => Tab w ∧ InRow w ad1 (ats.map (Value.int .u64)) ∧ InRow w ad2 (cps.map (Value.int .i64))) 3 [.int .u64 ((now : Nat) : Int), .slice ad1 ats.length cap1, .slice ad2 cps.length cap2] (.bool true) := by
  intro w0 H hT
  have hrow1 : Holds w0 H ad1 (ats.map (Value.int .u64)) := Holds.old hT.2.1
  have hrow2 : Holds w0 H ad2 (cps.map (Value.int .i64)) := Holds.old hT.2.2
  replace hT := hT.1
  obtain ⟨A0, hA0⟩ : ∃ A, A = List.replicate 256 zTone := ⟨_, rfl⟩
  have hz : A0[7]? = some zTone := by rw [hA0, List.getElem?_replicate, if_pos (by omega)]
  obtain ⟨A1, hA1e⟩ : ∃ A, A = A0.set 7 (⟨true, false, 0, 0⟩ : Tone) := ⟨_, rfl⟩
  have hA1 : A1[7]? = some (⟨true, false, 0, 0⟩ : Tone) := by rw [hA1e, List.getElem?_set_self (List.getElem?_eq_some_iff.1 hz).1]
  have e1 : onA initO A0 7 = (A1, 0) := by rw [hA1e]; exact onA_at (i := 7) (by decide) hz
  obtain ⟨A2, hA2e⟩ : ∃ A, A = A1.set 7 (⟨true, false, 2, 0⟩ : Tone) := ⟨_, rfl⟩
  have hA2 : A2[7]? = some (⟨true, false, 2, 0⟩ : Tone) := by rw [hA2e, List.getElem?_set_self (List.getElem?_eq_some_iff.1 hA1).1]
  have e2 : setA A1 7 1 = (A2, 0) := by unfold setA; rw [if_pos (by decide), hA2e]; exact onA_at (i := 7) (by decide) hA1
  obtain ⟨n, hn⟩ : ∃ n, n = min (min ats.length cps.length) 20 := ⟨_, rfl⟩
  refine L_enter Tryz.func3 rfl Tryz.ntmps3 rfl rfl ?_
  refine W_sr ?_
  refine W_assign rfl rfl ?_
  refine W_nil ?_
  refine W_sr ?_
  refine W_move rfl rfl ?_
  refine W_call (.cons rfl (.cons rfl .nil)) Tryz.call8 rfl (tNew_at (n := 2) (now := now) (by decide)) ?_
  rintro v H' ⟨tb, Ws0, HB0, rfl, hT0, hWl, hfr, rfl⟩
  have hO0 := (tok0 (now := now) hnow hfr)
  rw [← hA0] at hT0 hO0
  have hO1 := hO0.onA initO_starts 7
  rw [e1] at hO1
  have hO2 := hO1.setA 7 1
  rw [e2] at hO2
  obtain ⟨w0_, hw0⟩ : ∃ w, Ws0[0]? = some w := ⟨_, List.getElem?_eq_getElem (by omega)⟩
  obtain ⟨n0, l0, t0⟩ := hfr w0_ (List.mem_of_getElem? hw0)
  refine W_move rfl rfl ?_
  refine W_extract rfl rfl rfl ?_
  refine W_extract rfl rfl rfl ?_
  refine W_assign rfl rfl ?_
  refine W_assign rfl rfl ?_
  refine W_nil ?_
  refine W_seq ?_
  refine W_sr ?_
  refine W_move rfl rfl ?_
  refine W_bin rfl rfl b_neq rfl ?_
  refine W_move rfl rfl ?_
  refine W_gyes rfl rfl ?_
  refine W_move rfl rfl ?_
  refine W_gyes rfl rfl ?_
  refine W_call (.cons rfl (.cons rfl .nil)) Tryz.call9 rfl ((Init_L hT0 (id := 7) (H := H)).hsub zH) ?_
  rintro v H' ⟨HB1, hT1, rfl, rfl⟩
  rw [e1] at hT1 ⊢
  refine W_gyes rfl rfl ?_
  refine W_bin rfl rfl b_neq rfl ?_
  first | refine W_pickt rfl rfl rfl ?_ | refine W_pickf rfl rfl rfl ?_
  refine W_move rfl rfl ?_
  refine W_gyes rfl rfl ?_
  refine W_move rfl rfl ?_
  refine W_gyes rfl rfl ?_
  refine W_call (.cons rfl (.cons rfl (.cons rfl .nil))) Tryz.call10 rfl ((Set_L hT1 (id := 7) (prog := 1) (H := H)).hsub zH) ?_
  rintro v H' ⟨HB2, hT2, rfl, rfl⟩
  rw [e2] at hT2 ⊢
  refine W_gyes rfl rfl ?_
  refine W_bin rfl rfl b_neq rfl ?_
  first | refine W_pickt rfl rfl rfl ?_ | refine W_pickf rfl rfl rfl ?_
  refine W_nil ?_
  refine W_condF rfl rfl ?_
  refine W_skip ?_
  refine W_seq ?_
  refine W_sr ?_
  refine W_move rfl rfl ?_
  refine W_bin rfl rfl b_eql rfl ?_
  refine W_nil ?_
  refine W_condPS (p := now = 18446744073709551615) rfl (by rw [decide_eq_true_eq]; omega) (fun q0 => ?_) (fun q0 => ?_)
  · skip
    refine W_sr ?_
    refine W_move rfl rfl ?_
    refine W_move rfl rfl ?_
    refine W_call (.cons rfl (.cons rfl (.cons rfl (.cons rfl .nil)))) Tryz.call11 rfl ((Start_L hT2 hO2 (by decide) (id := 7) (cpu := 0) (a := now) hnow (H := H)).hsub zH) ?_
    rintro v H' ⟨W1, Q1, A3, s1, x1, HB3, hS1, hT3, hO3, rfl, rfl⟩
    obtain ⟨rfl, rfl⟩ := start_late (i := 7) (k := 0) hS1 (by decide) (by decide) hA2 hw0 rfl rfl (by decide) (by rw [n0]; exact q0)
    refine W_move rfl rfl ?_
    refine W_extract rfl rfl rfl ?_
    refine W_extract rfl rfl rfl ?_
    refine W_alloc (l := zSpot.v) ty32 rfl rfl (fun b9 => ?_)
    refine W_storeA (l' := zSpot.v) rfl rfl ty32 rfl rfl (b := b9) zM (by exact Nat.le_refl 4) rfl zU ?_
    refine W_assign rfl rfl ?_
    refine W_nil ?_
    refine W_sr ?_
    refine W_callp .nil Tryz.call12 rfl hT tknown_pure ?_
    refine W_move rfl rfl ?_
    refine W_gyes rfl rfl ?_
    refine W_move rfl rfl ?_
    refine W_gyes rfl rfl ?_
    refine W_bin rfl rfl b_eql rfl ?_
    first | refine W_pickt rfl rfl rfl ?_ | refine W_pickf rfl rfl rfl ?_
    refine W_assign rfl rfl ?_
    refine W_nil ?_
    refine W_ret1m (H2 := H) Tryz.results3 rfl (.nil _) zH ?_
    exact ⟨rfl, rfl⟩
  · skip
    refine W_skip ?_
    refine W_sr ?_
    refine W_alloc (l := zSpot.v) ty32 rfl rfl (fun b11 => ?_)
    refine W_nil ?_
    refine W_sr ?_
    refine W_move rfl rfl ?_
    refine W_len rfl ty23 rfl rfl ?_
    refine W_move rfl rfl ?_
    refine W_len rfl ty24 rfl rfl ?_
    refine W_min3 rfl rfl rfl (m := ((n : Nat) : Int)) (by rw [hn]; split <;> split <;> omega) rfl ?_
    refine W_assign rfl rfl ?_
    refine W_assign rfl rfl ?_
    refine W_nil ?_
    refine W_seq ?_
    refine W_sr ?_
    refine W_assign rfl rfl ?_
    refine W_nil ?_
    refine W_block ?_
    refine W_loopC (X := AgS) [(1, _), (2, _), (7, _), (11, _), (13, _)] (fun (x : AgS) => [(12, .int .i64 x.cpu), (14, .int .i64 (x.i : Int))]) (fun _ => _) (fun (x : AgS) => (b11, .cells 32 4 x.s.v) :: (x.HB ++ H)) (fun (x : AgS) => x.i ≤ n ∧ TimerH tb 2 x.Ws [] [] x.As x.HB ∧ AgI now x) (fun (x : AgS) => n - x.i) ⟨0, Ws0, A2, HB2, 0, zSpot⟩ ⟨Nat.zero_le _, hT2, ⟨hO2, hA2, hWl, fun w hw => (hfr w hw).1, ⟨fun w hw t ht => (by rw [(hfr w hw).2.1] at ht; cases ht), fun p hp => (by cases hp)⟩, fun _ w hw => (hfr w hw).2.1, fun h0 => absurd h0 (Nat.lt_irrefl _)⟩⟩ (sub_cons rfl (sub_cons rfl (sub_cons rfl (sub_cons rfl (sub_cons rfl (sub_nil _)))))) (sub_cons rfl (sub_cons rfl (sub_nil _))) rfl zH ?_
    rintro ⟨i, Ws, As, HB, cpu, s⟩ ⟨hin, hT4, hI⟩
    dsimp only at hin hT4 ⊢
    simp only [List.cons_append, List.nil_append]
    refine W_seq ?_
    refine W_sr ?_
    refine W_move rfl rfl ?_
    refine W_move rfl rfl ?_
    refine W_bin rfl rfl b_lss rfl ?_
    refine W_nil ?_
    refine W_condPS (p := (i : Int) < (n : Int)) rfl (by simp) (fun q1 => ?_) (fun q1 => ?_)
    · skip
      refine W_skip ?_
      refine W_seq ?_
      refine W_block ?_
      refine W_sr ?_
      obtain ⟨y, hy⟩ : ∃ y, cps[i]? = some y := ⟨_, List.getElem?_eq_getElem (by omega)⟩
      obtain ⟨q1_, p1_, rfl, hcy⟩ := hrow2.at (i := i) (v := .int .i64 y) (by rw [List.getElem?_map, hy]; rfl)
      obtain ⟨x, hx⟩ : ∃ x, ats[i]? = some x := ⟨_, List.getElem?_eq_getElem (by omega)⟩
      obtain ⟨q2_, p2_, rfl, hcx⟩ := hrow1.at (i := i) (v := .int .u64 x) (by rw [List.getElem?_map, hx]; rfl)
      have hxb := hats x (List.mem_of_getElem? hx)
      obtain ⟨a, rfl⟩ : ∃ a : Nat, x = (a : Int) := ⟨x.toNat, by omega⟩
      obtain ⟨c, hcl, hremc⟩ := modW_is y (N := 2) (by decide)
      obtain ⟨w, hw⟩ : ∃ w, Ws[c]? = some w := ⟨_, List.getElem?_eq_getElem (by rw [show Ws.length = 2 from hI.len]; exact hcl)⟩
      refine W_move rfl rfl ?_
      refine W_move rfl rfl ?_
      refine W_indexAddr (j := i) rfl rfl ty24 ty3 (by first | rfl | omega) (by first | decide | omega | simp) rfl rfl ?_
      refine W_load (v := .int .i64 y) rfl ty3 rfl (by rw [Nat.mul_one]; exact hcy.up zH) rfl ?_
      refine W_conv rfl ty3 ty22 rfl rfl ?_
      refine W_bin rfl rfl (b_rem (by decide) (m := (c : Int)) hremc) rfl ?_
      refine W_conv rfl ty22 ty3 (m := (c : Int)) (i64w (by omega)) rfl ?_
      refine W_assign rfl rfl ?_
      refine W_nil ?_
      refine W_sr ?_
      refine W_move rfl rfl ?_
      refine W_move rfl rfl ?_
      refine W_move rfl rfl ?_
      refine W_move rfl rfl ?_
      refine W_indexAddr (j := i) rfl rfl ty23 ty22 (by first | rfl | omega) (by first | decide | omega | simp) rfl rfl ?_
      refine W_load (v := .int .u64 ((a : Nat) : Int)) rfl ty22 rfl (by rw [Nat.mul_one]; exact hcx.up zH) rfl ?_
      refine W_call (.cons rfl (.cons rfl (.cons rfl (.cons rfl .nil)))) Tryz.call11 rfl ((Start_L hT4 hI.ok (show i ≤ 1000000 by omega) (id := 7) (cpu := (c : Int)) (a := a) (by omega) (H := (b11, .cells 32 4 (Spot.v s)) :: H)).hsub zH) ?_
      rintro v H' ⟨W5, Q5, A5, s5, x5, HB5, hS5, hT5, hO5, rfl, rfl⟩
      obtain ⟨rfl, rfl, hW5, rfl, hA5e⟩ := start_ok (i := 7) (k := c) hS5 hI.len (by decide) hI.one hw rfl rfl (show ¬ (2 : Int) = 0 by decide) (by rw [hI.now w (List.mem_of_getElem? hw)]; omega)
      replace hA5e : A5 = As.set 7 ⟨true, false, 2, (i : Int) + 1⟩ := hA5e
      subst hA5e
      refine W_move rfl rfl ?_
      refine W_extract rfl rfl rfl ?_
      refine W_extract rfl rfl rfl ?_
      refine W_alloc (l := zSpot.v) ty32 rfl rfl (fun b15 => ?_)
      refine W_storeA (l' := (placeT w.now a).1.v) rfl rfl ty32 rfl rfl (b := b15) zM (by exact Nat.le_refl 4) rfl zU ?_
      refine W_assign rfl rfl ?_
      refine W_nil ?_
      refine W_seq ?_
      refine W_sr ?_
      refine W_move rfl rfl ?_
      refine W_bin rfl rfl b_neq rfl ?_
      refine W_nil ?_
      refine W_condF rfl rfl ?_
      refine W_skip ?_
      refine W_region ?_
      refine W_loadB (vs := (placeT w.now a).1.v) rfl ty32 rfl (b := b15) zM rfl rfl rfl ?_
      refine W_storeA (l' := (placeT w.now a).1.v) rfl rfl ty32 rfl rfl (b := b11) zM (by exact Nat.le_refl 4) rfl zU ?_
      refine W_nil ?_
      refine W_blk ?_
      refine W_region ?_
      refine W_move rfl rfl ?_
      refine W_bin rfl rfl (b_add (m := ((i + 1 : Nat) : Int)) ((i64w (by omega)).trans (by omega))) rfl ?_
      refine W_assign rfl rfl ?_
      refine W_nil ?_
      refine W_again ⟨i + 1, W5, As.set 7 ⟨true, false, 2, (i : Int) + 1⟩, HB5, (c : Int), (placeT w.now a).1⟩ ⟨by show i + 1 ≤ n; omega, by show TimerH tb 2 W5 [] [] (As.set 7 _) HB5; exact hT5, hI.step hcl hw hW5 hO5⟩ (by show n - (i + 1) < n - i; omega) (sub_cons rfl (sub_cons rfl (sub_cons rfl (sub_cons rfl (sub_cons rfl (sub_cons rfl (sub_cons rfl (sub_nil _)))))))) rfl zH
    · skip
      refine W_exit rfl ?_
      refine W_seq ?_
      refine W_sr ?_
      have hii : i = n := by omega
      subst hii
      refine W_move rfl rfl ?_
      refine W_bin rfl rfl b_eql rfl ?_
      refine W_nil ?_
      refine W_condPS (p := i = 0) rfl (by simp) (fun q2 => ?_) (fun q2 => ?_)
      · skip
        refine W_sr ?_
        refine W_callp .nil Tryz.call12 rfl hT tknown_pure ?_
        refine W_move rfl rfl ?_
        refine W_gyes rfl rfl ?_
        refine W_move rfl rfl ?_
        refine W_gyes rfl rfl ?_
        refine W_call (.cons rfl (.cons rfl .nil)) Tryz.call13 rfl ((State_L hT4 (id := 7) (H := (b11, .cells 32 4 (Spot.v s)) :: H)).hsub zH) ?_
        rintro v H' ⟨HB6, hT6, rfl, rfl⟩
        rw [show stateA Ws [] As 7 = _ from stateA_of (i := 7) (by decide) hI.one, emp_none (hI.fnone (show i = 0 by omega))]
        rw [if_neg (by decide), if_neg (by decide)]
        refine W_gyes rfl rfl ?_
        refine W_bin rfl rfl b_eql rfl ?_
        first | refine W_pickt rfl rfl rfl ?_ | refine W_pickf rfl rfl rfl ?_
        refine W_assign rfl rfl ?_
        refine W_nil ?_
        refine W_ret1m (H2 := H) Tryz.results3 rfl (.nil _) zH ?_
        exact ⟨rfl, rfl⟩
      · skip
        refine W_skip ?_
        refine W_seq ?_
        refine W_sr ?_
        obtain ⟨c, w, t, hcpu, hc2, hw, hwL, hts, htid, hdb, hoth⟩ := hI.fsome (show 0 < i by omega)
        replace hcpu : cpu = (c : Int) := hcpu
        subst hcpu
        replace hts : t.s = s := hts
        subst hts
        replace hw : Ws[c]? = some w := hw
        have hlen : Ws.length = 2 := hI.len
        have hwn := hI.now w (List.mem_of_getElem? hw)
        have hlat : w.now < t.s.due := hI.ok.bank.later w (List.mem_of_getElem? hw) t (by rw [hwL]; exact List.mem_cons_self)
        obtain ⟨d, hd2, hdc⟩ : ∃ d : Nat, d < 2 ∧ (1 : Int) - (c : Int) = (d : Int) ∧ d ≠ c := ⟨1 - c, by omega, by omega, by omega⟩
        obtain ⟨u, hu⟩ : ∃ u, Ws[d]? = some u := ⟨_, List.getElem?_eq_getElem (by omega)⟩
        have huL := hoth d u hdc.2 hu
        refine W_move rfl rfl ?_
        refine W_callq (.cons rfl (.cons rfl .nil)) Tryz.call14 rfl (tStarts_q hT4 (fun p hp => (by repeat (first | exact List.mem_append_left _ hp | exact List.mem_cons_self | apply List.mem_cons_of_mem | apply List.mem_append_right))) (id := 7)) ?_
        rw [show ofA As 7 = _ from ofA_at (i := 7) (by decide) hI.one]
        refine W_move rfl rfl ?_
        refine W_bin rfl rfl b_neq rfl ?_
        rw [decide_eq_false (fun h => h rfl)]
        refine W_move rfl rfl ?_
        refine W_gyes rfl rfl ?_
        refine W_move rfl rfl ?_
        refine W_gyes rfl rfl ?_
        refine W_move rfl rfl ?_
        refine W_gyes rfl rfl ?_
        refine W_bin rfl rfl (b_sub (m := (d : Int)) (by rw [i64w (by omega)]; exact hdc.1)) rfl ?_
        refine W_gyes rfl rfl ?_
        refine W_call (.cons rfl (.cons rfl (.cons rfl .nil))) Tryz.call15 rfl ((Catch_L hT4 hI.ok hT (cpu := (d : Int)) (a := 18446744073709551615) (by decide) (H := (b11, .cells 32 4 (Spot.v t.s)) :: H)).hsub zH) ?_
        rintro v H' ⟨W6, O6, XO6, HB6, hC6, hT6, hO6, hOO6, hol6, rfl⟩
        obtain ⟨Li6, hG6, hW6⟩ := catch_at (k := d) hC6 hu
        obtain ⟨rfl, rfl⟩ := gone_wait hG6 (fun x hx => by rw [huL] at hx; cases hx)
        obtain ⟨ad6, cap6, rfl, _, _⟩ := hOO6.shape
        rw [List.map_nil, addsQ_nil] at hT6
        have hw6 : W6[c]? = some w := by rw [hW6, List.getElem?_set_ne hdc.2]; exact hw
        refine W_gyes rfl rfl ?_
        refine W_len rfl ty24 rfl rfl ?_
        refine W_gyes rfl rfl ?_
        refine W_bin rfl rfl b_neq rfl ?_
        first | refine W_pickt rfl rfl rfl ?_ | refine W_pickf rfl rfl rfl ?_
        refine W_move rfl rfl ?_
        refine W_gyes rfl rfl ?_
        refine W_move rfl rfl ?_
        refine W_gyes rfl rfl ?_
        refine W_move rfl rfl ?_
        refine W_gyes rfl rfl ?_
        refine W_fieldAddr rfl fld32_3 (by decide) rfl ?_
        refine W_gyes rfl rfl ?_
        refine W_load (v := .int .u64 ((t.s.due : Nat) : Int)) rfl ty22 rfl (Cell.own (b := b11) zM rfl) rfl ?_
        refine W_gyes rfl rfl ?_
        refine W_bin rfl rfl (b_sub (m := ((t.s.due - 1 : Nat) : Int)) (by rw [u64w (by omega)]; omega)) rfl ?_
        refine W_gyes rfl rfl ?_
        refine W_call (.cons rfl (.cons rfl (.cons rfl .nil))) Tryz.call15 rfl ((Catch_L hT6 hO6 hT (cpu := (c : Int)) (a := t.s.due - 1) (by omega) (H := (b11, .cells 32 4 (Spot.v t.s)) :: H)).hsub zH) ?_
        rintro v H' ⟨W7, O7, XO7, HB7, hC7, hT7, hO7, hOO7, hol7, rfl⟩
        obtain ⟨Li7, hG7, hW7⟩ := catch_at (k := c) hC7 hw6
        obtain ⟨rfl, rfl⟩ := gone_wait hG7 (fun x hx => by rw [hwL] at hx; rw [List.mem_singleton.1 hx]; omega)
        obtain ⟨ad7, cap7, rfl, _, _⟩ := hOO7.shape
        rw [List.map_nil, addsQ_nil] at hT7
        have hcl7 : c < W6.length := by rw [hW6, List.length_set, hlen]; exact hc2
        have hw7 : W7[c]? = some ⟨w.bw, max w.now (t.s.due - 1), w.L, w.turn⟩ := by rw [hW7, List.getElem?_set_self hcl7]
        refine W_gyes rfl rfl ?_
        refine W_len rfl ty24 rfl rfl ?_
        refine W_gyes rfl rfl ?_
        refine W_bin rfl rfl b_neq rfl ?_
        first | refine W_pickt rfl rfl rfl ?_ | refine W_pickf rfl rfl rfl ?_
        refine W_move rfl rfl ?_
        refine W_gyes rfl rfl ?_
        refine W_move rfl rfl ?_
        refine W_gyes rfl rfl ?_
        refine W_call (.cons rfl (.cons rfl .nil)) Tryz.call13 rfl ((State_L hT7 (id := 7) (H := (b11, .cells 32 4 (Spot.v t.s)) :: H)).hsub zH) ?_
        rintro v H' ⟨HB8, hT8, rfl, rfl⟩
        rw [show stateA W7 [] As 7 = _ from stateA_of (i := 7) (by decide) hI.one, if_pos (findK_isSome hw7 (heldB_iff.2 (by rw [hwL]; simp [htid])))]
        refine W_gyes rfl rfl ?_
        refine W_bin rfl rfl b_neq rfl ?_
        first | refine W_pickt rfl rfl rfl ?_ | refine W_pickf rfl rfl rfl ?_
        refine W_nil ?_
        refine W_condF rfl rfl ?_
        refine W_skip ?_
        refine W_sr ?_
        refine W_move rfl rfl ?_
        refine W_move rfl rfl ?_
        refine W_fieldAddr rfl fld32_3 (by decide) rfl ?_
        refine W_load (v := .int .u64 ((t.s.due : Nat) : Int)) rfl ty22 rfl (Cell.own (b := b11) zM rfl) rfl ?_
        refine W_call (.cons rfl (.cons rfl (.cons rfl .nil))) Tryz.call15 rfl ((Catch_L hT8 hO7 hT (cpu := (c : Int)) (a := t.s.due) hdb (H := (b11, .cells 32 4 (Spot.v t.s)) :: H)).hsub zH) ?_
        rintro v H' ⟨W9, O9, XO9, HB9, hC9, hT9, hO9, hOO9, hol9, rfl⟩
        obtain ⟨Li9, hG9, hW9⟩ := catch_at (k := c) hC9 hw7
        dsimp only at hG9 hW9
        obtain ⟨rfl, rfl⟩ := gone_all hG9 hwL (by omega)
        obtain ⟨ad9, cap9, rfl, _, _, hr9⟩ := Holds.of_own (w0 := w0) (H := XO9 ++ []) hOO9 (fun p hp => List.mem_append_left _ hp)
        obtain ⟨q9, p9, rfl, hc9⟩ := hr9.at (i := 0) (v := .int .i64 7) (by rw [← htid]; rfl)
        have hemp : ∀ x ∈ W9, x.L = [] := fun x hx => by
          rw [hW9, hW7, List.set_set] at hx
          obtain ⟨k, hk, e⟩ := List.getElem_of_mem hx
          by_cases hkc : k = c
          · subst hkc
            rw [List.getElem_set_self] at e
            rw [← e]
          · rw [List.getElem_set_ne (Ne.symm hkc)] at e
            have e2 : W6[k]? = some x := by rw [← e]; exact List.getElem?_eq_getElem _
            rw [hW6] at e2
            by_cases hkd : k = d
            · subst hkd
              rw [List.getElem?_set_self (by omega)] at e2
              obtain rfl := Option.some.inj e2
              exact huL
            · rw [List.getElem?_set_ne (Ne.symm hkd)] at e2
              exact hoth k x hkc e2
        have eQ : addsQ 2 [] (c : Int) (List.map (·.id) [t]) = ([(7, (c : Int))], 0) := by
          unfold addsQ
          rw [if_neg (by omega), List.map_cons, htid]; rfl
        rw [eQ] at hT9
        refine W_assign rfl rfl ?_
        refine W_nil ?_
        refine W_sr ?_
        refine W_callp .nil Tryz.call12 rfl hT tknown_pure ?_
        refine W_move rfl rfl ?_
        refine W_gyes rfl rfl ?_
        refine W_move rfl rfl ?_
        refine W_gyes rfl rfl ?_
        refine W_len rfl ty24 rfl rfl ?_
        refine W_gyes rfl rfl ?_
        refine W_bin rfl rfl b_eql rfl ?_
        first | refine W_pickt rfl rfl rfl ?_ | refine W_pickf rfl rfl rfl ?_
        refine W_move rfl rfl ?_
        refine W_gyes rfl rfl ?_
        refine W_move rfl rfl ?_
        refine W_gyes rfl rfl ?_
        refine W_indexAddr (j := 0) rfl rfl ty24 ty3 (by first | rfl | omega) (by first | decide | omega | simp) rfl rfl ?_
        refine W_gyes rfl rfl ?_
        refine W_load (v := .int .i64 7) rfl ty3 rfl (by rw [Nat.mul_one 0]; exact hc9.up zH) rfl ?_
        refine W_gyes rfl rfl ?_
        refine W_bin rfl rfl b_eql rfl ?_
        first | refine W_pickt rfl rfl rfl ?_ | refine W_pickf rfl rfl rfl ?_
        refine W_move rfl rfl ?_
        refine W_gyes rfl rfl ?_
        refine W_move rfl rfl ?_
        refine W_gyes rfl rfl ?_
        refine W_call (.cons rfl (.cons rfl .nil)) Tryz.call13 rfl ((State_L hT9 (id := 7) (H := (b11, .cells 32 4 (Spot.v t.s)) :: H)).hsub zH) ?_
        rintro v H' ⟨HB10, hT10, rfl, rfl⟩
        rw [show stateA W9 [(7, (c : Int))] As 7 = _ from stateA_of (i := 7) (by decide) hI.one, emp_none hemp, if_neg (by decide), if_pos (show (whQ [(7, (c : Int))] (7 : Nat)).isSome = true from rfl)]
        refine W_gyes rfl rfl ?_
        refine W_bin rfl rfl b_eql rfl ?_
        first | refine W_pickt rfl rfl rfl ?_ | refine W_pickf rfl rfl rfl ?_
        refine W_assign rfl rfl ?_
        refine W_nil ?_
        refine W_ret1m (H2 := H) Tryz.results3 rfl (.nil _) zH ?_
        exact ⟨rfl, rfl⟩
end Go.Proofs.YtcmfldfeakmdoaaGreatDoor
