/-
  Own work: contracts of functions that the statement reaches, and plain facts on what they compute; each theorem says its conditions.
-/
import Derived.Test.YtcmfldfeakmdoaaGreatDoorTmT7
import Derived.Test.YtcmfldfeakmdoaaGreatDoorTmS2
import Derived.Test.YtcmfldfeakmdoaaGreatDoorTmA
set_option linter.all false
set_option linter.unusedSimpArgs false
set_option linter.unusedVariables false
namespace Go.Proofs.YtcmfldfeakmdoaaGreatDoor
open Go Go.Sl
attribute [local irreducible] W
set_option maxRecDepth 100000
theorem placeT_due {x a : Nat} : (placeT x a).1.due ≤ 18446744073709551615 := by
  unfold placeT; split
  · exact Nat.zero_le _
  · exact tickT_le _ _
theorem modW_is (y : Int) {N : Nat} (hN : 0 < N) : ∃ c : Nat, c < N ∧ (IntKind.u64.wrap y).tmod (N : Int) = (c : Int) := by
  have e : IntKind.u64.wrap y = y % 18446744073709551616 := by simp [IntKind.wrap, IntKind.signed, IntKind.bits]
  have h0 : 0 ≤ y % 18446744073709551616 := Int.emod_nonneg _ (by decide)
  have h1 : 0 ≤ (IntKind.u64.wrap y).tmod (N : Int) := Int.tmod_nonneg _ (by omega)
  have h2 : (IntKind.u64.wrap y).tmod (N : Int) < (N : Int) := Int.tmod_lt_of_pos _ (by omega)
  exact ⟨((IntKind.u64.wrap y).tmod (N : Int)).toNat, by omega, by omega⟩
def Only (id : Int) (Ws : List Wl) (Q : List (Int × Int)) : Prop := (∀ w ∈ Ws, ∀ t ∈ w.L, t.id = id) ∧ ∀ p ∈ Q, p.1 = id
theorem only_L {id : Int} {L : List Tm} (h : ∀ t ∈ L, t.id = id) : delT L id = [] := List.filter_eq_nil_iff.2 fun t ht => by simpa using h t ht
theorem only_Q {id : Int} {Q : List (Int × Int)} (h : ∀ p ∈ Q, p.1 = id) : delQ Q id = [] := List.filter_eq_nil_iff.2 fun p hp => by simpa using h p hp
theorem start_gone {n i k a : Nat} {Ws Ws' : List Wl} {Q Q' : List (Int × Int)} {As As' : List Tone} {o : Tone} {s : Spot} {e : Int} (h : StartIs n Ws Q As (i : Int) (k : Int) a Ws' Q' As' s e) (hi : i < 256) (hA : As[i]? = some o) (hk : k < n) (hs : o.shut = true) : e = 22 ∧ s = zSpot ∧ Ws' = Ws ∧ Q' = Q ∧ As' = As := by
  generalize hid : (i : Int) = id at h
  generalize hcp : (k : Int) = cpu at h
  cases h with
  | out h => exact absurd h (by omega)
  | @at_ i2 k2 o2 w2 _ _ _ _ _ hi2 ei ek hA2 hw2 hM =>
    subst hid hcp
    obtain rfl : i2 = i := by omega
    obtain rfl : o2 = o := Option.some.inj (hA2.symm.trans hA)
    cases hM with
    | gone h => exact ⟨rfl, rfl, rfl, rfl, rfl⟩
    | unset h _ => rw [hs] at h; cases h
    | late h _ _ => rw [hs] at h; cases h
    | put h _ _ _ => rw [hs] at h; cases h
theorem addQ_only {n : Nat} {Q : List (Int × Int)} {cpu id : Int} {l : List Int} (hl : ∀ x ∈ l, x = id) (hQ : ∀ p ∈ Q, p.1 = id) : ∀ p ∈ (addsQ n Q cpu l).1, p.1 = id := by
  unfold addsQ
  split
  · exact hQ
  · induction l generalizing Q with
    | nil => exact hQ
    | cons x l ih =>
      unfold addQ
      split
      · exact hQ
      · split
        · exact hQ
        · refine ih (fun y hy => hl y (List.mem_cons_of_mem _ hy)) (fun p hp => ?_)
          rcases List.mem_append.1 hp with hp | hp
          · exact hQ p hp
          · rw [List.mem_singleton.1 hp]; exact hl x List.mem_cons_self
theorem Only.catch {n : Nat} {Ws Ws' : List Wl} {Q : List (Int × Int)} {cpu id : Int} {a : Nat} {O : List Tm} (h : Only id Ws Q) (hc : CatchIs Ws cpu a Ws' O) : Only id Ws' (addsQ n Q cpu (O.map (·.id))).1 := by
  have key : (∀ w ∈ Ws', ∀ t ∈ w.L, t.id = id) ∧ ∀ t ∈ O, t.id = id := by
    rcases hc with ⟨_, rfl, rfl⟩ | ⟨k, w, Li, _, hk, hG, rfl⟩
    · exact ⟨h.1, fun t ht => by cases ht⟩
    · have hw := h.1 w (List.mem_of_getElem? hk)
      refine ⟨fun u hu t ht => ?_, fun t ht => hw t (List.mem_filter.1 (hG.perm.mem_iff.1 ht)).1⟩
      rcases List.mem_or_eq_of_mem_set hu with hu | rfl
      · exact h.1 u hu t ht
      · have ht2 : t ∈ Li := ht
        rw [hG.left] at ht2
        exact hw t (List.mem_filter.1 ht2).1
  exact ⟨key.1, addQ_only (fun x hx => by obtain ⟨t, ht, rfl⟩ := List.mem_map.1 hx; exact key.2 t ht) h.2⟩
theorem TimerH.len {tb n : Nat} {Ws : List Wl} {Q Rs : List (Int × Int)} {As : List Tone} {HB : Heap} (h : TimerH tb n Ws Q Rs As HB) : Ws.length = n ∧ n ≤ 64 := by cases h; assumption
set_option maxHeartbeats 8000000 in
theorem timerCloses_pure {z zp : Int} {a i j : Nat} {d : Bool} (ha : a ≤ 18446744073709551615) (hi : i < 256) (hj : j < 16) (hremi : (IntKind.u64.wrap z).tmod 256 = (i : Int)) (hremj : (IntKind.u64.wrap zp).tmod 16 = (j : Int)) : Pure Tryz.prog (Tab) 5 [.int .i64 z, .int .i64 zp, .int .u64 ((a : Nat) : Int), .bool d] (.bool true) := by
  intro w0 H hT
  obtain ⟨A0, hA0⟩ : ∃ A, A = List.replicate 256 zTone := ⟨_, rfl⟩
  have hz : A0[i]? = some zTone := by rw [hA0, List.getElem?_replicate, if_pos (by omega)]
  obtain ⟨A1, hA1e⟩ : ∃ A, A = A0.set i (⟨true, false, 0, 0⟩ : Tone) := ⟨_, rfl⟩
  have hA1 : A1[i]? = some (⟨true, false, 0, 0⟩ : Tone) := by rw [hA1e, List.getElem?_set_self (List.getElem?_eq_some_iff.1 hz).1]
  have e1 : onA initO A0 (i : Int) = (A1, 0) := by rw [hA1e]; exact onA_at hi hz
  obtain ⟨A2, hA2e⟩ : ∃ A, A = A1.set i (⟨true, false, ((j : Int) + 1), 0⟩ : Tone) := ⟨_, rfl⟩
  have hA2 : A2[i]? = some (⟨true, false, ((j : Int) + 1), 0⟩ : Tone) := by rw [hA2e, List.getElem?_set_self (List.getElem?_eq_some_iff.1 hA1).1]
  have e2 : setA A1 (i : Int) (j : Int) = (A2, 0) := by unfold setA; rw [if_pos (by omega), hA2e]; exact onA_at hi hA1
  have hdue : ∀ {x : Nat}, (placeT x a).1.due ≤ 18446744073709551615 := placeT_due
  refine L_enter Tryz.func5 rfl Tryz.ntmps5 rfl rfl ?_
  refine W_sr ?_
  refine W_assign rfl rfl ?_
  refine W_nil ?_
  refine W_sr ?_
  refine W_move rfl rfl ?_
  refine W_conv rfl ty3 ty22 rfl rfl ?_
  refine W_bin rfl rfl (b_rem (by decide) (m := (i : Int)) hremi) rfl ?_
  refine W_conv rfl ty22 ty3 (m := (i : Int)) (i64w (by omega)) rfl ?_
  refine W_move rfl rfl ?_
  refine W_conv rfl ty3 ty22 rfl rfl ?_
  refine W_bin rfl rfl (b_rem (by decide) (m := (j : Int)) hremj) rfl ?_
  refine W_conv rfl ty22 ty3 (m := (j : Int)) (i64w (by omega)) rfl ?_
  refine W_assign rfl rfl ?_
  refine W_assign rfl rfl ?_
  refine W_nil ?_
  refine W_sr ?_
  refine W_call (.cons rfl (.cons rfl .nil)) Tryz.call8 rfl (tNew_at (n := 1) (now := 0) (by decide)) ?_
  rintro v H' ⟨tb, Ws0, HB0, rfl, hT0, hWl, hfr, rfl⟩
  have hO0 := (tok0 (now := 0) (by decide) hfr)
  rw [← hA0] at hT0 hO0
  have hO1 := hO0.onA initO_starts (i : Int)
  rw [e1] at hO1
  have hO2 := hO1.setA (i : Int) (j : Int)
  rw [e2] at hO2
  obtain ⟨w0_, hw0⟩ : ∃ w, Ws0[0]? = some w := ⟨_, List.getElem?_eq_getElem (by omega)⟩
  obtain ⟨n0, l0, t0⟩ := hfr w0_ (List.mem_of_getElem? hw0)
  refine W_move rfl rfl ?_
  refine W_extract rfl rfl rfl ?_
  refine W_extract rfl rfl rfl ?_
  refine W_assign rfl rfl ?_
  refine W_assign rfl rfl ?_
  refine W_nil ?_
  refine W_seq ?_
  refine W_sr ?_
  refine W_move rfl rfl ?_
  refine W_bin rfl rfl b_neq rfl ?_
  refine W_move rfl rfl ?_
  refine W_gyes rfl rfl ?_
  refine W_move rfl rfl ?_
  refine W_gyes rfl rfl ?_
  refine W_move rfl rfl ?_
  refine W_gyes rfl rfl ?_
  refine W_call (.cons rfl (.cons rfl .nil)) Tryz.call9 rfl ((Init_L hT0 (id := (i : Int)) (H := H)).hsub zH) ?_
  rintro v H' ⟨HB1, hT1, rfl, rfl⟩
  rw [e1] at hT1 ⊢
  refine W_gyes rfl rfl ?_
  refine W_bin rfl rfl b_neq rfl ?_
  first | refine W_pickt rfl rfl rfl ?_ | refine W_pickf rfl rfl rfl ?_
  refine W_move rfl rfl ?_
  refine W_gyes rfl rfl ?_
  refine W_move rfl rfl ?_
  refine W_gyes rfl rfl ?_
  refine W_move rfl rfl ?_
  refine W_gyes rfl rfl ?_
  refine W_move rfl rfl ?_
  refine W_gyes rfl rfl ?_
  refine W_call (.cons rfl (.cons rfl (.cons rfl .nil))) Tryz.call10 rfl ((Set_L hT1 (id := (i : Int)) (prog := (j : Int)) (H := H)).hsub zH) ?_
  rintro v H' ⟨HB2, hT2, rfl, rfl⟩
  rw [e2] at hT2 ⊢
  refine W_gyes rfl rfl ?_
  refine W_bin rfl rfl b_neq rfl ?_
  first | refine W_pickt rfl rfl rfl ?_ | refine W_pickf rfl rfl rfl ?_
  refine W_nil ?_
  refine W_condF rfl rfl ?_
  refine W_skip ?_
  refine W_sr ?_
  refine W_move rfl rfl ?_
  refine W_move rfl rfl ?_
  refine W_move rfl rfl ?_
  refine W_call (.cons rfl (.cons rfl (.cons rfl (.cons rfl .nil)))) Tryz.call11 rfl ((Start_L hT2 hO2 (by decide) (id := (i : Int)) (cpu := 0) (a := a) ha (H := H)).hsub zH) ?_
  rintro v H' ⟨W1, Q1, A3, s1, x1, HB3, hS1, hT3, hO3, rfl, rfl⟩
  obtain ⟨rfl, rfl, hW1, rfl, hA3e⟩ := start_ok (k := 0) hS1 hWl hi hA2 hw0 rfl rfl (by show ¬ (j : Int) + 1 = 0; omega) (by rw [n0]; decide)
  have hA3 : A3[i]? = some (⟨true, false, ((j : Int) + 1), 1⟩ : Tone) := by rw [hA3e, List.getElem?_set_self (List.getElem?_eq_some_iff.1 hA2).1]; rfl
  have hW1a : W1[0]? = some ⟨w0_.bw, w0_.now, delT w0_.L (i : Int) ++ [tmOf w0_.now a w0_.turn (i : Int)], w0_.turn + 1⟩ := by rw [hW1, List.getElem?_set_self (by rw [List.length_map]; omega)]
  have hon1 : Only (i : Int) W1 (delQ [] (i : Int)) := by
    refine ⟨fun w hw t ht => ?_, fun p hp => by cases hp⟩
    rw [hW1] at hw
    rcases List.mem_or_eq_of_mem_set hw with hw | rfl
    · obtain ⟨u, hu, rfl⟩ := List.mem_map.1 hw
      have ht2 : t ∈ delT u.L (i : Int) := ht
      rw [(hfr u hu).2.1] at ht2; cases ht2
    · have ht2 : t ∈ delT w0_.L (i : Int) ++ [tmOf w0_.now a w0_.turn (i : Int)] := ht
      rw [l0] at ht2
      rw [List.mem_singleton.1 ht2]
  have es1 : stateA W1 (delQ [] (i : Int)) A3 (i : Int) = 2 := by
    unfold stateA
    rw [ofA_at hi hA3]
    unfold stateO
    rw [if_neg (show ¬ false = true by decide), if_neg (show ¬ true = false by decide), if_pos (findK_isSome hW1a (heldB_iff.2 (by simp)))]
  refine W_move rfl rfl ?_
  refine W_extract rfl rfl rfl ?_
  refine W_extract rfl rfl rfl ?_
  refine W_alloc (l := zSpot.v) ty32 rfl rfl (fun b11 => ?_)
  refine W_storeA (l' := (placeT w0_.now a).1.v) rfl rfl ty32 rfl rfl (b := b11) zM (by exact Nat.le_refl 4) rfl zU ?_
  refine W_assign rfl rfl ?_
  refine W_nil ?_
  refine W_seq ?_
  refine W_sr ?_
  refine W_move rfl rfl ?_
  refine W_bin rfl rfl b_neq rfl ?_
  refine W_move rfl rfl ?_
  refine W_gyes rfl rfl ?_
  refine W_move rfl rfl ?_
  refine W_gyes rfl rfl ?_
  refine W_move rfl rfl ?_
  refine W_gyes rfl rfl ?_
  refine W_call (.cons rfl (.cons rfl .nil)) Tryz.call13 rfl ((State_L hT3 (id := (i : Int)) (H := (b11, .cells 32 4 (placeT w0_.now a).1.v) :: H)).hsub zH) ?_
  rintro v H' ⟨HB4, hT4, rfl, rfl⟩
  rw [es1]
  refine W_gyes rfl rfl ?_
  refine W_bin rfl rfl b_neq rfl ?_
  first | refine W_pickt rfl rfl rfl ?_ | refine W_pickf rfl rfl rfl ?_
  refine W_nil ?_
  refine W_condF rfl rfl ?_
  refine W_skip ?_
  refine W_seq ?_
  refine W_sr ?_
  refine W_move rfl rfl ?_
  refine W_nil ?_
  refine W_condS rfl (fun c0 => ?_) (fun c0 => ?_)
  · skip
    refine W_region ?_
    refine W_move rfl rfl ?_
    refine W_fieldAddr rfl fld32_3 (by decide) rfl ?_
    refine W_load (v := .int .u64 (((placeT w0_.now a).1.due : Nat) : Int)) rfl ty22 rfl (Cell.own (b := b11) zM rfl) rfl ?_
    refine W_call (.cons rfl (.cons rfl (.cons rfl .nil))) Tryz.call15 rfl ((Catch_L hT4 hO3 hT (cpu := 0) (a := (placeT w0_.now a).1.due) hdue (H := (b11, .cells 32 4 (placeT w0_.now a).1.v) :: H)).hsub zH) ?_
    rintro v H' ⟨Wx, O, XO, HBx, hC, hTx, hOx, hOO, hol, rfl⟩
    have hon := hon1.catch (n := 1) hC
    obtain ⟨Qx, hQx⟩ : ∃ Q, Q = (addsQ 1 (delQ [] (i : Int)) 0 (O.map (·.id))).1 := ⟨_, rfl⟩
    rw [← hQx] at hTx hon
    refine W_nil ?_
    refine W_seq ?_
    refine W_sr ?_
    obtain ⟨W5, hW5⟩ : ∃ W, W = Wx.map (delW [(i : Int)]) := ⟨_, rfl⟩
    have hemp : ∀ w ∈ W5, w.L = [] := fun w hw => by
      rw [hW5] at hw
      obtain ⟨u, hu, rfl⟩ := List.mem_map.1 hw
      exact only_L (hon.1 u hu)
    obtain ⟨A4, hA4e⟩ : ∃ A, A = A3.set i (⟨true, true, ((j : Int) + 1), 1⟩ : Tone) := ⟨_, rfl⟩
    have hA4 : A4[i]? = some (⟨true, true, ((j : Int) + 1), 1⟩ : Tone) := by rw [hA4e, List.getElem?_set_self (List.getElem?_eq_some_iff.1 hA3).1]
    have eh1 : shutsA Wx Qx A3 [(i : Int)] = (W5, [], A4, 1) := by
      show shutA (Wx, Qx, A3, 0) (i : Int) = _
      rw [shutA_at (s := (Wx, Qx, A3, 0)) hi hA3, if_neg (show ¬ false = true by decide), hW5, hA4e]
      show (_, delQ Qx (i : Int), _, _) = _
      rw [only_Q hon.2]
    have eh2 : shutsA W5 [] A4 [(i : Int)] = (W5, [], A4, 0) := by
      show shutA (W5, [], A4, 0) (i : Int) = _
      rw [shutA_at (s := (W5, [], A4, 0)) hi hA4, if_pos rfl]
    have es2 : stateA W5 [] A4 (i : Int) = 4 := by
      unfold stateA
      rw [ofA_at hi hA4]
      unfold stateO
      rw [if_pos rfl]
    have ei2 : onA initO A4 (i : Int) = (A4, 22) := by rw [onA_at hi hA4]; show (A4.set i (⟨true, true, ((j : Int) + 1), 1⟩ : Tone), (22 : Int)) = _; rw [set_self hA4]
    have et2 : setA A4 (i : Int) (j : Int) = (A4, 22) := by unfold setA; rw [if_pos (by omega), onA_at hi hA4]; show (A4.set i (⟨true, true, ((j : Int) + 1), 1⟩ : Tone), (22 : Int)) = _; rw [set_self hA4]
    refine W_move rfl rfl ?_
    refine W_move rfl rfl ?_
    refine W_buildSlice (l := [.int .i64 (i : Int)]) ty24 ty3 (.cons rfl rfl rfl rfl rfl .nil) rfl rfl rfl rfl rfl rfl rfl (fun b68 => ?_)
    refine W_call (.cons rfl (.cons rfl .nil)) Tryz.call19 rfl ((Shut_L hTx hOx (ids := [(i : Int)]) (by show 1 ≤ 1000000; decide) (Holds.own (b := b68) zM) (H := (b68, .cells 3 1 [.int .i64 (i : Int)]) :: (b11, .cells 32 4 (placeT w0_.now a).1.v) :: H)).hsub zH) ?_
    rintro v H' ⟨HB5, hT5, hO5, rfl, rfl⟩
    rw [eh1] at hT5 hO5 ⊢
    refine W_bin rfl rfl b_neq rfl ?_
    refine W_move rfl rfl ?_
    refine W_gyes rfl rfl ?_
    refine W_move rfl rfl ?_
    refine W_gyes rfl rfl ?_
    refine W_move rfl rfl ?_
    refine W_gyes rfl rfl ?_
    refine W_buildSlice (l := [.int .i64 (i : Int)]) ty24 ty3 (.cons rfl rfl rfl rfl rfl .nil) rfl rfl rfl rfl rfl rfl rfl (fun b74 => ?_)
    refine W_gyes rfl rfl ?_
    refine W_call (.cons rfl (.cons rfl .nil)) Tryz.call19 rfl ((Shut_L hT5 hO5 (ids := [(i : Int)]) (by show 1 ≤ 1000000; decide) (Holds.own (b := b74) zM) (H := (b74, .cells 3 1 [.int .i64 (i : Int)]) :: (b11, .cells 32 4 (placeT w0_.now a).1.v) :: H)).hsub zH) ?_
    rintro v H' ⟨HB6, hT6, hO6, rfl, rfl⟩
    rw [eh2] at hT6 hO6 ⊢
    refine W_gyes rfl rfl ?_
    refine W_bin rfl rfl b_neq rfl ?_
    first | refine W_pickt rfl rfl rfl ?_ | refine W_pickf rfl rfl rfl ?_
    refine W_move rfl rfl ?_
    refine W_gyes rfl rfl ?_
    refine W_move rfl rfl ?_
    refine W_gyes rfl rfl ?_
    refine W_move rfl rfl ?_
    refine W_gyes rfl rfl ?_
    refine W_call (.cons rfl (.cons rfl .nil)) Tryz.call13 rfl ((State_L hT6 (id := (i : Int)) (H := (b11, .cells 32 4 (placeT w0_.now a).1.v) :: H)).hsub zH) ?_
    rintro v H' ⟨HB7, hT7, rfl, rfl⟩
    rw [es2]
    refine W_gyes rfl rfl ?_
    refine W_bin rfl rfl b_neq rfl ?_
    first | refine W_pickt rfl rfl rfl ?_ | refine W_pickf rfl rfl rfl ?_
    refine W_move rfl rfl ?_
    refine W_gyes rfl rfl ?_
    refine W_move rfl rfl ?_
    refine W_gyes rfl rfl ?_
    refine W_move rfl rfl ?_
    refine W_gyes rfl rfl ?_
    refine W_call (.cons rfl (.cons rfl .nil)) Tryz.call9 rfl ((Init_L hT7 (id := (i : Int)) (H := (b11, .cells 32 4 (placeT w0_.now a).1.v) :: H)).hsub zH) ?_
    rintro v H' ⟨HB8, hT8, rfl, rfl⟩
    rw [ei2] at hT8 ⊢
    refine W_gyes rfl rfl ?_
    refine W_bin rfl rfl b_neq rfl ?_
    first | refine W_pickt rfl rfl rfl ?_ | refine W_pickf rfl rfl rfl ?_
    refine W_move rfl rfl ?_
    refine W_gyes rfl rfl ?_
    refine W_move rfl rfl ?_
    refine W_gyes rfl rfl ?_
    refine W_move rfl rfl ?_
    refine W_gyes rfl rfl ?_
    refine W_move rfl rfl ?_
    refine W_gyes rfl rfl ?_
    refine W_call (.cons rfl (.cons rfl (.cons rfl .nil))) Tryz.call10 rfl ((Set_L hT8 (id := (i : Int)) (prog := (j : Int)) (H := (b11, .cells 32 4 (placeT w0_.now a).1.v) :: H)).hsub zH) ?_
    rintro v H' ⟨HB10, hT10, rfl, rfl⟩
    rw [et2] at hT10 ⊢
    have hO8 := hO6
    refine W_gyes rfl rfl ?_
    refine W_bin rfl rfl b_neq rfl ?_
    first | refine W_pickt rfl rfl rfl ?_ | refine W_pickf rfl rfl rfl ?_
    refine W_nil ?_
    refine W_condF rfl rfl ?_
    refine W_skip ?_
    refine W_sr ?_
    refine W_move rfl rfl ?_
    refine W_move rfl rfl ?_
    refine W_call (.cons rfl (.cons rfl (.cons rfl (.cons rfl .nil)))) Tryz.call11 rfl ((Start_L hT10 hO8 (by decide) (id := (i : Int)) (cpu := 0) (a := 18446744073709551610) (by decide) (H := (b11, .cells 32 4 (placeT w0_.now a).1.v) :: H)).hsub zH) ?_
    rintro v H' ⟨W8, Q8, A8, s8, x8, HB11_, hS8, hT11, hO11, rfl, rfl⟩
    obtain ⟨rfl, rfl, rfl, rfl, rfl⟩ := start_gone (k := 0) hS8 hi hA4 (by decide) rfl
    refine W_move rfl rfl ?_
    refine W_extract rfl rfl rfl ?_
    refine W_extract rfl rfl rfl ?_
    refine W_assign rfl rfl ?_
    refine W_nil ?_
    refine W_sr ?_
    refine W_move rfl rfl ?_
    refine W_call (.cons rfl (.cons rfl (.cons rfl .nil))) Tryz.call15 rfl ((Catch_L hT11 hO11 hT (cpu := 0) (a := 18446744073709551610) (by decide) (H := (b11, .cells 32 4 (placeT w0_.now a).1.v) :: H)).hsub zH) ?_
    rintro v H' ⟨W9, O9, XO9, HB12, hC9, hT12, hO12, hOO9, hol9, rfl⟩
    obtain ⟨w9, hw9⟩ : ∃ w, W8[0]? = some w := ⟨_, List.getElem?_eq_getElem (by have := hT11.len; omega)⟩
    obtain ⟨Li9, hG9, hW9⟩ := catch_at (k := 0) hC9 hw9
    obtain ⟨rfl, rfl⟩ := gone_wait hG9 (fun t ht => by rw [hemp w9 (List.mem_of_getElem? hw9)] at ht; cases ht)
    obtain ⟨ad9, cap9, rfl, _, _⟩ := hOO9.shape
    rw [show addsQ 1 [] 0 (List.map (·.id) ([] : List Tm)) = ([], 0) from rfl] at hT12
    refine W_assign rfl rfl ?_
    refine W_nil ?_
    refine W_sr ?_
    refine W_move rfl rfl ?_
    refine W_call (.cons rfl (.cons rfl (.cons rfl .nil))) Tryz.call17 rfl ((tBegin_L hT12 (cpu := 0) (c := 1) (H := (b11, .cells 32 4 (placeT w0_.now a).1.v) :: H)).hsub zH) ?_
    rintro v H' ⟨HB13, hT13, rfl, rfl⟩
    rw [show begQ 1 [] [] 0 1 = ([], [], 0, 4) from by decide] at hT13
    rw [show begV 1 [] [] A8 0 1 = .tuple #[.int .i64 0, .int .i64 0, .int .i64 4] from rfl]
    refine W_move rfl rfl ?_
    refine W_extract rfl rfl rfl ?_
    refine W_extract rfl rfl rfl ?_
    refine W_extract rfl rfl rfl ?_
    refine W_assign rfl rfl ?_
    refine W_assign rfl rfl ?_
    refine W_assign rfl rfl ?_
    refine W_nil ?_
    refine W_seq ?_
    refine W_sr ?_
    refine W_move rfl rfl ?_
    refine W_bin rfl rfl b_neq rfl ?_
    refine W_move rfl rfl ?_
    refine W_gyes rfl rfl ?_
    refine W_move rfl rfl ?_
    refine W_gyes rfl rfl ?_
    refine W_len rfl ty24 rfl rfl ?_
    refine W_gyes rfl rfl ?_
    refine W_bin rfl rfl b_neq rfl ?_
    first | refine W_pickt rfl rfl rfl ?_ | refine W_pickf rfl rfl rfl ?_
    refine W_move rfl rfl ?_
    refine W_gyes rfl rfl ?_
    refine W_move rfl rfl ?_
    refine W_gyes rfl rfl ?_
    refine W_bin rfl rfl b_neq rfl ?_
    first | refine W_pickt rfl rfl rfl ?_ | refine W_pickf rfl rfl rfl ?_
    refine W_move rfl rfl ?_
    refine W_gyes rfl rfl ?_
    refine W_move rfl rfl ?_
    refine W_gyes rfl rfl ?_
    refine W_move rfl rfl ?_
    refine W_gyes rfl rfl ?_
    refine W_call (.cons rfl (.cons rfl .nil)) Tryz.call20 rfl ((Clear_L hT13 hO12 (id := (i : Int)) (H := (b11, .cells 32 4 (placeT w0_.now a).1.v) :: H)).hsub zH) ?_
    rintro v H' ⟨HB14, hT14, hO14, rfl, rfl⟩
    have ec : clearA W9 [] [] A8 (i : Int) = (W9.map (delW [(i : Int)]), delQ [] (i : Int), A8.set i zTone, 0) := by rw [clearA_at hi]; exact clearM_ok rfl
    rw [ec] at hT14 hO14 ⊢
    obtain ⟨A9, hA9e⟩ : ∃ A, A = A8.set i zTone := ⟨_, rfl⟩
    have hA9 : A9[i]? = some zTone := by rw [hA9e, List.getElem?_set_self (List.getElem?_eq_some_iff.1 hA4).1]
    rw [← hA9e] at hT14 hO14
    have ho9 : ofA A9 (i : Int) = zTone := ofA_at hi hA9
    have es9 : ∀ W Q, stateA W Q A9 (i : Int) = 0 := fun W Q => by unfold stateA; rw [ho9]; rfl
    refine W_gyes rfl rfl ?_
    refine W_bin rfl rfl b_neq rfl ?_
    first | refine W_pickt rfl rfl rfl ?_ | refine W_pickf rfl rfl rfl ?_
    refine W_nil ?_
    refine W_condF rfl rfl ?_
    refine W_skip ?_
    refine W_sr ?_
    refine W_move rfl rfl ?_
    refine W_move rfl rfl ?_
    refine W_callq (.cons rfl (.cons rfl .nil)) Tryz.call21 rfl (tProg_q hT14 (fun p hp => (by repeat (first | exact List.mem_append_left _ hp | exact List.mem_cons_self | apply List.mem_cons_of_mem | apply List.mem_append_right))) (id := (i : Int))) ?_
    rw [ho9]
    rw [show Value.tuple #[.int .i64 (max (zTone.prog - 1) 0), .bool (decide (0 < zTone.prog))] = .tuple #[.int .i64 0, .bool false] from rfl]
    refine W_move rfl rfl ?_
    refine W_extract rfl rfl rfl ?_
    refine W_extract rfl rfl rfl ?_
    refine W_assign rfl rfl ?_
    refine W_assign rfl rfl ?_
    refine W_nil ?_
    refine W_sr ?_
    refine W_callp .nil Tryz.call12 rfl hT tknown_pure ?_
    refine W_move rfl rfl ?_
    refine W_gyes rfl rfl ?_
    refine W_move rfl rfl ?_
    refine W_gyes rfl rfl ?_
    refine W_move rfl rfl ?_
    refine W_gyes rfl rfl ?_
    refine W_call (.cons rfl (.cons rfl .nil)) Tryz.call13 rfl ((State_L hT14 (id := (i : Int)) (H := (b11, .cells 32 4 (placeT w0_.now a).1.v) :: H)).hsub zH) ?_
    rintro v H' ⟨HB15, hT15, rfl, rfl⟩
    rw [es9]
    refine W_gyes rfl rfl ?_
    refine W_bin rfl rfl b_eql rfl ?_
    first | refine W_pickt rfl rfl rfl ?_ | refine W_pickf rfl rfl rfl ?_
    refine W_move rfl rfl ?_
    refine W_gyes rfl rfl ?_
    refine W_move rfl rfl ?_
    refine W_gyes rfl rfl ?_
    refine W_bin rfl rfl b_eql rfl ?_
    first | refine W_pickt rfl rfl rfl ?_ | refine W_pickf rfl rfl rfl ?_
    refine W_move rfl rfl ?_
    refine W_gyes rfl rfl ?_
    refine W_move rfl rfl ?_
    refine W_gyes rfl rfl ?_
    refine W_not rfl rfl ?_
    first | refine W_pickt rfl rfl rfl ?_ | refine W_pickf rfl rfl rfl ?_
    refine W_move rfl rfl ?_
    refine W_gyes rfl rfl ?_
    refine W_move rfl rfl ?_
    refine W_gyes rfl rfl ?_
    refine W_move rfl rfl ?_
    refine W_gyes rfl rfl ?_
    refine W_callq (.cons rfl (.cons rfl .nil)) Tryz.call14 rfl (tStarts_q hT15 (fun p hp => (by repeat (first | exact List.mem_append_left _ hp | exact List.mem_cons_self | apply List.mem_cons_of_mem | apply List.mem_append_right))) (id := (i : Int))) ?_
    rw [ho9]
    refine W_gyes rfl rfl ?_
    refine W_bin rfl rfl b_eql rfl ?_
    first | refine W_pickt rfl rfl rfl ?_ | refine W_pickf rfl rfl rfl ?_
    refine W_move rfl rfl ?_
    refine W_gyes rfl rfl ?_
    refine W_move rfl rfl ?_
    refine W_gyes rfl rfl ?_
    refine W_move rfl rfl ?_
    refine W_gyes rfl rfl ?_
    refine W_call (.cons rfl (.cons rfl .nil)) Tryz.call9 rfl ((Init_L hT15 (id := (i : Int)) (H := (b11, .cells 32 4 (placeT w0_.now a).1.v) :: H)).hsub zH) ?_
    rintro v H' ⟨HB16, hT16, rfl, rfl⟩
    rw [onA_at hi hA9]
    refine W_gyes rfl rfl ?_
    refine W_bin rfl rfl b_eql rfl ?_
    first | refine W_pickt rfl rfl rfl ?_ | refine W_pickf rfl rfl rfl ?_
    refine W_assign rfl rfl ?_
    refine W_nil ?_
    refine W_ret1m (H2 := H) Tryz.results5 rfl (.nil _) zH ?_
    exact ⟨rfl, rfl⟩
  · skip
    refine W_skip ?_
    refine W_seq ?_
    refine W_sr ?_
    obtain ⟨Wx, rfl⟩ : ∃ W, W = W1 := ⟨_, rfl⟩
    obtain ⟨HBx, rfl⟩ : ∃ h, h = HB4 := ⟨_, rfl⟩
    obtain ⟨Qx, hQx⟩ : ∃ Q, Q = delQ [] (i : Int) := ⟨_, rfl⟩
    have hTx := hT4
    have hon := hon1
    have hOx := hO3
    rw [← hQx] at hTx hon
    obtain ⟨W5, hW5⟩ : ∃ W, W = Wx.map (delW [(i : Int)]) := ⟨_, rfl⟩
    have hemp : ∀ w ∈ W5, w.L = [] := fun w hw => by
      rw [hW5] at hw
      obtain ⟨u, hu, rfl⟩ := List.mem_map.1 hw
      exact only_L (hon.1 u hu)
    obtain ⟨A4, hA4e⟩ : ∃ A, A = A3.set i (⟨true, true, ((j : Int) + 1), 1⟩ : Tone) := ⟨_, rfl⟩
    have hA4 : A4[i]? = some (⟨true, true, ((j : Int) + 1), 1⟩ : Tone) := by rw [hA4e, List.getElem?_set_self (List.getElem?_eq_some_iff.1 hA3).1]
    have eh1 : shutsA Wx Qx A3 [(i : Int)] = (W5, [], A4, 1) := by
      show shutA (Wx, Qx, A3, 0) (i : Int) = _
      rw [shutA_at (s := (Wx, Qx, A3, 0)) hi hA3, if_neg (show ¬ false = true by decide), hW5, hA4e]
      show (_, delQ Qx (i : Int), _, _) = _
      rw [only_Q hon.2]
    have eh2 : shutsA W5 [] A4 [(i : Int)] = (W5, [], A4, 0) := by
      show shutA (W5, [], A4, 0) (i : Int) = _
      rw [shutA_at (s := (W5, [], A4, 0)) hi hA4, if_pos rfl]
    have es2 : stateA W5 [] A4 (i : Int) = 4 := by
      unfold stateA
      rw [ofA_at hi hA4]
      unfold stateO
      rw [if_pos rfl]
    have ei2 : onA initO A4 (i : Int) = (A4, 22) := by rw [onA_at hi hA4]; show (A4.set i (⟨true, true, ((j : Int) + 1), 1⟩ : Tone), (22 : Int)) = _; rw [set_self hA4]
    have et2 : setA A4 (i : Int) (j : Int) = (A4, 22) := by unfold setA; rw [if_pos (by omega), onA_at hi hA4]; show (A4.set i (⟨true, true, ((j : Int) + 1), 1⟩ : Tone), (22 : Int)) = _; rw [set_self hA4]
    refine W_move rfl rfl ?_
    refine W_move rfl rfl ?_
    refine W_buildSlice (l := [.int .i64 (i : Int)]) ty24 ty3 (.cons rfl rfl rfl rfl rfl .nil) rfl rfl rfl rfl rfl rfl rfl (fun b68 => ?_)
    refine W_call (.cons rfl (.cons rfl .nil)) Tryz.call19 rfl ((Shut_L hTx hOx (ids := [(i : Int)]) (by show 1 ≤ 1000000; decide) (Holds.own (b := b68) zM) (H := (b68, .cells 3 1 [.int .i64 (i : Int)]) :: (b11, .cells 32 4 (placeT w0_.now a).1.v) :: H)).hsub zH) ?_
    rintro v H' ⟨HB5, hT5, hO5, rfl, rfl⟩
    rw [eh1] at hT5 hO5 ⊢
    refine W_bin rfl rfl b_neq rfl ?_
    refine W_move rfl rfl ?_
    refine W_gyes rfl rfl ?_
    refine W_move rfl rfl ?_
    refine W_gyes rfl rfl ?_
    refine W_move rfl rfl ?_
    refine W_gyes rfl rfl ?_
    refine W_buildSlice (l := [.int .i64 (i : Int)]) ty24 ty3 (.cons rfl rfl rfl rfl rfl .nil) rfl rfl rfl rfl rfl rfl rfl (fun b74 => ?_)
    refine W_gyes rfl rfl ?_
    refine W_call (.cons rfl (.cons rfl .nil)) Tryz.call19 rfl ((Shut_L hT5 hO5 (ids := [(i : Int)]) (by show 1 ≤ 1000000; decide) (Holds.own (b := b74) zM) (H := (b74, .cells 3 1 [.int .i64 (i : Int)]) :: (b11, .cells 32 4 (placeT w0_.now a).1.v) :: H)).hsub zH) ?_
    rintro v H' ⟨HB6, hT6, hO6, rfl, rfl⟩
    rw [eh2] at hT6 hO6 ⊢
    refine W_gyes rfl rfl ?_
    refine W_bin rfl rfl b_neq rfl ?_
    first | refine W_pickt rfl rfl rfl ?_ | refine W_pickf rfl rfl rfl ?_
    refine W_move rfl rfl ?_
    refine W_gyes rfl rfl ?_
    refine W_move rfl rfl ?_
    refine W_gyes rfl rfl ?_
    refine W_move rfl rfl ?_
    refine W_gyes rfl rfl ?_
    refine W_call (.cons rfl (.cons rfl .nil)) Tryz.call13 rfl ((State_L hT6 (id := (i : Int)) (H := (b11, .cells 32 4 (placeT w0_.now a).1.v) :: H)).hsub zH) ?_
    rintro v H' ⟨HB7, hT7, rfl, rfl⟩
    rw [es2]
    refine W_gyes rfl rfl ?_
    refine W_bin rfl rfl b_neq rfl ?_
    first | refine W_pickt rfl rfl rfl ?_ | refine W_pickf rfl rfl rfl ?_
    refine W_move rfl rfl ?_
    refine W_gyes rfl rfl ?_
    refine W_move rfl rfl ?_
    refine W_gyes rfl rfl ?_
    refine W_move rfl rfl ?_
    refine W_gyes rfl rfl ?_
    refine W_call (.cons rfl (.cons rfl .nil)) Tryz.call9 rfl ((Init_L hT7 (id := (i : Int)) (H := (b11, .cells 32 4 (placeT w0_.now a).1.v) :: H)).hsub zH) ?_
    rintro v H' ⟨HB8, hT8, rfl, rfl⟩
    rw [ei2] at hT8 ⊢
    refine W_gyes rfl rfl ?_
    refine W_bin rfl rfl b_neq rfl ?_
    first | refine W_pickt rfl rfl rfl ?_ | refine W_pickf rfl rfl rfl ?_
    refine W_move rfl rfl ?_
    refine W_gyes rfl rfl ?_
    refine W_move rfl rfl ?_
    refine W_gyes rfl rfl ?_
    refine W_move rfl rfl ?_
    refine W_gyes rfl rfl ?_
    refine W_move rfl rfl ?_
    refine W_gyes rfl rfl ?_
    refine W_call (.cons rfl (.cons rfl (.cons rfl .nil))) Tryz.call10 rfl ((Set_L hT8 (id := (i : Int)) (prog := (j : Int)) (H := (b11, .cells 32 4 (placeT w0_.now a).1.v) :: H)).hsub zH) ?_
    rintro v H' ⟨HB10, hT10, rfl, rfl⟩
    rw [et2] at hT10 ⊢
    have hO8 := hO6
    refine W_gyes rfl rfl ?_
    refine W_bin rfl rfl b_neq rfl ?_
    first | refine W_pickt rfl rfl rfl ?_ | refine W_pickf rfl rfl rfl ?_
    refine W_nil ?_
    refine W_condF rfl rfl ?_
    refine W_skip ?_
    refine W_sr ?_
    refine W_move rfl rfl ?_
    refine W_move rfl rfl ?_
    refine W_call (.cons rfl (.cons rfl (.cons rfl (.cons rfl .nil)))) Tryz.call11 rfl ((Start_L hT10 hO8 (by decide) (id := (i : Int)) (cpu := 0) (a := 18446744073709551610) (by decide) (H := (b11, .cells 32 4 (placeT w0_.now a).1.v) :: H)).hsub zH) ?_
    rintro v H' ⟨W8, Q8, A8, s8, x8, HB11_, hS8, hT11, hO11, rfl, rfl⟩
    obtain ⟨rfl, rfl, rfl, rfl, rfl⟩ := start_gone (k := 0) hS8 hi hA4 (by decide) rfl
    refine W_move rfl rfl ?_
    refine W_extract rfl rfl rfl ?_
    refine W_extract rfl rfl rfl ?_
    refine W_assign rfl rfl ?_
    refine W_nil ?_
    refine W_sr ?_
    refine W_move rfl rfl ?_
    refine W_call (.cons rfl (.cons rfl (.cons rfl .nil))) Tryz.call15 rfl ((Catch_L hT11 hO11 hT (cpu := 0) (a := 18446744073709551610) (by decide) (H := (b11, .cells 32 4 (placeT w0_.now a).1.v) :: H)).hsub zH) ?_
    rintro v H' ⟨W9, O9, XO9, HB12, hC9, hT12, hO12, hOO9, hol9, rfl⟩
    obtain ⟨w9, hw9⟩ : ∃ w, W8[0]? = some w := ⟨_, List.getElem?_eq_getElem (by have := hT11.len; omega)⟩
    obtain ⟨Li9, hG9, hW9⟩ := catch_at (k := 0) hC9 hw9
    obtain ⟨rfl, rfl⟩ := gone_wait hG9 (fun t ht => by rw [hemp w9 (List.mem_of_getElem? hw9)] at ht; cases ht)
    obtain ⟨ad9, cap9, rfl, _, _⟩ := hOO9.shape
    rw [show addsQ 1 [] 0 (List.map (·.id) ([] : List Tm)) = ([], 0) from rfl] at hT12
    refine W_assign rfl rfl ?_
    refine W_nil ?_
    refine W_sr ?_
    refine W_move rfl rfl ?_
    refine W_call (.cons rfl (.cons rfl (.cons rfl .nil))) Tryz.call17 rfl ((tBegin_L hT12 (cpu := 0) (c := 1) (H := (b11, .cells 32 4 (placeT w0_.now a).1.v) :: H)).hsub zH) ?_
    rintro v H' ⟨HB13, hT13, rfl, rfl⟩
    rw [show begQ 1 [] [] 0 1 = ([], [], 0, 4) from by decide] at hT13
    rw [show begV 1 [] [] A8 0 1 = .tuple #[.int .i64 0, .int .i64 0, .int .i64 4] from rfl]
    refine W_move rfl rfl ?_
    refine W_extract rfl rfl rfl ?_
    refine W_extract rfl rfl rfl ?_
    refine W_extract rfl rfl rfl ?_
    refine W_assign rfl rfl ?_
    refine W_assign rfl rfl ?_
    refine W_assign rfl rfl ?_
    refine W_nil ?_
    refine W_seq ?_
    refine W_sr ?_
    refine W_move rfl rfl ?_
    refine W_bin rfl rfl b_neq rfl ?_
    refine W_move rfl rfl ?_
    refine W_gyes rfl rfl ?_
    refine W_move rfl rfl ?_
    refine W_gyes rfl rfl ?_
    refine W_len rfl ty24 rfl rfl ?_
    refine W_gyes rfl rfl ?_
    refine W_bin rfl rfl b_neq rfl ?_
    first | refine W_pickt rfl rfl rfl ?_ | refine W_pickf rfl rfl rfl ?_
    refine W_move rfl rfl ?_
    refine W_gyes rfl rfl ?_
    refine W_move rfl rfl ?_
    refine W_gyes rfl rfl ?_
    refine W_bin rfl rfl b_neq rfl ?_
    first | refine W_pickt rfl rfl rfl ?_ | refine W_pickf rfl rfl rfl ?_
    refine W_move rfl rfl ?_
    refine W_gyes rfl rfl ?_
    refine W_move rfl rfl ?_
    refine W_gyes rfl rfl ?_
    refine W_move rfl rfl ?_
    refine W_gyes rfl rfl ?_
    refine W_call (.cons rfl (.cons rfl .nil)) Tryz.call20 rfl ((Clear_L hT13 hO12 (id := (i : Int)) (H := (b11, .cells 32 4 (placeT w0_.now a).1.v) :: H)).hsub zH) ?_
    rintro v H' ⟨HB14, hT14, hO14, rfl, rfl⟩
    have ec : clearA W9 [] [] A8 (i : Int) = (W9.map (delW [(i : Int)]), delQ [] (i : Int), A8.set i zTone, 0) := by rw [clearA_at hi]; exact clearM_ok rfl
    rw [ec] at hT14 hO14 ⊢
    obtain ⟨A9, hA9e⟩ : ∃ A, A = A8.set i zTone := ⟨_, rfl⟩
    have hA9 : A9[i]? = some zTone := by rw [hA9e, List.getElem?_set_self (List.getElem?_eq_some_iff.1 hA4).1]
    rw [← hA9e] at hT14 hO14
    have ho9 : ofA A9 (i : Int) = zTone := ofA_at hi hA9
    have es9 : ∀ W Q, stateA W Q A9 (i : Int) = 0 := fun W Q => by unfold stateA; rw [ho9]; rfl
    refine W_gyes rfl rfl ?_
    refine W_bin rfl rfl b_neq rfl ?_
    first | refine W_pickt rfl rfl rfl ?_ | refine W_pickf rfl rfl rfl ?_
    refine W_nil ?_
    refine W_condF rfl rfl ?_
    refine W_skip ?_
    refine W_sr ?_
    refine W_move rfl rfl ?_
    refine W_move rfl rfl ?_
    refine W_callq (.cons rfl (.cons rfl .nil)) Tryz.call21 rfl (tProg_q hT14 (fun p hp => (by repeat (first | exact List.mem_append_left _ hp | exact List.mem_cons_self | apply List.mem_cons_of_mem | apply List.mem_append_right))) (id := (i : Int))) ?_
    rw [ho9]
    rw [show Value.tuple #[.int .i64 (max (zTone.prog - 1) 0), .bool (decide (0 < zTone.prog))] = .tuple #[.int .i64 0, .bool false] from rfl]
    refine W_move rfl rfl ?_
    refine W_extract rfl rfl rfl ?_
    refine W_extract rfl rfl rfl ?_
    refine W_assign rfl rfl ?_
    refine W_assign rfl rfl ?_
    refine W_nil ?_
    refine W_sr ?_
    refine W_callp .nil Tryz.call12 rfl hT tknown_pure ?_
    refine W_move rfl rfl ?_
    refine W_gyes rfl rfl ?_
    refine W_move rfl rfl ?_
    refine W_gyes rfl rfl ?_
    refine W_move rfl rfl ?_
    refine W_gyes rfl rfl ?_
    refine W_call (.cons rfl (.cons rfl .nil)) Tryz.call13 rfl ((State_L hT14 (id := (i : Int)) (H := (b11, .cells 32 4 (placeT w0_.now a).1.v) :: H)).hsub zH) ?_
    rintro v H' ⟨HB15, hT15, rfl, rfl⟩
    rw [es9]
    refine W_gyes rfl rfl ?_
    refine W_bin rfl rfl b_eql rfl ?_
    first | refine W_pickt rfl rfl rfl ?_ | refine W_pickf rfl rfl rfl ?_
    refine W_move rfl rfl ?_
    refine W_gyes rfl rfl ?_
    refine W_move rfl rfl ?_
    refine W_gyes rfl rfl ?_
    refine W_bin rfl rfl b_eql rfl ?_
    first | refine W_pickt rfl rfl rfl ?_ | refine W_pickf rfl rfl rfl ?_
    refine W_move rfl rfl ?_
    refine W_gyes rfl rfl ?_
    refine W_move rfl rfl ?_
    refine W_gyes rfl rfl ?_
    refine W_not rfl rfl ?_
    first | refine W_pickt rfl rfl rfl ?_ | refine W_pickf rfl rfl rfl ?_
    refine W_move rfl rfl ?_
    refine W_gyes rfl rfl ?_
    refine W_move rfl rfl ?_
    refine W_gyes rfl rfl ?_
    refine W_move rfl rfl ?_
    refine W_gyes rfl rfl ?_
    refine W_callq (.cons rfl (.cons rfl .nil)) Tryz.call14 rfl (tStarts_q hT15 (fun p hp => (by repeat (first | exact List.mem_append_left _ hp | exact List.mem_cons_self | apply List.mem_cons_of_mem | apply List.mem_append_right))) (id := (i : Int))) ?_
    rw [ho9]
    refine W_gyes rfl rfl ?_
    refine W_bin rfl rfl b_eql rfl ?_
    first | refine W_pickt rfl rfl rfl ?_ | refine W_pickf rfl rfl rfl ?_
    refine W_move rfl rfl ?_
    refine W_gyes rfl rfl ?_
    refine W_move rfl rfl ?_
    refine W_gyes rfl rfl ?_
    refine W_move rfl rfl ?_
    refine W_gyes rfl rfl ?_
    refine W_call (.cons rfl (.cons rfl .nil)) Tryz.call9 rfl ((Init_L hT15 (id := (i : Int)) (H := (b11, .cells 32 4 (placeT w0_.now a).1.v) :: H)).hsub zH) ?_
    rintro v H' ⟨HB16, hT16, rfl, rfl⟩
    rw [onA_at hi hA9]
    refine W_gyes rfl rfl ?_
    refine W_bin rfl rfl b_eql rfl ?_
    first | refine W_pickt rfl rfl rfl ?_ | refine W_pickf rfl rfl rfl ?_
    refine W_assign rfl rfl ?_
    refine W_nil ?_
    refine W_ret1m (H2 := H) Tryz.results5 rfl (.nil _) zH ?_
    exact ⟨rfl, rfl⟩
end Go.Proofs.YtcmfldfeakmdoaaGreatDoor
