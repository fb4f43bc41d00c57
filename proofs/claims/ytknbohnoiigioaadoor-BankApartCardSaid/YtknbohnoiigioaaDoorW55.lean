/-
  Own work: contracts of functions that the statement reaches, and plain facts on what they compute; each theorem says its conditions.
-/
import Derived.Test.YtknbohnoiigioaaDoorW50toW54
import Derived.Test.YtknbohnoiigioaaDoorSlRdtoSlFast
set_option linter.all false
set_option linter.unusedSimpArgs false
set_option linter.unusedVariables false
namespace Go.Proofs.YtknbohnoiigioaaDoor
open Go Go.Sl
attribute [local irreducible] W
theorem modN_is (y : Int) {N : Nat} (hN : 0 < N) : ∃ c : Nat, c < N ∧ (IntKind.u64.wrap y).tmod (N : Int) = (c : Int) := by
  have e : IntKind.u64.wrap y = y % 18446744073709551616 := by simp [IntKind.wrap, IntKind.signed, IntKind.bits]
  have h0 : 0 ≤ y % 18446744073709551616 := Int.emod_nonneg _ (by decide)
  have h1 : 0 ≤ (IntKind.u64.wrap y).tmod (N : Int) := Int.tmod_nonneg _ (by omega)
  have h2 : (IntKind.u64.wrap y).tmod (N : Int) < (N : Int) := Int.tmod_lt_of_pos _ (by omega)
  exact ⟨((IntKind.u64.wrap y).tmod (N : Int)).toNat, by omega, by omega⟩
theorem PutIs.late_of {Ws Ws' : List Wl} {cpu id e : Int} {a k : Nat} {s : Spot} {w : Wl} (h : PutIs Ws cpu id a Ws' s e) (hc : cpu = (k : Int)) (hk : Ws[k]? = some w) (hf : findK Ws id = none) (hr : 0 ≤ id ∧ id < 256) (hm : w.now = 18446744073709551615) : Ws' = Ws ∧ s = zSpot ∧ e = 12 := by
  have hat : wlAt Ws cpu = some w := by
    subst hc
    unfold wlAt; rw [if_pos (by omega)]; exact hk
  cases h with
  | cpu h => rw [h] at hat; cases hat
  | twice h h2 => rw [hf] at h2; cases h2
  | range h h2 h3 => exact absurd hr h3
  | late h h2 h3 h4 => exact ⟨rfl, rfl, rfl⟩
  | ok h1 h2 h3 h4 h5 =>
    rename_i k2 w2
    have : k2 = k := by omega
    subst this
    obtain rfl := Option.some.inj (h2.symm.trans hk)
    omega
theorem ap_find3 {N now n a c i : Nat} {Ws : List Wl} {w : Wl} {Li O : List Tm} (hTI : TurnIs N now n Ws) (hN : 0 < N) (hw : Ws[c]? = some w) (hG : Gone w.now (max w.now a) w.L Li O) (hnd : (Li.map (·.id)).Nodup) (hi : i < n) :
    (∃ s : Spot, findV (apW Ws c a w Li) (i : Int) = .tuple #[.int .i64 ((i % N : Nat) : Int), .agg s.v.toArray, .bool true] ∧ i % N ≠ c) ∨ (∃ s : Spot, findV (apW Ws c a w Li) (i : Int) = .tuple #[.int .i64 ((i % N : Nat) : Int), .agg s.v.toArray, .bool true] ∧ i % N = c ∧ a < s.due) ∨ (findV (apW Ws c a w Li) (i : Int) = .tuple #[.int .i64 0, .agg zSpot.v.toArray, .bool false] ∧ i % N = c) := by
  rcases ap_find hTI hN hw hG hnd hi with ⟨s, hfv, hs⟩ | ⟨hfv, hs⟩
  · by_cases e : i % N = c
    · exact .inr (.inl ⟨s, hfv, e, hs e⟩)
    · exact .inl ⟨s, hfv, e⟩
  · exact .inr (.inr ⟨hfv, hs⟩)
set_option maxHeartbeats 8000000 in
theorem bankApart_L {z y : Int} {now a : Nat} {l : List Int} {ad : Option Addr} {cap : Nat} (hwf : ∀ b ∈ l, 0 ≤ b ∧ b ≤ 18446744073709551615) (hcap : l.length ≤ 9223372036854775807) (ha_ : a ≤ 18446744073709551615) (hnow : now < 18446744073709551615) : Pure Tryd.prog (fun w => Tab w ∧ InRow w ad (l.map (Value.int .u64))) 6 [.int .i64 z, .int .u64 ((now : Nat) : Int), .slice ad l.length cap, .int .i64 y, .int .u64 ((a : Nat) : Int)] (.bool true) := by
  intro w0 H hT
  have hrow : Holds w0 H ad (l.map (Value.int .u64)) := Holds.old hT.2
  replace hT := hT.1
  refine L_enter Tryd.func6 rfl Tryd.ntmps6 rfl rfl ?_
  refine W_sr ?_
  refine W_assign rfl rfl ?_
  refine W_nil ?_
  refine W_sr ?_
  refine W_move rfl rfl ?_
  refine W_conv rfl ty3 ty22 rfl rfl ?_
  refine W_bin rfl rfl (b_rem (by decide) (m := z % 64) (mod64_is z)) rfl ?_
  refine W_conv rfl ty22 ty3 (i64w (by omega)) rfl ?_
  refine W_bin rfl rfl (b_add (m := ((cpuN z : Nat) : Int)) (by rw [i64w (by omega)]; unfold cpuN; omega)) rfl ?_
  obtain ⟨N, hN⟩ : ∃ N, N = cpuN z := ⟨_, rfl⟩
  have hN1 : 1 ≤ N ∧ N ≤ 64 := by rw [hN]; exact cpuN_ok z
  rw [← hN]
  clear hN
  refine W_assign rfl rfl ?_
  refine W_nil ?_
  refine W_sr ?_
  refine W_move rfl rfl ?_
  refine W_conv rfl ty3 ty22 rfl rfl ?_
  refine W_move rfl rfl ?_
  refine W_conv rfl ty3 ty22 (u64w (by omega)) rfl ?_
  obtain ⟨c, hc_, hce⟩ := modN_is y hN1.1
  refine W_bin rfl rfl (b_rem (by omega) (m := (c : Int)) hce) rfl ?_
  refine W_conv rfl ty22 ty3 (i64w (by omega)) rfl ?_
  refine W_assign rfl rfl ?_
  refine W_nil ?_
  refine W_sr ?_
  refine W_move rfl rfl ?_
  refine W_move rfl rfl ?_
  refine W_call (.cons rfl (.cons rfl .nil)) Tryd.call21 rfl (NewB_L (n := N) (now := now) hN1) ?_
  rintro v H' ⟨bb, Ws0, HB0, rfl, hB0, hWl, hfr, rfl⟩
  refine W_move rfl rfl ?_
  refine W_extract rfl rfl rfl ?_
  refine W_extract rfl rfl rfl ?_
  refine W_assign rfl rfl ?_
  refine W_assign rfl rfl ?_
  refine W_nil ?_
  refine W_seq ?_
  refine W_sr ?_
  refine W_move rfl rfl ?_
  refine W_bin rfl rfl b_neq rfl ?_
  refine W_nil ?_
  refine W_condF rfl rfl ?_
  refine W_skip ?_
  refine W_sr ?_
  refine W_move rfl rfl ?_
  refine W_len rfl ty23 rfl rfl ?_
  refine W_min2 rfl rfl (m := ((min l.length 64 : Nat) : Int)) (by split <;> omega) rfl ?_
  obtain ⟨n, hn⟩ : ∃ n, n = min l.length 64 := ⟨_, rfl⟩
  rw [← hn]
  refine W_assign rfl rfl ?_
  refine W_nil ?_
  refine W_seq ?_
  refine W_sr ?_
  refine W_assign rfl rfl ?_
  refine W_nil ?_
  refine W_block ?_
  refine W_loopC (X := (Nat × List Wl × Heap)) [(0, _), (1, _), (2, _), (3, _), (4, _), (11, _), (13, _)] (fun (x : (Nat × List Wl × Heap)) => [(14, .int .i64 (x.1 : Int))]) (fun _ => _) (fun (x : (Nat × List Wl × Heap)) => x.2.2 ++ H) (fun (x : (Nat × List Wl × Heap)) => x.1 ≤ n ∧ BankH bb x.2.1 x.2.2 ∧ (TurnIs N now x.1 x.2.1)) (fun (x : (Nat × List Wl × Heap)) => n - x.1) (0, Ws0, HB0) ⟨Nat.zero_le _, hB0, TurnIs.start hWl hfr⟩ (sub_cons rfl (sub_cons rfl (sub_cons rfl (sub_cons rfl (sub_cons rfl (sub_cons rfl (sub_cons rfl (sub_nil _)))))))) (sub_cons rfl (sub_nil _)) rfl (.refl _) ?_
  rintro ⟨i, Ws, HB⟩ ⟨hi, hB, hTI⟩
  dsimp only at hi hB hTI ⊢
  simp only [List.cons_append, List.nil_append]
  refine W_seq ?_
  refine W_sr ?_
  refine W_move rfl rfl ?_
  refine W_move rfl rfl ?_
  refine W_bin rfl rfl b_lss rfl ?_
  refine W_nil ?_
  refine W_condPS (p := (i : Int) < (n : Int)) rfl (by simp) (fun r0 => ?_) (fun r0 => ?_)
  · skip
    refine W_skip ?_
    refine W_seq ?_
    refine W_block ?_
    refine W_seq ?_
    obtain ⟨x_a1, hx_a1⟩ : ∃ x, l[i]? = some x := ⟨_, List.getElem?_eq_getElem (by omega)⟩
    obtain ⟨q0, p0, rfl, hc⟩ := hrow.at (i := i) (v := .int .u64 x_a1) (by rw [List.getElem?_map, hx_a1]; rfl)
    have ha10 := hwf x_a1 (List.mem_of_getElem? hx_a1)
    have hg_a1 : (l.getD i 0) = x_a1 := by rw [List.getD_eq_getElem?_getD, hx_a1]; rfl
    obtain ⟨a1, rfl⟩ : ∃ a : Nat, x_a1 = (a : Int) := ⟨x_a1.toNat, by omega⟩
    have ha1 : a1 ≤ 18446744073709551615 := by omega
    have hmod : i % N < N := Nat.mod_lt _ (by omega)
    obtain ⟨w, hwk⟩ : ∃ w, Ws[i % N]? = some w := ⟨_, List.getElem?_eq_getElem (by rw [hTI.len]; exact hmod)⟩
    have hTIn := hTI.put (a := a1) (by omega) hwk
    refine W_cutX (X := (List Wl × Heap)) (fun _ => [(0, .int .i64 (N : Int)), (1, .int .u64 ((now : Nat) : Int)), (2, .slice (some ⟨q0, p0, none⟩) l.length cap), (3, .int .i64 (c : Int)), (4, .int .u64 ((a : Nat) : Int)), (11, .pointer (some ⟨bb, 0, none⟩)), (13, .int .i64 (n : Int)), (14, .int .i64 (i : Int)), (16, .int .i64 0)]) (fun x => x.2 ++ H) (fun x => BankH bb x.1 x.2 ∧ (TurnIs N now (i + 1) x.1)) ?_ ?_
    · skip
      refine W_anyC H (by kernel_rfl) ?_
      refine WC_take 0 (l' := #[true, false, false, false, false, false, false, false, false, false, false, false, false, false, false, false]) rfl (by decide +kernel) (by decide +kernel) (by decide +kernel) rfl (by decide +kernel) (X_move rfl) rfl ?_
      refine WC_take 1 (l' := #[true, true, false, false, false, false, false, false, false, false, false, false, false, false, false, false]) rfl (by decide +kernel) (by decide +kernel) (by decide +kernel) rfl (by decide +kernel) (X_move rfl) rfl ?_
      refine WC_take 2 (l' := #[true, true, true, false, false, false, false, false, false, false, false, false, false, false, false, false]) rfl (by decide +kernel) (by decide +kernel) (by decide +kernel) rfl (by decide +kernel) (X_move rfl) rfl ?_
      refine WC_take 3 (l' := #[true, true, true, true, false, false, false, false, false, false, false, false, false, false, false, false]) rfl (by decide +kernel) (by decide +kernel) (by decide +kernel) rfl (by decide +kernel) (X_bin rfl rfl (b_rem (by omega) (m := ((i % N : Nat) : Int)) (tmN i N))) rfl ?_
      refine WC_take 4 (l' := #[true, true, true, true, true, false, false, false, false, false, false, false, false, false, false, false]) rfl (by decide +kernel) (by decide +kernel) (by decide +kernel) rfl (by decide +kernel) (X_move rfl) rfl ?_
      refine WC_take 5 (l' := #[true, true, true, true, true, true, false, false, false, false, false, false, false, false, false, false]) rfl (by decide +kernel) (by decide +kernel) (by decide +kernel) rfl (by decide +kernel) (X_move rfl) rfl ?_
      refine WC_take 6 (l' := #[true, true, true, true, true, true, true, false, false, false, false, false, false, false, false, false]) rfl (by decide +kernel) (by decide +kernel) (by decide +kernel) rfl (by decide +kernel) (X_move rfl) rfl ?_
      refine WC_take 7 (l' := #[true, true, true, true, true, true, true, true, false, false, false, false, false, false, false, false]) rfl (by decide +kernel) (by decide +kernel) (by decide +kernel) rfl (by decide +kernel) (X_indexAddr (j := i) rfl rfl ty23 ty22 rfl (by omega) rfl) rfl ?_
      refine WC_take 8 (l' := #[true, true, true, true, true, true, true, true, true, false, false, false, false, false, false, false]) rfl (by decide +kernel) (by decide +kernel) (by decide +kernel) rfl (by decide +kernel) (X_load (v := .int .u64 ((a1 : Nat) : Int)) rfl ty22 rfl (by rw [Nat.mul_one]; exact hc.up (by first | exact hsubI | (repeat (first | with_reducible exact HSub.refl _ | refine HSub.cons (by repeat (first | exact Take.here _ | apply Take.next | apply Take.app)) ?_ | refine HSub.app (by repeat (first | with_reducible exact TakeS.here _ | apply TakeS.next | apply TakeS.app)) ?_ | exact HSub.nil _ | exact HSub.refl _ | refine HSub.drop ?_ | refine HSub.dropS ?_))))) rfl ?_
      refine WC_two 9 13 (l' := #[true, true, true, true, true, true, true, true, true, true, false, false, false, false, false, false]) (l'' := #[true, true, true, true, true, true, true, true, true, false, false, false, false, true, false, false]) (by first | exact hsubI | (repeat (first | with_reducible exact HSub.refl _ | refine HSub.cons (by repeat (first | exact Take.here _ | apply Take.next | apply Take.app)) ?_ | refine HSub.app (by repeat (first | with_reducible exact TakeS.here _ | apply TakeS.next | apply TakeS.app)) ?_ | exact HSub.nil _ | exact HSub.refl _ | refine HSub.drop ?_ | refine HSub.dropS ?_))) (by decide +kernel) rfl rfl (by decide +kernel) (by decide +kernel) ?_ ?_
      · skip
        refine W_call (.cons rfl (.cons rfl (.cons rfl (.cons rfl .nil)))) Tryd.call22 rfl (LCalls.hsub (PutB_L (cpu := ((i % N : Nat) : Int)) (id := (i : Int)) (a := a1) hB (by rw [hTI.len]; omega) ha1 (fun w hw => by rw [hTI.now w hw]; omega) (fun w hw => by have := hTI.turn w hw; omega) (H := H)) (by first | exact hsubI | (repeat (first | with_reducible exact HSub.refl _ | refine HSub.cons (by repeat (first | exact Take.here _ | apply Take.next | apply Take.app)) ?_ | refine HSub.app (by repeat (first | with_reducible exact TakeS.here _ | apply TakeS.next | apply TakeS.app)) ?_ | exact HSub.nil _ | exact HSub.refl _ | refine HSub.drop ?_ | refine HSub.dropS ?_)))) ?_
        rintro v H' ⟨Ws2, HB2, s2, e2, hB2, rfl, hP, rfl⟩
        obtain ⟨rfl, rfl, rfl⟩ := hP.ok_of (k := i % N) rfl hwk hTI.none ⟨by omega, by omega⟩ (by rw [hTI.now w (List.mem_of_getElem? hwk)]; omega)
        refine W_nil ?_
        refine WC_goal ?_
        refine WC_take 10 (l' := #[true, true, true, true, true, true, true, true, true, true, true, false, false, false, false, false]) rfl (by decide +kernel) (by decide +kernel) (by decide +kernel) rfl (by decide +kernel) (X_move rfl) rfl ?_
        refine WC_take 11 (l' := #[true, true, true, true, true, true, true, true, true, true, true, true, false, false, false, false]) rfl (by decide +kernel) (by decide +kernel) (by decide +kernel) rfl (by decide +kernel) (X_extract rfl rfl) rfl ?_
        refine WC_take 12 (l' := #[true, true, true, true, true, true, true, true, true, true, true, true, true, false, false, false]) rfl (by decide +kernel) (by decide +kernel) (by decide +kernel) rfl (by decide +kernel) (X_extract rfl rfl) rfl ?_
        refine WC_one 13 (l' := #[true, true, true, true, true, true, true, true, true, true, true, true, true, true, false, false]) (by first | exact hsubI | (repeat (first | with_reducible exact HSub.refl _ | refine HSub.cons (by repeat (first | exact Take.here _ | apply Take.next | apply Take.app)) ?_ | refine HSub.app (by repeat (first | with_reducible exact TakeS.here _ | apply TakeS.next | apply TakeS.app)) ?_ | exact HSub.nil _ | exact HSub.refl _ | refine HSub.drop ?_ | refine HSub.dropS ?_))) (by decide +kernel) rfl (by decide +kernel) ?_
        refine W_alloc (l := zSpot.v) ty27 rfl rfl (fun b15 => ?_)
        refine W_nil ?_
        refine WC_goal ?_
        refine WC_one 14 (l' := #[true, true, true, true, true, true, true, true, true, true, true, true, true, true, true, false]) (by first | exact hsubI | (repeat (first | with_reducible exact HSub.refl _ | refine HSub.cons (by repeat (first | exact Take.here _ | apply Take.next | apply Take.app)) ?_ | refine HSub.app (by repeat (first | with_reducible exact TakeS.here _ | apply TakeS.next | apply TakeS.app)) ?_ | exact HSub.nil _ | exact HSub.refl _ | refine HSub.drop ?_ | refine HSub.dropS ?_))) (by decide +kernel) rfl (by decide +kernel) ?_
        refine W_storeA (l' := (placeT w.now a1).1.v) rfl rfl ty27 rfl rfl (b := b15) (by repeat (first | exact List.mem_cons_self | apply List.mem_cons_of_mem | apply List.mem_append_right)) (by exact Nat.le_refl 4) rfl (by repeat (first | exact Upd.head _ | apply Upd.tail | apply Upd.app)) ?_
        refine W_nil ?_
        refine WC_goal ?_
        refine WC_take 15 (l' := #[true, true, true, true, true, true, true, true, true, true, true, true, true, true, true, true]) rfl (by decide +kernel) (by decide +kernel) (by decide +kernel) rfl (by decide +kernel) (X_assign rfl) rfl ?_
        refine WC_done (by first | exact hsubI | (repeat (first | with_reducible exact HSub.refl _ | refine HSub.cons (by repeat (first | exact Take.here _ | apply Take.next | apply Take.app)) ?_ | refine HSub.app (by repeat (first | with_reducible exact TakeS.here _ | apply TakeS.next | apply TakeS.app)) ?_ | exact HSub.nil _ | exact HSub.refl _ | refine HSub.drop ?_ | refine HSub.dropS ?_))) (by decide +kernel) ?_
        refine W_joinX (_, HB2) ⟨hB2, hTIn⟩ (sub_cons rfl (sub_cons rfl (sub_cons rfl (sub_cons rfl (sub_cons rfl (sub_cons rfl (sub_cons rfl (sub_cons rfl (sub_cons rfl (sub_nil _)))))))))) (by first | exact hsubI | (repeat (first | with_reducible exact HSub.refl _ | refine HSub.cons (by repeat (first | exact Take.here _ | apply Take.next | apply Take.app)) ?_ | refine HSub.app (by repeat (first | with_reducible exact TakeS.here _ | apply TakeS.next | apply TakeS.app)) ?_ | exact HSub.nil _ | exact HSub.refl _ | refine HSub.drop ?_ | refine HSub.dropS ?_)))
      · skip
        refine W_alloc (l := zSpot.v) ty27 rfl rfl (fun b15 => ?_)
        refine W_nil ?_
        refine WC_goal ?_
        refine WC_one 9 (l' := #[true, true, true, true, true, true, true, true, true, true, false, false, false, true, false, false]) (by first | exact hsubI | (repeat (first | with_reducible exact HSub.refl _ | refine HSub.cons (by repeat (first | exact Take.here _ | apply Take.next | apply Take.app)) ?_ | refine HSub.app (by repeat (first | with_reducible exact TakeS.here _ | apply TakeS.next | apply TakeS.app)) ?_ | exact HSub.nil _ | exact HSub.refl _ | refine HSub.drop ?_ | refine HSub.dropS ?_))) (by decide +kernel) rfl (by decide +kernel) ?_
        refine W_call (.cons rfl (.cons rfl (.cons rfl (.cons rfl .nil)))) Tryd.call22 rfl (LCalls.hsub (PutB_L (cpu := ((i % N : Nat) : Int)) (id := (i : Int)) (a := a1) hB (by rw [hTI.len]; omega) ha1 (fun w hw => by rw [hTI.now w hw]; omega) (fun w hw => by have := hTI.turn w hw; omega) (H := (b15, .cells 27 4 zSpot.v) :: H)) (by first | exact hsubI | (repeat (first | with_reducible exact HSub.refl _ | refine HSub.cons (by repeat (first | exact Take.here _ | apply Take.next | apply Take.app)) ?_ | refine HSub.app (by repeat (first | with_reducible exact TakeS.here _ | apply TakeS.next | apply TakeS.app)) ?_ | exact HSub.nil _ | exact HSub.refl _ | refine HSub.drop ?_ | refine HSub.dropS ?_)))) ?_
        rintro v H' ⟨Ws2, HB2, s2, e2, hB2, rfl, hP, rfl⟩
        obtain ⟨rfl, rfl, rfl⟩ := hP.ok_of (k := i % N) rfl hwk hTI.none ⟨by omega, by omega⟩ (by rw [hTI.now w (List.mem_of_getElem? hwk)]; omega)
        refine W_nil ?_
        refine WC_goal ?_
        refine WC_take 10 (l' := #[true, true, true, true, true, true, true, true, true, true, true, false, false, true, false, false]) rfl (by decide +kernel) (by decide +kernel) (by decide +kernel) rfl (by decide +kernel) (X_move rfl) rfl ?_
        refine WC_take 11 (l' := #[true, true, true, true, true, true, true, true, true, true, true, true, false, true, false, false]) rfl (by decide +kernel) (by decide +kernel) (by decide +kernel) rfl (by decide +kernel) (X_extract rfl rfl) rfl ?_
        refine WC_take 12 (l' := #[true, true, true, true, true, true, true, true, true, true, true, true, true, true, false, false]) rfl (by decide +kernel) (by decide +kernel) (by decide +kernel) rfl (by decide +kernel) (X_extract rfl rfl) rfl ?_
        refine WC_one 14 (l' := #[true, true, true, true, true, true, true, true, true, true, true, true, true, true, true, false]) (by first | exact hsubI | (repeat (first | with_reducible exact HSub.refl _ | refine HSub.cons (by repeat (first | exact Take.here _ | apply Take.next | apply Take.app)) ?_ | refine HSub.app (by repeat (first | with_reducible exact TakeS.here _ | apply TakeS.next | apply TakeS.app)) ?_ | exact HSub.nil _ | exact HSub.refl _ | refine HSub.drop ?_ | refine HSub.dropS ?_))) (by decide +kernel) rfl (by decide +kernel) ?_
        refine W_storeA (l' := (placeT w.now a1).1.v) rfl rfl ty27 rfl rfl (b := b15) (by repeat (first | exact List.mem_cons_self | apply List.mem_cons_of_mem | apply List.mem_append_right)) (by exact Nat.le_refl 4) rfl (by repeat (first | exact Upd.head _ | apply Upd.tail | apply Upd.app)) ?_
        refine W_nil ?_
        refine WC_goal ?_
        refine WC_take 15 (l' := #[true, true, true, true, true, true, true, true, true, true, true, true, true, true, true, true]) rfl (by decide +kernel) (by decide +kernel) (by decide +kernel) rfl (by decide +kernel) (X_assign rfl) rfl ?_
        refine WC_done (by first | exact hsubI | (repeat (first | with_reducible exact HSub.refl _ | refine HSub.cons (by repeat (first | exact Take.here _ | apply Take.next | apply Take.app)) ?_ | refine HSub.app (by repeat (first | with_reducible exact TakeS.here _ | apply TakeS.next | apply TakeS.app)) ?_ | exact HSub.nil _ | exact HSub.refl _ | refine HSub.drop ?_ | refine HSub.dropS ?_))) (by decide +kernel) ?_
        refine W_joinX (_, HB2) ⟨hB2, hTIn⟩ (sub_cons rfl (sub_cons rfl (sub_cons rfl (sub_cons rfl (sub_cons rfl (sub_cons rfl (sub_cons rfl (sub_cons rfl (sub_cons rfl (sub_nil _)))))))))) (by first | exact hsubI | (repeat (first | with_reducible exact HSub.refl _ | refine HSub.cons (by repeat (first | exact Take.here _ | apply Take.next | apply Take.app)) ?_ | refine HSub.app (by repeat (first | with_reducible exact TakeS.here _ | apply TakeS.next | apply TakeS.app)) ?_ | exact HSub.nil _ | exact HSub.refl _ | refine HSub.drop ?_ | refine HSub.dropS ?_)))
    rintro ⟨Ws2, HB2⟩ ⟨hB2, hTI2⟩
    dsimp only at hB2 hTI2 ⊢
    refine W_sr ?_
    refine W_move rfl rfl ?_
    refine W_bin rfl rfl b_neq rfl ?_
    refine W_move rfl rfl ?_
    refine W_gno rfl rfl rfl ?_
    refine W_gno rfl rfl rfl ?_
    first | refine W_pickt rfl rfl rfl ?_ | refine W_pickf rfl rfl rfl ?_
    refine W_nil ?_
    refine W_condF rfl rfl ?_
    refine W_skip ?_
    refine W_blk ?_
    refine W_region ?_
    refine W_move rfl rfl ?_
    refine W_bin rfl rfl (b_add (m := ((i + 1 : Nat) : Int)) ((i64w (by omega)).trans (by omega))) rfl ?_
    refine W_assign rfl rfl ?_
    refine W_nil ?_
    refine W_again (i + 1, Ws2, HB2) ⟨by show i + 1 ≤ n; omega, hB2, hTI2⟩ (by show n - (i + 1) < n - i; omega) (sub_cons rfl (sub_cons rfl (sub_cons rfl (sub_cons rfl (sub_cons rfl (sub_cons rfl (sub_cons rfl (sub_cons rfl (sub_nil _))))))))) rfl (.refl _)
  · skip
    refine W_exit rfl ?_
    refine W_sr ?_
    refine W_move rfl rfl ?_
    refine W_move rfl rfl ?_
    obtain rfl : n = i := by omega
    have hlen64 : Ws.length ≤ 64 := by rw [hTI.len]; omega
    have hle : ∀ w ∈ Ws, w.now ≤ 18446744073709551615 := fun w hw => by rw [hTI.now w hw]; omega
    refine W_call (.cons rfl (.cons rfl .nil)) Tryd.call23 rfl (LCalls.hsub (LateB_L (a := a) hB hlen64 hle hT (H := H)) (by first | exact hsubI | (repeat (first | with_reducible exact HSub.refl _ | refine HSub.cons (by repeat (first | exact Take.here _ | apply Take.next | apply Take.app)) ?_ | refine HSub.app (by repeat (first | with_reducible exact TakeS.here _ | apply TakeS.next | apply TakeS.app)) ?_ | exact HSub.nil _ | exact HSub.refl _ | refine HSub.drop ?_ | refine HSub.dropS ?_)))) ?_
    rintro v H' ⟨HB1, hB1, rfl, rfl⟩
    refine W_assign rfl rfl ?_
    refine W_nil ?_
    refine W_sr ?_
    refine W_move rfl rfl ?_
    refine W_move rfl rfl ?_
    refine W_move rfl rfl ?_
    have hd : ∀ u ∈ Ws, ∀ t ∈ u.L, u.now < t.s.due := fun u hu t ht => by
      obtain ⟨HU, hU⟩ := hB1.wheelOf hu
      exact hU.later (by rw [hTI.now u hu]; exact hnow) t ht
    obtain ⟨w, hw⟩ : ∃ w, Ws[c]? = some w := ⟨_, List.getElem?_eq_getElem (by rw [hTI.len]; exact hc_)⟩
    have hwm := List.mem_of_getElem? hw
    refine W_call (.cons rfl (.cons rfl (.cons rfl .nil))) Tryd.call24 rfl (LCalls.hsub (CatchB_L (cpu := (c : Int)) (a := a) hB1 ha_ hd hT (H := H)) (by first | exact hsubI | (repeat (first | with_reducible exact HSub.refl _ | refine HSub.cons (by repeat (first | exact Take.here _ | apply Take.next | apply Take.app)) ?_ | refine HSub.app (by repeat (first | with_reducible exact TakeS.here _ | apply TakeS.next | apply TakeS.app)) ?_ | exact HSub.nil _ | exact HSub.refl _ | refine HSub.drop ?_ | refine HSub.dropS ?_)))) ?_
    rintro v H' ⟨W3, HB3, O, XO, hB3, hO, hC, rfl⟩
    obtain ⟨Li, hG, rfl⟩ := hC.of_at (k := c) rfl hw
    obtain ⟨ad2, cap2, rfl, _, _⟩ := hO.shape
    have hOid : ∀ t ∈ O, ∃ j : Nat, t.id = (j : Int) ∧ j % N = c := fun t ht => by
      have h1 := List.mem_map_of_mem (f := (·.id)) (List.mem_filter.1 (hG.perm.mem_iff.1 ht)).1
      rw [hTI.ids c w hw] at h1
      obtain ⟨j, e, _, e2⟩ := onCpu_mem.1 h1
      exact ⟨j, e, e2⟩
    have hOl : O.length ≤ 256 := Nat.le_trans hG.len (hB1.lens w hwm)
    have hF := ap_fired (now := now) hG (hd w hwm) (hTI.now w hwm)
    have hlen3 : (apW Ws c a w Li).length ≤ 64 := by rw [List.length_set]; exact hlen64
    have hle3 : ∀ u ∈ apW Ws c a w Li, u.now ≤ 18446744073709551615 := fun u hu => by
      rcases List.mem_or_eq_of_mem_set hu with hu | rfl
      · exact hle u hu
      · have := hle w hwm
        show max w.now a ≤ _; omega
    have h3 : (lateB a w = true ∧ now < a) ∨ (lateB a w = false ∧ now ≤ a) ∨ (lateB a w = false ∧ a < now) := by
      cases hb : lateB a w with
      | true =>
        obtain ⟨t, ht, h⟩ := lateB_iff.1 hb
        have h4 := hd w hwm t ht
        rw [hTI.now w hwm] at h4
        exact .inl ⟨rfl, by omega⟩
      | false => rcases Nat.lt_or_ge a (now) with h | h; exact .inr (.inr ⟨rfl, h⟩); exact .inr (.inl ⟨rfl, h⟩)
    refine W_assign rfl rfl ?_
    refine W_nil ?_
    refine W_seq ?_
    refine W_sr ?_
    rcases h3 with ⟨hb, hna⟩ | ⟨hb, hna⟩ | ⟨hb, hna⟩
    · skip
      rw [hb, decide_eq_true (by omega : ((now : Nat) : Int) < (a : Int))] at hF
      have hO0 := of_decide_eq_true hF
      refine W_move rfl rfl ?_
      refine W_len rfl ty35 rfl rfl ?_
      refine W_bin rfl rfl b_gtr rfl ?_
      first | rw [decide_eq_true (by omega)] | rw [decide_eq_false (by omega)]
      refine W_move rfl rfl ?_
      refine W_move rfl rfl ?_
      refine W_callp (.cons rfl (.cons rfl .nil)) Tryd.call25 rfl trivial (has_pure (m := lateM Ws a Ws.length) (i := (c : Int)) (lateM_lt _ _ _)) ?_
      rw [late_has hw hlen64, hb]
      refine W_move rfl rfl ?_
      refine W_gyes rfl rfl ?_
      refine W_move rfl rfl ?_
      refine W_gyes rfl rfl ?_
      refine W_move rfl rfl ?_
      refine W_gyes rfl rfl ?_
      refine W_bin rfl rfl b_gtr rfl ?_
      first | rw [decide_eq_true (by omega)] | rw [decide_eq_false (by omega)]
      first | refine W_pickt rfl rfl rfl ?_ | refine W_pickf rfl rfl rfl ?_
      refine W_bne rfl rfl ty4 rfl ?_
      refine W_move rfl rfl ?_
      refine W_gyes rfl rfl ?_
      refine W_move rfl rfl ?_
      refine W_gyes rfl rfl ?_
      refine W_move rfl rfl ?_
      refine W_gyes rfl rfl ?_
      refine W_bin rfl rfl b_geq rfl ?_
      first | rw [decide_eq_true (by omega)] | rw [decide_eq_false (by omega)]
      refine W_gyes rfl rfl ?_
      refine W_move rfl rfl ?_
      refine W_gyes rfl rfl ?_
      refine W_move rfl rfl ?_
      refine W_gyes rfl rfl ?_
      refine W_move rfl rfl ?_
      refine W_gyes rfl rfl ?_
      refine W_call (.cons rfl (.cons rfl .nil)) Tryd.call23 rfl (LCalls.hsub (LateB_L (a := a) hB3 hlen3 hle3 hT (H := XO ++ H)) (by first | exact hsubI | (repeat (first | with_reducible exact HSub.refl _ | refine HSub.cons (by repeat (first | exact Take.here _ | apply Take.next | apply Take.app)) ?_ | refine HSub.app (by repeat (first | with_reducible exact TakeS.here _ | apply TakeS.next | apply TakeS.app)) ?_ | exact HSub.nil _ | exact HSub.refl _ | refine HSub.drop ?_ | refine HSub.dropS ?_)))) ?_
      rintro v H' ⟨HBx, hBx, rfl, rfl⟩
      rw [show (apW Ws c a w Li).length = Ws.length from List.length_set, late_without hw hlen64 (fun t ht => (ap_left hG t ht).1)]
      refine W_gyes rfl rfl ?_
      refine W_move rfl rfl ?_
      refine W_gyes rfl rfl ?_
      refine W_move rfl rfl ?_
      refine W_gyes rfl rfl ?_
      refine W_buildSlice ty35 ty3 (.cons rfl rfl rfl rfl rfl .nil) rfl rfl rfl rfl rfl rfl rfl (fun b99 => ?_)
      refine W_gyes rfl rfl ?_
      refine W_callq (.cons rfl (.cons rfl .nil)) Tryd.call26 rfl (out_q (m := lateM Ws a Ws.length) (l := [(c : Int)]) (lateM_lt _ _ _) (show 1 ≤ 4611686018427387904 by decide) (Holds.own (b := b99) (by repeat (first | exact List.mem_cons_self | apply List.mem_cons_of_mem | apply List.mem_append_right)))) ?_
      refine W_gyes rfl rfl ?_
      refine W_bin rfl rfl b_neq rfl ?_
      rw [decide_eq_false (by simp)]
      refine W_gyes rfl rfl ?_
      first | refine W_pickt rfl rfl rfl ?_ | refine W_pickf rfl rfl rfl ?_
      first | refine W_pickt rfl rfl rfl ?_ | refine W_pickf rfl rfl rfl ?_
      refine W_nil ?_
      refine W_condF rfl rfl ?_
      refine W_skip ?_
      refine W_seq ?_
      refine W_sr ?_
      refine W_hsub (H' := XO ++ (HBx ++ H)) (by first | exact hsubI | (repeat (first | with_reducible exact HSub.refl _ | refine HSub.cons (by repeat (first | exact Take.here _ | apply Take.next | apply Take.app)) ?_ | refine HSub.app (by repeat (first | with_reducible exact TakeS.here _ | apply TakeS.next | apply TakeS.app)) ?_ | exact HSub.nil _ | exact HSub.refl _ | refine HSub.drop ?_ | refine HSub.dropS ?_))) ?_
      have hOr : Holds w0 (XO ++ (HBx ++ H)) ad2 ((O.map (·.id)).map (Value.int .i64)) := OwnS.holds hO (fun p hp => List.mem_append_left _ hp)
      refine W_assign rfl rfl ?_
      refine W_nil ?_
      refine W_block ?_
      refine W_loopC (X := Nat) [(0, _), (1, _), (3, _), (4, _), (11, _), (13, _), (18, _)] (fun (x : Nat) => [(19, .int .i64 (x : Int))]) (fun _ => _) (fun (x : Nat) => XO ++ (HBx ++ H)) (fun (x : Nat) => x ≤ O.length) (fun (x : Nat) => O.length - x) 0 (Nat.zero_le _) (sub_cons rfl (sub_cons rfl (sub_cons rfl (sub_cons rfl (sub_cons rfl (sub_cons rfl (sub_cons rfl (sub_nil _)))))))) (sub_cons rfl (sub_nil _)) rfl (.refl _) ?_
      intro q hq
      simp only [List.cons_append, List.nil_append]
      refine W_seq ?_
      refine W_sr ?_
      refine W_move rfl rfl ?_
      refine W_move rfl rfl ?_
      refine W_len rfl ty35 rfl rfl ?_
      refine W_bin rfl rfl b_lss rfl ?_
      refine W_nil ?_
      refine W_condPS (p := (q : Int) < (O.length : Int)) rfl (by simp) (fun r1 => ?_) (fun r1 => ?_)
      · skip
        refine W_skip ?_
        refine W_seq ?_
        refine W_block ?_
        refine W_sr ?_
        obtain ⟨tq, htq⟩ : ∃ tq, O[q]? = some tq := ⟨_, List.getElem?_eq_getElem (by omega)⟩
        obtain ⟨q0_, p0_, rfl, hcq⟩ := hOr.at (i := q) (v := .int .i64 tq.id) (by rw [List.getElem?_map, List.getElem?_map, htq]; rfl)
        obtain ⟨m, hmid, hmc⟩ := hOid tq (List.mem_of_getElem? htq)
        rw [hmid] at hcq
        refine W_move rfl rfl ?_
        refine W_move rfl rfl ?_
        refine W_indexAddr (j := q) rfl rfl ty35 ty3 rfl (by omega) rfl rfl ?_
        refine W_load (v := .int .i64 ((m : Nat) : Int)) rfl ty3 rfl (by rw [Nat.mul_one]; exact hcq.up (by first | exact hsubI | (repeat (first | with_reducible exact HSub.refl _ | refine HSub.cons (by repeat (first | exact Take.here _ | apply Take.next | apply Take.app)) ?_ | refine HSub.app (by repeat (first | with_reducible exact TakeS.here _ | apply TakeS.next | apply TakeS.app)) ?_ | exact HSub.nil _ | exact HSub.refl _ | refine HSub.drop ?_ | refine HSub.dropS ?_)))) rfl ?_
        refine W_move rfl rfl ?_
        refine W_bin rfl rfl (b_rem (by omega) (m := ((m % N : Nat) : Int)) (tmN m N)) rfl ?_
        refine W_move rfl rfl ?_
        refine W_bin rfl rfl b_neq rfl ?_
        rw [decide_eq_false (by omega)]
        refine W_nil ?_
        refine W_condF rfl rfl ?_
        refine W_skip ?_
        refine W_blk ?_
        refine W_region ?_
        refine W_move rfl rfl ?_
        refine W_bin rfl rfl (b_add (m := ((q + 1 : Nat) : Int)) ((i64w (by omega)).trans (by omega))) rfl ?_
        refine W_assign rfl rfl ?_
        refine W_nil ?_
        refine W_again (q + 1) (by omega) (by omega) (sub_cons rfl (sub_cons rfl (sub_cons rfl (sub_cons rfl (sub_cons rfl (sub_cons rfl (sub_cons rfl (sub_cons rfl (sub_nil _))))))))) rfl (.refl _)
      · skip
        refine W_exit rfl ?_
        refine W_seq ?_
        refine W_sr ?_
        refine W_assign rfl rfl ?_
        refine W_nil ?_
        refine W_block ?_
        refine W_loopC (X := (Nat × Heap)) [(0, _), (1, _), (3, _), (4, _), (11, _), (13, _)] (fun (x : (Nat × Heap)) => [(20, .int .i64 (x.1 : Int))]) (fun _ => _) (fun (x : (Nat × Heap)) => XO ++ (x.2 ++ H)) (fun (x : (Nat × Heap)) => x.1 ≤ n ∧ BankH bb (apW Ws c a w Li) x.2) (fun (x : (Nat × Heap)) => n - x.1) (0, HBx) ⟨Nat.zero_le _, hBx⟩ (sub_cons rfl (sub_cons rfl (sub_cons rfl (sub_cons rfl (sub_cons rfl (sub_cons rfl (sub_nil _))))))) (sub_cons rfl (sub_nil _)) rfl (.refl _) ?_
        rintro ⟨i, HBi⟩ ⟨hi2, hBi⟩
        dsimp only at hi2 hBi ⊢
        simp only [List.cons_append, List.nil_append]
        refine W_seq ?_
        refine W_sr ?_
        refine W_move rfl rfl ?_
        refine W_move rfl rfl ?_
        by_cases hin : (i : Int) < (n : Int)
        · skip
          refine W_bin rfl rfl b_lss rfl ?_
          rw [decide_eq_true hin]
          refine W_move rfl rfl ?_
          refine W_gyes rfl rfl ?_
          refine W_move rfl rfl ?_
          refine W_gyes rfl rfl ?_
          refine W_bin rfl rfl b_neq rfl ?_
          first | rw [decide_eq_true (by omega)] | rw [decide_eq_false (by omega)]
          first | refine W_pickt rfl rfl rfl ?_ | refine W_pickf rfl rfl rfl ?_
          refine W_nil ?_
          refine W_condT rfl rfl ?_
          refine W_skip ?_
          refine W_seq ?_
          refine W_block ?_
          refine W_sr ?_
          refine W_move rfl rfl ?_
          refine W_move rfl rfl ?_
          refine W_call (.cons rfl (.cons rfl .nil)) Tryd.call27 rfl (LCalls.hsub (FindB_L (id := (i : Int)) hBi hlen3 (H := XO ++ H)) (by first | exact hsubI | (repeat (first | with_reducible exact HSub.refl _ | refine HSub.cons (by repeat (first | exact Take.here _ | apply Take.next | apply Take.app)) ?_ | refine HSub.app (by repeat (first | with_reducible exact TakeS.here _ | apply TakeS.next | apply TakeS.app)) ?_ | exact HSub.nil _ | exact HSub.refl _ | refine HSub.drop ?_ | refine HSub.dropS ?_)))) ?_
          rintro v H' ⟨HBf, hBf, rfl, rfl⟩
          have hnd : (Li.map (·.id)).Nodup := by
            obtain ⟨HU, hU⟩ := hBi.wheelOf (w := ⟨w.bw, max w.now a, Li, w.turn⟩) (List.mem_of_getElem? (List.getElem?_set_self (List.getElem?_eq_some_iff.1 hw).1))
            exact hU.ids.1
          rcases ap_find3 hTI (by omega) hw hG hnd (i := i) (by omega) with ⟨s, hfv, hie⟩ | ⟨s, hfv, hie, hsd⟩ | ⟨hfv, hie⟩
          · skip
            rw [hfv]
            refine W_move rfl rfl ?_
            refine W_extract rfl rfl rfl ?_
            refine W_extract rfl rfl rfl ?_
            refine W_extract rfl rfl rfl ?_
            refine W_alloc (l := zSpot.v) ty27 rfl rfl (fun b22 => ?_)
            refine W_assign rfl rfl ?_
            refine W_storeA (l' := s.v) rfl rfl ty27 rfl rfl (b := b22) (by repeat (first | exact List.mem_cons_self | apply List.mem_cons_of_mem | apply List.mem_append_right)) (by exact Nat.le_refl 4) rfl (by repeat (first | exact Upd.head _ | apply Upd.tail | apply Upd.app)) ?_
            refine W_assign rfl rfl ?_
            refine W_nil ?_
            refine W_sr ?_
            refine W_move rfl rfl ?_
            refine W_move rfl rfl ?_
            refine W_bin rfl rfl (b_rem (by omega) (m := ((i % N : Nat) : Int)) (tmN i N)) rfl ?_
            refine W_move rfl rfl ?_
            refine W_bin rfl rfl b_neq rfl ?_
            first | rw [decide_eq_true (by omega)] | rw [decide_eq_false (by omega)]
            refine W_move rfl rfl ?_
            refine W_gyes rfl rfl ?_
            refine W_move rfl rfl ?_
            refine W_gyes rfl rfl ?_
            refine W_not rfl rfl ?_
            first | refine W_pickt rfl rfl rfl ?_ | refine W_pickf rfl rfl rfl ?_
            refine W_move rfl rfl ?_
            refine W_gyes rfl rfl ?_
            refine W_move rfl rfl ?_
            refine W_gyes rfl rfl ?_
            refine W_move rfl rfl ?_
            refine W_gyes rfl rfl ?_
            refine W_move rfl rfl ?_
            refine W_gyes rfl rfl ?_
            refine W_move rfl rfl ?_
            refine W_gyes rfl rfl ?_
            refine W_move rfl rfl ?_
            refine W_gyes rfl rfl ?_
            refine W_bin rfl rfl (b_rem (by omega) (m := ((i % N : Nat) : Int)) (tmN i N)) rfl ?_
            refine W_gyes rfl rfl ?_
            refine W_bin rfl rfl b_neq rfl ?_
            rw [decide_eq_false (by simp)]
            refine W_gyes rfl rfl ?_
            refine W_move rfl rfl ?_
            refine W_gyes rfl rfl ?_
            refine W_move rfl rfl ?_
            refine W_gyes rfl rfl ?_
            refine W_move rfl rfl ?_
            refine W_gyes rfl rfl ?_
            refine W_bin rfl rfl b_eql rfl ?_
            first | rw [decide_eq_true (by omega)] | rw [decide_eq_false (by omega)]
            refine W_gyes rfl rfl ?_
            refine W_move rfl rfl ?_
            refine W_gno rfl rfl rfl ?_
            refine W_gno rfl rfl rfl ?_
            refine W_gno rfl rfl rfl ?_
            refine W_gno rfl rfl rfl ?_
            refine W_gyes rfl rfl ?_
            first | refine W_pickt rfl rfl rfl ?_ | refine W_pickf rfl rfl rfl ?_
            refine W_gyes rfl rfl ?_
            refine W_move rfl rfl ?_
            refine W_gno rfl rfl rfl ?_
            refine W_gno rfl rfl rfl ?_
            refine W_gno rfl rfl rfl ?_
            refine W_gyes rfl rfl ?_
            first | refine W_pickt rfl rfl rfl ?_ | refine W_pickf rfl rfl rfl ?_
            refine W_gyes rfl rfl ?_
            first | refine W_pickt rfl rfl rfl ?_ | refine W_pickf rfl rfl rfl ?_
            refine W_gyes rfl rfl ?_
            first | refine W_pickt rfl rfl rfl ?_ | refine W_pickf rfl rfl rfl ?_
            first | refine W_pickt rfl rfl rfl ?_ | refine W_pickf rfl rfl rfl ?_
            refine W_nil ?_
            refine W_condF rfl rfl ?_
            refine W_skip ?_
            refine W_blk ?_
            refine W_region ?_
            refine W_move rfl rfl ?_
            refine W_bin rfl rfl (b_add (m := ((i + 1 : Nat) : Int)) ((i64w (by omega)).trans (by omega))) rfl ?_
            refine W_assign rfl rfl ?_
            refine W_nil ?_
            refine W_again (i + 1, HBf) ⟨by show i + 1 ≤ n; omega, hBf⟩ (by show n - (i + 1) < n - i; omega) (sub_cons rfl (sub_cons rfl (sub_cons rfl (sub_cons rfl (sub_cons rfl (sub_cons rfl (sub_cons rfl (sub_nil _)))))))) rfl (by first | exact hsubI | (repeat (first | with_reducible exact HSub.refl _ | refine HSub.cons (by repeat (first | exact Take.here _ | apply Take.next | apply Take.app)) ?_ | refine HSub.app (by repeat (first | with_reducible exact TakeS.here _ | apply TakeS.next | apply TakeS.app)) ?_ | exact HSub.nil _ | exact HSub.refl _ | refine HSub.drop ?_ | refine HSub.dropS ?_)))
          · skip
            rw [hfv]
            refine W_move rfl rfl ?_
            refine W_extract rfl rfl rfl ?_
            refine W_extract rfl rfl rfl ?_
            refine W_extract rfl rfl rfl ?_
            refine W_alloc (l := zSpot.v) ty27 rfl rfl (fun b22 => ?_)
            refine W_assign rfl rfl ?_
            refine W_storeA (l' := s.v) rfl rfl ty27 rfl rfl (b := b22) (by repeat (first | exact List.mem_cons_self | apply List.mem_cons_of_mem | apply List.mem_append_right)) (by exact Nat.le_refl 4) rfl (by repeat (first | exact Upd.head _ | apply Upd.tail | apply Upd.app)) ?_
            refine W_assign rfl rfl ?_
            refine W_nil ?_
            refine W_sr ?_
            refine W_move rfl rfl ?_
            refine W_move rfl rfl ?_
            refine W_bin rfl rfl (b_rem (by omega) (m := ((i % N : Nat) : Int)) (tmN i N)) rfl ?_
            refine W_move rfl rfl ?_
            refine W_bin rfl rfl b_neq rfl ?_
            first | rw [decide_eq_true (by omega)] | rw [decide_eq_false (by omega)]
            refine W_move rfl rfl ?_
            refine W_gno rfl rfl rfl ?_
            refine W_gno rfl rfl rfl ?_
            first | refine W_pickt rfl rfl rfl ?_ | refine W_pickf rfl rfl rfl ?_
            refine W_move rfl rfl ?_
            refine W_gyes rfl rfl ?_
            refine W_move rfl rfl ?_
            refine W_gyes rfl rfl ?_
            refine W_move rfl rfl ?_
            refine W_gyes rfl rfl ?_
            refine W_move rfl rfl ?_
            refine W_gyes rfl rfl ?_
            refine W_move rfl rfl ?_
            refine W_gyes rfl rfl ?_
            refine W_move rfl rfl ?_
            refine W_gyes rfl rfl ?_
            refine W_bin rfl rfl (b_rem (by omega) (m := ((i % N : Nat) : Int)) (tmN i N)) rfl ?_
            refine W_gyes rfl rfl ?_
            refine W_bin rfl rfl b_neq rfl ?_
            rw [decide_eq_false (by simp)]
            refine W_gyes rfl rfl ?_
            refine W_move rfl rfl ?_
            refine W_gyes rfl rfl ?_
            refine W_move rfl rfl ?_
            refine W_gyes rfl rfl ?_
            refine W_move rfl rfl ?_
            refine W_gyes rfl rfl ?_
            refine W_bin rfl rfl b_eql rfl ?_
            first | rw [decide_eq_true (by omega)] | rw [decide_eq_false (by omega)]
            refine W_gyes rfl rfl ?_
            refine W_move rfl rfl ?_
            refine W_gyes rfl rfl ?_
            refine W_fieldAddr rfl fld27_3 (by decide) rfl ?_
            refine W_gyes rfl rfl ?_
            refine W_load (v := .int .u64 ((s.due : Nat) : Int)) rfl ty22 rfl (Cell.own (b := b22) (by repeat (first | exact List.mem_cons_self | apply List.mem_cons_of_mem | apply List.mem_append_right)) rfl) rfl ?_
            refine W_gyes rfl rfl ?_
            refine W_move rfl rfl ?_
            refine W_gyes rfl rfl ?_
            refine W_bin rfl rfl b_leq rfl ?_
            first | rw [decide_eq_true (by omega)] | rw [decide_eq_false (by omega)]
            refine W_gyes rfl rfl ?_
            first | refine W_pickt rfl rfl rfl ?_ | refine W_pickf rfl rfl rfl ?_
            refine W_gyes rfl rfl ?_
            refine W_move rfl rfl ?_
            refine W_gno rfl rfl rfl ?_
            refine W_gno rfl rfl rfl ?_
            refine W_gno rfl rfl rfl ?_
            refine W_gyes rfl rfl ?_
            first | refine W_pickt rfl rfl rfl ?_ | refine W_pickf rfl rfl rfl ?_
            refine W_gyes rfl rfl ?_
            first | refine W_pickt rfl rfl rfl ?_ | refine W_pickf rfl rfl rfl ?_
            refine W_gyes rfl rfl ?_
            first | refine W_pickt rfl rfl rfl ?_ | refine W_pickf rfl rfl rfl ?_
            first | refine W_pickt rfl rfl rfl ?_ | refine W_pickf rfl rfl rfl ?_
            refine W_nil ?_
            refine W_condF rfl rfl ?_
            refine W_skip ?_
            refine W_blk ?_
            refine W_region ?_
            refine W_move rfl rfl ?_
            refine W_bin rfl rfl (b_add (m := ((i + 1 : Nat) : Int)) ((i64w (by omega)).trans (by omega))) rfl ?_
            refine W_assign rfl rfl ?_
            refine W_nil ?_
            refine W_again (i + 1, HBf) ⟨by show i + 1 ≤ n; omega, hBf⟩ (by show n - (i + 1) < n - i; omega) (sub_cons rfl (sub_cons rfl (sub_cons rfl (sub_cons rfl (sub_cons rfl (sub_cons rfl (sub_cons rfl (sub_nil _)))))))) rfl (by first | exact hsubI | (repeat (first | with_reducible exact HSub.refl _ | refine HSub.cons (by repeat (first | exact Take.here _ | apply Take.next | apply Take.app)) ?_ | refine HSub.app (by repeat (first | with_reducible exact TakeS.here _ | apply TakeS.next | apply TakeS.app)) ?_ | exact HSub.nil _ | exact HSub.refl _ | refine HSub.drop ?_ | refine HSub.dropS ?_)))
          · skip
            rw [hfv]
            refine W_move rfl rfl ?_
            refine W_extract rfl rfl rfl ?_
            refine W_extract rfl rfl rfl ?_
            refine W_extract rfl rfl rfl ?_
            refine W_alloc (l := zSpot.v) ty27 rfl rfl (fun b22 => ?_)
            refine W_assign rfl rfl ?_
            refine W_storeA (l' := zSpot.v) rfl rfl ty27 rfl rfl (b := b22) (by repeat (first | exact List.mem_cons_self | apply List.mem_cons_of_mem | apply List.mem_append_right)) (by exact Nat.le_refl 4) rfl (by repeat (first | exact Upd.head _ | apply Upd.tail | apply Upd.app)) ?_
            refine W_assign rfl rfl ?_
            refine W_nil ?_
            refine W_sr ?_
            refine W_move rfl rfl ?_
            refine W_move rfl rfl ?_
            refine W_bin rfl rfl (b_rem (by omega) (m := ((i % N : Nat) : Int)) (tmN i N)) rfl ?_
            refine W_move rfl rfl ?_
            refine W_bin rfl rfl b_neq rfl ?_
            first | rw [decide_eq_true (by omega)] | rw [decide_eq_false (by omega)]
            refine W_move rfl rfl ?_
            refine W_gno rfl rfl rfl ?_
            refine W_gno rfl rfl rfl ?_
            first | refine W_pickt rfl rfl rfl ?_ | refine W_pickf rfl rfl rfl ?_
            refine W_move rfl rfl ?_
            refine W_gyes rfl rfl ?_
            refine W_move rfl rfl ?_
            refine W_gyes rfl rfl ?_
            refine W_move rfl rfl ?_
            refine W_gno rfl rfl rfl ?_
            refine W_gno rfl rfl rfl ?_
            refine W_gno rfl rfl rfl ?_
            refine W_gno rfl rfl rfl ?_
            refine W_gno rfl rfl rfl ?_
            refine W_gno rfl rfl rfl ?_
            refine W_gnou rfl rfl rfl ?_
            refine W_gnou rfl rfl rfl ?_
            refine W_gnou rfl rfl rfl ?_
            refine W_gnou rfl rfl rfl ?_
            refine W_gnou rfl rfl rfl ?_
            refine W_gnou rfl rfl rfl ?_
            refine W_gnou rfl rfl rfl ?_
            refine W_gnou rfl rfl rfl ?_
            refine W_gnou rfl rfl rfl ?_
            refine W_gnou rfl rfl rfl ?_
            refine W_gnou rfl rfl rfl ?_
            refine W_gnou rfl rfl rfl ?_
            refine W_gnou rfl rfl rfl ?_
            refine W_gnou rfl rfl rfl ?_
            refine W_gno rfl rfl rfl ?_
            refine W_gyes rfl rfl ?_
            first | refine W_pickt rfl rfl rfl ?_ | refine W_pickf rfl rfl rfl ?_
            first | refine W_pickt rfl rfl rfl ?_ | refine W_pickf rfl rfl rfl ?_
            refine W_nil ?_
            refine W_condF rfl rfl ?_
            refine W_skip ?_
            refine W_blk ?_
            refine W_region ?_
            refine W_move rfl rfl ?_
            refine W_bin rfl rfl (b_add (m := ((i + 1 : Nat) : Int)) ((i64w (by omega)).trans (by omega))) rfl ?_
            refine W_assign rfl rfl ?_
            refine W_nil ?_
            refine W_again (i + 1, HBf) ⟨by show i + 1 ≤ n; omega, hBf⟩ (by show n - (i + 1) < n - i; omega) (sub_cons rfl (sub_cons rfl (sub_cons rfl (sub_cons rfl (sub_cons rfl (sub_cons rfl (sub_cons rfl (sub_nil _)))))))) rfl (by first | exact hsubI | (repeat (first | with_reducible exact HSub.refl _ | refine HSub.cons (by repeat (first | exact Take.here _ | apply Take.next | apply Take.app)) ?_ | refine HSub.app (by repeat (first | with_reducible exact TakeS.here _ | apply TakeS.next | apply TakeS.app)) ?_ | exact HSub.nil _ | exact HSub.refl _ | refine HSub.drop ?_ | refine HSub.dropS ?_)))
        · skip
          refine W_bin rfl rfl b_lss rfl ?_
          rw [decide_eq_false hin]
          refine W_move rfl rfl ?_
          refine W_gno rfl rfl rfl ?_
          refine W_gno rfl rfl rfl ?_
          first | refine W_pickt rfl rfl rfl ?_ | refine W_pickf rfl rfl rfl ?_
          refine W_nil ?_
          refine W_condF rfl rfl ?_
          refine W_exit rfl ?_
          refine W_sr ?_
          refine W_callp .nil Tryd.call28 rfl hT knownB_pure ?_
          refine W_assign rfl rfl ?_
          refine W_nil ?_
          refine W_ret1m (H2 := H) Tryd.results6 rfl (.nil _) (by first | exact hsubI | (repeat (first | with_reducible exact HSub.refl _ | refine HSub.cons (by repeat (first | exact Take.here _ | apply Take.next | apply Take.app)) ?_ | refine HSub.app (by repeat (first | with_reducible exact TakeS.here _ | apply TakeS.next | apply TakeS.app)) ?_ | exact HSub.nil _ | exact HSub.refl _ | refine HSub.drop ?_ | refine HSub.dropS ?_))) ?_
          exact ⟨rfl, rfl⟩
    · skip
      rw [hb] at hF
      have hO0 := of_decide_eq_false hF
      refine W_move rfl rfl ?_
      refine W_len rfl ty35 rfl rfl ?_
      refine W_bin rfl rfl b_gtr rfl ?_
      first | rw [decide_eq_true (by omega)] | rw [decide_eq_false (by omega)]
      refine W_move rfl rfl ?_
      refine W_move rfl rfl ?_
      refine W_callp (.cons rfl (.cons rfl .nil)) Tryd.call25 rfl trivial (has_pure (m := lateM Ws a Ws.length) (i := (c : Int)) (lateM_lt _ _ _)) ?_
      rw [late_has hw hlen64, hb]
      refine W_move rfl rfl ?_
      refine W_gno rfl rfl rfl ?_
      refine W_gno rfl rfl rfl ?_
      refine W_gno rfl rfl rfl ?_
      first | refine W_pickt rfl rfl rfl ?_ | refine W_pickf rfl rfl rfl ?_
      refine W_bne rfl rfl ty4 rfl ?_
      refine W_move rfl rfl ?_
      refine W_gyes rfl rfl ?_
      refine W_move rfl rfl ?_
      refine W_gyes rfl rfl ?_
      refine W_move rfl rfl ?_
      refine W_gyes rfl rfl ?_
      refine W_bin rfl rfl b_geq rfl ?_
      first | rw [decide_eq_true (by omega)] | rw [decide_eq_false (by omega)]
      refine W_gyes rfl rfl ?_
      refine W_move rfl rfl ?_
      refine W_gyes rfl rfl ?_
      refine W_move rfl rfl ?_
      refine W_gyes rfl rfl ?_
      refine W_move rfl rfl ?_
      refine W_gyes rfl rfl ?_
      refine W_call (.cons rfl (.cons rfl .nil)) Tryd.call23 rfl (LCalls.hsub (LateB_L (a := a) hB3 hlen3 hle3 hT (H := XO ++ H)) (by first | exact hsubI | (repeat (first | with_reducible exact HSub.refl _ | refine HSub.cons (by repeat (first | exact Take.here _ | apply Take.next | apply Take.app)) ?_ | refine HSub.app (by repeat (first | with_reducible exact TakeS.here _ | apply TakeS.next | apply TakeS.app)) ?_ | exact HSub.nil _ | exact HSub.refl _ | refine HSub.drop ?_ | refine HSub.dropS ?_)))) ?_
      rintro v H' ⟨HBx, hBx, rfl, rfl⟩
      rw [show (apW Ws c a w Li).length = Ws.length from List.length_set, late_without hw hlen64 (fun t ht => (ap_left hG t ht).1)]
      refine W_gyes rfl rfl ?_
      refine W_move rfl rfl ?_
      refine W_gyes rfl rfl ?_
      refine W_move rfl rfl ?_
      refine W_gyes rfl rfl ?_
      refine W_buildSlice ty35 ty3 (.cons rfl rfl rfl rfl rfl .nil) rfl rfl rfl rfl rfl rfl rfl (fun b99 => ?_)
      refine W_gyes rfl rfl ?_
      refine W_callq (.cons rfl (.cons rfl .nil)) Tryd.call26 rfl (out_q (m := lateM Ws a Ws.length) (l := [(c : Int)]) (lateM_lt _ _ _) (show 1 ≤ 4611686018427387904 by decide) (Holds.own (b := b99) (by repeat (first | exact List.mem_cons_self | apply List.mem_cons_of_mem | apply List.mem_append_right)))) ?_
      refine W_gyes rfl rfl ?_
      refine W_bin rfl rfl b_neq rfl ?_
      rw [decide_eq_false (by simp)]
      refine W_gyes rfl rfl ?_
      first | refine W_pickt rfl rfl rfl ?_ | refine W_pickf rfl rfl rfl ?_
      first | refine W_pickt rfl rfl rfl ?_ | refine W_pickf rfl rfl rfl ?_
      refine W_nil ?_
      refine W_condF rfl rfl ?_
      refine W_skip ?_
      refine W_seq ?_
      refine W_sr ?_
      refine W_hsub (H' := XO ++ (HBx ++ H)) (by first | exact hsubI | (repeat (first | with_reducible exact HSub.refl _ | refine HSub.cons (by repeat (first | exact Take.here _ | apply Take.next | apply Take.app)) ?_ | refine HSub.app (by repeat (first | with_reducible exact TakeS.here _ | apply TakeS.next | apply TakeS.app)) ?_ | exact HSub.nil _ | exact HSub.refl _ | refine HSub.drop ?_ | refine HSub.dropS ?_))) ?_
      have hOr : Holds w0 (XO ++ (HBx ++ H)) ad2 ((O.map (·.id)).map (Value.int .i64)) := OwnS.holds hO (fun p hp => List.mem_append_left _ hp)
      refine W_assign rfl rfl ?_
      refine W_nil ?_
      refine W_block ?_
      refine W_loopC (X := Nat) [(0, _), (1, _), (3, _), (4, _), (11, _), (13, _), (18, _)] (fun (x : Nat) => [(19, .int .i64 (x : Int))]) (fun _ => _) (fun (x : Nat) => XO ++ (HBx ++ H)) (fun (x : Nat) => x ≤ O.length) (fun (x : Nat) => O.length - x) 0 (Nat.zero_le _) (sub_cons rfl (sub_cons rfl (sub_cons rfl (sub_cons rfl (sub_cons rfl (sub_cons rfl (sub_cons rfl (sub_nil _)))))))) (sub_cons rfl (sub_nil _)) rfl (.refl _) ?_
      intro q hq
      simp only [List.cons_append, List.nil_append]
      refine W_seq ?_
      refine W_sr ?_
      refine W_move rfl rfl ?_
      refine W_move rfl rfl ?_
      refine W_len rfl ty35 rfl rfl ?_
      refine W_bin rfl rfl b_lss rfl ?_
      refine W_nil ?_
      refine W_condPS (p := (q : Int) < (O.length : Int)) rfl (by simp) (fun r1 => ?_) (fun r1 => ?_)
      · skip
        refine W_skip ?_
        refine W_seq ?_
        refine W_block ?_
        refine W_sr ?_
        obtain ⟨tq, htq⟩ : ∃ tq, O[q]? = some tq := ⟨_, List.getElem?_eq_getElem (by omega)⟩
        obtain ⟨q0_, p0_, rfl, hcq⟩ := hOr.at (i := q) (v := .int .i64 tq.id) (by rw [List.getElem?_map, List.getElem?_map, htq]; rfl)
        obtain ⟨m, hmid, hmc⟩ := hOid tq (List.mem_of_getElem? htq)
        rw [hmid] at hcq
        refine W_move rfl rfl ?_
        refine W_move rfl rfl ?_
        refine W_indexAddr (j := q) rfl rfl ty35 ty3 rfl (by omega) rfl rfl ?_
        refine W_load (v := .int .i64 ((m : Nat) : Int)) rfl ty3 rfl (by rw [Nat.mul_one]; exact hcq.up (by first | exact hsubI | (repeat (first | with_reducible exact HSub.refl _ | refine HSub.cons (by repeat (first | exact Take.here _ | apply Take.next | apply Take.app)) ?_ | refine HSub.app (by repeat (first | with_reducible exact TakeS.here _ | apply TakeS.next | apply TakeS.app)) ?_ | exact HSub.nil _ | exact HSub.refl _ | refine HSub.drop ?_ | refine HSub.dropS ?_)))) rfl ?_
        refine W_move rfl rfl ?_
        refine W_bin rfl rfl (b_rem (by omega) (m := ((m % N : Nat) : Int)) (tmN m N)) rfl ?_
        refine W_move rfl rfl ?_
        refine W_bin rfl rfl b_neq rfl ?_
        rw [decide_eq_false (by omega)]
        refine W_nil ?_
        refine W_condF rfl rfl ?_
        refine W_skip ?_
        refine W_blk ?_
        refine W_region ?_
        refine W_move rfl rfl ?_
        refine W_bin rfl rfl (b_add (m := ((q + 1 : Nat) : Int)) ((i64w (by omega)).trans (by omega))) rfl ?_
        refine W_assign rfl rfl ?_
        refine W_nil ?_
        refine W_again (q + 1) (by omega) (by omega) (sub_cons rfl (sub_cons rfl (sub_cons rfl (sub_cons rfl (sub_cons rfl (sub_cons rfl (sub_cons rfl (sub_cons rfl (sub_nil _))))))))) rfl (.refl _)
      · skip
        refine W_exit rfl ?_
        refine W_seq ?_
        refine W_sr ?_
        refine W_assign rfl rfl ?_
        refine W_nil ?_
        refine W_block ?_
        refine W_loopC (X := (Nat × Heap)) [(0, _), (1, _), (3, _), (4, _), (11, _), (13, _)] (fun (x : (Nat × Heap)) => [(20, .int .i64 (x.1 : Int))]) (fun _ => _) (fun (x : (Nat × Heap)) => XO ++ (x.2 ++ H)) (fun (x : (Nat × Heap)) => x.1 ≤ n ∧ BankH bb (apW Ws c a w Li) x.2) (fun (x : (Nat × Heap)) => n - x.1) (0, HBx) ⟨Nat.zero_le _, hBx⟩ (sub_cons rfl (sub_cons rfl (sub_cons rfl (sub_cons rfl (sub_cons rfl (sub_cons rfl (sub_nil _))))))) (sub_cons rfl (sub_nil _)) rfl (.refl _) ?_
        rintro ⟨i, HBi⟩ ⟨hi2, hBi⟩
        dsimp only at hi2 hBi ⊢
        simp only [List.cons_append, List.nil_append]
        refine W_seq ?_
        refine W_sr ?_
        refine W_move rfl rfl ?_
        refine W_move rfl rfl ?_
        by_cases hin : (i : Int) < (n : Int)
        · skip
          refine W_bin rfl rfl b_lss rfl ?_
          rw [decide_eq_true hin]
          refine W_move rfl rfl ?_
          refine W_gyes rfl rfl ?_
          refine W_move rfl rfl ?_
          refine W_gyes rfl rfl ?_
          refine W_bin rfl rfl b_neq rfl ?_
          first | rw [decide_eq_true (by omega)] | rw [decide_eq_false (by omega)]
          first | refine W_pickt rfl rfl rfl ?_ | refine W_pickf rfl rfl rfl ?_
          refine W_nil ?_
          refine W_condT rfl rfl ?_
          refine W_skip ?_
          refine W_seq ?_
          refine W_block ?_
          refine W_sr ?_
          refine W_move rfl rfl ?_
          refine W_move rfl rfl ?_
          refine W_call (.cons rfl (.cons rfl .nil)) Tryd.call27 rfl (LCalls.hsub (FindB_L (id := (i : Int)) hBi hlen3 (H := XO ++ H)) (by first | exact hsubI | (repeat (first | with_reducible exact HSub.refl _ | refine HSub.cons (by repeat (first | exact Take.here _ | apply Take.next | apply Take.app)) ?_ | refine HSub.app (by repeat (first | with_reducible exact TakeS.here _ | apply TakeS.next | apply TakeS.app)) ?_ | exact HSub.nil _ | exact HSub.refl _ | refine HSub.drop ?_ | refine HSub.dropS ?_)))) ?_
          rintro v H' ⟨HBf, hBf, rfl, rfl⟩
          have hnd : (Li.map (·.id)).Nodup := by
            obtain ⟨HU, hU⟩ := hBi.wheelOf (w := ⟨w.bw, max w.now a, Li, w.turn⟩) (List.mem_of_getElem? (List.getElem?_set_self (List.getElem?_eq_some_iff.1 hw).1))
            exact hU.ids.1
          rcases ap_find3 hTI (by omega) hw hG hnd (i := i) (by omega) with ⟨s, hfv, hie⟩ | ⟨s, hfv, hie, hsd⟩ | ⟨hfv, hie⟩
          · skip
            rw [hfv]
            refine W_move rfl rfl ?_
            refine W_extract rfl rfl rfl ?_
            refine W_extract rfl rfl rfl ?_
            refine W_extract rfl rfl rfl ?_
            refine W_alloc (l := zSpot.v) ty27 rfl rfl (fun b22 => ?_)
            refine W_assign rfl rfl ?_
            refine W_storeA (l' := s.v) rfl rfl ty27 rfl rfl (b := b22) (by repeat (first | exact List.mem_cons_self | apply List.mem_cons_of_mem | apply List.mem_append_right)) (by exact Nat.le_refl 4) rfl (by repeat (first | exact Upd.head _ | apply Upd.tail | apply Upd.app)) ?_
            refine W_assign rfl rfl ?_
            refine W_nil ?_
            refine W_sr ?_
            refine W_move rfl rfl ?_
            refine W_move rfl rfl ?_
            refine W_bin rfl rfl (b_rem (by omega) (m := ((i % N : Nat) : Int)) (tmN i N)) rfl ?_
            refine W_move rfl rfl ?_
            refine W_bin rfl rfl b_neq rfl ?_
            first | rw [decide_eq_true (by omega)] | rw [decide_eq_false (by omega)]
            refine W_move rfl rfl ?_
            refine W_gyes rfl rfl ?_
            refine W_move rfl rfl ?_
            refine W_gyes rfl rfl ?_
            refine W_not rfl rfl ?_
            first | refine W_pickt rfl rfl rfl ?_ | refine W_pickf rfl rfl rfl ?_
            refine W_move rfl rfl ?_
            refine W_gyes rfl rfl ?_
            refine W_move rfl rfl ?_
            refine W_gyes rfl rfl ?_
            refine W_move rfl rfl ?_
            refine W_gyes rfl rfl ?_
            refine W_move rfl rfl ?_
            refine W_gyes rfl rfl ?_
            refine W_move rfl rfl ?_
            refine W_gyes rfl rfl ?_
            refine W_move rfl rfl ?_
            refine W_gyes rfl rfl ?_
            refine W_bin rfl rfl (b_rem (by omega) (m := ((i % N : Nat) : Int)) (tmN i N)) rfl ?_
            refine W_gyes rfl rfl ?_
            refine W_bin rfl rfl b_neq rfl ?_
            rw [decide_eq_false (by simp)]
            refine W_gyes rfl rfl ?_
            refine W_move rfl rfl ?_
            refine W_gyes rfl rfl ?_
            refine W_move rfl rfl ?_
            refine W_gyes rfl rfl ?_
            refine W_move rfl rfl ?_
            refine W_gyes rfl rfl ?_
            refine W_bin rfl rfl b_eql rfl ?_
            first | rw [decide_eq_true (by omega)] | rw [decide_eq_false (by omega)]
            refine W_gyes rfl rfl ?_
            refine W_move rfl rfl ?_
            refine W_gno rfl rfl rfl ?_
            refine W_gno rfl rfl rfl ?_
            refine W_gno rfl rfl rfl ?_
            refine W_gno rfl rfl rfl ?_
            refine W_gyes rfl rfl ?_
            first | refine W_pickt rfl rfl rfl ?_ | refine W_pickf rfl rfl rfl ?_
            refine W_gyes rfl rfl ?_
            refine W_move rfl rfl ?_
            refine W_gno rfl rfl rfl ?_
            refine W_gno rfl rfl rfl ?_
            refine W_gno rfl rfl rfl ?_
            refine W_gyes rfl rfl ?_
            first | refine W_pickt rfl rfl rfl ?_ | refine W_pickf rfl rfl rfl ?_
            refine W_gyes rfl rfl ?_
            first | refine W_pickt rfl rfl rfl ?_ | refine W_pickf rfl rfl rfl ?_
            refine W_gyes rfl rfl ?_
            first | refine W_pickt rfl rfl rfl ?_ | refine W_pickf rfl rfl rfl ?_
            first | refine W_pickt rfl rfl rfl ?_ | refine W_pickf rfl rfl rfl ?_
            refine W_nil ?_
            refine W_condF rfl rfl ?_
            refine W_skip ?_
            refine W_blk ?_
            refine W_region ?_
            refine W_move rfl rfl ?_
            refine W_bin rfl rfl (b_add (m := ((i + 1 : Nat) : Int)) ((i64w (by omega)).trans (by omega))) rfl ?_
            refine W_assign rfl rfl ?_
            refine W_nil ?_
            refine W_again (i + 1, HBf) ⟨by show i + 1 ≤ n; omega, hBf⟩ (by show n - (i + 1) < n - i; omega) (sub_cons rfl (sub_cons rfl (sub_cons rfl (sub_cons rfl (sub_cons rfl (sub_cons rfl (sub_cons rfl (sub_nil _)))))))) rfl (by first | exact hsubI | (repeat (first | with_reducible exact HSub.refl _ | refine HSub.cons (by repeat (first | exact Take.here _ | apply Take.next | apply Take.app)) ?_ | refine HSub.app (by repeat (first | with_reducible exact TakeS.here _ | apply TakeS.next | apply TakeS.app)) ?_ | exact HSub.nil _ | exact HSub.refl _ | refine HSub.drop ?_ | refine HSub.dropS ?_)))
          · skip
            rw [hfv]
            refine W_move rfl rfl ?_
            refine W_extract rfl rfl rfl ?_
            refine W_extract rfl rfl rfl ?_
            refine W_extract rfl rfl rfl ?_
            refine W_alloc (l := zSpot.v) ty27 rfl rfl (fun b22 => ?_)
            refine W_assign rfl rfl ?_
            refine W_storeA (l' := s.v) rfl rfl ty27 rfl rfl (b := b22) (by repeat (first | exact List.mem_cons_self | apply List.mem_cons_of_mem | apply List.mem_append_right)) (by exact Nat.le_refl 4) rfl (by repeat (first | exact Upd.head _ | apply Upd.tail | apply Upd.app)) ?_
            refine W_assign rfl rfl ?_
            refine W_nil ?_
            refine W_sr ?_
            refine W_move rfl rfl ?_
            refine W_move rfl rfl ?_
            refine W_bin rfl rfl (b_rem (by omega) (m := ((i % N : Nat) : Int)) (tmN i N)) rfl ?_
            refine W_move rfl rfl ?_
            refine W_bin rfl rfl b_neq rfl ?_
            first | rw [decide_eq_true (by omega)] | rw [decide_eq_false (by omega)]
            refine W_move rfl rfl ?_
            refine W_gno rfl rfl rfl ?_
            refine W_gno rfl rfl rfl ?_
            first | refine W_pickt rfl rfl rfl ?_ | refine W_pickf rfl rfl rfl ?_
            refine W_move rfl rfl ?_
            refine W_gyes rfl rfl ?_
            refine W_move rfl rfl ?_
            refine W_gyes rfl rfl ?_
            refine W_move rfl rfl ?_
            refine W_gyes rfl rfl ?_
            refine W_move rfl rfl ?_
            refine W_gyes rfl rfl ?_
            refine W_move rfl rfl ?_
            refine W_gyes rfl rfl ?_
            refine W_move rfl rfl ?_
            refine W_gyes rfl rfl ?_
            refine W_bin rfl rfl (b_rem (by omega) (m := ((i % N : Nat) : Int)) (tmN i N)) rfl ?_
            refine W_gyes rfl rfl ?_
            refine W_bin rfl rfl b_neq rfl ?_
            rw [decide_eq_false (by simp)]
            refine W_gyes rfl rfl ?_
            refine W_move rfl rfl ?_
            refine W_gyes rfl rfl ?_
            refine W_move rfl rfl ?_
            refine W_gyes rfl rfl ?_
            refine W_move rfl rfl ?_
            refine W_gyes rfl rfl ?_
            refine W_bin rfl rfl b_eql rfl ?_
            first | rw [decide_eq_true (by omega)] | rw [decide_eq_false (by omega)]
            refine W_gyes rfl rfl ?_
            refine W_move rfl rfl ?_
            refine W_gyes rfl rfl ?_
            refine W_fieldAddr rfl fld27_3 (by decide) rfl ?_
            refine W_gyes rfl rfl ?_
            refine W_load (v := .int .u64 ((s.due : Nat) : Int)) rfl ty22 rfl (Cell.own (b := b22) (by repeat (first | exact List.mem_cons_self | apply List.mem_cons_of_mem | apply List.mem_append_right)) rfl) rfl ?_
            refine W_gyes rfl rfl ?_
            refine W_move rfl rfl ?_
            refine W_gyes rfl rfl ?_
            refine W_bin rfl rfl b_leq rfl ?_
            first | rw [decide_eq_true (by omega)] | rw [decide_eq_false (by omega)]
            refine W_gyes rfl rfl ?_
            first | refine W_pickt rfl rfl rfl ?_ | refine W_pickf rfl rfl rfl ?_
            refine W_gyes rfl rfl ?_
            refine W_move rfl rfl ?_
            refine W_gno rfl rfl rfl ?_
            refine W_gno rfl rfl rfl ?_
            refine W_gno rfl rfl rfl ?_
            refine W_gyes rfl rfl ?_
            first | refine W_pickt rfl rfl rfl ?_ | refine W_pickf rfl rfl rfl ?_
            refine W_gyes rfl rfl ?_
            first | refine W_pickt rfl rfl rfl ?_ | refine W_pickf rfl rfl rfl ?_
            refine W_gyes rfl rfl ?_
            first | refine W_pickt rfl rfl rfl ?_ | refine W_pickf rfl rfl rfl ?_
            first | refine W_pickt rfl rfl rfl ?_ | refine W_pickf rfl rfl rfl ?_
            refine W_nil ?_
            refine W_condF rfl rfl ?_
            refine W_skip ?_
            refine W_blk ?_
            refine W_region ?_
            refine W_move rfl rfl ?_
            refine W_bin rfl rfl (b_add (m := ((i + 1 : Nat) : Int)) ((i64w (by omega)).trans (by omega))) rfl ?_
            refine W_assign rfl rfl ?_
            refine W_nil ?_
            refine W_again (i + 1, HBf) ⟨by show i + 1 ≤ n; omega, hBf⟩ (by show n - (i + 1) < n - i; omega) (sub_cons rfl (sub_cons rfl (sub_cons rfl (sub_cons rfl (sub_cons rfl (sub_cons rfl (sub_cons rfl (sub_nil _)))))))) rfl (by first | exact hsubI | (repeat (first | with_reducible exact HSub.refl _ | refine HSub.cons (by repeat (first | exact Take.here _ | apply Take.next | apply Take.app)) ?_ | refine HSub.app (by repeat (first | with_reducible exact TakeS.here _ | apply TakeS.next | apply TakeS.app)) ?_ | exact HSub.nil _ | exact HSub.refl _ | refine HSub.drop ?_ | refine HSub.dropS ?_)))
          · skip
            rw [hfv]
            refine W_move rfl rfl ?_
            refine W_extract rfl rfl rfl ?_
            refine W_extract rfl rfl rfl ?_
            refine W_extract rfl rfl rfl ?_
            refine W_alloc (l := zSpot.v) ty27 rfl rfl (fun b22 => ?_)
            refine W_assign rfl rfl ?_
            refine W_storeA (l' := zSpot.v) rfl rfl ty27 rfl rfl (b := b22) (by repeat (first | exact List.mem_cons_self | apply List.mem_cons_of_mem | apply List.mem_append_right)) (by exact Nat.le_refl 4) rfl (by repeat (first | exact Upd.head _ | apply Upd.tail | apply Upd.app)) ?_
            refine W_assign rfl rfl ?_
            refine W_nil ?_
            refine W_sr ?_
            refine W_move rfl rfl ?_
            refine W_move rfl rfl ?_
            refine W_bin rfl rfl (b_rem (by omega) (m := ((i % N : Nat) : Int)) (tmN i N)) rfl ?_
            refine W_move rfl rfl ?_
            refine W_bin rfl rfl b_neq rfl ?_
            first | rw [decide_eq_true (by omega)] | rw [decide_eq_false (by omega)]
            refine W_move rfl rfl ?_
            refine W_gno rfl rfl rfl ?_
            refine W_gno rfl rfl rfl ?_
            first | refine W_pickt rfl rfl rfl ?_ | refine W_pickf rfl rfl rfl ?_
            refine W_move rfl rfl ?_
            refine W_gyes rfl rfl ?_
            refine W_move rfl rfl ?_
            refine W_gyes rfl rfl ?_
            refine W_move rfl rfl ?_
            refine W_gno rfl rfl rfl ?_
            refine W_gno rfl rfl rfl ?_
            refine W_gno rfl rfl rfl ?_
            refine W_gno rfl rfl rfl ?_
            refine W_gno rfl rfl rfl ?_
            refine W_gno rfl rfl rfl ?_
            refine W_gnou rfl rfl rfl ?_
            refine W_gnou rfl rfl rfl ?_
            refine W_gnou rfl rfl rfl ?_
            refine W_gnou rfl rfl rfl ?_
            refine W_gnou rfl rfl rfl ?_
            refine W_gnou rfl rfl rfl ?_
            refine W_gnou rfl rfl rfl ?_
            refine W_gnou rfl rfl rfl ?_
            refine W_gnou rfl rfl rfl ?_
            refine W_gnou rfl rfl rfl ?_
            refine W_gnou rfl rfl rfl ?_
            refine W_gnou rfl rfl rfl ?_
            refine W_gnou rfl rfl rfl ?_
            refine W_gnou rfl rfl rfl ?_
            refine W_gno rfl rfl rfl ?_
            refine W_gyes rfl rfl ?_
            first | refine W_pickt rfl rfl rfl ?_ | refine W_pickf rfl rfl rfl ?_
            first | refine W_pickt rfl rfl rfl ?_ | refine W_pickf rfl rfl rfl ?_
            refine W_nil ?_
            refine W_condF rfl rfl ?_
            refine W_skip ?_
            refine W_blk ?_
            refine W_region ?_
            refine W_move rfl rfl ?_
            refine W_bin rfl rfl (b_add (m := ((i + 1 : Nat) : Int)) ((i64w (by omega)).trans (by omega))) rfl ?_
            refine W_assign rfl rfl ?_
            refine W_nil ?_
            refine W_again (i + 1, HBf) ⟨by show i + 1 ≤ n; omega, hBf⟩ (by show n - (i + 1) < n - i; omega) (sub_cons rfl (sub_cons rfl (sub_cons rfl (sub_cons rfl (sub_cons rfl (sub_cons rfl (sub_cons rfl (sub_nil _)))))))) rfl (by first | exact hsubI | (repeat (first | with_reducible exact HSub.refl _ | refine HSub.cons (by repeat (first | exact Take.here _ | apply Take.next | apply Take.app)) ?_ | refine HSub.app (by repeat (first | with_reducible exact TakeS.here _ | apply TakeS.next | apply TakeS.app)) ?_ | exact HSub.nil _ | exact HSub.refl _ | refine HSub.drop ?_ | refine HSub.dropS ?_)))
        · skip
          refine W_bin rfl rfl b_lss rfl ?_
          rw [decide_eq_false hin]
          refine W_move rfl rfl ?_
          refine W_gno rfl rfl rfl ?_
          refine W_gno rfl rfl rfl ?_
          first | refine W_pickt rfl rfl rfl ?_ | refine W_pickf rfl rfl rfl ?_
          refine W_nil ?_
          refine W_condF rfl rfl ?_
          refine W_exit rfl ?_
          refine W_sr ?_
          refine W_callp .nil Tryd.call28 rfl hT knownB_pure ?_
          refine W_assign rfl rfl ?_
          refine W_nil ?_
          refine W_ret1m (H2 := H) Tryd.results6 rfl (.nil _) (by first | exact hsubI | (repeat (first | with_reducible exact HSub.refl _ | refine HSub.cons (by repeat (first | exact Take.here _ | apply Take.next | apply Take.app)) ?_ | refine HSub.app (by repeat (first | with_reducible exact TakeS.here _ | apply TakeS.next | apply TakeS.app)) ?_ | exact HSub.nil _ | exact HSub.refl _ | refine HSub.drop ?_ | refine HSub.dropS ?_))) ?_
          exact ⟨rfl, rfl⟩
    · skip
      rw [hb] at hF
      have hO0 := of_decide_eq_false hF
      refine W_move rfl rfl ?_
      refine W_len rfl ty35 rfl rfl ?_
      refine W_bin rfl rfl b_gtr rfl ?_
      first | rw [decide_eq_true (by omega)] | rw [decide_eq_false (by omega)]
      refine W_move rfl rfl ?_
      refine W_move rfl rfl ?_
      refine W_callp (.cons rfl (.cons rfl .nil)) Tryd.call25 rfl trivial (has_pure (m := lateM Ws a Ws.length) (i := (c : Int)) (lateM_lt _ _ _)) ?_
      rw [late_has hw hlen64, hb]
      refine W_move rfl rfl ?_
      refine W_gno rfl rfl rfl ?_
      refine W_gno rfl rfl rfl ?_
      refine W_gno rfl rfl rfl ?_
      first | refine W_pickt rfl rfl rfl ?_ | refine W_pickf rfl rfl rfl ?_
      refine W_bne rfl rfl ty4 rfl ?_
      refine W_move rfl rfl ?_
      refine W_gyes rfl rfl ?_
      refine W_move rfl rfl ?_
      refine W_gyes rfl rfl ?_
      refine W_move rfl rfl ?_
      refine W_gyes rfl rfl ?_
      refine W_bin rfl rfl b_geq rfl ?_
      first | rw [decide_eq_true (by omega)] | rw [decide_eq_false (by omega)]
      refine W_gyes rfl rfl ?_
      refine W_move rfl rfl ?_
      refine W_gno rfl rfl rfl ?_
      refine W_gno rfl rfl rfl ?_
      refine W_gno rfl rfl rfl ?_
      refine W_gno rfl rfl rfl ?_
      refine W_gno rfl rfl rfl ?_
      refine W_gno rfl rfl rfl ?_
      refine W_gno rfl rfl rfl ?_
      refine W_gno rfl rfl rfl ?_
      refine W_gyes rfl rfl ?_
      first | refine W_pickt rfl rfl rfl ?_ | refine W_pickf rfl rfl rfl ?_
      first | refine W_pickt rfl rfl rfl ?_ | refine W_pickf rfl rfl rfl ?_
      refine W_nil ?_
      refine W_condF rfl rfl ?_
      refine W_skip ?_
      refine W_seq ?_
      refine W_sr ?_
      generalize HB3 = HBx at hB3 ⊢
      have hBx := hB3
      refine W_hsub (H' := XO ++ (HBx ++ H)) (by first | exact hsubI | (repeat (first | with_reducible exact HSub.refl _ | refine HSub.cons (by repeat (first | exact Take.here _ | apply Take.next | apply Take.app)) ?_ | refine HSub.app (by repeat (first | with_reducible exact TakeS.here _ | apply TakeS.next | apply TakeS.app)) ?_ | exact HSub.nil _ | exact HSub.refl _ | refine HSub.drop ?_ | refine HSub.dropS ?_))) ?_
      have hOr : Holds w0 (XO ++ (HBx ++ H)) ad2 ((O.map (·.id)).map (Value.int .i64)) := OwnS.holds hO (fun p hp => List.mem_append_left _ hp)
      refine W_assign rfl rfl ?_
      refine W_nil ?_
      refine W_block ?_
      refine W_loopC (X := Nat) [(0, _), (1, _), (3, _), (4, _), (11, _), (13, _), (18, _)] (fun (x : Nat) => [(19, .int .i64 (x : Int))]) (fun _ => _) (fun (x : Nat) => XO ++ (HBx ++ H)) (fun (x : Nat) => x ≤ O.length) (fun (x : Nat) => O.length - x) 0 (Nat.zero_le _) (sub_cons rfl (sub_cons rfl (sub_cons rfl (sub_cons rfl (sub_cons rfl (sub_cons rfl (sub_cons rfl (sub_nil _)))))))) (sub_cons rfl (sub_nil _)) rfl (.refl _) ?_
      intro q hq
      simp only [List.cons_append, List.nil_append]
      refine W_seq ?_
      refine W_sr ?_
      refine W_move rfl rfl ?_
      refine W_move rfl rfl ?_
      refine W_len rfl ty35 rfl rfl ?_
      refine W_bin rfl rfl b_lss rfl ?_
      refine W_nil ?_
      refine W_condPS (p := (q : Int) < (O.length : Int)) rfl (by simp) (fun r1 => ?_) (fun r1 => ?_)
      · skip
        refine W_skip ?_
        refine W_seq ?_
        refine W_block ?_
        refine W_sr ?_
        obtain ⟨tq, htq⟩ : ∃ tq, O[q]? = some tq := ⟨_, List.getElem?_eq_getElem (by omega)⟩
        obtain ⟨q0_, p0_, rfl, hcq⟩ := hOr.at (i := q) (v := .int .i64 tq.id) (by rw [List.getElem?_map, List.getElem?_map, htq]; rfl)
        obtain ⟨m, hmid, hmc⟩ := hOid tq (List.mem_of_getElem? htq)
        rw [hmid] at hcq
        refine W_move rfl rfl ?_
        refine W_move rfl rfl ?_
        refine W_indexAddr (j := q) rfl rfl ty35 ty3 rfl (by omega) rfl rfl ?_
        refine W_load (v := .int .i64 ((m : Nat) : Int)) rfl ty3 rfl (by rw [Nat.mul_one]; exact hcq.up (by first | exact hsubI | (repeat (first | with_reducible exact HSub.refl _ | refine HSub.cons (by repeat (first | exact Take.here _ | apply Take.next | apply Take.app)) ?_ | refine HSub.app (by repeat (first | with_reducible exact TakeS.here _ | apply TakeS.next | apply TakeS.app)) ?_ | exact HSub.nil _ | exact HSub.refl _ | refine HSub.drop ?_ | refine HSub.dropS ?_)))) rfl ?_
        refine W_move rfl rfl ?_
        refine W_bin rfl rfl (b_rem (by omega) (m := ((m % N : Nat) : Int)) (tmN m N)) rfl ?_
        refine W_move rfl rfl ?_
        refine W_bin rfl rfl b_neq rfl ?_
        rw [decide_eq_false (by omega)]
        refine W_nil ?_
        refine W_condF rfl rfl ?_
        refine W_skip ?_
        refine W_blk ?_
        refine W_region ?_
        refine W_move rfl rfl ?_
        refine W_bin rfl rfl (b_add (m := ((q + 1 : Nat) : Int)) ((i64w (by omega)).trans (by omega))) rfl ?_
        refine W_assign rfl rfl ?_
        refine W_nil ?_
        refine W_again (q + 1) (by omega) (by omega) (sub_cons rfl (sub_cons rfl (sub_cons rfl (sub_cons rfl (sub_cons rfl (sub_cons rfl (sub_cons rfl (sub_cons rfl (sub_nil _))))))))) rfl (.refl _)
      · skip
        refine W_exit rfl ?_
        refine W_seq ?_
        refine W_sr ?_
        refine W_assign rfl rfl ?_
        refine W_nil ?_
        refine W_block ?_
        refine W_loopC (X := (Nat × Heap)) [(0, _), (1, _), (3, _), (4, _), (11, _), (13, _)] (fun (x : (Nat × Heap)) => [(20, .int .i64 (x.1 : Int))]) (fun _ => _) (fun (x : (Nat × Heap)) => XO ++ (x.2 ++ H)) (fun (x : (Nat × Heap)) => x.1 ≤ n ∧ BankH bb (apW Ws c a w Li) x.2) (fun (x : (Nat × Heap)) => n - x.1) (0, HBx) ⟨Nat.zero_le _, hBx⟩ (sub_cons rfl (sub_cons rfl (sub_cons rfl (sub_cons rfl (sub_cons rfl (sub_cons rfl (sub_nil _))))))) (sub_cons rfl (sub_nil _)) rfl (.refl _) ?_
        rintro ⟨i, HBi⟩ ⟨hi2, hBi⟩
        dsimp only at hi2 hBi ⊢
        simp only [List.cons_append, List.nil_append]
        refine W_seq ?_
        refine W_sr ?_
        refine W_move rfl rfl ?_
        refine W_move rfl rfl ?_
        by_cases hin : (i : Int) < (n : Int)
        · skip
          refine W_bin rfl rfl b_lss rfl ?_
          rw [decide_eq_true hin]
          refine W_move rfl rfl ?_
          refine W_gyes rfl rfl ?_
          refine W_move rfl rfl ?_
          refine W_gyes rfl rfl ?_
          refine W_bin rfl rfl b_neq rfl ?_
          first | rw [decide_eq_true (by omega)] | rw [decide_eq_false (by omega)]
          first | refine W_pickt rfl rfl rfl ?_ | refine W_pickf rfl rfl rfl ?_
          refine W_nil ?_
          refine W_condT rfl rfl ?_
          refine W_skip ?_
          refine W_seq ?_
          refine W_block ?_
          refine W_sr ?_
          refine W_move rfl rfl ?_
          refine W_move rfl rfl ?_
          refine W_call (.cons rfl (.cons rfl .nil)) Tryd.call27 rfl (LCalls.hsub (FindB_L (id := (i : Int)) hBi hlen3 (H := XO ++ H)) (by first | exact hsubI | (repeat (first | with_reducible exact HSub.refl _ | refine HSub.cons (by repeat (first | exact Take.here _ | apply Take.next | apply Take.app)) ?_ | refine HSub.app (by repeat (first | with_reducible exact TakeS.here _ | apply TakeS.next | apply TakeS.app)) ?_ | exact HSub.nil _ | exact HSub.refl _ | refine HSub.drop ?_ | refine HSub.dropS ?_)))) ?_
          rintro v H' ⟨HBf, hBf, rfl, rfl⟩
          have hnd : (Li.map (·.id)).Nodup := by
            obtain ⟨HU, hU⟩ := hBi.wheelOf (w := ⟨w.bw, max w.now a, Li, w.turn⟩) (List.mem_of_getElem? (List.getElem?_set_self (List.getElem?_eq_some_iff.1 hw).1))
            exact hU.ids.1
          rcases ap_find3 hTI (by omega) hw hG hnd (i := i) (by omega) with ⟨s, hfv, hie⟩ | ⟨s, hfv, hie, hsd⟩ | ⟨hfv, hie⟩
          · skip
            rw [hfv]
            refine W_move rfl rfl ?_
            refine W_extract rfl rfl rfl ?_
            refine W_extract rfl rfl rfl ?_
            refine W_extract rfl rfl rfl ?_
            refine W_alloc (l := zSpot.v) ty27 rfl rfl (fun b22 => ?_)
            refine W_assign rfl rfl ?_
            refine W_storeA (l' := s.v) rfl rfl ty27 rfl rfl (b := b22) (by repeat (first | exact List.mem_cons_self | apply List.mem_cons_of_mem | apply List.mem_append_right)) (by exact Nat.le_refl 4) rfl (by repeat (first | exact Upd.head _ | apply Upd.tail | apply Upd.app)) ?_
            refine W_assign rfl rfl ?_
            refine W_nil ?_
            refine W_sr ?_
            refine W_move rfl rfl ?_
            refine W_move rfl rfl ?_
            refine W_bin rfl rfl (b_rem (by omega) (m := ((i % N : Nat) : Int)) (tmN i N)) rfl ?_
            refine W_move rfl rfl ?_
            refine W_bin rfl rfl b_neq rfl ?_
            first | rw [decide_eq_true (by omega)] | rw [decide_eq_false (by omega)]
            refine W_move rfl rfl ?_
            refine W_gyes rfl rfl ?_
            refine W_move rfl rfl ?_
            refine W_gyes rfl rfl ?_
            refine W_not rfl rfl ?_
            first | refine W_pickt rfl rfl rfl ?_ | refine W_pickf rfl rfl rfl ?_
            refine W_move rfl rfl ?_
            refine W_gyes rfl rfl ?_
            refine W_move rfl rfl ?_
            refine W_gyes rfl rfl ?_
            refine W_move rfl rfl ?_
            refine W_gyes rfl rfl ?_
            refine W_move rfl rfl ?_
            refine W_gyes rfl rfl ?_
            refine W_move rfl rfl ?_
            refine W_gyes rfl rfl ?_
            refine W_move rfl rfl ?_
            refine W_gyes rfl rfl ?_
            refine W_bin rfl rfl (b_rem (by omega) (m := ((i % N : Nat) : Int)) (tmN i N)) rfl ?_
            refine W_gyes rfl rfl ?_
            refine W_bin rfl rfl b_neq rfl ?_
            rw [decide_eq_false (by simp)]
            refine W_gyes rfl rfl ?_
            refine W_move rfl rfl ?_
            refine W_gyes rfl rfl ?_
            refine W_move rfl rfl ?_
            refine W_gyes rfl rfl ?_
            refine W_move rfl rfl ?_
            refine W_gyes rfl rfl ?_
            refine W_bin rfl rfl b_eql rfl ?_
            first | rw [decide_eq_true (by omega)] | rw [decide_eq_false (by omega)]
            refine W_gyes rfl rfl ?_
            refine W_move rfl rfl ?_
            refine W_gno rfl rfl rfl ?_
            refine W_gno rfl rfl rfl ?_
            refine W_gno rfl rfl rfl ?_
            refine W_gno rfl rfl rfl ?_
            refine W_gyes rfl rfl ?_
            first | refine W_pickt rfl rfl rfl ?_ | refine W_pickf rfl rfl rfl ?_
            refine W_gyes rfl rfl ?_
            refine W_move rfl rfl ?_
            refine W_gno rfl rfl rfl ?_
            refine W_gno rfl rfl rfl ?_
            refine W_gno rfl rfl rfl ?_
            refine W_gyes rfl rfl ?_
            first | refine W_pickt rfl rfl rfl ?_ | refine W_pickf rfl rfl rfl ?_
            refine W_gyes rfl rfl ?_
            first | refine W_pickt rfl rfl rfl ?_ | refine W_pickf rfl rfl rfl ?_
            refine W_gyes rfl rfl ?_
            first | refine W_pickt rfl rfl rfl ?_ | refine W_pickf rfl rfl rfl ?_
            first | refine W_pickt rfl rfl rfl ?_ | refine W_pickf rfl rfl rfl ?_
            refine W_nil ?_
            refine W_condF rfl rfl ?_
            refine W_skip ?_
            refine W_blk ?_
            refine W_region ?_
            refine W_move rfl rfl ?_
            refine W_bin rfl rfl (b_add (m := ((i + 1 : Nat) : Int)) ((i64w (by omega)).trans (by omega))) rfl ?_
            refine W_assign rfl rfl ?_
            refine W_nil ?_
            refine W_again (i + 1, HBf) ⟨by show i + 1 ≤ n; omega, hBf⟩ (by show n - (i + 1) < n - i; omega) (sub_cons rfl (sub_cons rfl (sub_cons rfl (sub_cons rfl (sub_cons rfl (sub_cons rfl (sub_cons rfl (sub_nil _)))))))) rfl (by first | exact hsubI | (repeat (first | with_reducible exact HSub.refl _ | refine HSub.cons (by repeat (first | exact Take.here _ | apply Take.next | apply Take.app)) ?_ | refine HSub.app (by repeat (first | with_reducible exact TakeS.here _ | apply TakeS.next | apply TakeS.app)) ?_ | exact HSub.nil _ | exact HSub.refl _ | refine HSub.drop ?_ | refine HSub.dropS ?_)))
          · skip
            rw [hfv]
            refine W_move rfl rfl ?_
            refine W_extract rfl rfl rfl ?_
            refine W_extract rfl rfl rfl ?_
            refine W_extract rfl rfl rfl ?_
            refine W_alloc (l := zSpot.v) ty27 rfl rfl (fun b22 => ?_)
            refine W_assign rfl rfl ?_
            refine W_storeA (l' := s.v) rfl rfl ty27 rfl rfl (b := b22) (by repeat (first | exact List.mem_cons_self | apply List.mem_cons_of_mem | apply List.mem_append_right)) (by exact Nat.le_refl 4) rfl (by repeat (first | exact Upd.head _ | apply Upd.tail | apply Upd.app)) ?_
            refine W_assign rfl rfl ?_
            refine W_nil ?_
            refine W_sr ?_
            refine W_move rfl rfl ?_
            refine W_move rfl rfl ?_
            refine W_bin rfl rfl (b_rem (by omega) (m := ((i % N : Nat) : Int)) (tmN i N)) rfl ?_
            refine W_move rfl rfl ?_
            refine W_bin rfl rfl b_neq rfl ?_
            first | rw [decide_eq_true (by omega)] | rw [decide_eq_false (by omega)]
            refine W_move rfl rfl ?_
            refine W_gno rfl rfl rfl ?_
            refine W_gno rfl rfl rfl ?_
            first | refine W_pickt rfl rfl rfl ?_ | refine W_pickf rfl rfl rfl ?_
            refine W_move rfl rfl ?_
            refine W_gyes rfl rfl ?_
            refine W_move rfl rfl ?_
            refine W_gyes rfl rfl ?_
            refine W_move rfl rfl ?_
            refine W_gyes rfl rfl ?_
            refine W_move rfl rfl ?_
            refine W_gyes rfl rfl ?_
            refine W_move rfl rfl ?_
            refine W_gyes rfl rfl ?_
            refine W_move rfl rfl ?_
            refine W_gyes rfl rfl ?_
            refine W_bin rfl rfl (b_rem (by omega) (m := ((i % N : Nat) : Int)) (tmN i N)) rfl ?_
            refine W_gyes rfl rfl ?_
            refine W_bin rfl rfl b_neq rfl ?_
            rw [decide_eq_false (by simp)]
            refine W_gyes rfl rfl ?_
            refine W_move rfl rfl ?_
            refine W_gyes rfl rfl ?_
            refine W_move rfl rfl ?_
            refine W_gyes rfl rfl ?_
            refine W_move rfl rfl ?_
            refine W_gyes rfl rfl ?_
            refine W_bin rfl rfl b_eql rfl ?_
            first | rw [decide_eq_true (by omega)] | rw [decide_eq_false (by omega)]
            refine W_gyes rfl rfl ?_
            refine W_move rfl rfl ?_
            refine W_gyes rfl rfl ?_
            refine W_fieldAddr rfl fld27_3 (by decide) rfl ?_
            refine W_gyes rfl rfl ?_
            refine W_load (v := .int .u64 ((s.due : Nat) : Int)) rfl ty22 rfl (Cell.own (b := b22) (by repeat (first | exact List.mem_cons_self | apply List.mem_cons_of_mem | apply List.mem_append_right)) rfl) rfl ?_
            refine W_gyes rfl rfl ?_
            refine W_move rfl rfl ?_
            refine W_gyes rfl rfl ?_
            refine W_bin rfl rfl b_leq rfl ?_
            first | rw [decide_eq_true (by omega)] | rw [decide_eq_false (by omega)]
            refine W_gyes rfl rfl ?_
            first | refine W_pickt rfl rfl rfl ?_ | refine W_pickf rfl rfl rfl ?_
            refine W_gyes rfl rfl ?_
            refine W_move rfl rfl ?_
            refine W_gno rfl rfl rfl ?_
            refine W_gno rfl rfl rfl ?_
            refine W_gno rfl rfl rfl ?_
            refine W_gyes rfl rfl ?_
            first | refine W_pickt rfl rfl rfl ?_ | refine W_pickf rfl rfl rfl ?_
            refine W_gyes rfl rfl ?_
            first | refine W_pickt rfl rfl rfl ?_ | refine W_pickf rfl rfl rfl ?_
            refine W_gyes rfl rfl ?_
            first | refine W_pickt rfl rfl rfl ?_ | refine W_pickf rfl rfl rfl ?_
            first | refine W_pickt rfl rfl rfl ?_ | refine W_pickf rfl rfl rfl ?_
            refine W_nil ?_
            refine W_condF rfl rfl ?_
            refine W_skip ?_
            refine W_blk ?_
            refine W_region ?_
            refine W_move rfl rfl ?_
            refine W_bin rfl rfl (b_add (m := ((i + 1 : Nat) : Int)) ((i64w (by omega)).trans (by omega))) rfl ?_
            refine W_assign rfl rfl ?_
            refine W_nil ?_
            refine W_again (i + 1, HBf) ⟨by show i + 1 ≤ n; omega, hBf⟩ (by show n - (i + 1) < n - i; omega) (sub_cons rfl (sub_cons rfl (sub_cons rfl (sub_cons rfl (sub_cons rfl (sub_cons rfl (sub_cons rfl (sub_nil _)))))))) rfl (by first | exact hsubI | (repeat (first | with_reducible exact HSub.refl _ | refine HSub.cons (by repeat (first | exact Take.here _ | apply Take.next | apply Take.app)) ?_ | refine HSub.app (by repeat (first | with_reducible exact TakeS.here _ | apply TakeS.next | apply TakeS.app)) ?_ | exact HSub.nil _ | exact HSub.refl _ | refine HSub.drop ?_ | refine HSub.dropS ?_)))
          · skip
            rw [hfv]
            refine W_move rfl rfl ?_
            refine W_extract rfl rfl rfl ?_
            refine W_extract rfl rfl rfl ?_
            refine W_extract rfl rfl rfl ?_
            refine W_alloc (l := zSpot.v) ty27 rfl rfl (fun b22 => ?_)
            refine W_assign rfl rfl ?_
            refine W_storeA (l' := zSpot.v) rfl rfl ty27 rfl rfl (b := b22) (by repeat (first | exact List.mem_cons_self | apply List.mem_cons_of_mem | apply List.mem_append_right)) (by exact Nat.le_refl 4) rfl (by repeat (first | exact Upd.head _ | apply Upd.tail | apply Upd.app)) ?_
            refine W_assign rfl rfl ?_
            refine W_nil ?_
            refine W_sr ?_
            refine W_move rfl rfl ?_
            refine W_move rfl rfl ?_
            refine W_bin rfl rfl (b_rem (by omega) (m := ((i % N : Nat) : Int)) (tmN i N)) rfl ?_
            refine W_move rfl rfl ?_
            refine W_bin rfl rfl b_neq rfl ?_
            first | rw [decide_eq_true (by omega)] | rw [decide_eq_false (by omega)]
            refine W_move rfl rfl ?_
            refine W_gno rfl rfl rfl ?_
            refine W_gno rfl rfl rfl ?_
            first | refine W_pickt rfl rfl rfl ?_ | refine W_pickf rfl rfl rfl ?_
            refine W_move rfl rfl ?_
            refine W_gyes rfl rfl ?_
            refine W_move rfl rfl ?_
            refine W_gyes rfl rfl ?_
            refine W_move rfl rfl ?_
            refine W_gno rfl rfl rfl ?_
            refine W_gno rfl rfl rfl ?_
            refine W_gno rfl rfl rfl ?_
            refine W_gno rfl rfl rfl ?_
            refine W_gno rfl rfl rfl ?_
            refine W_gno rfl rfl rfl ?_
            refine W_gnou rfl rfl rfl ?_
            refine W_gnou rfl rfl rfl ?_
            refine W_gnou rfl rfl rfl ?_
            refine W_gnou rfl rfl rfl ?_
            refine W_gnou rfl rfl rfl ?_
            refine W_gnou rfl rfl rfl ?_
            refine W_gnou rfl rfl rfl ?_
            refine W_gnou rfl rfl rfl ?_
            refine W_gnou rfl rfl rfl ?_
            refine W_gnou rfl rfl rfl ?_
            refine W_gnou rfl rfl rfl ?_
            refine W_gnou rfl rfl rfl ?_
            refine W_gnou rfl rfl rfl ?_
            refine W_gnou rfl rfl rfl ?_
            refine W_gno rfl rfl rfl ?_
            refine W_gyes rfl rfl ?_
            first | refine W_pickt rfl rfl rfl ?_ | refine W_pickf rfl rfl rfl ?_
            first | refine W_pickt rfl rfl rfl ?_ | refine W_pickf rfl rfl rfl ?_
            refine W_nil ?_
            refine W_condF rfl rfl ?_
            refine W_skip ?_
            refine W_blk ?_
            refine W_region ?_
            refine W_move rfl rfl ?_
            refine W_bin rfl rfl (b_add (m := ((i + 1 : Nat) : Int)) ((i64w (by omega)).trans (by omega))) rfl ?_
            refine W_assign rfl rfl ?_
            refine W_nil ?_
            refine W_again (i + 1, HBf) ⟨by show i + 1 ≤ n; omega, hBf⟩ (by show n - (i + 1) < n - i; omega) (sub_cons rfl (sub_cons rfl (sub_cons rfl (sub_cons rfl (sub_cons rfl (sub_cons rfl (sub_cons rfl (sub_nil _)))))))) rfl (by first | exact hsubI | (repeat (first | with_reducible exact HSub.refl _ | refine HSub.cons (by repeat (first | exact Take.here _ | apply Take.next | apply Take.app)) ?_ | refine HSub.app (by repeat (first | with_reducible exact TakeS.here _ | apply TakeS.next | apply TakeS.app)) ?_ | exact HSub.nil _ | exact HSub.refl _ | refine HSub.drop ?_ | refine HSub.dropS ?_)))
        · skip
          refine W_bin rfl rfl b_lss rfl ?_
          rw [decide_eq_false hin]
          refine W_move rfl rfl ?_
          refine W_gno rfl rfl rfl ?_
          refine W_gno rfl rfl rfl ?_
          first | refine W_pickt rfl rfl rfl ?_ | refine W_pickf rfl rfl rfl ?_
          refine W_nil ?_
          refine W_condF rfl rfl ?_
          refine W_exit rfl ?_
          refine W_sr ?_
          refine W_callp .nil Tryd.call28 rfl hT knownB_pure ?_
          refine W_assign rfl rfl ?_
          refine W_nil ?_
          refine W_ret1m (H2 := H) Tryd.results6 rfl (.nil _) (by first | exact hsubI | (repeat (first | with_reducible exact HSub.refl _ | refine HSub.cons (by repeat (first | exact Take.here _ | apply Take.next | apply Take.app)) ?_ | refine HSub.app (by repeat (first | with_reducible exact TakeS.here _ | apply TakeS.next | apply TakeS.app)) ?_ | exact HSub.nil _ | exact HSub.refl _ | refine HSub.drop ?_ | refine HSub.dropS ?_))) ?_
          exact ⟨rfl, rfl⟩
set_option maxHeartbeats 8000000 in
theorem bankApart_M {z y : Int} {now a : Nat} {l : List Int} {ad : Option Addr} {cap : Nat} (hwf : ∀ b ∈ l, 0 ≤ b ∧ b ≤ 18446744073709551615) (hcap : l.length ≤ 9223372036854775807) (ha_ : a ≤ 18446744073709551615) : Pure Tryd.prog (fun w => Tab w ∧ InRow w ad (l.map (Value.int .u64))) 6 [.int .i64 z, .int .u64 ((18446744073709551615 : Nat) : Int), .slice ad l.length cap, .int .i64 y, .int .u64 ((a : Nat) : Int)] (.bool true) := by
  intro w0 H hT
  have hrow : Holds w0 H ad (l.map (Value.int .u64)) := Holds.old hT.2
  replace hT := hT.1
  refine L_enter Tryd.func6 rfl Tryd.ntmps6 rfl rfl ?_
  refine W_sr ?_
  refine W_assign rfl rfl ?_
  refine W_nil ?_
  refine W_sr ?_
  refine W_move rfl rfl ?_
  refine W_conv rfl ty3 ty22 rfl rfl ?_
  refine W_bin rfl rfl (b_rem (by decide) (m := z % 64) (mod64_is z)) rfl ?_
  refine W_conv rfl ty22 ty3 (i64w (by omega)) rfl ?_
  refine W_bin rfl rfl (b_add (m := ((cpuN z : Nat) : Int)) (by rw [i64w (by omega)]; unfold cpuN; omega)) rfl ?_
  obtain ⟨N, hN⟩ : ∃ N, N = cpuN z := ⟨_, rfl⟩
  have hN1 : 1 ≤ N ∧ N ≤ 64 := by rw [hN]; exact cpuN_ok z
  rw [← hN]
  clear hN
  refine W_assign rfl rfl ?_
  refine W_nil ?_
  refine W_sr ?_
  refine W_move rfl rfl ?_
  refine W_conv rfl ty3 ty22 rfl rfl ?_
  refine W_move rfl rfl ?_
  refine W_conv rfl ty3 ty22 (u64w (by omega)) rfl ?_
  obtain ⟨c, hc_, hce⟩ := modN_is y hN1.1
  refine W_bin rfl rfl (b_rem (by omega) (m := (c : Int)) hce) rfl ?_
  refine W_conv rfl ty22 ty3 (i64w (by omega)) rfl ?_
  refine W_assign rfl rfl ?_
  refine W_nil ?_
  refine W_sr ?_
  refine W_move rfl rfl ?_
  refine W_move rfl rfl ?_
  refine W_call (.cons rfl (.cons rfl .nil)) Tryd.call21 rfl (NewB_L (n := N) (now := 18446744073709551615) hN1) ?_
  rintro v H' ⟨bb, Ws0, HB0, rfl, hB0, hWl, hfr, rfl⟩
  refine W_move rfl rfl ?_
  refine W_extract rfl rfl rfl ?_
  refine W_extract rfl rfl rfl ?_
  refine W_assign rfl rfl ?_
  refine W_assign rfl rfl ?_
  refine W_nil ?_
  refine W_seq ?_
  refine W_sr ?_
  refine W_move rfl rfl ?_
  refine W_bin rfl rfl b_neq rfl ?_
  refine W_nil ?_
  refine W_condF rfl rfl ?_
  refine W_skip ?_
  refine W_sr ?_
  refine W_move rfl rfl ?_
  refine W_len rfl ty23 rfl rfl ?_
  refine W_min2 rfl rfl (m := ((min l.length 64 : Nat) : Int)) (by split <;> omega) rfl ?_
  obtain ⟨n, hn⟩ : ∃ n, n = min l.length 64 := ⟨_, rfl⟩
  rw [← hn]
  refine W_assign rfl rfl ?_
  refine W_nil ?_
  refine W_seq ?_
  refine W_sr ?_
  refine W_assign rfl rfl ?_
  refine W_nil ?_
  refine W_block ?_
  refine W_loopC (X := (Nat × List Wl × Heap)) [(0, _), (1, _), (2, _), (3, _), (4, _), (11, _), (13, _)] (fun (x : (Nat × List Wl × Heap)) => [(14, .int .i64 (x.1 : Int))]) (fun _ => _) (fun (x : (Nat × List Wl × Heap)) => x.2.2 ++ H) (fun (x : (Nat × List Wl × Heap)) => x.1 ≤ n ∧ BankH bb x.2.1 x.2.2 ∧ ((x.2.1).length = N ∧ (∀ w ∈ x.2.1, FreshW 18446744073709551615 w))) (fun (x : (Nat × List Wl × Heap)) => n - x.1) (0, Ws0, HB0) ⟨Nat.zero_le _, hB0, ⟨hWl, hfr⟩⟩ (sub_cons rfl (sub_cons rfl (sub_cons rfl (sub_cons rfl (sub_cons rfl (sub_cons rfl (sub_cons rfl (sub_nil _)))))))) (sub_cons rfl (sub_nil _)) rfl (.refl _) ?_
  rintro ⟨i, Ws, HB⟩ ⟨hi, hB, hTI⟩
  dsimp only at hi hB hTI ⊢
  simp only [List.cons_append, List.nil_append]
  refine W_seq ?_
  refine W_sr ?_
  refine W_move rfl rfl ?_
  refine W_move rfl rfl ?_
  refine W_bin rfl rfl b_lss rfl ?_
  refine W_nil ?_
  refine W_condPS (p := (i : Int) < (n : Int)) rfl (by simp) (fun r0 => ?_) (fun r0 => ?_)
  · skip
    refine W_skip ?_
    refine W_seq ?_
    refine W_block ?_
    refine W_seq ?_
    obtain ⟨x_a1, hx_a1⟩ : ∃ x, l[i]? = some x := ⟨_, List.getElem?_eq_getElem (by omega)⟩
    obtain ⟨q0, p0, rfl, hc⟩ := hrow.at (i := i) (v := .int .u64 x_a1) (by rw [List.getElem?_map, hx_a1]; rfl)
    have ha10 := hwf x_a1 (List.mem_of_getElem? hx_a1)
    have hg_a1 : (l.getD i 0) = x_a1 := by rw [List.getD_eq_getElem?_getD, hx_a1]; rfl
    obtain ⟨a1, rfl⟩ : ∃ a : Nat, x_a1 = (a : Int) := ⟨x_a1.toNat, by omega⟩
    have ha1 : a1 ≤ 18446744073709551615 := by omega
    have hmod : i % N < N := Nat.mod_lt _ (by omega)
    obtain ⟨w, hwk⟩ : ∃ w, Ws[i % N]? = some w := ⟨_, List.getElem?_eq_getElem (by rw [hTI.1]; exact hmod)⟩
    refine W_cutX (X := (List Wl × Heap)) (fun _ => [(0, .int .i64 (N : Int)), (1, .int .u64 ((18446744073709551615 : Nat) : Int)), (2, .slice (some ⟨q0, p0, none⟩) l.length cap), (3, .int .i64 (c : Int)), (4, .int .u64 ((a : Nat) : Int)), (11, .pointer (some ⟨bb, 0, none⟩)), (13, .int .i64 (n : Int)), (14, .int .i64 (i : Int)), (16, .int .i64 12)]) (fun x => x.2 ++ H) (fun x => BankH bb x.1 x.2 ∧ ((x.1).length = N ∧ (∀ w ∈ x.1, FreshW 18446744073709551615 w))) ?_ ?_
    · skip
      refine W_anyC H (by kernel_rfl) ?_
      refine WC_take 0 (l' := #[true, false, false, false, false, false, false, false, false, false, false, false, false, false, false, false]) rfl (by decide +kernel) (by decide +kernel) (by decide +kernel) rfl (by decide +kernel) (X_move rfl) rfl ?_
      refine WC_take 1 (l' := #[true, true, false, false, false, false, false, false, false, false, false, false, false, false, false, false]) rfl (by decide +kernel) (by decide +kernel) (by decide +kernel) rfl (by decide +kernel) (X_move rfl) rfl ?_
      refine WC_take 2 (l' := #[true, true, true, false, false, false, false, false, false, false, false, false, false, false, false, false]) rfl (by decide +kernel) (by decide +kernel) (by decide +kernel) rfl (by decide +kernel) (X_move rfl) rfl ?_
      refine WC_take 3 (l' := #[true, true, true, true, false, false, false, false, false, false, false, false, false, false, false, false]) rfl (by decide +kernel) (by decide +kernel) (by decide +kernel) rfl (by decide +kernel) (X_bin rfl rfl (b_rem (by omega) (m := ((i % N : Nat) : Int)) (tmN i N))) rfl ?_
      refine WC_take 4 (l' := #[true, true, true, true, true, false, false, false, false, false, false, false, false, false, false, false]) rfl (by decide +kernel) (by decide +kernel) (by decide +kernel) rfl (by decide +kernel) (X_move rfl) rfl ?_
      refine WC_take 5 (l' := #[true, true, true, true, true, true, false, false, false, false, false, false, false, false, false, false]) rfl (by decide +kernel) (by decide +kernel) (by decide +kernel) rfl (by decide +kernel) (X_move rfl) rfl ?_
      refine WC_take 6 (l' := #[true, true, true, true, true, true, true, false, false, false, false, false, false, false, false, false]) rfl (by decide +kernel) (by decide +kernel) (by decide +kernel) rfl (by decide +kernel) (X_move rfl) rfl ?_
      refine WC_take 7 (l' := #[true, true, true, true, true, true, true, true, false, false, false, false, false, false, false, false]) rfl (by decide +kernel) (by decide +kernel) (by decide +kernel) rfl (by decide +kernel) (X_indexAddr (j := i) rfl rfl ty23 ty22 rfl (by omega) rfl) rfl ?_
      refine WC_take 8 (l' := #[true, true, true, true, true, true, true, true, true, false, false, false, false, false, false, false]) rfl (by decide +kernel) (by decide +kernel) (by decide +kernel) rfl (by decide +kernel) (X_load (v := .int .u64 ((a1 : Nat) : Int)) rfl ty22 rfl (by rw [Nat.mul_one]; exact hc.up (by first | exact hsubI | (repeat (first | with_reducible exact HSub.refl _ | refine HSub.cons (by repeat (first | exact Take.here _ | apply Take.next | apply Take.app)) ?_ | refine HSub.app (by repeat (first | with_reducible exact TakeS.here _ | apply TakeS.next | apply TakeS.app)) ?_ | exact HSub.nil _ | exact HSub.refl _ | refine HSub.drop ?_ | refine HSub.dropS ?_))))) rfl ?_
      refine WC_two 9 13 (l' := #[true, true, true, true, true, true, true, true, true, true, false, false, false, false, false, false]) (l'' := #[true, true, true, true, true, true, true, true, true, false, false, false, false, true, false, false]) (by first | exact hsubI | (repeat (first | with_reducible exact HSub.refl _ | refine HSub.cons (by repeat (first | exact Take.here _ | apply Take.next | apply Take.app)) ?_ | refine HSub.app (by repeat (first | with_reducible exact TakeS.here _ | apply TakeS.next | apply TakeS.app)) ?_ | exact HSub.nil _ | exact HSub.refl _ | refine HSub.drop ?_ | refine HSub.dropS ?_))) (by decide +kernel) rfl rfl (by decide +kernel) (by decide +kernel) ?_ ?_
      · skip
        refine W_call (.cons rfl (.cons rfl (.cons rfl (.cons rfl .nil)))) Tryd.call22 rfl (LCalls.hsub (PutB_L (cpu := ((i % N : Nat) : Int)) (id := (i : Int)) (a := a1) hB (by rw [hTI.1]; omega) ha1 (fun w hw => by rw [(hTI.2 w hw).1]; omega) (fun w hw => by rw [(hTI.2 w hw).2.2]; omega) (H := H)) (by first | exact hsubI | (repeat (first | with_reducible exact HSub.refl _ | refine HSub.cons (by repeat (first | exact Take.here _ | apply Take.next | apply Take.app)) ?_ | refine HSub.app (by repeat (first | with_reducible exact TakeS.here _ | apply TakeS.next | apply TakeS.app)) ?_ | exact HSub.nil _ | exact HSub.refl _ | refine HSub.drop ?_ | refine HSub.dropS ?_)))) ?_
        rintro v H' ⟨Ws2, HB2, s2, e2, hB2, rfl, hP, rfl⟩
        obtain ⟨rfl, rfl, rfl⟩ := hP.late_of (k := i % N) rfl hwk (fresh_none hTI.2 _) ⟨by omega, by omega⟩ ((hTI.2 w (List.mem_of_getElem? hwk)).1)
        refine W_nil ?_
        refine WC_goal ?_
        refine WC_take 10 (l' := #[true, true, true, true, true, true, true, true, true, true, true, false, false, false, false, false]) rfl (by decide +kernel) (by decide +kernel) (by decide +kernel) rfl (by decide +kernel) (X_move rfl) rfl ?_
        refine WC_take 11 (l' := #[true, true, true, true, true, true, true, true, true, true, true, true, false, false, false, false]) rfl (by decide +kernel) (by decide +kernel) (by decide +kernel) rfl (by decide +kernel) (X_extract rfl rfl) rfl ?_
        refine WC_take 12 (l' := #[true, true, true, true, true, true, true, true, true, true, true, true, true, false, false, false]) rfl (by decide +kernel) (by decide +kernel) (by decide +kernel) rfl (by decide +kernel) (X_extract rfl rfl) rfl ?_
        refine WC_one 13 (l' := #[true, true, true, true, true, true, true, true, true, true, true, true, true, true, false, false]) (by first | exact hsubI | (repeat (first | with_reducible exact HSub.refl _ | refine HSub.cons (by repeat (first | exact Take.here _ | apply Take.next | apply Take.app)) ?_ | refine HSub.app (by repeat (first | with_reducible exact TakeS.here _ | apply TakeS.next | apply TakeS.app)) ?_ | exact HSub.nil _ | exact HSub.refl _ | refine HSub.drop ?_ | refine HSub.dropS ?_))) (by decide +kernel) rfl (by decide +kernel) ?_
        refine W_alloc (l := zSpot.v) ty27 rfl rfl (fun b15 => ?_)
        refine W_nil ?_
        refine WC_goal ?_
        refine WC_one 14 (l' := #[true, true, true, true, true, true, true, true, true, true, true, true, true, true, true, false]) (by first | exact hsubI | (repeat (first | with_reducible exact HSub.refl _ | refine HSub.cons (by repeat (first | exact Take.here _ | apply Take.next | apply Take.app)) ?_ | refine HSub.app (by repeat (first | with_reducible exact TakeS.here _ | apply TakeS.next | apply TakeS.app)) ?_ | exact HSub.nil _ | exact HSub.refl _ | refine HSub.drop ?_ | refine HSub.dropS ?_))) (by decide +kernel) rfl (by decide +kernel) ?_
        refine W_storeA (l' := zSpot.v) rfl rfl ty27 rfl rfl (b := b15) (by repeat (first | exact List.mem_cons_self | apply List.mem_cons_of_mem | apply List.mem_append_right)) (by exact Nat.le_refl 4) rfl (by repeat (first | exact Upd.head _ | apply Upd.tail | apply Upd.app)) ?_
        refine W_nil ?_
        refine WC_goal ?_
        refine WC_take 15 (l' := #[true, true, true, true, true, true, true, true, true, true, true, true, true, true, true, true]) rfl (by decide +kernel) (by decide +kernel) (by decide +kernel) rfl (by decide +kernel) (X_assign rfl) rfl ?_
        refine WC_done (by first | exact hsubI | (repeat (first | with_reducible exact HSub.refl _ | refine HSub.cons (by repeat (first | exact Take.here _ | apply Take.next | apply Take.app)) ?_ | refine HSub.app (by repeat (first | with_reducible exact TakeS.here _ | apply TakeS.next | apply TakeS.app)) ?_ | exact HSub.nil _ | exact HSub.refl _ | refine HSub.drop ?_ | refine HSub.dropS ?_))) (by decide +kernel) ?_
        refine W_joinX (_, HB2) ⟨hB2, hTI⟩ (sub_cons rfl (sub_cons rfl (sub_cons rfl (sub_cons rfl (sub_cons rfl (sub_cons rfl (sub_cons rfl (sub_cons rfl (sub_cons rfl (sub_nil _)))))))))) (by first | exact hsubI | (repeat (first | with_reducible exact HSub.refl _ | refine HSub.cons (by repeat (first | exact Take.here _ | apply Take.next | apply Take.app)) ?_ | refine HSub.app (by repeat (first | with_reducible exact TakeS.here _ | apply TakeS.next | apply TakeS.app)) ?_ | exact HSub.nil _ | exact HSub.refl _ | refine HSub.drop ?_ | refine HSub.dropS ?_)))
      · skip
        refine W_alloc (l := zSpot.v) ty27 rfl rfl (fun b15 => ?_)
        refine W_nil ?_
        refine WC_goal ?_
        refine WC_one 9 (l' := #[true, true, true, true, true, true, true, true, true, true, false, false, false, true, false, false]) (by first | exact hsubI | (repeat (first | with_reducible exact HSub.refl _ | refine HSub.cons (by repeat (first | exact Take.here _ | apply Take.next | apply Take.app)) ?_ | refine HSub.app (by repeat (first | with_reducible exact TakeS.here _ | apply TakeS.next | apply TakeS.app)) ?_ | exact HSub.nil _ | exact HSub.refl _ | refine HSub.drop ?_ | refine HSub.dropS ?_))) (by decide +kernel) rfl (by decide +kernel) ?_
        refine W_call (.cons rfl (.cons rfl (.cons rfl (.cons rfl .nil)))) Tryd.call22 rfl (LCalls.hsub (PutB_L (cpu := ((i % N : Nat) : Int)) (id := (i : Int)) (a := a1) hB (by rw [hTI.1]; omega) ha1 (fun w hw => by rw [(hTI.2 w hw).1]; omega) (fun w hw => by rw [(hTI.2 w hw).2.2]; omega) (H := (b15, .cells 27 4 zSpot.v) :: H)) (by first | exact hsubI | (repeat (first | with_reducible exact HSub.refl _ | refine HSub.cons (by repeat (first | exact Take.here _ | apply Take.next | apply Take.app)) ?_ | refine HSub.app (by repeat (first | with_reducible exact TakeS.here _ | apply TakeS.next | apply TakeS.app)) ?_ | exact HSub.nil _ | exact HSub.refl _ | refine HSub.drop ?_ | refine HSub.dropS ?_)))) ?_
        rintro v H' ⟨Ws2, HB2, s2, e2, hB2, rfl, hP, rfl⟩
        obtain ⟨rfl, rfl, rfl⟩ := hP.late_of (k := i % N) rfl hwk (fresh_none hTI.2 _) ⟨by omega, by omega⟩ ((hTI.2 w (List.mem_of_getElem? hwk)).1)
        refine W_nil ?_
        refine WC_goal ?_
        refine WC_take 10 (l' := #[true, true, true, true, true, true, true, true, true, true, true, false, false, true, false, false]) rfl (by decide +kernel) (by decide +kernel) (by decide +kernel) rfl (by decide +kernel) (X_move rfl) rfl ?_
        refine WC_take 11 (l' := #[true, true, true, true, true, true, true, true, true, true, true, true, false, true, false, false]) rfl (by decide +kernel) (by decide +kernel) (by decide +kernel) rfl (by decide +kernel) (X_extract rfl rfl) rfl ?_
        refine WC_take 12 (l' := #[true, true, true, true, true, true, true, true, true, true, true, true, true, true, false, false]) rfl (by decide +kernel) (by decide +kernel) (by decide +kernel) rfl (by decide +kernel) (X_extract rfl rfl) rfl ?_
        refine WC_one 14 (l' := #[true, true, true, true, true, true, true, true, true, true, true, true, true, true, true, false]) (by first | exact hsubI | (repeat (first | with_reducible exact HSub.refl _ | refine HSub.cons (by repeat (first | exact Take.here _ | apply Take.next | apply Take.app)) ?_ | refine HSub.app (by repeat (first | with_reducible exact TakeS.here _ | apply TakeS.next | apply TakeS.app)) ?_ | exact HSub.nil _ | exact HSub.refl _ | refine HSub.drop ?_ | refine HSub.dropS ?_))) (by decide +kernel) rfl (by decide +kernel) ?_
        refine W_storeA (l' := zSpot.v) rfl rfl ty27 rfl rfl (b := b15) (by repeat (first | exact List.mem_cons_self | apply List.mem_cons_of_mem | apply List.mem_append_right)) (by exact Nat.le_refl 4) rfl (by repeat (first | exact Upd.head _ | apply Upd.tail | apply Upd.app)) ?_
        refine W_nil ?_
        refine WC_goal ?_
        refine WC_take 15 (l' := #[true, true, true, true, true, true, true, true, true, true, true, true, true, true, true, true]) rfl (by decide +kernel) (by decide +kernel) (by decide +kernel) rfl (by decide +kernel) (X_assign rfl) rfl ?_
        refine WC_done (by first | exact hsubI | (repeat (first | with_reducible exact HSub.refl _ | refine HSub.cons (by repeat (first | exact Take.here _ | apply Take.next | apply Take.app)) ?_ | refine HSub.app (by repeat (first | with_reducible exact TakeS.here _ | apply TakeS.next | apply TakeS.app)) ?_ | exact HSub.nil _ | exact HSub.refl _ | refine HSub.drop ?_ | refine HSub.dropS ?_))) (by decide +kernel) ?_
        refine W_joinX (_, HB2) ⟨hB2, hTI⟩ (sub_cons rfl (sub_cons rfl (sub_cons rfl (sub_cons rfl (sub_cons rfl (sub_cons rfl (sub_cons rfl (sub_cons rfl (sub_cons rfl (sub_nil _)))))))))) (by first | exact hsubI | (repeat (first | with_reducible exact HSub.refl _ | refine HSub.cons (by repeat (first | exact Take.here _ | apply Take.next | apply Take.app)) ?_ | refine HSub.app (by repeat (first | with_reducible exact TakeS.here _ | apply TakeS.next | apply TakeS.app)) ?_ | exact HSub.nil _ | exact HSub.refl _ | refine HSub.drop ?_ | refine HSub.dropS ?_)))
    rintro ⟨Ws2, HB2⟩ ⟨hB2, hTI2⟩
    dsimp only at hB2 hTI2 ⊢
    refine W_sr ?_
    refine W_move rfl rfl ?_
    refine W_bin rfl rfl b_neq rfl ?_
    refine W_move rfl rfl ?_
    refine W_gyes rfl rfl ?_
    refine W_move rfl rfl ?_
    refine W_gyes rfl rfl ?_
    refine W_bin rfl rfl b_neq rfl ?_
    rw [decide_eq_false (by simp)]
    first | refine W_pickt rfl rfl rfl ?_ | refine W_pickf rfl rfl rfl ?_
    refine W_nil ?_
    refine W_condF rfl rfl ?_
    refine W_skip ?_
    refine W_blk ?_
    refine W_region ?_
    refine W_move rfl rfl ?_
    refine W_bin rfl rfl (b_add (m := ((i + 1 : Nat) : Int)) ((i64w (by omega)).trans (by omega))) rfl ?_
    refine W_assign rfl rfl ?_
    refine W_nil ?_
    refine W_again (i + 1, Ws2, HB2) ⟨by show i + 1 ≤ n; omega, hB2, hTI2⟩ (by show n - (i + 1) < n - i; omega) (sub_cons rfl (sub_cons rfl (sub_cons rfl (sub_cons rfl (sub_cons rfl (sub_cons rfl (sub_cons rfl (sub_cons rfl (sub_nil _))))))))) rfl (.refl _)
  · skip
    refine W_exit rfl ?_
    refine W_sr ?_
    refine W_move rfl rfl ?_
    refine W_move rfl rfl ?_
    have hlen64 : Ws.length ≤ 64 := by rw [hTI.1]; omega
    have hle : ∀ w ∈ Ws, w.now ≤ 18446744073709551615 := fun w hw => by rw [(hTI.2 w hw).1]; omega
    refine W_call (.cons rfl (.cons rfl .nil)) Tryd.call23 rfl (LCalls.hsub (LateB_L (a := a) hB hlen64 hle hT (H := H)) (by first | exact hsubI | (repeat (first | with_reducible exact HSub.refl _ | refine HSub.cons (by repeat (first | exact Take.here _ | apply Take.next | apply Take.app)) ?_ | refine HSub.app (by repeat (first | with_reducible exact TakeS.here _ | apply TakeS.next | apply TakeS.app)) ?_ | exact HSub.nil _ | exact HSub.refl _ | refine HSub.drop ?_ | refine HSub.dropS ?_)))) ?_
    rintro v H' ⟨HB1, hB1, rfl, rfl⟩
    refine W_assign rfl rfl ?_
    refine W_nil ?_
    refine W_sr ?_
    refine W_move rfl rfl ?_
    refine W_move rfl rfl ?_
    refine W_move rfl rfl ?_
    have hd : ∀ u ∈ Ws, ∀ t ∈ u.L, u.now < t.s.due := fun u hu t ht => by rw [(hTI.2 u hu).2.1] at ht; cases ht
    obtain ⟨w, hw⟩ : ∃ w, Ws[c]? = some w := ⟨_, List.getElem?_eq_getElem (by rw [hTI.1]; exact hc_)⟩
    have hwm := List.mem_of_getElem? hw
    refine W_call (.cons rfl (.cons rfl (.cons rfl .nil))) Tryd.call24 rfl (LCalls.hsub (CatchB_L (cpu := (c : Int)) (a := a) hB1 ha_ hd hT (H := H)) (by first | exact hsubI | (repeat (first | with_reducible exact HSub.refl _ | refine HSub.cons (by repeat (first | exact Take.here _ | apply Take.next | apply Take.app)) ?_ | refine HSub.app (by repeat (first | with_reducible exact TakeS.here _ | apply TakeS.next | apply TakeS.app)) ?_ | exact HSub.nil _ | exact HSub.refl _ | refine HSub.drop ?_ | refine HSub.dropS ?_)))) ?_
    rintro v H' ⟨W3, HB3, O, XO, hB3, hO, hC, rfl⟩
    obtain ⟨Li, hG, rfl⟩ := hC.of_at (k := c) rfl hw
    obtain ⟨ad2, cap2, rfl, _, _⟩ := hO.shape
    have hOid : ∀ t ∈ O, ∃ j : Nat, t.id = (j : Int) ∧ j % N = c := fun t ht => by
      have := (List.mem_filter.1 (hG.perm.mem_iff.1 ht)).1
      rw [(hTI.2 w hwm).2.1] at this; cases this
    have hOl : O.length ≤ 256 := Nat.le_trans hG.len (hB1.lens w hwm)
    have hF := ap_fired (now := 18446744073709551615) hG (hd w hwm) ((hTI.2 w hwm).1)
    have hlen3 : (apW Ws c a w Li).length ≤ 64 := by rw [List.length_set]; exact hlen64
    have hle3 : ∀ u ∈ apW Ws c a w Li, u.now ≤ 18446744073709551615 := fun u hu => by
      rcases List.mem_or_eq_of_mem_set hu with hu | rfl
      · exact hle u hu
      · have := hle w hwm
        show max w.now a ≤ _; omega
    have h3 : (lateB a w = true ∧ 18446744073709551615 < a) ∨ (lateB a w = false ∧ 18446744073709551615 ≤ a) ∨ (lateB a w = false ∧ a < 18446744073709551615) := by
      cases hb : lateB a w with
      | true =>
        obtain ⟨t, ht, h⟩ := lateB_iff.1 hb
        have h4 := hd w hwm t ht
        rw [(hTI.2 w hwm).1] at h4
        exact .inl ⟨rfl, by omega⟩
      | false => rcases Nat.lt_or_ge a (18446744073709551615) with h | h; exact .inr (.inr ⟨rfl, h⟩); exact .inr (.inl ⟨rfl, h⟩)
    refine W_assign rfl rfl ?_
    refine W_nil ?_
    refine W_seq ?_
    refine W_sr ?_
    rcases h3 with ⟨hb, hna⟩ | ⟨hb, hna⟩ | ⟨hb, hna⟩
    · skip
      rw [hb, decide_eq_true (by omega : ((18446744073709551615 : Nat) : Int) < (a : Int))] at hF
      have hO0 := of_decide_eq_true hF
      refine W_move rfl rfl ?_
      refine W_len rfl ty35 rfl rfl ?_
      refine W_bin rfl rfl b_gtr rfl ?_
      first | rw [decide_eq_true (by omega)] | rw [decide_eq_false (by omega)]
      refine W_move rfl rfl ?_
      refine W_move rfl rfl ?_
      refine W_callp (.cons rfl (.cons rfl .nil)) Tryd.call25 rfl trivial (has_pure (m := lateM Ws a Ws.length) (i := (c : Int)) (lateM_lt _ _ _)) ?_
      rw [late_has hw hlen64, hb]
      refine W_move rfl rfl ?_
      refine W_gyes rfl rfl ?_
      refine W_move rfl rfl ?_
      refine W_gyes rfl rfl ?_
      refine W_move rfl rfl ?_
      refine W_gyes rfl rfl ?_
      refine W_bin rfl rfl b_gtr rfl ?_
      first | rw [decide_eq_true (by omega)] | rw [decide_eq_false (by omega)]
      first | refine W_pickt rfl rfl rfl ?_ | refine W_pickf rfl rfl rfl ?_
      refine W_bne rfl rfl ty4 rfl ?_
      refine W_move rfl rfl ?_
      refine W_gyes rfl rfl ?_
      refine W_move rfl rfl ?_
      refine W_gyes rfl rfl ?_
      refine W_move rfl rfl ?_
      refine W_gyes rfl rfl ?_
      refine W_bin rfl rfl b_geq rfl ?_
      first | rw [decide_eq_true (by omega)] | rw [decide_eq_false (by omega)]
      refine W_gyes rfl rfl ?_
      refine W_move rfl rfl ?_
      refine W_gyes rfl rfl ?_
      refine W_move rfl rfl ?_
      refine W_gyes rfl rfl ?_
      refine W_move rfl rfl ?_
      refine W_gyes rfl rfl ?_
      refine W_call (.cons rfl (.cons rfl .nil)) Tryd.call23 rfl (LCalls.hsub (LateB_L (a := a) hB3 hlen3 hle3 hT (H := XO ++ H)) (by first | exact hsubI | (repeat (first | with_reducible exact HSub.refl _ | refine HSub.cons (by repeat (first | exact Take.here _ | apply Take.next | apply Take.app)) ?_ | refine HSub.app (by repeat (first | with_reducible exact TakeS.here _ | apply TakeS.next | apply TakeS.app)) ?_ | exact HSub.nil _ | exact HSub.refl _ | refine HSub.drop ?_ | refine HSub.dropS ?_)))) ?_
      rintro v H' ⟨HBx, hBx, rfl, rfl⟩
      rw [show (apW Ws c a w Li).length = Ws.length from List.length_set, late_without hw hlen64 (fun t ht => (ap_left hG t ht).1)]
      refine W_gyes rfl rfl ?_
      refine W_move rfl rfl ?_
      refine W_gyes rfl rfl ?_
      refine W_move rfl rfl ?_
      refine W_gyes rfl rfl ?_
      refine W_buildSlice ty35 ty3 (.cons rfl rfl rfl rfl rfl .nil) rfl rfl rfl rfl rfl rfl rfl (fun b99 => ?_)
      refine W_gyes rfl rfl ?_
      refine W_callq (.cons rfl (.cons rfl .nil)) Tryd.call26 rfl (out_q (m := lateM Ws a Ws.length) (l := [(c : Int)]) (lateM_lt _ _ _) (show 1 ≤ 4611686018427387904 by decide) (Holds.own (b := b99) (by repeat (first | exact List.mem_cons_self | apply List.mem_cons_of_mem | apply List.mem_append_right)))) ?_
      refine W_gyes rfl rfl ?_
      refine W_bin rfl rfl b_neq rfl ?_
      rw [decide_eq_false (by simp)]
      refine W_gyes rfl rfl ?_
      first | refine W_pickt rfl rfl rfl ?_ | refine W_pickf rfl rfl rfl ?_
      first | refine W_pickt rfl rfl rfl ?_ | refine W_pickf rfl rfl rfl ?_
      refine W_nil ?_
      refine W_condF rfl rfl ?_
      refine W_skip ?_
      refine W_seq ?_
      refine W_sr ?_
      refine W_hsub (H' := XO ++ (HBx ++ H)) (by first | exact hsubI | (repeat (first | with_reducible exact HSub.refl _ | refine HSub.cons (by repeat (first | exact Take.here _ | apply Take.next | apply Take.app)) ?_ | refine HSub.app (by repeat (first | with_reducible exact TakeS.here _ | apply TakeS.next | apply TakeS.app)) ?_ | exact HSub.nil _ | exact HSub.refl _ | refine HSub.drop ?_ | refine HSub.dropS ?_))) ?_
      have hOr : Holds w0 (XO ++ (HBx ++ H)) ad2 ((O.map (·.id)).map (Value.int .i64)) := OwnS.holds hO (fun p hp => List.mem_append_left _ hp)
      refine W_assign rfl rfl ?_
      refine W_nil ?_
      refine W_block ?_
      refine W_loopC (X := Nat) [(0, _), (1, _), (3, _), (4, _), (11, _), (13, _), (18, _)] (fun (x : Nat) => [(19, .int .i64 (x : Int))]) (fun _ => _) (fun (x : Nat) => XO ++ (HBx ++ H)) (fun (x : Nat) => x ≤ O.length) (fun (x : Nat) => O.length - x) 0 (Nat.zero_le _) (sub_cons rfl (sub_cons rfl (sub_cons rfl (sub_cons rfl (sub_cons rfl (sub_cons rfl (sub_cons rfl (sub_nil _)))))))) (sub_cons rfl (sub_nil _)) rfl (.refl _) ?_
      intro q hq
      simp only [List.cons_append, List.nil_append]
      refine W_seq ?_
      refine W_sr ?_
      refine W_move rfl rfl ?_
      refine W_move rfl rfl ?_
      refine W_len rfl ty35 rfl rfl ?_
      refine W_bin rfl rfl b_lss rfl ?_
      refine W_nil ?_
      refine W_condPS (p := (q : Int) < (O.length : Int)) rfl (by simp) (fun r1 => ?_) (fun r1 => ?_)
      · skip
        refine W_skip ?_
        refine W_seq ?_
        refine W_block ?_
        refine W_sr ?_
        obtain ⟨tq, htq⟩ : ∃ tq, O[q]? = some tq := ⟨_, List.getElem?_eq_getElem (by omega)⟩
        obtain ⟨q0_, p0_, rfl, hcq⟩ := hOr.at (i := q) (v := .int .i64 tq.id) (by rw [List.getElem?_map, List.getElem?_map, htq]; rfl)
        obtain ⟨m, hmid, hmc⟩ := hOid tq (List.mem_of_getElem? htq)
        rw [hmid] at hcq
        refine W_move rfl rfl ?_
        refine W_move rfl rfl ?_
        refine W_indexAddr (j := q) rfl rfl ty35 ty3 rfl (by omega) rfl rfl ?_
        refine W_load (v := .int .i64 ((m : Nat) : Int)) rfl ty3 rfl (by rw [Nat.mul_one]; exact hcq.up (by first | exact hsubI | (repeat (first | with_reducible exact HSub.refl _ | refine HSub.cons (by repeat (first | exact Take.here _ | apply Take.next | apply Take.app)) ?_ | refine HSub.app (by repeat (first | with_reducible exact TakeS.here _ | apply TakeS.next | apply TakeS.app)) ?_ | exact HSub.nil _ | exact HSub.refl _ | refine HSub.drop ?_ | refine HSub.dropS ?_)))) rfl ?_
        refine W_move rfl rfl ?_
        refine W_bin rfl rfl (b_rem (by omega) (m := ((m % N : Nat) : Int)) (tmN m N)) rfl ?_
        refine W_move rfl rfl ?_
        refine W_bin rfl rfl b_neq rfl ?_
        rw [decide_eq_false (by omega)]
        refine W_nil ?_
        refine W_condF rfl rfl ?_
        refine W_skip ?_
        refine W_blk ?_
        refine W_region ?_
        refine W_move rfl rfl ?_
        refine W_bin rfl rfl (b_add (m := ((q + 1 : Nat) : Int)) ((i64w (by omega)).trans (by omega))) rfl ?_
        refine W_assign rfl rfl ?_
        refine W_nil ?_
        refine W_again (q + 1) (by omega) (by omega) (sub_cons rfl (sub_cons rfl (sub_cons rfl (sub_cons rfl (sub_cons rfl (sub_cons rfl (sub_cons rfl (sub_cons rfl (sub_nil _))))))))) rfl (.refl _)
      · skip
        refine W_exit rfl ?_
        refine W_seq ?_
        refine W_sr ?_
        refine W_assign rfl rfl ?_
        refine W_nil ?_
        refine W_block ?_
        refine W_loopC (X := (Nat × Heap)) [(0, _), (1, _), (3, _), (4, _), (11, _), (13, _)] (fun (x : (Nat × Heap)) => [(20, .int .i64 (x.1 : Int))]) (fun _ => _) (fun (x : (Nat × Heap)) => XO ++ (x.2 ++ H)) (fun (x : (Nat × Heap)) => x.1 ≤ n ∧ BankH bb (apW Ws c a w Li) x.2) (fun (x : (Nat × Heap)) => n - x.1) (0, HBx) ⟨Nat.zero_le _, hBx⟩ (sub_cons rfl (sub_cons rfl (sub_cons rfl (sub_cons rfl (sub_cons rfl (sub_cons rfl (sub_nil _))))))) (sub_cons rfl (sub_nil _)) rfl (.refl _) ?_
        rintro ⟨i, HBi⟩ ⟨hi2, hBi⟩
        dsimp only at hi2 hBi ⊢
        simp only [List.cons_append, List.nil_append]
        refine W_seq ?_
        refine W_sr ?_
        refine W_move rfl rfl ?_
        refine W_move rfl rfl ?_
        by_cases hin : (i : Int) < (n : Int)
        · skip
          refine W_bin rfl rfl b_lss rfl ?_
          rw [decide_eq_true hin]
          refine W_move rfl rfl ?_
          refine W_gyes rfl rfl ?_
          refine W_move rfl rfl ?_
          refine W_gyes rfl rfl ?_
          refine W_bin rfl rfl b_neq rfl ?_
          rw [decide_eq_false (by simp)]
          first | refine W_pickt rfl rfl rfl ?_ | refine W_pickf rfl rfl rfl ?_
          refine W_nil ?_
          refine W_condF rfl rfl ?_
          refine W_exit rfl ?_
          refine W_sr ?_
          refine W_callp .nil Tryd.call28 rfl hT knownB_pure ?_
          refine W_assign rfl rfl ?_
          refine W_nil ?_
          refine W_ret1m (H2 := H) Tryd.results6 rfl (.nil _) (by first | exact hsubI | (repeat (first | with_reducible exact HSub.refl _ | refine HSub.cons (by repeat (first | exact Take.here _ | apply Take.next | apply Take.app)) ?_ | refine HSub.app (by repeat (first | with_reducible exact TakeS.here _ | apply TakeS.next | apply TakeS.app)) ?_ | exact HSub.nil _ | exact HSub.refl _ | refine HSub.drop ?_ | refine HSub.dropS ?_))) ?_
          exact ⟨rfl, rfl⟩
        · skip
          refine W_bin rfl rfl b_lss rfl ?_
          rw [decide_eq_false hin]
          refine W_move rfl rfl ?_
          refine W_gno rfl rfl rfl ?_
          refine W_gno rfl rfl rfl ?_
          first | refine W_pickt rfl rfl rfl ?_ | refine W_pickf rfl rfl rfl ?_
          refine W_nil ?_
          refine W_condF rfl rfl ?_
          refine W_exit rfl ?_
          refine W_sr ?_
          refine W_callp .nil Tryd.call28 rfl hT knownB_pure ?_
          refine W_assign rfl rfl ?_
          refine W_nil ?_
          refine W_ret1m (H2 := H) Tryd.results6 rfl (.nil _) (by first | exact hsubI | (repeat (first | with_reducible exact HSub.refl _ | refine HSub.cons (by repeat (first | exact Take.here _ | apply Take.next | apply Take.app)) ?_ | refine HSub.app (by repeat (first | with_reducible exact TakeS.here _ | apply TakeS.next | apply TakeS.app)) ?_ | exact HSub.nil _ | exact HSub.refl _ | refine HSub.drop ?_ | refine HSub.dropS ?_))) ?_
          exact ⟨rfl, rfl⟩
    · skip
      rw [hb] at hF
      have hO0 := of_decide_eq_false hF
      refine W_move rfl rfl ?_
      refine W_len rfl ty35 rfl rfl ?_
      refine W_bin rfl rfl b_gtr rfl ?_
      first | rw [decide_eq_true (by omega)] | rw [decide_eq_false (by omega)]
      refine W_move rfl rfl ?_
      refine W_move rfl rfl ?_
      refine W_callp (.cons rfl (.cons rfl .nil)) Tryd.call25 rfl trivial (has_pure (m := lateM Ws a Ws.length) (i := (c : Int)) (lateM_lt _ _ _)) ?_
      rw [late_has hw hlen64, hb]
      refine W_move rfl rfl ?_
      refine W_gno rfl rfl rfl ?_
      refine W_gno rfl rfl rfl ?_
      refine W_gno rfl rfl rfl ?_
      first | refine W_pickt rfl rfl rfl ?_ | refine W_pickf rfl rfl rfl ?_
      refine W_bne rfl rfl ty4 rfl ?_
      refine W_move rfl rfl ?_
      refine W_gyes rfl rfl ?_
      refine W_move rfl rfl ?_
      refine W_gyes rfl rfl ?_
      refine W_move rfl rfl ?_
      refine W_gyes rfl rfl ?_
      refine W_bin rfl rfl b_geq rfl ?_
      first | rw [decide_eq_true (by omega)] | rw [decide_eq_false (by omega)]
      refine W_gyes rfl rfl ?_
      refine W_move rfl rfl ?_
      refine W_gyes rfl rfl ?_
      refine W_move rfl rfl ?_
      refine W_gyes rfl rfl ?_
      refine W_move rfl rfl ?_
      refine W_gyes rfl rfl ?_
      refine W_call (.cons rfl (.cons rfl .nil)) Tryd.call23 rfl (LCalls.hsub (LateB_L (a := a) hB3 hlen3 hle3 hT (H := XO ++ H)) (by first | exact hsubI | (repeat (first | with_reducible exact HSub.refl _ | refine HSub.cons (by repeat (first | exact Take.here _ | apply Take.next | apply Take.app)) ?_ | refine HSub.app (by repeat (first | with_reducible exact TakeS.here _ | apply TakeS.next | apply TakeS.app)) ?_ | exact HSub.nil _ | exact HSub.refl _ | refine HSub.drop ?_ | refine HSub.dropS ?_)))) ?_
      rintro v H' ⟨HBx, hBx, rfl, rfl⟩
      rw [show (apW Ws c a w Li).length = Ws.length from List.length_set, late_without hw hlen64 (fun t ht => (ap_left hG t ht).1)]
      refine W_gyes rfl rfl ?_
      refine W_move rfl rfl ?_
      refine W_gyes rfl rfl ?_
      refine W_move rfl rfl ?_
      refine W_gyes rfl rfl ?_
      refine W_buildSlice ty35 ty3 (.cons rfl rfl rfl rfl rfl .nil) rfl rfl rfl rfl rfl rfl rfl (fun b99 => ?_)
      refine W_gyes rfl rfl ?_
      refine W_callq (.cons rfl (.cons rfl .nil)) Tryd.call26 rfl (out_q (m := lateM Ws a Ws.length) (l := [(c : Int)]) (lateM_lt _ _ _) (show 1 ≤ 4611686018427387904 by decide) (Holds.own (b := b99) (by repeat (first | exact List.mem_cons_self | apply List.mem_cons_of_mem | apply List.mem_append_right)))) ?_
      refine W_gyes rfl rfl ?_
      refine W_bin rfl rfl b_neq rfl ?_
      rw [decide_eq_false (by simp)]
      refine W_gyes rfl rfl ?_
      first | refine W_pickt rfl rfl rfl ?_ | refine W_pickf rfl rfl rfl ?_
      first | refine W_pickt rfl rfl rfl ?_ | refine W_pickf rfl rfl rfl ?_
      refine W_nil ?_
      refine W_condF rfl rfl ?_
      refine W_skip ?_
      refine W_seq ?_
      refine W_sr ?_
      refine W_hsub (H' := XO ++ (HBx ++ H)) (by first | exact hsubI | (repeat (first | with_reducible exact HSub.refl _ | refine HSub.cons (by repeat (first | exact Take.here _ | apply Take.next | apply Take.app)) ?_ | refine HSub.app (by repeat (first | with_reducible exact TakeS.here _ | apply TakeS.next | apply TakeS.app)) ?_ | exact HSub.nil _ | exact HSub.refl _ | refine HSub.drop ?_ | refine HSub.dropS ?_))) ?_
      have hOr : Holds w0 (XO ++ (HBx ++ H)) ad2 ((O.map (·.id)).map (Value.int .i64)) := OwnS.holds hO (fun p hp => List.mem_append_left _ hp)
      refine W_assign rfl rfl ?_
      refine W_nil ?_
      refine W_block ?_
      refine W_loopC (X := Nat) [(0, _), (1, _), (3, _), (4, _), (11, _), (13, _), (18, _)] (fun (x : Nat) => [(19, .int .i64 (x : Int))]) (fun _ => _) (fun (x : Nat) => XO ++ (HBx ++ H)) (fun (x : Nat) => x ≤ O.length) (fun (x : Nat) => O.length - x) 0 (Nat.zero_le _) (sub_cons rfl (sub_cons rfl (sub_cons rfl (sub_cons rfl (sub_cons rfl (sub_cons rfl (sub_cons rfl (sub_nil _)))))))) (sub_cons rfl (sub_nil _)) rfl (.refl _) ?_
      intro q hq
      simp only [List.cons_append, List.nil_append]
      refine W_seq ?_
      refine W_sr ?_
      refine W_move rfl rfl ?_
      refine W_move rfl rfl ?_
      refine W_len rfl ty35 rfl rfl ?_
      refine W_bin rfl rfl b_lss rfl ?_
      refine W_nil ?_
      refine W_condPS (p := (q : Int) < (O.length : Int)) rfl (by simp) (fun r1 => ?_) (fun r1 => ?_)
      · skip
        refine W_skip ?_
        refine W_seq ?_
        refine W_block ?_
        refine W_sr ?_
        obtain ⟨tq, htq⟩ : ∃ tq, O[q]? = some tq := ⟨_, List.getElem?_eq_getElem (by omega)⟩
        obtain ⟨q0_, p0_, rfl, hcq⟩ := hOr.at (i := q) (v := .int .i64 tq.id) (by rw [List.getElem?_map, List.getElem?_map, htq]; rfl)
        obtain ⟨m, hmid, hmc⟩ := hOid tq (List.mem_of_getElem? htq)
        rw [hmid] at hcq
        refine W_move rfl rfl ?_
        refine W_move rfl rfl ?_
        refine W_indexAddr (j := q) rfl rfl ty35 ty3 rfl (by omega) rfl rfl ?_
        refine W_load (v := .int .i64 ((m : Nat) : Int)) rfl ty3 rfl (by rw [Nat.mul_one]; exact hcq.up (by first | exact hsubI | (repeat (first | with_reducible exact HSub.refl _ | refine HSub.cons (by repeat (first | exact Take.here _ | apply Take.next | apply Take.app)) ?_ | refine HSub.app (by repeat (first | with_reducible exact TakeS.here _ | apply TakeS.next | apply TakeS.app)) ?_ | exact HSub.nil _ | exact HSub.refl _ | refine HSub.drop ?_ | refine HSub.dropS ?_)))) rfl ?_
        refine W_move rfl rfl ?_
        refine W_bin rfl rfl (b_rem (by omega) (m := ((m % N : Nat) : Int)) (tmN m N)) rfl ?_
        refine W_move rfl rfl ?_
        refine W_bin rfl rfl b_neq rfl ?_
        rw [decide_eq_false (by omega)]
        refine W_nil ?_
        refine W_condF rfl rfl ?_
        refine W_skip ?_
        refine W_blk ?_
        refine W_region ?_
        refine W_move rfl rfl ?_
        refine W_bin rfl rfl (b_add (m := ((q + 1 : Nat) : Int)) ((i64w (by omega)).trans (by omega))) rfl ?_
        refine W_assign rfl rfl ?_
        refine W_nil ?_
        refine W_again (q + 1) (by omega) (by omega) (sub_cons rfl (sub_cons rfl (sub_cons rfl (sub_cons rfl (sub_cons rfl (sub_cons rfl (sub_cons rfl (sub_cons rfl (sub_nil _))))))))) rfl (.refl _)
      · skip
        refine W_exit rfl ?_
        refine W_seq ?_
        refine W_sr ?_
        refine W_assign rfl rfl ?_
        refine W_nil ?_
        refine W_block ?_
        refine W_loopC (X := (Nat × Heap)) [(0, _), (1, _), (3, _), (4, _), (11, _), (13, _)] (fun (x : (Nat × Heap)) => [(20, .int .i64 (x.1 : Int))]) (fun _ => _) (fun (x : (Nat × Heap)) => XO ++ (x.2 ++ H)) (fun (x : (Nat × Heap)) => x.1 ≤ n ∧ BankH bb (apW Ws c a w Li) x.2) (fun (x : (Nat × Heap)) => n - x.1) (0, HBx) ⟨Nat.zero_le _, hBx⟩ (sub_cons rfl (sub_cons rfl (sub_cons rfl (sub_cons rfl (sub_cons rfl (sub_cons rfl (sub_nil _))))))) (sub_cons rfl (sub_nil _)) rfl (.refl _) ?_
        rintro ⟨i, HBi⟩ ⟨hi2, hBi⟩
        dsimp only at hi2 hBi ⊢
        simp only [List.cons_append, List.nil_append]
        refine W_seq ?_
        refine W_sr ?_
        refine W_move rfl rfl ?_
        refine W_move rfl rfl ?_
        by_cases hin : (i : Int) < (n : Int)
        · skip
          refine W_bin rfl rfl b_lss rfl ?_
          rw [decide_eq_true hin]
          refine W_move rfl rfl ?_
          refine W_gyes rfl rfl ?_
          refine W_move rfl rfl ?_
          refine W_gyes rfl rfl ?_
          refine W_bin rfl rfl b_neq rfl ?_
          rw [decide_eq_false (by simp)]
          first | refine W_pickt rfl rfl rfl ?_ | refine W_pickf rfl rfl rfl ?_
          refine W_nil ?_
          refine W_condF rfl rfl ?_
          refine W_exit rfl ?_
          refine W_sr ?_
          refine W_callp .nil Tryd.call28 rfl hT knownB_pure ?_
          refine W_assign rfl rfl ?_
          refine W_nil ?_
          refine W_ret1m (H2 := H) Tryd.results6 rfl (.nil _) (by first | exact hsubI | (repeat (first | with_reducible exact HSub.refl _ | refine HSub.cons (by repeat (first | exact Take.here _ | apply Take.next | apply Take.app)) ?_ | refine HSub.app (by repeat (first | with_reducible exact TakeS.here _ | apply TakeS.next | apply TakeS.app)) ?_ | exact HSub.nil _ | exact HSub.refl _ | refine HSub.drop ?_ | refine HSub.dropS ?_))) ?_
          exact ⟨rfl, rfl⟩
        · skip
          refine W_bin rfl rfl b_lss rfl ?_
          rw [decide_eq_false hin]
          refine W_move rfl rfl ?_
          refine W_gno rfl rfl rfl ?_
          refine W_gno rfl rfl rfl ?_
          first | refine W_pickt rfl rfl rfl ?_ | refine W_pickf rfl rfl rfl ?_
          refine W_nil ?_
          refine W_condF rfl rfl ?_
          refine W_exit rfl ?_
          refine W_sr ?_
          refine W_callp .nil Tryd.call28 rfl hT knownB_pure ?_
          refine W_assign rfl rfl ?_
          refine W_nil ?_
          refine W_ret1m (H2 := H) Tryd.results6 rfl (.nil _) (by first | exact hsubI | (repeat (first | with_reducible exact HSub.refl _ | refine HSub.cons (by repeat (first | exact Take.here _ | apply Take.next | apply Take.app)) ?_ | refine HSub.app (by repeat (first | with_reducible exact TakeS.here _ | apply TakeS.next | apply TakeS.app)) ?_ | exact HSub.nil _ | exact HSub.refl _ | refine HSub.drop ?_ | refine HSub.dropS ?_))) ?_
          exact ⟨rfl, rfl⟩
    · skip
      rw [hb] at hF
      have hO0 := of_decide_eq_false hF
      refine W_move rfl rfl ?_
      refine W_len rfl ty35 rfl rfl ?_
      refine W_bin rfl rfl b_gtr rfl ?_
      first | rw [decide_eq_true (by omega)] | rw [decide_eq_false (by omega)]
      refine W_move rfl rfl ?_
      refine W_move rfl rfl ?_
      refine W_callp (.cons rfl (.cons rfl .nil)) Tryd.call25 rfl trivial (has_pure (m := lateM Ws a Ws.length) (i := (c : Int)) (lateM_lt _ _ _)) ?_
      rw [late_has hw hlen64, hb]
      refine W_move rfl rfl ?_
      refine W_gno rfl rfl rfl ?_
      refine W_gno rfl rfl rfl ?_
      refine W_gno rfl rfl rfl ?_
      first | refine W_pickt rfl rfl rfl ?_ | refine W_pickf rfl rfl rfl ?_
      refine W_bne rfl rfl ty4 rfl ?_
      refine W_move rfl rfl ?_
      refine W_gyes rfl rfl ?_
      refine W_move rfl rfl ?_
      refine W_gyes rfl rfl ?_
      refine W_move rfl rfl ?_
      refine W_gyes rfl rfl ?_
      refine W_bin rfl rfl b_geq rfl ?_
      first | rw [decide_eq_true (by omega)] | rw [decide_eq_false (by omega)]
      refine W_gyes rfl rfl ?_
      refine W_move rfl rfl ?_
      refine W_gno rfl rfl rfl ?_
      refine W_gno rfl rfl rfl ?_
      refine W_gno rfl rfl rfl ?_
      refine W_gno rfl rfl rfl ?_
      refine W_gno rfl rfl rfl ?_
      refine W_gno rfl rfl rfl ?_
      refine W_gno rfl rfl rfl ?_
      refine W_gno rfl rfl rfl ?_
      refine W_gyes rfl rfl ?_
      first | refine W_pickt rfl rfl rfl ?_ | refine W_pickf rfl rfl rfl ?_
      first | refine W_pickt rfl rfl rfl ?_ | refine W_pickf rfl rfl rfl ?_
      refine W_nil ?_
      refine W_condF rfl rfl ?_
      refine W_skip ?_
      refine W_seq ?_
      refine W_sr ?_
      generalize HB3 = HBx at hB3 ⊢
      have hBx := hB3
      refine W_hsub (H' := XO ++ (HBx ++ H)) (by first | exact hsubI | (repeat (first | with_reducible exact HSub.refl _ | refine HSub.cons (by repeat (first | exact Take.here _ | apply Take.next | apply Take.app)) ?_ | refine HSub.app (by repeat (first | with_reducible exact TakeS.here _ | apply TakeS.next | apply TakeS.app)) ?_ | exact HSub.nil _ | exact HSub.refl _ | refine HSub.drop ?_ | refine HSub.dropS ?_))) ?_
      have hOr : Holds w0 (XO ++ (HBx ++ H)) ad2 ((O.map (·.id)).map (Value.int .i64)) := OwnS.holds hO (fun p hp => List.mem_append_left _ hp)
      refine W_assign rfl rfl ?_
      refine W_nil ?_
      refine W_block ?_
      refine W_loopC (X := Nat) [(0, _), (1, _), (3, _), (4, _), (11, _), (13, _), (18, _)] (fun (x : Nat) => [(19, .int .i64 (x : Int))]) (fun _ => _) (fun (x : Nat) => XO ++ (HBx ++ H)) (fun (x : Nat) => x ≤ O.length) (fun (x : Nat) => O.length - x) 0 (Nat.zero_le _) (sub_cons rfl (sub_cons rfl (sub_cons rfl (sub_cons rfl (sub_cons rfl (sub_cons rfl (sub_cons rfl (sub_nil _)))))))) (sub_cons rfl (sub_nil _)) rfl (.refl _) ?_
      intro q hq
      simp only [List.cons_append, List.nil_append]
      refine W_seq ?_
      refine W_sr ?_
      refine W_move rfl rfl ?_
      refine W_move rfl rfl ?_
      refine W_len rfl ty35 rfl rfl ?_
      refine W_bin rfl rfl b_lss rfl ?_
      refine W_nil ?_
      refine W_condPS (p := (q : Int) < (O.length : Int)) rfl (by simp) (fun r1 => ?_) (fun r1 => ?_)
      · skip
        refine W_skip ?_
        refine W_seq ?_
        refine W_block ?_
        refine W_sr ?_
        obtain ⟨tq, htq⟩ : ∃ tq, O[q]? = some tq := ⟨_, List.getElem?_eq_getElem (by omega)⟩
        obtain ⟨q0_, p0_, rfl, hcq⟩ := hOr.at (i := q) (v := .int .i64 tq.id) (by rw [List.getElem?_map, List.getElem?_map, htq]; rfl)
        obtain ⟨m, hmid, hmc⟩ := hOid tq (List.mem_of_getElem? htq)
        rw [hmid] at hcq
        refine W_move rfl rfl ?_
        refine W_move rfl rfl ?_
        refine W_indexAddr (j := q) rfl rfl ty35 ty3 rfl (by omega) rfl rfl ?_
        refine W_load (v := .int .i64 ((m : Nat) : Int)) rfl ty3 rfl (by rw [Nat.mul_one]; exact hcq.up (by first | exact hsubI | (repeat (first | with_reducible exact HSub.refl _ | refine HSub.cons (by repeat (first | exact Take.here _ | apply Take.next | apply Take.app)) ?_ | refine HSub.app (by repeat (first | with_reducible exact TakeS.here _ | apply TakeS.next | apply TakeS.app)) ?_ | exact HSub.nil _ | exact HSub.refl _ | refine HSub.drop ?_ | refine HSub.dropS ?_)))) rfl ?_
        refine W_move rfl rfl ?_
        refine W_bin rfl rfl (b_rem (by omega) (m := ((m % N : Nat) : Int)) (tmN m N)) rfl ?_
        refine W_move rfl rfl ?_
        refine W_bin rfl rfl b_neq rfl ?_
        rw [decide_eq_false (by omega)]
        refine W_nil ?_
        refine W_condF rfl rfl ?_
        refine W_skip ?_
        refine W_blk ?_
        refine W_region ?_
        refine W_move rfl rfl ?_
        refine W_bin rfl rfl (b_add (m := ((q + 1 : Nat) : Int)) ((i64w (by omega)).trans (by omega))) rfl ?_
        refine W_assign rfl rfl ?_
        refine W_nil ?_
        refine W_again (q + 1) (by omega) (by omega) (sub_cons rfl (sub_cons rfl (sub_cons rfl (sub_cons rfl (sub_cons rfl (sub_cons rfl (sub_cons rfl (sub_cons rfl (sub_nil _))))))))) rfl (.refl _)
      · skip
        refine W_exit rfl ?_
        refine W_seq ?_
        refine W_sr ?_
        refine W_assign rfl rfl ?_
        refine W_nil ?_
        refine W_block ?_
        refine W_loopC (X := (Nat × Heap)) [(0, _), (1, _), (3, _), (4, _), (11, _), (13, _)] (fun (x : (Nat × Heap)) => [(20, .int .i64 (x.1 : Int))]) (fun _ => _) (fun (x : (Nat × Heap)) => XO ++ (x.2 ++ H)) (fun (x : (Nat × Heap)) => x.1 ≤ n ∧ BankH bb (apW Ws c a w Li) x.2) (fun (x : (Nat × Heap)) => n - x.1) (0, HBx) ⟨Nat.zero_le _, hBx⟩ (sub_cons rfl (sub_cons rfl (sub_cons rfl (sub_cons rfl (sub_cons rfl (sub_cons rfl (sub_nil _))))))) (sub_cons rfl (sub_nil _)) rfl (.refl _) ?_
        rintro ⟨i, HBi⟩ ⟨hi2, hBi⟩
        dsimp only at hi2 hBi ⊢
        simp only [List.cons_append, List.nil_append]
        refine W_seq ?_
        refine W_sr ?_
        refine W_move rfl rfl ?_
        refine W_move rfl rfl ?_
        by_cases hin : (i : Int) < (n : Int)
        · skip
          refine W_bin rfl rfl b_lss rfl ?_
          rw [decide_eq_true hin]
          refine W_move rfl rfl ?_
          refine W_gyes rfl rfl ?_
          refine W_move rfl rfl ?_
          refine W_gyes rfl rfl ?_
          refine W_bin rfl rfl b_neq rfl ?_
          rw [decide_eq_false (by simp)]
          first | refine W_pickt rfl rfl rfl ?_ | refine W_pickf rfl rfl rfl ?_
          refine W_nil ?_
          refine W_condF rfl rfl ?_
          refine W_exit rfl ?_
          refine W_sr ?_
          refine W_callp .nil Tryd.call28 rfl hT knownB_pure ?_
          refine W_assign rfl rfl ?_
          refine W_nil ?_
          refine W_ret1m (H2 := H) Tryd.results6 rfl (.nil _) (by first | exact hsubI | (repeat (first | with_reducible exact HSub.refl _ | refine HSub.cons (by repeat (first | exact Take.here _ | apply Take.next | apply Take.app)) ?_ | refine HSub.app (by repeat (first | with_reducible exact TakeS.here _ | apply TakeS.next | apply TakeS.app)) ?_ | exact HSub.nil _ | exact HSub.refl _ | refine HSub.drop ?_ | refine HSub.dropS ?_))) ?_
          exact ⟨rfl, rfl⟩
        · skip
          refine W_bin rfl rfl b_lss rfl ?_
          rw [decide_eq_false hin]
          refine W_move rfl rfl ?_
          refine W_gno rfl rfl rfl ?_
          refine W_gno rfl rfl rfl ?_
          first | refine W_pickt rfl rfl rfl ?_ | refine W_pickf rfl rfl rfl ?_
          refine W_nil ?_
          refine W_condF rfl rfl ?_
          refine W_exit rfl ?_
          refine W_sr ?_
          refine W_callp .nil Tryd.call28 rfl hT knownB_pure ?_
          refine W_assign rfl rfl ?_
          refine W_nil ?_
          refine W_ret1m (H2 := H) Tryd.results6 rfl (.nil _) (by first | exact hsubI | (repeat (first | with_reducible exact HSub.refl _ | refine HSub.cons (by repeat (first | exact Take.here _ | apply Take.next | apply Take.app)) ?_ | refine HSub.app (by repeat (first | with_reducible exact TakeS.here _ | apply TakeS.next | apply TakeS.app)) ?_ | exact HSub.nil _ | exact HSub.refl _ | refine HSub.drop ?_ | refine HSub.dropS ?_))) ?_
          exact ⟨rfl, rfl⟩
theorem bankApart_pure {z y : Int} {now a : Nat} {l : List Int} {ad : Option Addr} {cap : Nat} (hwf : ∀ b ∈ l, 0 ≤ b ∧ b ≤ 18446744073709551615) (hcap : l.length ≤ 9223372036854775807) (ha_ : a ≤ 18446744073709551615) (hnow : now ≤ 18446744073709551615) : Pure Tryd.prog (fun w => Tab w ∧ InRow w ad (l.map (Value.int .u64))) 6 [.int .i64 z, .int .u64 ((now : Nat) : Int), .slice ad l.length cap, .int .i64 y, .int .u64 ((a : Nat) : Int)] (.bool true) := by
  rcases Nat.lt_or_eq_of_le hnow with h | rfl
  · exact bankApart_L hwf hcap ha_ h
  · exact bankApart_M (now := 0) hwf hcap ha_
end Go.Proofs.YtknbohnoiigioaaDoor
