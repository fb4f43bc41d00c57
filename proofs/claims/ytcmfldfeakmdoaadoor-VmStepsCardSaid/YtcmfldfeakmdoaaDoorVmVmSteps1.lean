/-
  Own work: contracts of functions that the statement reaches, and plain facts on what they compute; each theorem says its conditions.
-/
import Derived.Test.YtcmfldfeakmdoaaDoorVmT5
import Derived.Test.YtcmfldfeakmdoaaDoorVmS2
import Derived.Test.YtcmfldfeakmdoaaDoorVmA
set_option linter.all false
set_option linter.unusedSimpArgs false
set_option linter.unusedVariables false
namespace Go.Proofs.YtcmfldfeakmdoaaDoor
open Go Go.Sl
attribute [local irreducible] W
theorem vaRow_take {w0 : World} {H : Heap} {ad : Option Addr} {l : List Va} (h : Holds w0 H ad (vaRow l)) (k : Nat) : Holds w0 H ad (vaRow (l.take k)) := by
  have e : vaRow l = vaRow (l.take k) ++ vaRow (l.drop k) := by rw [← List.flatMap_append, List.take_append_drop]
  rw [e] at h
  intro j x hx
  exact h j x (by rw [List.getElem?_append_left (List.getElem?_eq_some_iff.1 hx).1]; exact hx)
set_option maxHeartbeats 8000000 in
theorem vmSteps_q {w0 : World} {H : Heap} {l : List Ins} {la an : List Va} {ad adl adn : Option Addr} {cap capl capn fN nN : Nat} {z zn : Int} (hz0 : -9223372036854775808 ≤ z ∧ z ≤ 9223372036854775807) (hzn : -9223372036854775808 ≤ zn ∧ zn ≤ 9223372036854775807) (hfN : fN < 256) (hrem : (IntKind.u64.wrap z).tmod 256 = (fN : Int)) (hnN : nN < 20) (hremn : (IntKind.u64.wrap zn).tmod 20 = (nN : Int)) (hla : ∀ v ∈ la, Wd v.n) (han : ∀ v ∈ an, Wd v.n) (hi : InsOk l) (hcapl : la.length ≤ capl) (hmaxa : an.length ≤ 9223372036854775807) (hrow : Holds w0 H ad (insRow l)) (hrl : Holds w0 H adl (vaRow la)) (hran : Holds w0 H adn (vaRow an)) (hT : Tab w0) : PureAt Tryd.prog w0 H 3 [.slice ad l.length cap, .int .i64 z, .slice adl la.length capl, .slice adn an.length capn, .int .i64 zn] (.bool true) := by
  refine L_enter Tryd.func3 rfl Tryd.ntmps3 rfl rfl ?_
  by_cases hz : (chkR (l.take 64) true).2 = 0
  · skip
    refine W_sr ?_
    refine W_assign rfl rfl ?_
    refine W_nil ?_
    refine W_sr ?_
    refine W_move rfl rfl ?_
    refine W_call (.cons rfl (.cons rfl .nil)) Tryd.call7 rfl ((code_L (H := H) l 64 (by decide) (hrow.up zH) hT).hsub zH) ?_
    rintro cv H' ⟨HC, hOC, rfl⟩
    obtain ⟨adc, capc, rfl, hcc, _, hclC⟩ := Holds.of_own (w0 := w0) (H := HC ++ H) hOC (fun p hp => List.mem_append_left _ hp)
    have hclen : (l.take 64).length ≤ 64 := by rw [List.length_take]; omega
    have hci : InsOk (l.take 64) := fun x hx => hi x (List.mem_of_mem_take hx)
    have hlal : (la.take 5).length ≤ 5 := by rw [List.length_take]; omega
    have hlaw : ∀ v ∈ (la.take 5), Wd v.n := fun v hv => hla v (List.mem_of_mem_take hv)
    have hrl5 : Holds w0 H adl (vaRow (la.take 5)) := vaRow_take hrl 5
    refine W_build (l := [.slice adc (l.take 64).length capc, .bool true]) ty27 pl27 (.cons rfl rfl rfl rfl rfl (.cons rfl rfl rfl rfl rfl .nil)) rfl rfl rfl ?_
    refine W_alloc (l := [.slice none 0 0, .bool false]) ty27 rfl rfl (fun b11 => ?_)
    refine W_storeA (l' := [.slice adc (l.take 64).length capc, .bool true]) rfl rfl ty27 rfl rfl (b := b11) zM (by exact Nat.le_refl 2) rfl zU ?_
    refine W_nil ?_
    refine W_sr ?_
    refine W_move rfl rfl ?_
    refine W_move rfl rfl ?_
    refine W_len rfl ty23 rfl rfl ?_
    refine W_min2 rfl rfl (m := ((la.take 5).length : Int)) (by rw [List.length_take]; split <;> omega) rfl ?_
    refine W_slice0 (hh := (la.take 5).length) rfl ty23 ty52 rfl ⟨_, rfl⟩ (by rw [List.length_take]; omega) rfl ?_
    refine W_assign rfl rfl ?_
    refine W_nil ?_
    refine W_sr ?_
    refine W_move rfl rfl ?_
    refine W_conv rfl ty3 ty28 rfl rfl ?_
    refine W_bin rfl rfl (b_rem (by decide) (m := (fN : Int)) hrem) rfl ?_
    refine W_conv rfl ty28 ty3 (m := (fN : Int)) (i64w (by omega)) rfl ?_
    refine W_bin rfl rfl (b_add (m := 1 + (fN : Int)) (i64w (by omega))) rfl ?_
    refine W_assign rfl rfl ?_
    refine W_nil ?_
    refine W_sr ?_
    refine W_move rfl rfl ?_
    refine W_conv rfl ty3 ty28 rfl rfl ?_
    refine W_bin rfl rfl (b_rem (by decide) (m := (nN : Int)) hremn) rfl ?_
    refine W_conv rfl ty28 ty3 (m := (nN : Int)) (i64w (by omega)) rfl ?_
    refine W_bin rfl rfl (b_add (m := 1 + (nN : Int)) (i64w (by omega))) rfl ?_
    refine W_assign rfl rfl ?_
    refine W_nil ?_
    refine W_seq ?_
    refine W_anyC ((b11, .cells 27 2 [.slice adc (l.take 64).length capc, .bool true]) :: (HC ++ H)) (by kernel_rfl) ?_
    refine WC_take 0 (l' := #[true, false, false, false, false, false, false, false, false, false]) rfl (by decide +kernel) (by decide +kernel) (by decide +kernel) rfl (by decide +kernel) (X_loadB (vs := [.slice adc (l.take 64).length capc, .bool true]) rfl ty27 rfl (b := b11) zM rfl rfl) rfl ?_
    refine WC_take 1 (l' := #[true, true, false, false, false, false, false, false, false, false]) rfl (by decide +kernel) (by decide +kernel) (by decide +kernel) rfl (by decide +kernel) (X_move rfl) rfl ?_
    refine WC_take 2 (l' := #[true, true, true, false, false, false, false, false, false, false]) rfl (by decide +kernel) (by decide +kernel) (by decide +kernel) rfl (by decide +kernel) (X_move rfl) rfl ?_
    refine WC_one 3 (l' := #[true, true, true, true, false, false, false, false, false, false]) zH (by decide +kernel) rfl (by decide +kernel) ?_
    refine W_call (.cons rfl .nil) Tryd.call9 rfl ((Tos_L (H := (b11, .cells 27 2 [.slice adc (l.take 64).length capc, .bool true]) :: (HC ++ H)) (l := (la.take 5)) (cap := capl) (by omega) (hrl5.up zH)).hsub zH) ?_
    rintro tv H' ⟨XA, hOXA, rfl⟩
    obtain ⟨adtXA, captXA, rfl, _, _, hcltXA⟩ := Holds.of_own (w0 := w0) (H := XA ++ ((b11, .cells 27 2 [.slice adc (l.take 64).length capc, .bool true]) :: (HC ++ H))) hOXA (fun p hp => List.mem_append_left _ hp)
    refine W_nil ?_
    refine WC_goal ?_
    refine WC_one 4 (l' := #[true, true, true, true, true, false, false, false, false, false]) zH (by decide +kernel) rfl (by decide +kernel) ?_
    refine W_call (.cons rfl (.cons rfl (.cons rfl .nil))) Tryd.call8 rfl ((RNew_ok (H := XA ++ ((b11, .cells 27 2 [.slice adc (l.take 64).length capc, .bool true]) :: (HC ++ H))) (l := (l.take 64)) (s := true) (la := (la.take 5)) hz hci (by omega) hcc (hclC.up zH) hlal (hcltXA.up zH) (fuel := 1 + (fN : Int)) (by omega) hT).hsub zH) ?_
    rintro v H' ⟨ba, fa, ada, capa, HBa, rfl, hcla, rfl⟩
    refine W_nil ?_
    refine WC_goal ?_
    refine WC_take 5 (l' := #[true, true, true, true, true, true, false, false, false, false]) rfl (by decide +kernel) (by decide +kernel) (by decide +kernel) rfl (by decide +kernel) (X_move rfl) rfl ?_
    refine WC_take 6 (l' := #[true, true, true, true, true, true, true, false, false, false]) rfl (by decide +kernel) (by decide +kernel) (by decide +kernel) rfl (by decide +kernel) (X_extract rfl rfl) rfl ?_
    refine WC_take 7 (l' := #[true, true, true, true, true, true, true, true, false, false]) rfl (by decide +kernel) (by decide +kernel) (by decide +kernel) rfl (by decide +kernel) (X_extract rfl rfl) rfl ?_
    refine WC_take 8 (l' := #[true, true, true, true, true, true, true, true, true, false]) rfl (by decide +kernel) (by decide +kernel) (by decide +kernel) rfl (by decide +kernel) (X_assign rfl) rfl ?_
    refine WC_take 9 (l' := #[true, true, true, true, true, true, true, true, true, true]) rfl (by decide +kernel) (by decide +kernel) (by decide +kernel) rfl (by decide +kernel) (X_assign rfl) rfl ?_
    refine WC_done zH (by decide +kernel) ?_
    refine W_seq ?_
    refine W_anyC ((b11, .cells 27 2 [.slice adc (l.take 64).length capc, .bool true]) :: (HC ++ H)) (by kernel_rfl) ?_
    refine WC_take 0 (l' := #[true, false, false, false, false, false, false, false, false, false]) rfl (by decide +kernel) (by decide +kernel) (by decide +kernel) rfl (by decide +kernel) (X_loadB (vs := [.slice adc (l.take 64).length capc, .bool true]) rfl ty27 rfl (b := b11) zM rfl rfl) rfl ?_
    refine WC_take 1 (l' := #[true, true, false, false, false, false, false, false, false, false]) rfl (by decide +kernel) (by decide +kernel) (by decide +kernel) rfl (by decide +kernel) (X_move rfl) rfl ?_
    refine WC_take 2 (l' := #[true, true, true, false, false, false, false, false, false, false]) rfl (by decide +kernel) (by decide +kernel) (by decide +kernel) rfl (by decide +kernel) (X_move rfl) rfl ?_
    refine WC_one 3 (l' := #[true, true, true, true, false, false, false, false, false, false]) zH (by decide +kernel) rfl (by decide +kernel) ?_
    refine W_call (.cons rfl .nil) Tryd.call9 rfl ((Tos_L (H := (ba, .cells 86 42 (runC fa ada (l.take 64).length capa (newR (la.take 5) (1 + (fN : Int))))) :: (fa, .cells 101 90 (vaRow ((newR (la.take 5) (1 + (fN : Int)))).V)) :: (HBa ++ ((b11, .cells 27 2 [.slice adc (l.take 64).length capc, .bool true]) :: (HC ++ H)))) (l := (la.take 5)) (cap := capl) (by omega) (hrl5.up zH)).hsub zH) ?_
    rintro tv H' ⟨XB, hOXB, rfl⟩
    obtain ⟨adtXB, captXB, rfl, _, _, hcltXB⟩ := Holds.of_own (w0 := w0) (H := XB ++ ((ba, .cells 86 42 (runC fa ada (l.take 64).length capa (newR (la.take 5) (1 + (fN : Int))))) :: (fa, .cells 101 90 (vaRow ((newR (la.take 5) (1 + (fN : Int)))).V)) :: (HBa ++ ((b11, .cells 27 2 [.slice adc (l.take 64).length capc, .bool true]) :: (HC ++ H))))) hOXB (fun p hp => List.mem_append_left _ hp)
    refine W_nil ?_
    refine WC_goal ?_
    refine WC_one 4 (l' := #[true, true, true, true, true, false, false, false, false, false]) zH (by decide +kernel) rfl (by decide +kernel) ?_
    refine W_call (.cons rfl (.cons rfl (.cons rfl .nil))) Tryd.call8 rfl ((RNew_ok (H := XB ++ ((ba, .cells 86 42 (runC fa ada (l.take 64).length capa (newR (la.take 5) (1 + (fN : Int))))) :: (fa, .cells 101 90 (vaRow ((newR (la.take 5) (1 + (fN : Int)))).V)) :: (HBa ++ ((b11, .cells 27 2 [.slice adc (l.take 64).length capc, .bool true]) :: (HC ++ H))))) (l := (l.take 64)) (s := true) (la := (la.take 5)) hz hci (by omega) hcc (hclC.up zH) hlal (hcltXB.up zH) (fuel := 1 + (fN : Int)) (by omega) hT).hsub zH) ?_
    rintro v H' ⟨bb, fb, adb, capb, HBb, rfl, hclb, rfl⟩
    have hc : CodeOk (l.take 64) := chk_code hz
    have hr0 : RunOk (l.take 64) (newR (la.take 5) (1 + (fN : Int))) := newR_ok hc hlal hlaw (by omega)
    refine W_nil ?_
    refine WC_goal ?_
    refine WC_take 5 (l' := #[true, true, true, true, true, true, false, false, false, false]) rfl (by decide +kernel) (by decide +kernel) (by decide +kernel) rfl (by decide +kernel) (X_move rfl) rfl ?_
    refine WC_take 6 (l' := #[true, true, true, true, true, true, true, false, false, false]) rfl (by decide +kernel) (by decide +kernel) (by decide +kernel) rfl (by decide +kernel) (X_extract rfl rfl) rfl ?_
    refine WC_take 7 (l' := #[true, true, true, true, true, true, true, true, false, false]) rfl (by decide +kernel) (by decide +kernel) (by decide +kernel) rfl (by decide +kernel) (X_extract rfl rfl) rfl ?_
    refine WC_take 8 (l' := #[true, true, true, true, true, true, true, true, true, false]) rfl (by decide +kernel) (by decide +kernel) (by decide +kernel) rfl (by decide +kernel) (X_assign rfl) rfl ?_
    refine WC_take 9 (l' := #[true, true, true, true, true, true, true, true, true, true]) rfl (by decide +kernel) (by decide +kernel) (by decide +kernel) rfl (by decide +kernel) (X_assign rfl) rfl ?_
    refine WC_done zH (by decide +kernel) ?_
    refine W_seq ?_
    refine W_sr ?_
    refine W_move rfl rfl ?_
    refine W_move rfl rfl ?_
    refine W_bin rfl rfl b_neq rfl ?_
    refine W_nil ?_
    refine W_condF rfl rfl ?_
    refine W_skip ?_
    refine W_seq ?_
    refine W_sr ?_
    refine W_move rfl rfl ?_
    refine W_bin rfl rfl b_neq rfl ?_
    refine W_nil ?_
    refine W_condF rfl rfl ?_
    refine W_skip ?_
    refine W_seq ?_
    refine W_sr ?_
    refine W_assign rfl rfl ?_
    refine W_nil ?_
    refine W_cutX (X := Unit) (fun _ => []) (fun _ => H) (fun _ => True) ?_ ?_
    · skip
      refine W_block ?_
      refine W_loopD (X := (Nat × Vs)) (fun x => [(3, .slice adn an.length capn), (4, .int .i64 (1 + (nN : Int))), (12, .pointer (some ⟨ba, 0, none⟩)), (14, .pointer (some ⟨bb, 0, none⟩)), (18, .int .i64 (x.1 : Int))]) (fun _ => []) (fun x => (ba, .cells 86 42 (runC fa ada (l.take 64).length capa x.2)) :: (fa, .cells 101 90 (vaRow (x.2).V)) :: (bb, .cells 86 42 (runC fb adb (l.take 64).length capb x.2)) :: (fb, .cells 101 90 (vaRow (x.2).V)) :: (HBa ++ (HBb ++ ((b11, .cells 27 2 [.slice adc (l.take 64).length capc, .bool true]) :: (HC ++ H))))) (fun x => x.1 ≤ an.length + 1 ∧ x.1 ≤ 61 ∧ RunOk (l.take 64) x.2) (fun x => an.length + 1 - x.1) (0, (newR (la.take 5) (1 + (fN : Int)))) ⟨Nat.zero_le _, Nat.zero_le _, hr0⟩ (sub_cons rfl (sub_cons rfl (sub_cons rfl (sub_cons rfl (sub_cons rfl (sub_nil _)))))) rfl zH ?_
      rintro ⟨i, r⟩ ⟨hi2, hi61, hr⟩
      dsimp only at hi2 hi61 hr ⊢
      refine W_seq ?_
      refine W_sr ?_
      refine W_move rfl rfl ?_
      refine W_move rfl rfl ?_
      refine W_len rfl ty23 rfl rfl ?_
      refine W_bin rfl rfl b_leq rfl ?_
      refine W_move rfl rfl ?_
      apply W_and
      iterate 4 exact rfl
      case h1 =>
        intro hg4
        refine W_gyes rfl rfl ?_
        refine W_move rfl rfl ?_
        refine W_gyes rfl rfl ?_
        refine W_bin rfl rfl b_leq rfl ?_
        exact W_met rfl zR
      refine W_nil ?_
      refine W_condPS (p := (i : Int) ≤ (an.length : Int) ∧ (i : Int) ≤ 60) rfl (by simp) (fun c0 => ?_) (fun c0 => ?_)
      · skip
        refine W_skip ?_
        refine W_seq ?_
        refine W_block ?_
        refine W_sr ?_
        refine W_move rfl rfl ?_
        refine W_call (.cons rfl (.cons rfl .nil)) Tryd.call12 rfl ((RGo_L (H := (bb, .cells 86 42 (runC fb adb (l.take 64).length capb r)) :: (fb, .cells 101 90 (vaRow (r).V)) :: (HBa ++ (HBb ++ ((b11, .cells 27 2 [.slice adc (l.take 64).length capc, .bool true]) :: (HC ++ H))))) (br := ba) (bf := fa) (r := r) (nn := 300) (l := (l.take 64)) rfl hc hci hr (hcla.up zH) (by first | decide | omega) hT).hsub zH) ?_
        rintro u H' ⟨rfl, rfl⟩
        obtain ⟨R, hRe⟩ : ∃ R, goF (l.take 64) (300 : Int).toNat r = R := ⟨_, rfl⟩
        rw [hRe]
        have hR : RunOk (l.take 64) R := hRe ▸ goF_ok hc _ hr
        have hRd : (R.over || R.asks) = true := hRe ▸ goF_ends hc _ hr (by have := hr.fuel; omega)
        have hk0 : ¬ (trapOf R).kind = 0 := fun h => by rw [hR.trap, hRd] at h; cases h
        refine W_alloc (l := trC trZ) ty44 rfl rfl (fun b19 => ?_)
        refine W_storeA (l' := trC (trapOf R)) rfl rfl ty44 rfl rfl (b := b19) zM (Nat.le_of_ble_eq_true rfl) rfl zU ?_
        refine W_nil ?_
        refine W_sr ?_
        refine W_move rfl rfl ?_
        refine W_move rfl rfl ?_
        refine W_call (.cons rfl (.cons rfl .nil)) Tryd.call12 rfl ((RGo_L (H := (b19, .cells 44 34 (trC (trapOf R))) :: (ba, .cells 86 42 (runC fa ada (l.take 64).length capa R)) :: (fa, .cells 101 90 (vaRow (R).V)) :: (HBa ++ (HBb ++ ((b11, .cells 27 2 [.slice adc (l.take 64).length capc, .bool true]) :: (HC ++ H))))) (br := bb) (bf := fb) (r := r) (nn := (1 + (nN : Int))) (l := (l.take 64)) rfl hc hci hr (hclb.up zH) (by first | decide | omega) hT).hsub zH) ?_
        rintro u H' ⟨rfl, rfl⟩
        refine W_alloc (l := trC trZ) ty44 rfl rfl (fun b20 => ?_)
        refine W_storeA (l' := trC (trapOf (goF (l.take 64) (1 + (nN : Int)).toNat r))) rfl rfl ty44 rfl rfl (b := b20) zM (Nat.le_of_ble_eq_true rfl) rfl zU ?_
        refine W_nil ?_
        refine W_seq ?_
        refine W_sr ?_
        refine W_assign rfl rfl ?_
        refine W_nil ?_
        refine W_cutX (X := Unit) (fun _ => [(3, .slice adn an.length capn), (4, .int .i64 (1 + (nN : Int))), (12, .pointer (some ⟨ba, 0, none⟩)), (14, .pointer (some ⟨bb, 0, none⟩)), (18, .int .i64 (i : Int)), (19, .pointer (some ⟨b19, 0, none⟩)), (20, .pointer (some ⟨b20, 0, none⟩))]) (fun _ => (b20, .cells 44 34 (trC (trapOf R))) :: (b19, .cells 44 34 (trC (trapOf R))) :: (ba, .cells 86 42 (runC fa ada (l.take 64).length capa R)) :: (fa, .cells 101 90 (vaRow (R).V)) :: (bb, .cells 86 42 (runC fb adb (l.take 64).length capb R)) :: (fb, .cells 101 90 (vaRow (R).V)) :: (HBa ++ (HBb ++ ((b11, .cells 27 2 [.slice adc (l.take 64).length capc, .bool true]) :: (HC ++ H))))) (fun _ => True) ?_ ?_
        · skip
          refine W_block ?_
          refine W_loopD (X := (Nat × Nat)) (fun y => [(3, .slice adn an.length capn), (4, .int .i64 (1 + (nN : Int))), (12, .pointer (some ⟨ba, 0, none⟩)), (14, .pointer (some ⟨bb, 0, none⟩)), (18, .int .i64 (i : Int)), (19, .pointer (some ⟨b19, 0, none⟩)), (20, .pointer (some ⟨b20, 0, none⟩)), (21, .int .i64 (y.1 : Int))]) (fun _ => []) (fun y => (b20, .cells 44 34 (trC (trapOf (goF (l.take 64) y.2 r)))) :: (b19, .cells 44 34 (trC (trapOf R))) :: (ba, .cells 86 42 (runC fa ada (l.take 64).length capa R)) :: (fa, .cells 101 90 (vaRow (R).V)) :: (bb, .cells 86 42 (runC fb adb (l.take 64).length capb (goF (l.take 64) y.2 r))) :: (fb, .cells 101 90 (vaRow ((goF (l.take 64) y.2 r)).V)) :: (HBa ++ (HBb ++ ((b11, .cells 27 2 [.slice adc (l.take 64).length capc, .bool true]) :: (HC ++ H))))) (fun y => y.1 ≤ 300 ∧ y.1 < y.2) (fun y => 300 - y.1) (0, (1 + (nN : Int)).toNat) ⟨Nat.zero_le _, by show 0 < (1 + (nN : Int)).toNat; omega⟩ (sub_cons rfl (sub_cons rfl (sub_cons rfl (sub_cons rfl (sub_cons rfl (sub_cons rfl (sub_cons rfl (sub_cons rfl (sub_nil _))))))))) rfl zH ?_
          rintro ⟨k, m⟩ ⟨hk, hkm⟩
          dsimp only at hk hkm ⊢
          have hrm : RunOk (l.take 64) (goF (l.take 64) m r) := goF_ok hc m hr
          refine W_seq ?_
          refine W_sr ?_
          refine W_move rfl rfl ?_
          refine W_bin rfl rfl b_lss rfl ?_
          refine W_move rfl rfl ?_
          apply W_and
          iterate 4 exact rfl
          case h1 =>
            intro hg2
            refine W_gyes rfl rfl ?_
            refine W_fieldAddr rfl fld44_0 (by decide) rfl ?_
            refine W_gyes rfl rfl ?_
            refine W_load (v := .int .i64 (trapOf (goF (l.take 64) m r)).kind) rfl ty3 rfl (Cell.own (b := b20) zM rfl) rfl ?_
            refine W_gyes rfl rfl ?_
            refine W_bin rfl rfl b_eql rfl ?_
            exact W_met rfl zR
          refine W_nil ?_
          refine W_condPS (p := (k : Int) < 300 ∧ (trapOf (goF (l.take 64) m r)).kind = 0) rfl (by simp) (fun c1 => ?_) (fun c1 => ?_)
          · skip
            refine W_skip ?_
            refine W_seq ?_
            refine W_block ?_
            refine W_region ?_
            refine W_move rfl rfl ?_
            refine W_move rfl rfl ?_
            refine W_call (.cons rfl (.cons rfl .nil)) Tryd.call12 rfl ((RGo_L (H := (b20, .cells 44 34 (trC (trapOf (goF (l.take 64) m r)))) :: (b19, .cells 44 34 (trC (trapOf R))) :: (ba, .cells 86 42 (runC fa ada (l.take 64).length capa R)) :: (fa, .cells 101 90 (vaRow (R).V)) :: (HBa ++ (HBb ++ ((b11, .cells 27 2 [.slice adc (l.take 64).length capc, .bool true]) :: (HC ++ H))))) (br := bb) (bf := fb) (r := (goF (l.take 64) m r)) (nn := (1 + (nN : Int))) (l := (l.take 64)) rfl hc hci hrm (hclb.up zH) (by first | decide | omega) hT).hsub zH) ?_
            rintro u H' ⟨rfl, rfl⟩
            rw [goF_add]
            refine W_storeA (l' := trC (trapOf (goF (l.take 64) (m + (1 + (nN : Int)).toNat) r))) rfl rfl ty44 rfl rfl (b := b20) zM (Nat.le_of_ble_eq_true rfl) rfl zU ?_
            refine W_nil ?_
            refine W_blk ?_
            refine W_region ?_
            refine W_move rfl rfl ?_
            refine W_bin rfl rfl (b_add (m := ((k + 1 : Nat) : Int)) ((i64w (by omega)).trans (by omega))) rfl ?_
            refine W_assign rfl rfl ?_
            refine W_nil ?_
            refine W_again (k + 1, m + (1 + (nN : Int)).toNat) ⟨by show k + 1 ≤ 300; omega, by show k + 1 < m + (1 + (nN : Int)).toNat; omega⟩ (by show 300 - (k + 1) < 300 - k; omega) (sub_cons rfl (sub_cons rfl (sub_cons rfl (sub_cons rfl (sub_cons rfl (sub_cons rfl (sub_cons rfl (sub_cons rfl (sub_nil _))))))))) rfl zH
          · skip
            refine W_exit rfl ?_
            have em : goF (l.take 64) m r = R := by
              rw [← hRe]
              refine goF_same ?_ (goF_ends hc _ hr (by have := hr.fuel; omega))
              rcases Decidable.not_and_iff_or_not.1 c1 with h | h
              · exact goF_ends hc _ hr (by have := hr.fuel; omega)
              · cases hb : ((goF (l.take 64) m r).over || (goF (l.take 64) m r).asks) with
                | true => rfl
                | false => exact absurd (hrm.trap.2 hb) h
            refine W_joinX () trivial (sub_cons rfl (sub_cons rfl (sub_cons rfl (sub_cons rfl (sub_cons rfl (sub_cons rfl (sub_cons rfl (sub_nil _)))))))) (by rw [em]; exact hsubI)
        rintro _ _
        refine W_seq ?_
        refine W_sr ?_
        refine W_loadB (vs := trC (trapOf R)) rfl ty44 rfl (b := b19) zM rfl rfl rfl ?_
        refine W_loadB (vs := trC (trapOf R)) rfl ty44 rfl (b := b20) zM rfl rfl rfl ?_
        refine W_x (X_neF (f := trC) rfl rfl flat44 agg44 trC_like trC_inj gt44 (by decide)) (fun _ h => by cases h) rfl ?_
        rw [decide_eq_true (p := trapOf R = trapOf R) rfl]
        refine W_move rfl rfl ?_
        refine W_gyes rfl rfl ?_
        refine W_move rfl rfl ?_
        refine W_gyes rfl rfl ?_
        refine W_call (.cons rfl .nil) Tryd.call13 rfl ((RFuel_L (H := (b20, .cells 44 34 (trC (trapOf R))) :: (b19, .cells 44 34 (trC (trapOf R))) :: (fa, .cells 101 90 (vaRow (R).V)) :: (bb, .cells 86 42 (runC fb adb (l.take 64).length capb R)) :: (fb, .cells 101 90 (vaRow (R).V)) :: (HBa ++ (HBb ++ ((b11, .cells 27 2 [.slice adc (l.take 64).length capc, .bool true]) :: (HC ++ H))))) (br := ba) (bf := fa) (r := R)).hsub zH) ?_
        rintro u H' ⟨rfl, rfl⟩
        refine W_gyes rfl rfl ?_
        refine W_move rfl rfl ?_
        refine W_gyes rfl rfl ?_
        refine W_call (.cons rfl .nil) Tryd.call13 rfl ((RFuel_L (H := (b20, .cells 44 34 (trC (trapOf R))) :: (b19, .cells 44 34 (trC (trapOf R))) :: (ba, .cells 86 42 (runC fa ada (l.take 64).length capa R)) :: (fa, .cells 101 90 (vaRow (R).V)) :: (fb, .cells 101 90 (vaRow (R).V)) :: (HBa ++ (HBb ++ ((b11, .cells 27 2 [.slice adc (l.take 64).length capc, .bool true]) :: (HC ++ H))))) (br := bb) (bf := fb) (r := R)).hsub zH) ?_
        rintro u H' ⟨rfl, rfl⟩
        refine W_gyes rfl rfl ?_
        refine W_bin rfl rfl b_neq rfl ?_
        rw [decide_eq_false (p := R.fuel ≠ R.fuel) (fun h => h rfl)]
        first | refine W_pickt rfl rfl rfl ?_ | refine W_pickf rfl rfl rfl ?_
        refine W_move rfl rfl ?_
        refine W_gyes rfl rfl ?_
        refine W_move rfl rfl ?_
        refine W_gyes rfl rfl ?_
        refine W_call (.cons rfl .nil) Tryd.call14 rfl ((RAt_L (H := (b20, .cells 44 34 (trC (trapOf R))) :: (b19, .cells 44 34 (trC (trapOf R))) :: (fa, .cells 101 90 (vaRow (R).V)) :: (bb, .cells 86 42 (runC fb adb (l.take 64).length capb R)) :: (fb, .cells 101 90 (vaRow (R).V)) :: (HBa ++ (HBb ++ ((b11, .cells 27 2 [.slice adc (l.take 64).length capc, .bool true]) :: (HC ++ H))))) (br := ba) (bf := fa) (r := R)).hsub zH) ?_
        rintro u H' ⟨rfl, rfl⟩
        refine W_gyes rfl rfl ?_
        refine W_move rfl rfl ?_
        refine W_gyes rfl rfl ?_
        refine W_call (.cons rfl .nil) Tryd.call14 rfl ((RAt_L (H := (b20, .cells 44 34 (trC (trapOf R))) :: (b19, .cells 44 34 (trC (trapOf R))) :: (ba, .cells 86 42 (runC fa ada (l.take 64).length capa R)) :: (fa, .cells 101 90 (vaRow (R).V)) :: (fb, .cells 101 90 (vaRow (R).V)) :: (HBa ++ (HBb ++ ((b11, .cells 27 2 [.slice adc (l.take 64).length capc, .bool true]) :: (HC ++ H))))) (br := bb) (bf := fb) (r := R)).hsub zH) ?_
        rintro u H' ⟨rfl, rfl⟩
        refine W_gyes rfl rfl ?_
        refine W_bin rfl rfl b_neq rfl ?_
        rw [decide_eq_false (p := R.at_ ≠ R.at_) (fun h => h rfl)]
        first | refine W_pickt rfl rfl rfl ?_ | refine W_pickf rfl rfl rfl ?_
        refine W_move rfl rfl ?_
        refine W_gyes rfl rfl ?_
        refine W_move rfl rfl ?_
        refine W_gyes rfl rfl ?_
        refine W_call (.cons rfl .nil) Tryd.call15 rfl ((RCode_L (H := (b20, .cells 44 34 (trC (trapOf R))) :: (b19, .cells 44 34 (trC (trapOf R))) :: (fa, .cells 101 90 (vaRow (R).V)) :: (bb, .cells 86 42 (runC fb adb (l.take 64).length capb R)) :: (fb, .cells 101 90 (vaRow (R).V)) :: (HBa ++ (HBb ++ ((b11, .cells 27 2 [.slice adc (l.take 64).length capc, .bool true]) :: (HC ++ H))))) (br := ba) (bf := fa) (r := R)).hsub zH) ?_
        rintro u H' ⟨rfl, rfl⟩
        refine W_gyes rfl rfl ?_
        refine W_move rfl rfl ?_
        refine W_gyes rfl rfl ?_
        refine W_call (.cons rfl .nil) Tryd.call15 rfl ((RCode_L (H := (b20, .cells 44 34 (trC (trapOf R))) :: (b19, .cells 44 34 (trC (trapOf R))) :: (ba, .cells 86 42 (runC fa ada (l.take 64).length capa R)) :: (fa, .cells 101 90 (vaRow (R).V)) :: (fb, .cells 101 90 (vaRow (R).V)) :: (HBa ++ (HBb ++ ((b11, .cells 27 2 [.slice adc (l.take 64).length capc, .bool true]) :: (HC ++ H))))) (br := bb) (bf := fb) (r := R)).hsub zH) ?_
        rintro u H' ⟨rfl, rfl⟩
        refine W_gyes rfl rfl ?_
        refine W_bin rfl rfl b_neq rfl ?_
        rw [decide_eq_false (p := R.why ≠ R.why) (fun h => h rfl)]
        first | refine W_pickt rfl rfl rfl ?_ | refine W_pickf rfl rfl rfl ?_
        refine W_move rfl rfl ?_
        refine W_gyes rfl rfl ?_
        refine W_move rfl rfl ?_
        refine W_gyes rfl rfl ?_
        refine W_call (.cons rfl .nil) Tryd.call16 rfl ((RResult_L (H := (b20, .cells 44 34 (trC (trapOf R))) :: (b19, .cells 44 34 (trC (trapOf R))) :: (fa, .cells 101 90 (vaRow (R).V)) :: (bb, .cells 86 42 (runC fb adb (l.take 64).length capb R)) :: (fb, .cells 101 90 (vaRow (R).V)) :: (HBa ++ (HBb ++ ((b11, .cells 27 2 [.slice adc (l.take 64).length capc, .bool true]) :: (HC ++ H))))) (br := ba) (bf := fa) (r := R)).hsub zH) ?_
        rintro u H' ⟨rfl, rfl⟩
        refine W_gyes rfl rfl ?_
        refine W_move rfl rfl ?_
        refine W_gyes rfl rfl ?_
        refine W_call (.cons rfl .nil) Tryd.call16 rfl ((RResult_L (H := (b20, .cells 44 34 (trC (trapOf R))) :: (b19, .cells 44 34 (trC (trapOf R))) :: (ba, .cells 86 42 (runC fa ada (l.take 64).length capa R)) :: (fa, .cells 101 90 (vaRow (R).V)) :: (fb, .cells 101 90 (vaRow (R).V)) :: (HBa ++ (HBb ++ ((b11, .cells 27 2 [.slice adc (l.take 64).length capc, .bool true]) :: (HC ++ H))))) (br := bb) (bf := fb) (r := R)).hsub zH) ?_
        rintro u H' ⟨rfl, rfl⟩
        refine W_gyes rfl rfl ?_
        refine W_bin rfl rfl b_neq rfl ?_
        rw [decide_eq_false (p := R.res ≠ R.res) (fun h => h rfl)]
        first | refine W_pickt rfl rfl rfl ?_ | refine W_pickf rfl rfl rfl ?_
        refine W_move rfl rfl ?_
        refine W_gyes rfl rfl ?_
        refine W_fieldAddr rfl fld44_0 (by decide) rfl ?_
        refine W_gyes rfl rfl ?_
        refine W_load (v := .int .i64 (trapOf R).kind) rfl ty3 rfl (Cell.own (b := b19) zM rfl) rfl ?_
        refine W_gyes rfl rfl ?_
        refine W_bin rfl rfl b_eql rfl ?_
        rw [decide_eq_false (p := (trapOf R).kind = 0) hk0]
        first | refine W_pickt rfl rfl rfl ?_ | refine W_pickf rfl rfl rfl ?_
        refine W_nil ?_
        refine W_condF rfl rfl ?_
        refine W_skip ?_
        refine W_seq ?_
        refine W_sr ?_
        refine W_fieldAddr rfl fld44_0 (by decide) rfl ?_
        refine W_load (v := .int .i64 (trapOf R).kind) rfl ty3 rfl (Cell.own (b := b19) zM rfl) rfl ?_
        refine W_bin rfl rfl b_eql rfl ?_
        refine W_move rfl rfl ?_
        apply W_or
        iterate 4 exact rfl
        case h1 =>
          intro hg3
          refine W_gyes rfl rfl ?_
          refine W_move rfl rfl ?_
          refine W_gyes rfl rfl ?_
          refine W_move rfl rfl ?_
          refine W_gyes rfl rfl ?_
          refine W_len rfl ty23 rfl rfl ?_
          refine W_gyes rfl rfl ?_
          refine W_bin rfl rfl b_eql rfl ?_
          exact W_met rfl zR
        refine W_move rfl rfl ?_
        apply W_or
        iterate 4 exact rfl
        case h1 =>
          intro hg9
          refine W_gyes rfl rfl ?_
          refine W_move rfl rfl ?_
          refine W_gyes rfl rfl ?_
          refine W_bin rfl rfl b_eql rfl ?_
          exact W_met rfl zR
        refine W_nil ?_
        refine W_condPS (p := ((trapOf R).kind = 1 ∨ (i : Int) = (an.length : Int)) ∨ (i : Int) = 60) rfl (by simp) (fun c1 => ?_) (fun c1 => ?_)
        · skip
          refine W_exit rfl ?_
          refine W_joinX () trivial (sub_nil _) zH
        · skip
          refine W_skip ?_
          refine W_sr ?_
          have hil : i < an.length := by omega
          have hks : ¬ (trapOf R).kind = 1 := fun h => c1 (.inl (.inl h))
          have has : R.asks = true := by
            cases ho : R.over with
            | true => exact absurd (by unfold trapOf; rw [if_pos ho]) hks
            | false => rw [ho, Bool.false_or] at hRd; exact hRd
          obtain ⟨y, hy⟩ : ∃ y, an[i]? = some y := ⟨_, List.getElem?_eq_getElem hil⟩
          obtain ⟨q0, p0, rfl, hcy⟩ := hran.row va_len (by decide) hy
          refine W_move rfl rfl ?_
          refine W_move rfl rfl ?_
          refine W_move rfl rfl ?_
          refine W_indexAddr (j := i) rfl rfl ty23 ty52 (by first | rfl | omega) (by first | decide | omega | simp) rfl rfl ?_
          refine W_loadA rfl ty52 rfl (vs := vaC y) rfl (hcy.up zH) rfl ?_
          refine W_callp (.cons rfl .nil) Tryd.call18 rfl (T := fun _ => True) trivial (To_pure y) ?_
          refine W_call (.cons rfl (.cons rfl (.cons rfl .nil))) Tryd.call17 rfl ((RGive_L (H := (bb, .cells 86 42 (runC fb adb (l.take 64).length capb R)) :: (fb, .cells 101 90 (vaRow (R).V)) :: (HBa ++ (HBb ++ ((b11, .cells 27 2 [.slice adc (l.take 64).length capc, .bool true]) :: (HC ++ H))))) (br := ba) (bf := fa) (r := R) (v := y) (e := 0) (l := (l.take 64)) rfl hc hci hR (hcla.up zH)).hsub zH) ?_
          rintro u H' ⟨rfl, rfl⟩
          refine W_bin rfl rfl b_neq rfl ?_
          rw [decide_eq_false (p := (giveF (l.take 64) R y 0).2 ≠ 0) (fun h => h (giveF_at has).1)]
          refine W_move rfl rfl ?_
          refine W_gyes rfl rfl ?_
          refine W_move rfl rfl ?_
          refine W_gyes rfl rfl ?_
          refine W_move rfl rfl ?_
          refine W_gyes rfl rfl ?_
          refine W_move rfl rfl ?_
          refine W_gyes rfl rfl ?_
          refine W_indexAddr (j := i) rfl rfl ty23 ty52 (by first | rfl | omega) (by first | decide | omega | simp) rfl rfl ?_
          refine W_gyes rfl rfl ?_
          refine W_loadA rfl ty52 rfl (vs := vaC y) rfl (hcy.up zH) rfl ?_
          refine W_gyes rfl rfl ?_
          refine W_callp (.cons rfl .nil) Tryd.call18 rfl (T := fun _ => True) trivial (To_pure y) ?_
          refine W_gyes rfl rfl ?_
          refine W_call (.cons rfl (.cons rfl (.cons rfl .nil))) Tryd.call17 rfl ((RGive_L (H := (ba, .cells 86 42 (runC fa ada (l.take 64).length capa (giveF (l.take 64) R y 0).1)) :: (fa, .cells 101 90 (vaRow ((giveF (l.take 64) R y 0).1).V)) :: (HBa ++ (HBb ++ ((b11, .cells 27 2 [.slice adc (l.take 64).length capc, .bool true]) :: (HC ++ H))))) (br := bb) (bf := fb) (r := R) (v := y) (e := 0) (l := (l.take 64)) rfl hc hci hR (hclb.up zH)).hsub zH) ?_
          rintro u H' ⟨rfl, rfl⟩
          refine W_gyes rfl rfl ?_
          refine W_bin rfl rfl b_neq rfl ?_
          rw [decide_eq_false (p := (giveF (l.take 64) R y 0).2 ≠ 0) (fun h => h (giveF_at has).1)]
          first | refine W_pickt rfl rfl rfl ?_ | refine W_pickf rfl rfl rfl ?_
          refine W_nil ?_
          refine W_condF rfl rfl ?_
          refine W_skip ?_
          refine W_blk ?_
          refine W_region ?_
          refine W_move rfl rfl ?_
          refine W_bin rfl rfl (b_add (m := ((i + 1 : Nat) : Int)) ((i64w (by omega)).trans (by omega))) rfl ?_
          refine W_assign rfl rfl ?_
          refine W_nil ?_
          refine W_again (i + 1, (giveF (l.take 64) R y 0).1) ⟨by show i + 1 ≤ an.length + 1; omega, by show i + 1 ≤ 61; omega, giveF_ok hR (han y (List.mem_of_getElem? hy))⟩ (by show an.length + 1 - (i + 1) < an.length + 1 - i; omega) (sub_cons rfl (sub_cons rfl (sub_cons rfl (sub_cons rfl (sub_cons rfl (sub_nil _)))))) rfl zH
      · skip
        refine W_exit rfl ?_
        refine W_joinX () trivial (sub_nil _) zH
    rintro _ _
    refine W_sr ?_
    refine W_callp .nil Tryd.call11 rfl hT (vknown_pure ) ?_
    refine W_assign rfl rfl ?_
    refine W_nil ?_
    refine W_ret1m (H2 := H) Tryd.results3 rfl (.nil _) zH ?_
    exact ⟨rfl, rfl⟩
  · skip
    refine W_sr ?_
    refine W_assign rfl rfl ?_
    refine W_nil ?_
    refine W_sr ?_
    refine W_move rfl rfl ?_
    refine W_call (.cons rfl (.cons rfl .nil)) Tryd.call7 rfl ((code_L (H := H) l 64 (by decide) (hrow.up zH) hT).hsub zH) ?_
    rintro cv H' ⟨HC, hOC, rfl⟩
    obtain ⟨adc, capc, rfl, hcc, _, hclC⟩ := Holds.of_own (w0 := w0) (H := HC ++ H) hOC (fun p hp => List.mem_append_left _ hp)
    have hclen : (l.take 64).length ≤ 64 := by rw [List.length_take]; omega
    have hci : InsOk (l.take 64) := fun x hx => hi x (List.mem_of_mem_take hx)
    have hlal : (la.take 5).length ≤ 5 := by rw [List.length_take]; omega
    have hlaw : ∀ v ∈ (la.take 5), Wd v.n := fun v hv => hla v (List.mem_of_mem_take hv)
    have hrl5 : Holds w0 H adl (vaRow (la.take 5)) := vaRow_take hrl 5
    refine W_build (l := [.slice adc (l.take 64).length capc, .bool true]) ty27 pl27 (.cons rfl rfl rfl rfl rfl (.cons rfl rfl rfl rfl rfl .nil)) rfl rfl rfl ?_
    refine W_alloc (l := [.slice none 0 0, .bool false]) ty27 rfl rfl (fun b11 => ?_)
    refine W_storeA (l' := [.slice adc (l.take 64).length capc, .bool true]) rfl rfl ty27 rfl rfl (b := b11) zM (by exact Nat.le_refl 2) rfl zU ?_
    refine W_nil ?_
    refine W_sr ?_
    refine W_move rfl rfl ?_
    refine W_move rfl rfl ?_
    refine W_len rfl ty23 rfl rfl ?_
    refine W_min2 rfl rfl (m := ((la.take 5).length : Int)) (by rw [List.length_take]; split <;> omega) rfl ?_
    refine W_slice0 (hh := (la.take 5).length) rfl ty23 ty52 rfl ⟨_, rfl⟩ (by rw [List.length_take]; omega) rfl ?_
    refine W_assign rfl rfl ?_
    refine W_nil ?_
    refine W_sr ?_
    refine W_move rfl rfl ?_
    refine W_conv rfl ty3 ty28 rfl rfl ?_
    refine W_bin rfl rfl (b_rem (by decide) (m := (fN : Int)) hrem) rfl ?_
    refine W_conv rfl ty28 ty3 (m := (fN : Int)) (i64w (by omega)) rfl ?_
    refine W_bin rfl rfl (b_add (m := 1 + (fN : Int)) (i64w (by omega))) rfl ?_
    refine W_assign rfl rfl ?_
    refine W_nil ?_
    refine W_sr ?_
    refine W_move rfl rfl ?_
    refine W_conv rfl ty3 ty28 rfl rfl ?_
    refine W_bin rfl rfl (b_rem (by decide) (m := (nN : Int)) hremn) rfl ?_
    refine W_conv rfl ty28 ty3 (m := (nN : Int)) (i64w (by omega)) rfl ?_
    refine W_bin rfl rfl (b_add (m := 1 + (nN : Int)) (i64w (by omega))) rfl ?_
    refine W_assign rfl rfl ?_
    refine W_nil ?_
    refine W_seq ?_
    refine W_anyC ((b11, .cells 27 2 [.slice adc (l.take 64).length capc, .bool true]) :: (HC ++ H)) (by kernel_rfl) ?_
    refine WC_take 0 (l' := #[true, false, false, false, false, false, false, false, false, false]) rfl (by decide +kernel) (by decide +kernel) (by decide +kernel) rfl (by decide +kernel) (X_loadB (vs := [.slice adc (l.take 64).length capc, .bool true]) rfl ty27 rfl (b := b11) zM rfl rfl) rfl ?_
    refine WC_take 1 (l' := #[true, true, false, false, false, false, false, false, false, false]) rfl (by decide +kernel) (by decide +kernel) (by decide +kernel) rfl (by decide +kernel) (X_move rfl) rfl ?_
    refine WC_take 2 (l' := #[true, true, true, false, false, false, false, false, false, false]) rfl (by decide +kernel) (by decide +kernel) (by decide +kernel) rfl (by decide +kernel) (X_move rfl) rfl ?_
    refine WC_one 3 (l' := #[true, true, true, true, false, false, false, false, false, false]) zH (by decide +kernel) rfl (by decide +kernel) ?_
    refine W_call (.cons rfl .nil) Tryd.call9 rfl ((Tos_L (H := (b11, .cells 27 2 [.slice adc (l.take 64).length capc, .bool true]) :: (HC ++ H)) (l := (la.take 5)) (cap := capl) (by omega) (hrl5.up zH)).hsub zH) ?_
    rintro tv H' ⟨XA, hOXA, rfl⟩
    obtain ⟨adtXA, captXA, rfl, _, _, hcltXA⟩ := Holds.of_own (w0 := w0) (H := XA ++ ((b11, .cells 27 2 [.slice adc (l.take 64).length capc, .bool true]) :: (HC ++ H))) hOXA (fun p hp => List.mem_append_left _ hp)
    refine W_nil ?_
    refine WC_goal ?_
    refine WC_one 4 (l' := #[true, true, true, true, true, false, false, false, false, false]) zH (by decide +kernel) rfl (by decide +kernel) ?_
    refine W_call (.cons rfl (.cons rfl (.cons rfl .nil))) Tryd.call8 rfl ((RNew_bad (H := XA ++ ((b11, .cells 27 2 [.slice adc (l.take 64).length capc, .bool true]) :: (HC ++ H))) (l := (l.take 64)) (s := true) (la := (la.take 5)) hz hci (by omega) hcc (hclC.up zH) hlal (hcltXA.up zH) (fuel := 1 + (fN : Int)) (by omega) hT).hsub zH) ?_
    rintro v H' ⟨rfl, rfl⟩
    refine W_nil ?_
    refine WC_goal ?_
    refine WC_take 5 (l' := #[true, true, true, true, true, true, false, false, false, false]) rfl (by decide +kernel) (by decide +kernel) (by decide +kernel) rfl (by decide +kernel) (X_move rfl) rfl ?_
    refine WC_take 6 (l' := #[true, true, true, true, true, true, true, false, false, false]) rfl (by decide +kernel) (by decide +kernel) (by decide +kernel) rfl (by decide +kernel) (X_extract rfl rfl) rfl ?_
    refine WC_take 7 (l' := #[true, true, true, true, true, true, true, true, false, false]) rfl (by decide +kernel) (by decide +kernel) (by decide +kernel) rfl (by decide +kernel) (X_extract rfl rfl) rfl ?_
    refine WC_take 8 (l' := #[true, true, true, true, true, true, true, true, true, false]) rfl (by decide +kernel) (by decide +kernel) (by decide +kernel) rfl (by decide +kernel) (X_assign rfl) rfl ?_
    refine WC_take 9 (l' := #[true, true, true, true, true, true, true, true, true, true]) rfl (by decide +kernel) (by decide +kernel) (by decide +kernel) rfl (by decide +kernel) (X_assign rfl) rfl ?_
    refine WC_done zH (by decide +kernel) ?_
    refine W_seq ?_
    refine W_anyC ((b11, .cells 27 2 [.slice adc (l.take 64).length capc, .bool true]) :: (HC ++ H)) (by kernel_rfl) ?_
    refine WC_take 0 (l' := #[true, false, false, false, false, false, false, false, false, false]) rfl (by decide +kernel) (by decide +kernel) (by decide +kernel) rfl (by decide +kernel) (X_loadB (vs := [.slice adc (l.take 64).length capc, .bool true]) rfl ty27 rfl (b := b11) zM rfl rfl) rfl ?_
    refine WC_take 1 (l' := #[true, true, false, false, false, false, false, false, false, false]) rfl (by decide +kernel) (by decide +kernel) (by decide +kernel) rfl (by decide +kernel) (X_move rfl) rfl ?_
    refine WC_take 2 (l' := #[true, true, true, false, false, false, false, false, false, false]) rfl (by decide +kernel) (by decide +kernel) (by decide +kernel) rfl (by decide +kernel) (X_move rfl) rfl ?_
    refine WC_one 3 (l' := #[true, true, true, true, false, false, false, false, false, false]) zH (by decide +kernel) rfl (by decide +kernel) ?_
    refine W_call (.cons rfl .nil) Tryd.call9 rfl ((Tos_L (H := (b11, .cells 27 2 [.slice adc (l.take 64).length capc, .bool true]) :: (HC ++ H)) (l := (la.take 5)) (cap := capl) (by omega) (hrl5.up zH)).hsub zH) ?_
    rintro tv H' ⟨XB, hOXB, rfl⟩
    obtain ⟨adtXB, captXB, rfl, _, _, hcltXB⟩ := Holds.of_own (w0 := w0) (H := XB ++ ((b11, .cells 27 2 [.slice adc (l.take 64).length capc, .bool true]) :: (HC ++ H))) hOXB (fun p hp => List.mem_append_left _ hp)
    refine W_nil ?_
    refine WC_goal ?_
    refine WC_one 4 (l' := #[true, true, true, true, true, false, false, false, false, false]) zH (by decide +kernel) rfl (by decide +kernel) ?_
    refine W_call (.cons rfl (.cons rfl (.cons rfl .nil))) Tryd.call8 rfl ((RNew_bad (H := XB ++ ((b11, .cells 27 2 [.slice adc (l.take 64).length capc, .bool true]) :: (HC ++ H))) (l := (l.take 64)) (s := true) (la := (la.take 5)) hz hci (by omega) hcc (hclC.up zH) hlal (hcltXB.up zH) (fuel := 1 + (fN : Int)) (by omega) hT).hsub zH) ?_
    rintro v H' ⟨rfl, rfl⟩
    refine W_nil ?_
    refine WC_goal ?_
    refine WC_take 5 (l' := #[true, true, true, true, true, true, false, false, false, false]) rfl (by decide +kernel) (by decide +kernel) (by decide +kernel) rfl (by decide +kernel) (X_move rfl) rfl ?_
    refine WC_take 6 (l' := #[true, true, true, true, true, true, true, false, false, false]) rfl (by decide +kernel) (by decide +kernel) (by decide +kernel) rfl (by decide +kernel) (X_extract rfl rfl) rfl ?_
    refine WC_take 7 (l' := #[true, true, true, true, true, true, true, true, false, false]) rfl (by decide +kernel) (by decide +kernel) (by decide +kernel) rfl (by decide +kernel) (X_extract rfl rfl) rfl ?_
    refine WC_take 8 (l' := #[true, true, true, true, true, true, true, true, true, false]) rfl (by decide +kernel) (by decide +kernel) (by decide +kernel) rfl (by decide +kernel) (X_assign rfl) rfl ?_
    refine WC_take 9 (l' := #[true, true, true, true, true, true, true, true, true, true]) rfl (by decide +kernel) (by decide +kernel) (by decide +kernel) rfl (by decide +kernel) (X_assign rfl) rfl ?_
    refine WC_done zH (by decide +kernel) ?_
    refine W_seq ?_
    refine W_sr ?_
    refine W_move rfl rfl ?_
    refine W_move rfl rfl ?_
    refine W_bin rfl rfl b_neq rfl ?_
    rw [decide_eq_false (p := (chkR (l.take 64) true).2 ≠ (chkR (l.take 64) true).2) (fun h => h rfl)]
    refine W_nil ?_
    refine W_condF rfl rfl ?_
    refine W_skip ?_
    refine W_seq ?_
    refine W_sr ?_
    refine W_move rfl rfl ?_
    refine W_bin rfl rfl b_neq rfl ?_
    rw [decide_eq_true (p := (chkR (l.take 64) true).2 ≠ 0) hz]
    refine W_nil ?_
    refine W_condT rfl rfl ?_
    refine W_sr ?_
    refine W_loadB (vs := [.slice adc (l.take 64).length capc, .bool true]) rfl ty27 rfl (b := b11) zM rfl rfl rfl ?_
    refine W_callq (.cons rfl .nil) Tryd.call10 rfl (check_q hci (by omega) hcc (hclC.up zH) hT) ?_
    refine W_move rfl rfl ?_
    refine W_extract rfl rfl rfl ?_
    refine W_extract rfl rfl rfl ?_
    refine W_assign rfl rfl ?_
    refine W_assign rfl rfl ?_
    refine W_nil ?_
    refine W_sr ?_
    refine W_callp .nil Tryd.call11 rfl hT (vknown_pure ) ?_
    refine W_move rfl rfl ?_
    refine W_gyes rfl rfl ?_
    refine W_move rfl rfl ?_
    refine W_gyes rfl rfl ?_
    refine W_move rfl rfl ?_
    refine W_gyes rfl rfl ?_
    refine W_bin rfl rfl b_eql rfl ?_
    rw [decide_eq_true (p := (chkR (l.take 64) true).2 = (chkR (l.take 64) true).2) rfl]
    first | refine W_pickt rfl rfl rfl ?_ | refine W_pickf rfl rfl rfl ?_
    refine W_assign rfl rfl ?_
    refine W_nil ?_
    refine W_ret1m (H2 := H) Tryd.results3 rfl (.nil _) zH ?_
    exact ⟨rfl, rfl⟩
theorem vmSteps_pure {l : List Ins} {la an : List Va} {ad adl adn : Option Addr} {cap capl capn fN nN : Nat} {z zn : Int} (hz0 : -9223372036854775808 ≤ z ∧ z ≤ 9223372036854775807) (hzn : -9223372036854775808 ≤ zn ∧ zn ≤ 9223372036854775807) (hfN : fN < 256) (hrem : (IntKind.u64.wrap z).tmod 256 = (fN : Int)) (hnN : nN < 20) (hremn : (IntKind.u64.wrap zn).tmod 20 = (nN : Int)) (hla : ∀ v ∈ la, Wd v.n) (han : ∀ v ∈ an, Wd v.n) (hi : InsOk l) (hcapl : la.length ≤ capl) (hmaxa : an.length ≤ 9223372036854775807) :
    Pure Tryd.prog (fun w0 => Tab w0 ∧ InRow w0 ad (insRow l) ∧ InRow w0 adl (vaRow la) ∧ InRow w0 adn (vaRow an)) 3 [.slice ad l.length cap, .int .i64 z, .slice adl la.length capl, .slice adn an.length capn, .int .i64 zn] (.bool true) := fun w0 H hT => vmSteps_q hz0 hzn hfN hrem hnN hremn hla han hi hcapl hmaxa (Holds.old hT.2.1) (Holds.old hT.2.2.1) (Holds.old hT.2.2.2) hT.1
end Go.Proofs.YtcmfldfeakmdoaaDoor
