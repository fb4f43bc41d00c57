/-
  Own work: contracts of functions that the statement reaches, and plain facts on what they compute; each theorem says its conditions.
-/
import Derived.Test.YtcmfldfeakmdoaaDoorVmT4
import Derived.Test.YtcmfldfeakmdoaaDoorVmS2
import Derived.Test.YtcmfldfeakmdoaaDoorVmT2
import Derived.Test.YtcmfldfeakmdoaaDoorVmS1
import Derived.Lib.LaidIn
import Derived.Stop.LaidErr
import Derived.Test.YtcmfldfeakmdoaaDoorCards
import Derived.Test.YtcmfldfeakmdoaaDoorTie
import Derived.Test.YtcmfldfeakmdoaaDoorVmA
set_option linter.all false
set_option linter.unusedSimpArgs false
set_option linter.unusedVariables false
namespace Go.Proofs.YtcmfldfeakmdoaaDoor
open Go Go.Sl
attribute [local irreducible] W
set_option maxHeartbeats 1000000 in
theorem RGive_L {w0 : World} {H : Heap} {br bf n cap : Nat} {ad : Option Addr} {r : Vs} {v : Va} {e : Int} {l : List Ins} (hn : n = l.length) (hc : CodeOk l) (hi : InsOk l) (hr : RunOk l r) (hrow : Holds w0 H ad (insRow l))  : LCalls Tryd.prog w0 17 #[.pointer (some ⟨br, 0, none⟩), .agg (vaC v).toArray, .int .i64 e] ((br, .cells 86 42 (runC bf ad n cap r)) :: (bf, .cells 101 90 (vaRow (r).V)) :: H) (fun u H' => u = .int .i64 (giveF l r v e).2 ∧ H' = (br, .cells 86 42 (runC bf ad n cap (giveF l r v e).1)) :: (bf, .cells 101 90 (vaRow (giveF l r v e).1.V)) :: H) := by
  refine L_enter (l := [.pointer (some ⟨br, 0, none⟩), .agg (vaC v).toArray, .int .i64 e]) Tryd.func17 rfl Tryd.ntmps17 rfl rfl ?_
  refine W_sr ?_
  refine W_box rfl rfl rfl (fun b4 => ?_)
  refine W_assign rfl rfl ?_
  refine W_nil ?_
  refine W_seq ?_
  refine W_sr ?_
  refine W_move rfl rfl ?_
  refine W_x (X_ptrNil rfl rfl ty29) (fun _ h => by cases h) rfl ?_
  refine W_move rfl rfl ?_
  refine W_gyes rfl rfl ?_
  refine W_move rfl rfl ?_
  refine W_gyes rfl rfl ?_
  refine W_nilCheck rfl rfl ?_
  refine W_gyes rfl rfl ?_
  refine W_fieldAddr rfl fld86_4 (by decide) rfl ?_
  refine W_gyes rfl rfl ?_
  refine W_load (v := .bool r.asks) rfl ty4 rfl (Cell.own (b := br) zM rfl) rfl ?_
  refine W_gyes rfl rfl ?_
  refine W_not rfl rfl ?_
  first | refine W_pickt rfl rfl rfl ?_ | refine W_pickf rfl rfl rfl ?_
  refine W_nil ?_
  refine W_condPS (p := r.asks = false) rfl (by simp) (fun c0 => ?_) (fun c0 => ?_)
  · skip
    refine W_sr ?_
    refine W_assign rfl rfl ?_
    refine W_nil ?_
    refine W_ret1m (H2 := (br, .cells 86 42 (runC bf ad n cap r)) :: (bf, .cells 101 90 (vaRow (r).V)) :: H) Tryd.results17 rfl (.nil _) zH ?_
    unfold giveF
    rw [if_pos c0]
    exact ⟨rfl, rfl⟩
  · skip
    refine W_skip ?_
    refine W_sr ?_
    refine W_assign rfl rfl ?_
    refine W_nil ?_
    refine W_seq ?_
    refine W_sr ?_
    refine W_move rfl rfl ?_
    refine W_nilCheck rfl rfl ?_
    refine W_fieldAddr rfl fld86_6 (by decide) rfl ?_
    refine W_fieldAddr rfl fld44_0 (by decide) rfl ?_
    refine W_load (v := .int .i64 r.opn.kind) rfl ty3 rfl (Cell.own (b := br) zM rfl) rfl ?_
    refine W_nil ?_
    refine W_cutX (X := Unit) (fun _ => [(0, .pointer (some ⟨br, 0, none⟩)), (2, .int .i64 e), (4, .pointer (some ⟨b4, 0, none⟩)), (7, .int .i64 (toF l r))]) (fun _ => (b4, .cells 41 5 (vaC v)) :: (br, .cells 86 42 (runC bf ad n cap r)) :: (bf, .cells 101 90 (vaRow (r).V)) :: H) (fun _ => True) ?_ ?_
    · skip
      refine W_block ?_
      refine W_sr ?_
      refine W_bin rfl rfl b_eql rfl ?_
      refine W_assign rfl rfl ?_
      refine W_nil ?_
      refine W_condPS (p := r.opn.kind = 2) rfl (by simp) (fun c1 => ?_) (fun c1 => ?_)
      · skip
        refine W_region ?_
        refine W_assign rfl rfl ?_
        refine W_nil ?_
        refine W_blk ?_
        refine W_joinX () trivial (sub_cons rfl (sub_cons rfl (sub_cons rfl (sub_cons (by unfold toF; rw [if_pos c1]; rfl) (sub_nil _))))) zH
      · skip
        refine W_sr ?_
        refine W_bin rfl rfl b_eql rfl ?_
        refine W_assign rfl rfl ?_
        refine W_nil ?_
        refine W_condPS (p := r.opn.kind = 3) rfl (by simp) (fun c2 => ?_) (fun c2 => ?_)
        · skip
          obtain ⟨k, hk, hkl⟩ := hr.at_
          have hl64 := hc.len
          have hx := getD_some hkl
          obtain ⟨b, o, hAd, hcx⟩ := hrow.row cells_len (by decide) hx
          refine W_anyC ((b4, .cells 41 5 (vaC v)) :: (br, .cells 86 42 (runC bf ad n cap r)) :: (bf, .cells 101 90 (vaRow (r).V)) :: H) (by kernel_rfl) ?_
          refine WC_take 0 (l' := #[true, false, false, false, false, false, false, false, false, false, false, false]) rfl (by decide +kernel) (by decide +kernel) (by decide +kernel) rfl (by decide +kernel) (X_move rfl) rfl ?_
          refine WC_take 1 (l' := #[true, true, false, false, false, false, false, false, false, false, false, false]) rfl (by decide +kernel) (by decide +kernel) (by decide +kernel) rfl (by decide +kernel) (X_nilCheck rfl) rfl ?_
          refine WC_take 2 (l' := #[true, true, true, false, false, false, false, false, false, false, false, false]) rfl (by decide +kernel) (by decide +kernel) (by decide +kernel) rfl (by decide +kernel) (X_fieldAddr rfl fld86_1 (by decide)) rfl ?_
          refine WC_take 3 (l' := #[true, true, true, true, false, false, false, false, false, false, false, false]) rfl (by decide +kernel) (by decide +kernel) (by decide +kernel) rfl (by decide +kernel) (X_load (v := .slice (some ⟨b, o, none⟩) n cap) rfl ty24 rfl (Cell.own (b := br) zM (by rw [← hAd]; rfl))) rfl ?_
          refine WC_take 4 (l' := #[true, true, true, true, true, false, false, false, false, false, false, false]) rfl (by decide +kernel) (by decide +kernel) (by decide +kernel) rfl (by decide +kernel) (X_move rfl) rfl ?_
          refine WC_take 5 (l' := #[true, true, true, true, true, true, false, false, false, false, false, false]) rfl (by decide +kernel) (by decide +kernel) (by decide +kernel) rfl (by decide +kernel) (X_nilCheck rfl) rfl ?_
          refine WC_take 6 (l' := #[true, true, true, true, true, true, true, false, false, false, false, false]) rfl (by decide +kernel) (by decide +kernel) (by decide +kernel) rfl (by decide +kernel) (X_fieldAddr rfl fld86_2 (by decide)) rfl ?_
          refine WC_take 7 (l' := #[true, true, true, true, true, true, true, true, false, false, false, false]) rfl (by decide +kernel) (by decide +kernel) (by decide +kernel) rfl (by decide +kernel) (X_load (v := .int .i64 (k : Int)) rfl ty3 rfl (Cell.own (b := br) zM (by rw [← hk]; rfl))) rfl ?_
          refine WC_take 8 (l' := #[true, true, true, true, true, true, true, true, true, false, false, false]) rfl (by decide +kernel) (by decide +kernel) (by decide +kernel) rfl (by decide +kernel) (X_indexAddr (j := k) rfl rfl ty24 ty59 rfl (by omega) rfl) rfl ?_
          refine WC_take 9 (l' := #[true, true, true, true, true, true, true, true, true, true, false, false]) rfl (by decide +kernel) (by decide +kernel) (by decide +kernel) rfl (by decide +kernel) (X_fieldAddr rfl fld59_1 (by decide)) rfl ?_
          refine WC_take 10 (l' := #[true, true, true, true, true, true, true, true, true, true, true, false]) rfl (by decide +kernel) (by decide +kernel) (by decide +kernel) rfl (by decide +kernel) (X_load (v := .int .i64 (l.getD k ins0).dst) rfl ty3 rfl ((hcx.up zH) 1 _ rfl)) rfl ?_
          refine WC_take 11 (l' := #[true, true, true, true, true, true, true, true, true, true, true, true]) rfl (by decide +kernel) (by decide +kernel) (by decide +kernel) rfl (by decide +kernel) (X_assign rfl) rfl ?_
          refine WC_done zH (by decide +kernel) ?_
          refine W_blk ?_
          refine W_joinX () trivial (sub_cons rfl (sub_cons rfl (sub_cons rfl (sub_cons (by unfold toF; rw [if_neg c1, if_pos c2, hk]; rfl) (sub_nil _))))) zH
        · skip
          refine W_skip ?_
          refine W_blk ?_
          refine W_joinX () trivial (sub_cons rfl (sub_cons rfl (sub_cons rfl (sub_cons (by unfold toF; rw [if_neg c1, if_neg c2]; rfl) (sub_nil _))))) zH
    rintro _ _
    refine W_seq ?_
    refine W_sr ?_
    refine W_move rfl rfl ?_
    refine W_bin rfl rfl b_eql rfl ?_
    refine W_move rfl rfl ?_
    apply W_and
    iterate 4 exact rfl
    case h1 =>
      intro hg2
      refine W_gyes rfl rfl ?_
      refine W_move rfl rfl ?_
      refine W_gyes rfl rfl ?_
      refine W_bin rfl rfl b_geq rfl ?_
      exact W_met rfl zR
    refine W_nil ?_
    refine W_condJ (p := e = 0 ∧ 0 ≤ toF l r) [(0, .pointer (some ⟨br, 0, none⟩)), (2, .int .i64 e)] ((b4, .cells 41 5 (vaC v)) :: (br, .cells 86 42 (runC bf ad n cap r)) :: (bf, .cells 101 90 (vaRow (giveV l r v e))) :: H) rfl (by simp) (fun c1 => ?_) (fun c1 => ?_) ?_
    · skip
      refine W_anyC [(b4, .cells 41 5 (vaC v)), (br, .cells 86 42 (runC bf ad n cap r))] (by kernel_rfl) ?_
      refine WC_take 0 (l' := #[true, false, false, false, false, false, false]) rfl (by decide +kernel) (by decide +kernel) (by decide +kernel) rfl (by decide +kernel) (X_move rfl) rfl ?_
      refine WC_take 1 (l' := #[true, true, false, false, false, false, false]) rfl (by decide +kernel) (by decide +kernel) (by decide +kernel) rfl (by decide +kernel) (X_nilCheck rfl) rfl ?_
      refine WC_take 2 (l' := #[true, true, true, false, false, false, false]) rfl (by decide +kernel) (by decide +kernel) (by decide +kernel) rfl (by decide +kernel) (X_fieldAddr rfl fld86_0 (by decide)) rfl ?_
      refine WC_take 3 (l' := #[true, true, true, true, false, false, false]) rfl (by decide +kernel) (by decide +kernel) (by decide +kernel) rfl (by decide +kernel) (X_load (v := .pointer (some ⟨bf, 0, none⟩)) rfl ty81 rfl (Cell.own (b := br) zM rfl)) rfl ?_
      refine WC_take 4 (l' := #[true, true, true, true, true, false, false]) rfl (by decide +kernel) (by decide +kernel) (by decide +kernel) rfl (by decide +kernel) (X_move rfl) rfl ?_
      refine WC_take 5 (l' := #[true, true, true, true, true, true, false]) rfl (by decide +kernel) (by decide +kernel) (by decide +kernel) rfl (by decide +kernel) (X_loadB (vs := vaC v) rfl ty41 rfl (b := b4) zM rfl rfl) rfl ?_
      refine WC_one 6 (l' := #[true, true, true, true, true, true, true]) zH (by decide +kernel) rfl (by decide +kernel) ?_
      refine W_call (.cons rfl (.cons rfl (.cons rfl .nil))) Tryd.call39 rfl ((SetReg_L (H := (b4, .cells 41 5 (vaC v)) :: (br, .cells 86 42 (runC bf ad n cap r)) :: H) (V := r.V) (at_ := toF l r) (x := v) hr.len).hsub zH) ?_
      rintro u H' ⟨rfl, rfl⟩
      refine W_nil ?_
      refine WC_goal ?_
      refine WC_done zH (by decide +kernel) ?_
      refine W_joined (sub_cons rfl (sub_cons rfl (sub_nil _))) (by rw [show giveV l r v e = _ from if_pos c1]; exact hsubI)
    · skip
      refine W_skip ?_
      refine W_joined (sub_cons rfl (sub_cons rfl (sub_nil _))) (by rw [show giveV l r v e = _ from if_neg c1]; exact hsubI)
    skip
    refine W_sr ?_
    refine W_move rfl rfl ?_
    refine W_move rfl rfl ?_
    refine W_build (l := trC trZ) ty44 pl44 .nil rfl rfl rfl ?_
    refine W_nilCheck rfl rfl ?_
    refine W_fieldAddr rfl fld86_4 (by decide) rfl ?_
    refine W_store (l' := runC bf ad n cap { r with asks := false }) rfl rfl ty4 rfl rfl (b := br) zM rfl rfl zU ?_
    refine W_nilCheck rfl rfl ?_
    refine W_fieldAddr rfl fld86_6 (by decide) rfl ?_
    refine W_storeA (l' := runC bf ad n cap { r with asks := false, opn := trZ }) rfl rfl ty44 rfl rfl (b := br) zM (Nat.le_of_ble_eq_true rfl) rfl zU ?_
    refine W_nil ?_
    refine W_sr ?_
    refine W_move rfl rfl ?_
    refine W_move rfl rfl ?_
    refine W_call (.cons rfl (.cons rfl .nil)) Tryd.call40 rfl ((rnext_L (H := (b4, .cells 41 5 (vaC v)) :: (bf, .cells 101 90 (vaRow (giveV l r v e))) :: H) (r := { r with V := giveV l r v e, asks := false, opn := trZ }) (e := e) (by obtain ⟨k, hk, hkl⟩ := hr.at_; have := hc.len; dsimp only; omega)).hsub zH) ?_
    rintro u H' rfl
    refine W_nil ?_
    refine W_sr ?_
    refine W_assign rfl rfl ?_
    refine W_nil ?_
    refine W_ret1m (H2 := (br, .cells 86 42 (runC bf ad n cap (nextF { r with V := giveV l r v e, asks := false, opn := trZ } e))) :: (bf, .cells 101 90 (vaRow (giveV l r v e))) :: H) Tryd.results17 rfl (.nil _) zH ?_
    unfold giveF
    rw [if_neg c0, nextF_V]
    exact ⟨rfl, rfl⟩
theorem insRow_len (l : List Ins) : (insRow l).length = l.length * 5 := flat_length cells_len l
theorem insRow_one : ∀ l : List Ins, (insRow l).all Value.oneCell' = true
  | [] => rfl
  | a :: l => by
    have e : insRow (a :: l) = a.cells ++ insRow l := rfl
    rw [e, List.all_append, insRow_one l]; rfl
set_option maxHeartbeats 1000000 in
theorem RClone_L {w0 : World} {H : Heap} {l : List Ins} {ad : Option Addr} {cap : Nat} (hl : l.length ≤ 1000) (hrow : Holds w0 H ad (insRow l))  : LCalls Tryd.prog w0 30 #[.slice ad l.length cap] (H) (fun v H' => ∃ HB, OwnS 59 5 v l.length (insRow l) HB ∧ H' = HB ++ H) := by
  refine L_enter (l := [.slice ad l.length cap]) Tryd.func30 rfl Tryd.ntmps30 rfl rfl ?_
  refine W_sr ?_
  refine W_assign rfl rfl ?_
  refine W_nil ?_
  refine W_seq ?_
  refine W_sr ?_
  refine W_move rfl rfl ?_
  refine W_x (X_sliceNil rfl rfl ty24) (fun _ h => by cases h) rfl ?_
  refine W_nil ?_
  refine W_condPS (p := ad = none) rfl (by cases ad <;> simp) (fun c0 => ?_) (fun c0 => ?_)
  · skip
    refine W_sr ?_
    refine W_assign rfl rfl ?_
    refine W_nil ?_
    refine W_ret1m (H2 := H) Tryd.results30 rfl (.nil _) zH ?_
    subst c0
    have hl0 : l = [] := by
      cases l with
      | nil => rfl
      | cons x l => obtain ⟨b, o, e, _⟩ := hrow 0 (.int .i64 x.op) rfl; cases e
    subst hl0
    exact ⟨[], .nil, rfl⟩
  · skip
    refine W_skip ?_
    refine W_sr ?_
    refine W_buildSlice (l := []) ty24 ty59 .nil rfl rfl rfl rfl rfl rfl rfl (fun b5 => ?_)
    refine W_move rfl rfl ?_
    refine W_append (news := insRow l) (m := l.length) (HB := [(b5, .cells 59 0 [])]) (H0 := H) rfl rfl ty24 ty59 rfl (by decide) (OwnS.own (n := 0) (cap := 0) rfl (Nat.le_refl _) (Nat.zero_le _)) (by rw [insRow_len]) (hrow.up zH) (insRow_one l) (by simp only [maxLen]; omega) (by omega) zH rfl (fun v' HB' hO' => ?_)
    refine W_assign rfl rfl ?_
    refine W_nil ?_
    refine W_ret1m (H2 := HB' ++ H) Tryd.results30 rfl (.nil _) zH ?_
    exact ⟨HB', by simpa using hO', rfl⟩
def newR (la : List Va) (fuel : Int) : Vs := ⟨newV la, 0, fuel, false, false, trZ, 0, 0⟩
theorem newR_ok {l : List Ins} (hc : CodeOk l) {la : List Va} (hl : la.length ≤ 5) (hw : ∀ v ∈ la, Wd v.n) {fuel : Int} (hf : 1 ≤ fuel ∧ fuel ≤ 256) : RunOk l (newR la fuel) :=
  ⟨newV_len hl, fun v hv => ((Good.new hl hw).of v hv).1, ⟨0, rfl, hc.pos⟩, ⟨by show 0 ≤ fuel; omega, hf.2⟩, fun h => by cases h⟩
set_option maxHeartbeats 1000000 in
theorem RNew_L {w0 : World} {H : Heap} {l : List Ins} {s : Bool} {ad adl : Option Addr} {cap capl : Nat} {fuel : Int} {la : List Va} (hi : InsOk l) (hlen : l.length ≤ 1000) (hcap : l.length ≤ cap) (hrow : Holds w0 H ad (insRow l)) (hla : la.length ≤ 5) (hrl : Holds w0 H adl (vaRow la)) (hf : 1 ≤ fuel ∧ fuel ≤ 256) (hT : Tab w0) : LCalls Tryd.prog w0 8 #[.agg #[.slice ad l.length cap, .bool s], .int .i64 fuel, .slice adl la.length capl] (H) (fun v H' => ((chkR l s).2 ≠ 0 ∧ v = .tuple #[.pointer none, .int .i64 (chkR l s).2] ∧ H' = H) ∨ ((chkR l s).2 = 0 ∧ ∃ br bf adc capc HB, v = .tuple #[.pointer (some ⟨br, 0, none⟩), .int .i64 0] ∧ Holds w0 (HB ++ []) adc (insRow l) ∧ H' = (br, .cells 86 42 (runC bf adc l.length capc (newR la fuel))) :: (HB ++ ((bf, .cells 101 90 (vaRow (newV la))) :: H)))) := by
  refine L_enter (l := [.agg #[.slice ad l.length cap, .bool s], .int .i64 fuel, .slice adl la.length capl]) Tryd.func8 rfl Tryd.ntmps8 rfl rfl ?_
  refine W_sr ?_
  refine W_box (l := [.slice ad l.length cap, .bool s]) rfl rfl rfl (fun b3 => ?_)
  refine W_assign rfl rfl ?_
  refine W_assign rfl rfl ?_
  refine W_nil ?_
  refine W_seq ?_
  refine W_sr ?_
  refine W_loadB (vs := [.slice ad l.length cap, .bool s]) rfl ty27 rfl (b := b3) zM rfl rfl rfl ?_
  refine W_callq (.cons rfl .nil) Tryd.call10 rfl (check_q hi (by omega) hcap (hrow.up zH) hT) ?_
  refine W_move rfl rfl ?_
  refine W_extract rfl rfl rfl ?_
  refine W_extract rfl rfl rfl ?_
  refine W_assign rfl rfl ?_
  refine W_assign rfl rfl ?_
  refine W_nil ?_
  refine W_sr ?_
  refine W_move rfl rfl ?_
  refine W_bin rfl rfl b_neq rfl ?_
  refine W_nil ?_
  refine W_condPS (p := (chkR l s).2 ≠ 0) rfl (by simp) (fun c0 => ?_) (fun c0 => ?_)
  · skip
    refine W_sr ?_
    refine W_move rfl rfl ?_
    refine W_assign rfl rfl ?_
    refine W_assign rfl rfl ?_
    refine W_nil ?_
    refine W_ret2m (H2 := H) Tryd.results8 rfl rfl (.nil _) zH ?_
    exact .inl ⟨c0, rfl, rfl⟩
  · skip
    refine W_skip ?_
    refine W_seq ?_
    refine W_sr ?_
    refine W_move rfl rfl ?_
    refine W_bin rfl rfl b_lss rfl ?_
    refine W_move rfl rfl ?_
    apply W_or
    iterate 4 exact rfl
    case h1 =>
      intro hg2
      refine W_gyes rfl rfl ?_
      refine W_move rfl rfl ?_
      refine W_gyes rfl rfl ?_
      refine W_bin rfl rfl b_gtr rfl ?_
      exact W_met rfl zR
    refine W_nil ?_
    refine W_condPS (p := fuel < 1 ∨ 256 < fuel) rfl (by simp) (fun c1 => ?_) (fun c1 => ?_)
    · skip
      refine W_sr ?_
      refine W_assign rfl rfl ?_
      refine W_assign rfl rfl ?_
      refine W_nil ?_
      refine W_ret2m (H2 := H) Tryd.results8 rfl rfl (.nil _) zH ?_
      omega
    · skip
      refine W_skip ?_
      refine W_sr ?_
      refine W_move rfl rfl ?_
      refine W_call (.cons rfl .nil) Tryd.call29 rfl ((New_L (H := (b3, .cells 27 2 [.slice ad l.length cap, .bool s]) :: H) hla (hrl.up zH)).hsub zH) ?_
      rintro v H' ⟨bf, rfl, rfl⟩
      refine W_move rfl rfl ?_
      refine W_extract rfl rfl rfl ?_
      refine W_extract rfl rfl rfl ?_
      refine W_assign rfl rfl ?_
      refine W_assign rfl rfl ?_
      refine W_nil ?_
      refine W_seq ?_
      refine W_sr ?_
      refine W_move rfl rfl ?_
      refine W_bin rfl rfl b_neq rfl ?_
      refine W_nil ?_
      refine W_condF rfl rfl ?_
      refine W_skip ?_
      refine W_sr ?_
      refine W_move rfl rfl ?_
      refine W_fieldAddr rfl fld27_0 (by decide) rfl ?_
      refine W_load (v := .slice ad l.length cap) rfl ty24 rfl (Cell.own (b := b3) zM rfl) rfl ?_
      refine W_call (.cons rfl .nil) Tryd.call30 rfl ((RClone_L (H := (bf, .cells 101 90 (vaRow (newV la))) :: (b3, .cells 27 2 [.slice ad l.length cap, .bool s]) :: H) hlen (hrow.up zH)).hsub zH) ?_
      rintro v H' ⟨HB, hO, rfl⟩
      obtain ⟨adc, capc, rfl, _, _, hcl⟩ := Holds.of_own (w0 := w0) (H := HB ++ []) hO (fun p hp => List.mem_append_left _ hp)
      refine W_move rfl rfl ?_
      refine W_build (l := (runC bf adc l.length capc (newR la fuel))) ty86 pl86 (.cons rfl rfl rfl rfl rfl (.cons rfl rfl rfl rfl rfl (.cons rfl rfl rfl rfl rfl .nil))) rfl rfl rfl ?_
      refine W_box (l := (runC bf adc l.length capc (newR la fuel))) rfl rfl rfl (fun b40 => ?_)
      refine W_assign rfl rfl ?_
      refine W_assign rfl rfl ?_
      refine W_nil ?_
      refine W_ret2m (H2 := (b40, .cells 86 42 (runC bf adc l.length capc (newR la fuel))) :: (HB ++ ((bf, .cells 101 90 (vaRow (newV la))) :: H))) Tryd.results8 rfl rfl (.nil _) zH ?_
      exact .inr ⟨Decidable.not_not.1 c0, b40, bf, adc, capc, HB, rfl, hcl, rfl⟩
end Go.Proofs.YtcmfldfeakmdoaaDoor
namespace Go.Proofs.YtcmfldfeakmdoaaDoor
open Go Go.Sl
attribute [local irreducible] W
def kM : Ins := ⟨11, 0, 0, 0, 7⟩
def kX : Ins := ⟨73, 0, 0, 0, 0⟩
def kC : Ins := ⟨72, 0, 0, 0, 1⟩
def kl1 : List Ins := [kM, kX]
def kl2 : List Ins := [kC, kX]
def ks1 : Vs := ⟨⟨false, 0, 0, 0, 7⟩ :: List.replicate 17 zeroV, 1, 1, false, false, trZ, 0, 0⟩
def ks2 : Vs := ⟨⟨false, 0, 0, 0, 7⟩ :: List.replicate 17 zeroV, 1, 0, false, true, trZ, 0, 7⟩
def ks3 : Vs := ⟨⟨false, 0, 0, 0, 7⟩ :: List.replicate 17 zeroV, 1, 0, false, true, trZ, 16, 0⟩
def ks4 : Vs := ⟨zeroV :: List.replicate 17 zeroV, 0, 8, true, false, { trZ with kind := 2, helper := 1 }, 0, 0⟩
def ks5 : Vs := ⟨⟨false, 0, 0, 0, 9⟩ :: List.replicate 17 zeroV, 1, 8, false, false, trZ, 0, 0⟩
def ks6 : Vs := ⟨⟨false, 0, 0, 0, 9⟩ :: List.replicate 17 zeroV, 1, 7, false, true, trZ, 0, 9⟩
theorem kz1 : (chkR kl1 false).2 = 0 := by decide +kernel
theorem kz2 : (chkR kl2 false).2 = 0 := by decide +kernel
theorem ke1 : goF kl1 (1 : Int).toNat (newR [] 2) = ks1 := by decide +kernel
theorem ke2 : goF kl1 (1 : Int).toNat ks1 = ks2 := by decide +kernel
theorem ke3 : goF kl1 (9 : Int).toNat (newR [] 1) = ks3 := by decide +kernel
theorem ke4 : goF kl2 (9 : Int).toNat (newR [] 9) = ks4 := by decide +kernel
theorem ke5 : giveF kl2 ks4 ⟨false, 0, 0, 0, 9⟩ 0 = (ks5, 0) := by decide +kernel
theorem ke6 : goF kl2 (9 : Int).toNat ks5 = ks6 := by decide +kernel
theorem ins_ok {x : Ins} (h : x = kM ∨ x = kX ∨ x = kC) : x.Ok := by
  rcases h with rfl | rfl | rfl <;> exact ⟨by decide, by decide, by decide, by decide, by decide⟩
theorem ki1 : InsOk kl1 := fun x hx => ins_ok (by simp only [kl1, List.mem_cons, List.not_mem_nil, or_false] at hx; rcases hx with h | h <;> simp [h])
theorem ki2 : InsOk kl2 := fun x hx => ins_ok (by simp only [kl2, List.mem_cons, List.not_mem_nil, or_false] at hx; rcases hx with h | h <;> simp [h])
theorem kc1 : CodeOk kl1 := chk_code kz1
theorem kc2 : CodeOk kl2 := chk_code kz2
theorem kr0 {l : List Ins} (hc : CodeOk l) (f : Int) (h : 1 ≤ f ∧ f ≤ 256) : RunOk l (newR [] f) := newR_ok hc (by decide) (fun v hv => by cases hv) h
theorem kr1 : RunOk kl1 ks1 := ke1 ▸ goF_ok kc1 _ (kr0 kc1 2 (by decide))
theorem kr4 : RunOk kl2 ks4 := ke4 ▸ goF_ok kc2 _ (kr0 kc2 9 (by decide))
theorem kr5 : RunOk kl2 ks5 := by
  have h := giveF_ok (v := ⟨false, 0, 0, 0, 9⟩) (e := 0) kr4 ⟨by decide, by decide⟩
  rw [ke5] at h
  exact h
set_option maxHeartbeats 4000000 in
theorem vknown_pure  : Pure Tryd.prog (Tab) 11 [] (.bool true) := by
  intro w0 H hT
  refine L_enter Tryd.func11 rfl Tryd.ntmps11 rfl rfl ?_
  refine W_sr ?_
  refine W_assign rfl rfl ?_
  refine W_nil ?_
  refine W_sr ?_
  refine W_build (l := kM.cells) ty59 pl59 (.cons rfl rfl rfl rfl rfl (.cons rfl rfl rfl rfl rfl .nil)) rfl rfl rfl ?_
  refine W_build (l := kC.cells) ty59 pl59 (.cons rfl rfl rfl rfl rfl (.cons rfl rfl rfl rfl rfl .nil)) rfl rfl rfl ?_
  refine W_build (l := kX.cells) ty59 pl59 (.cons rfl rfl rfl rfl rfl .nil) rfl rfl rfl ?_
  refine W_alloc (l := [.int .i64 0, .int .i64 0, .int .i64 0, .int .i64 0, .int .i64 0]) ty59 rfl rfl (fun b1 => ?_)
  refine W_alloc (l := [.int .i64 0, .int .i64 0, .int .i64 0, .int .i64 0, .int .i64 0]) ty59 rfl rfl (fun b2 => ?_)
  refine W_alloc (l := [.int .i64 0, .int .i64 0, .int .i64 0, .int .i64 0, .int .i64 0]) ty59 rfl rfl (fun b3 => ?_)
  refine W_storeA (l' := kM.cells) rfl rfl ty59 rfl rfl (b := b1) zM (by decide) rfl zU ?_
  refine W_storeA (l' := kC.cells) rfl rfl ty59 rfl rfl (b := b2) zM (by decide) rfl zU ?_
  refine W_storeA (l' := kX.cells) rfl rfl ty59 rfl rfl (b := b3) zM (by decide) rfl zU ?_
  refine W_nil ?_
  refine W_sr ?_
  refine W_loadB (vs := kM.cells) rfl ty59 rfl (b := b1) zM rfl rfl rfl ?_
  refine W_loadB (vs := kX.cells) rfl ty59 rfl (b := b3) zM rfl rfl rfl ?_
  refine W_buildSlice (l := insRow kl1) ty24 ty59 (.cons rfl rfl rfl rfl rfl (.cons rfl rfl rfl rfl rfl .nil)) rfl rfl rfl rfl rfl rfl rfl (fun b17 => ?_)
  refine W_build (l := [.slice (some ⟨b17, 0, none⟩) 2 2, .bool false]) ty27 pl27 (.cons rfl rfl rfl rfl rfl .nil) rfl rfl rfl ?_
  refine W_call (.cons rfl (.cons rfl (.cons rfl .nil))) Tryd.call8 rfl ((RNew_L (H := (b1, .cells 59 5 kM.cells) :: (b2, .cells 59 5 kC.cells) :: (b3, .cells 59 5 kX.cells) :: (b17, .cells 59 10 (insRow kl1)) :: H) (l := kl1) (s := false) (cap := 2) (capl := 0) (la := []) ki1 (by decide) (by decide) (Holds.own (b := b17) zM) (by decide) (adl := none) Holds.nil (fuel := 2) (by decide) hT).hsub zH) ?_
  rintro v H' (⟨hne, _, _⟩ | ⟨_, br1, bf1, ad1, cap1, HB1, rfl, hcl1, rfl⟩)
  · exact absurd kz1 hne
  refine W_move rfl rfl ?_
  refine W_extract rfl rfl rfl ?_
  refine W_extract rfl rfl rfl ?_
  refine W_assign rfl rfl ?_
  refine W_assign rfl rfl ?_
  refine W_nil ?_
  refine W_seq ?_
  refine W_sr ?_
  refine W_move rfl rfl ?_
  refine W_bin rfl rfl b_neq rfl ?_
  refine W_move rfl rfl ?_
  refine W_gyes rfl rfl ?_
  refine W_move rfl rfl ?_
  refine W_gyes rfl rfl ?_
  refine W_call (.cons rfl (.cons rfl .nil)) Tryd.call12 rfl ((RGo_L (H := HB1 ++ ((b1, .cells 59 5 kM.cells) :: (b2, .cells 59 5 kC.cells) :: (b3, .cells 59 5 kX.cells) :: (b17, .cells 59 10 (insRow kl1)) :: H)) (br := br1) (bf := bf1) (r := (newR [] 2)) (nn := 1) (l := kl1) rfl kc1 ki1 (kr0 kc1 2 (by decide)) (hcl1.up zH) (by decide) hT).hsub zH) ?_
  rintro v H' ⟨rfl, rfl⟩
  rw [ke1]
  refine W_gyes rfl rfl ?_
  refine W_field rfl fld44_0 rfl rfl ?_
  refine W_gyes rfl rfl ?_
  refine W_bin rfl rfl b_neq rfl ?_
  first | refine W_pickt rfl rfl rfl ?_ | refine W_pickf rfl rfl rfl ?_
  refine W_move rfl rfl ?_
  refine W_gyes rfl rfl ?_
  refine W_move rfl rfl ?_
  refine W_gyes rfl rfl ?_
  refine W_call (.cons rfl .nil) Tryd.call14 rfl ((RAt_L (H := (bf1, .cells 101 90 (vaRow ks1.V)) :: (HB1 ++ ((b1, .cells 59 5 kM.cells) :: (b2, .cells 59 5 kC.cells) :: (b3, .cells 59 5 kX.cells) :: (b17, .cells 59 10 (insRow kl1)) :: H))) (br := br1) (bf := bf1) (r := ks1)).hsub zH) ?_
  rintro v H' ⟨rfl, rfl⟩
  refine W_gyes rfl rfl ?_
  refine W_bin rfl rfl b_neq rfl ?_
  first | refine W_pickt rfl rfl rfl ?_ | refine W_pickf rfl rfl rfl ?_
  refine W_move rfl rfl ?_
  refine W_gyes rfl rfl ?_
  refine W_move rfl rfl ?_
  refine W_gyes rfl rfl ?_
  refine W_call (.cons rfl (.cons rfl .nil)) Tryd.call12 rfl ((RGo_L (H := HB1 ++ ((b1, .cells 59 5 kM.cells) :: (b2, .cells 59 5 kC.cells) :: (b3, .cells 59 5 kX.cells) :: (b17, .cells 59 10 (insRow kl1)) :: H)) (br := br1) (bf := bf1) (r := ks1) (nn := 1) (l := kl1) rfl kc1 ki1 kr1 (hcl1.up zH) (by decide) hT).hsub zH) ?_
  rintro v H' ⟨rfl, rfl⟩
  rw [ke2]
  refine W_gyes rfl rfl ?_
  refine W_field rfl fld44_0 rfl rfl ?_
  refine W_gyes rfl rfl ?_
  refine W_bin rfl rfl b_neq rfl ?_
  first | refine W_pickt rfl rfl rfl ?_ | refine W_pickf rfl rfl rfl ?_
  refine W_move rfl rfl ?_
  refine W_gyes rfl rfl ?_
  refine W_move rfl rfl ?_
  refine W_gyes rfl rfl ?_
  refine W_call (.cons rfl .nil) Tryd.call15 rfl ((RCode_L (H := (bf1, .cells 101 90 (vaRow ks2.V)) :: (HB1 ++ ((b1, .cells 59 5 kM.cells) :: (b2, .cells 59 5 kC.cells) :: (b3, .cells 59 5 kX.cells) :: (b17, .cells 59 10 (insRow kl1)) :: H))) (br := br1) (bf := bf1) (r := ks2)).hsub zH) ?_
  rintro v H' ⟨rfl, rfl⟩
  refine W_gyes rfl rfl ?_
  refine W_bin rfl rfl b_neq rfl ?_
  first | refine W_pickt rfl rfl rfl ?_ | refine W_pickf rfl rfl rfl ?_
  refine W_move rfl rfl ?_
  refine W_gyes rfl rfl ?_
  refine W_move rfl rfl ?_
  refine W_gyes rfl rfl ?_
  refine W_call (.cons rfl .nil) Tryd.call16 rfl ((RResult_L (H := (bf1, .cells 101 90 (vaRow ks2.V)) :: (HB1 ++ ((b1, .cells 59 5 kM.cells) :: (b2, .cells 59 5 kC.cells) :: (b3, .cells 59 5 kX.cells) :: (b17, .cells 59 10 (insRow kl1)) :: H))) (br := br1) (bf := bf1) (r := ks2)).hsub zH) ?_
  rintro v H' ⟨rfl, rfl⟩
  refine W_gyes rfl rfl ?_
  refine W_bin rfl rfl b_neq rfl ?_
  first | refine W_pickt rfl rfl rfl ?_ | refine W_pickf rfl rfl rfl ?_
  refine W_nil ?_
  refine W_condF rfl rfl ?_
  refine W_skip ?_
  refine W_sr ?_
  refine W_loadB (vs := kM.cells) rfl ty59 rfl (b := b1) zM rfl rfl rfl ?_
  refine W_loadB (vs := kX.cells) rfl ty59 rfl (b := b3) zM rfl rfl rfl ?_
  refine W_buildSlice (l := insRow kl1) ty24 ty59 (.cons rfl rfl rfl rfl rfl (.cons rfl rfl rfl rfl rfl .nil)) rfl rfl rfl rfl rfl rfl rfl (fun b54 => ?_)
  refine W_build (l := [.slice (some ⟨b54, 0, none⟩) 2 2, .bool false]) ty27 pl27 (.cons rfl rfl rfl rfl rfl .nil) rfl rfl rfl ?_
  refine W_call (.cons rfl (.cons rfl (.cons rfl .nil))) Tryd.call8 rfl ((RNew_L (H := (b1, .cells 59 5 kM.cells) :: (b2, .cells 59 5 kC.cells) :: (b3, .cells 59 5 kX.cells) :: (b54, .cells 59 10 (insRow kl1)) :: H) (l := kl1) (s := false) (cap := 2) (capl := 0) (la := []) ki1 (by decide) (by decide) (Holds.own (b := b54) zM) (by decide) (adl := none) Holds.nil (fuel := 1) (by decide) hT).hsub zH) ?_
  rintro v H' (⟨hne, _, _⟩ | ⟨_, br2, bf2, ad2, cap2, HB2, rfl, hcl2, rfl⟩)
  · exact absurd kz1 hne
  refine W_move rfl rfl ?_
  refine W_extract rfl rfl rfl ?_
  refine W_extract rfl rfl rfl ?_
  refine W_assign rfl rfl ?_
  refine W_assign rfl rfl ?_
  refine W_nil ?_
  refine W_seq ?_
  refine W_sr ?_
  refine W_move rfl rfl ?_
  refine W_call (.cons rfl (.cons rfl .nil)) Tryd.call12 rfl ((RGo_L (H := HB2 ++ ((b1, .cells 59 5 kM.cells) :: (b2, .cells 59 5 kC.cells) :: (b3, .cells 59 5 kX.cells) :: (b54, .cells 59 10 (insRow kl1)) :: H)) (br := br2) (bf := bf2) (r := (newR [] 1)) (nn := 9) (l := kl1) rfl kc1 ki1 (kr0 kc1 1 (by decide)) (hcl2.up zH) (by decide) hT).hsub zH) ?_
  rintro v H' ⟨rfl, rfl⟩
  rw [ke3]
  refine W_field rfl fld44_0 rfl rfl ?_
  refine W_bin rfl rfl b_neq rfl ?_
  refine W_move rfl rfl ?_
  refine W_gyes rfl rfl ?_
  refine W_move rfl rfl ?_
  refine W_gyes rfl rfl ?_
  refine W_call (.cons rfl .nil) Tryd.call15 rfl ((RCode_L (H := (bf2, .cells 101 90 (vaRow ks3.V)) :: (HB2 ++ ((b1, .cells 59 5 kM.cells) :: (b2, .cells 59 5 kC.cells) :: (b3, .cells 59 5 kX.cells) :: (b54, .cells 59 10 (insRow kl1)) :: H))) (br := br2) (bf := bf2) (r := ks3)).hsub zH) ?_
  rintro v H' ⟨rfl, rfl⟩
  refine W_gyes rfl rfl ?_
  refine W_bin rfl rfl b_neq rfl ?_
  first | refine W_pickt rfl rfl rfl ?_ | refine W_pickf rfl rfl rfl ?_
  refine W_nil ?_
  refine W_condF rfl rfl ?_
  refine W_skip ?_
  refine W_sr ?_
  refine W_loadB (vs := kC.cells) rfl ty59 rfl (b := b2) zM rfl rfl rfl ?_
  refine W_loadB (vs := kX.cells) rfl ty59 rfl (b := b3) zM rfl rfl rfl ?_
  refine W_buildSlice (l := insRow kl2) ty24 ty59 (.cons rfl rfl rfl rfl rfl (.cons rfl rfl rfl rfl rfl .nil)) rfl rfl rfl rfl rfl rfl rfl (fun b71 => ?_)
  refine W_build (l := [.slice (some ⟨b71, 0, none⟩) 2 2, .bool false]) ty27 pl27 (.cons rfl rfl rfl rfl rfl .nil) rfl rfl rfl ?_
  refine W_call (.cons rfl (.cons rfl (.cons rfl .nil))) Tryd.call8 rfl ((RNew_L (H := (b1, .cells 59 5 kM.cells) :: (b2, .cells 59 5 kC.cells) :: (b3, .cells 59 5 kX.cells) :: (b71, .cells 59 10 (insRow kl2)) :: H) (l := kl2) (s := false) (cap := 2) (capl := 0) (la := []) ki2 (by decide) (by decide) (Holds.own (b := b71) zM) (by decide) (adl := none) Holds.nil (fuel := 9) (by decide) hT).hsub zH) ?_
  rintro v H' (⟨hne, _, _⟩ | ⟨_, br3, bf3, ad3, cap3, HB3, rfl, hcl3, rfl⟩)
  · exact absurd kz2 hne
  refine W_move rfl rfl ?_
  refine W_extract rfl rfl rfl ?_
  refine W_extract rfl rfl rfl ?_
  refine W_assign rfl rfl ?_
  refine W_assign rfl rfl ?_
  refine W_nil ?_
  refine W_sr ?_
  refine W_move rfl rfl ?_
  refine W_call (.cons rfl (.cons rfl .nil)) Tryd.call12 rfl ((RGo_L (H := HB3 ++ ((b1, .cells 59 5 kM.cells) :: (b2, .cells 59 5 kC.cells) :: (b3, .cells 59 5 kX.cells) :: (b71, .cells 59 10 (insRow kl2)) :: H)) (br := br3) (bf := bf3) (r := (newR [] 9)) (nn := 9) (l := kl2) rfl kc2 ki2 (kr0 kc2 9 (by decide)) (hcl3.up zH) (by decide) hT).hsub zH) ?_
  rintro v H' ⟨rfl, rfl⟩
  rw [ke4]
  refine W_alloc (l := trC trZ) ty44 rfl rfl (fun b10 => ?_)
  refine W_storeA (l' := trC (trapOf ks4)) rfl rfl ty44 rfl rfl (b := b10) zM (Nat.le_of_ble_eq_true rfl) rfl zU ?_
  refine W_nil ?_
  refine W_sr ?_
  refine W_fieldAddr rfl fld44_0 (by decide) rfl ?_
  refine W_load rfl ty3 rfl (Cell.own zM rfl) rfl ?_
  refine W_bin rfl rfl b_eql rfl ?_
  refine W_move rfl rfl ?_
  refine W_gyes rfl rfl ?_
  refine W_fieldAddr rfl fld44_1 (by decide) rfl ?_
  refine W_gyes rfl rfl ?_
  refine W_load rfl ty3 rfl (Cell.own zM rfl) rfl ?_
  refine W_gyes rfl rfl ?_
  refine W_bin rfl rfl b_eql rfl ?_
  first | refine W_pickt rfl rfl rfl ?_ | refine W_pickf rfl rfl rfl ?_
  refine W_move rfl rfl ?_
  refine W_gyes rfl rfl ?_
  refine W_move rfl rfl ?_
  refine W_gyes rfl rfl ?_
  refine W_callp (.cons rfl .nil) Tryd.call21 rfl (T := fun _ => True) trivial (Num_pure _) ?_
  refine W_gyes rfl rfl ?_
  refine W_call (.cons rfl (.cons rfl (.cons rfl .nil))) Tryd.call17 rfl ((RGive_L (H := HB3 ++ ((b1, .cells 59 5 kM.cells) :: (b2, .cells 59 5 kC.cells) :: (b3, .cells 59 5 kX.cells) :: (b71, .cells 59 10 (insRow kl2)) :: H)) (br := br3) (bf := bf3) (r := ks4) (v := ⟨false, 0, 0, 0, 9⟩) (e := 0) (l := kl2) rfl kc2 ki2 kr4 (hcl3.up zH)).hsub zH) ?_
  rintro v H' ⟨rfl, rfl⟩
  rw [ke5]
  refine W_gyes rfl rfl ?_
  refine W_bin rfl rfl b_eql rfl ?_
  first | refine W_pickt rfl rfl rfl ?_ | refine W_pickf rfl rfl rfl ?_
  refine W_move rfl rfl ?_
  refine W_gyes rfl rfl ?_
  refine W_move rfl rfl ?_
  refine W_gyes rfl rfl ?_
  refine W_call (.cons rfl (.cons rfl .nil)) Tryd.call12 rfl ((RGo_L (H := HB3 ++ ((b1, .cells 59 5 kM.cells) :: (b2, .cells 59 5 kC.cells) :: (b3, .cells 59 5 kX.cells) :: (b71, .cells 59 10 (insRow kl2)) :: H)) (br := br3) (bf := bf3) (r := ks5) (nn := 9) (l := kl2) rfl kc2 ki2 kr5 (hcl3.up zH) (by decide) hT).hsub zH) ?_
  rintro v H' ⟨rfl, rfl⟩
  rw [ke6]
  refine W_gyes rfl rfl ?_
  refine W_field rfl fld44_0 rfl rfl ?_
  refine W_gyes rfl rfl ?_
  refine W_bin rfl rfl b_eql rfl ?_
  first | refine W_pickt rfl rfl rfl ?_ | refine W_pickf rfl rfl rfl ?_
  refine W_move rfl rfl ?_
  refine W_gyes rfl rfl ?_
  refine W_move rfl rfl ?_
  refine W_gyes rfl rfl ?_
  refine W_call (.cons rfl .nil) Tryd.call16 rfl ((RResult_L (H := (bf3, .cells 101 90 (vaRow ks6.V)) :: (HB3 ++ ((b1, .cells 59 5 kM.cells) :: (b2, .cells 59 5 kC.cells) :: (b3, .cells 59 5 kX.cells) :: (b71, .cells 59 10 (insRow kl2)) :: H))) (br := br3) (bf := bf3) (r := ks6)).hsub zH) ?_
  rintro v H' ⟨rfl, rfl⟩
  refine W_gyes rfl rfl ?_
  refine W_bin rfl rfl b_eql rfl ?_
  first | refine W_pickt rfl rfl rfl ?_ | refine W_pickf rfl rfl rfl ?_
  refine W_assign rfl rfl ?_
  refine W_nil ?_
  refine W_ret1m (H2 := H) Tryd.results11 rfl (.nil _) zH ?_
  exact ⟨rfl, rfl⟩
end Go.Proofs.YtcmfldfeakmdoaaDoor
namespace Go.Proofs.YtcmfldfeakmdoaaDoor
open Go Go.Sl
attribute [local irreducible] W
theorem trC_like (t : Tr) : Likes [.int .i64, .int .i64, .int .i64, .bool, .int .i64, .int .i64, .int .i64, .int .u64, .bool, .int .i64, .int .i64, .int .i64, .int .u64, .bool, .int .i64, .int .i64, .int .i64, .int .u64, .bool, .int .i64, .int .i64, .int .i64, .int .u64, .bool, .int .i64, .int .i64, .int .i64, .int .u64, .bool, .int .i64, .int .i64, .int .i64, .int .u64, .int .u64] (trC t) := ⟨⟨_, rfl⟩, ⟨_, rfl⟩, ⟨_, rfl⟩, ⟨_, rfl⟩, ⟨_, rfl⟩, ⟨_, rfl⟩, ⟨_, rfl⟩, ⟨_, rfl⟩, ⟨_, rfl⟩, ⟨_, rfl⟩, ⟨_, rfl⟩, ⟨_, rfl⟩, ⟨_, rfl⟩, ⟨_, rfl⟩, ⟨_, rfl⟩, ⟨_, rfl⟩, ⟨_, rfl⟩, ⟨_, rfl⟩, ⟨_, rfl⟩, ⟨_, rfl⟩, ⟨_, rfl⟩, ⟨_, rfl⟩, ⟨_, rfl⟩, ⟨_, rfl⟩, ⟨_, rfl⟩, ⟨_, rfl⟩, ⟨_, rfl⟩, ⟨_, rfl⟩, ⟨_, rfl⟩, ⟨_, rfl⟩, ⟨_, rfl⟩, ⟨_, rfl⟩, ⟨_, rfl⟩, ⟨_, rfl⟩, trivial⟩
theorem trC_inj (v w : Tr) (h : trC v = trC w) : v = w := by
  obtain ⟨k, p, o, ⟨a1, a2, a3, a4, a5⟩, ⟨b1, b2, b3, b4, b5⟩, ⟨c1, c2, c3, c4, c5⟩, ⟨d1, d2, d3, d4, d5⟩, ⟨e1, e2, e3, e4, e5⟩, ⟨r1, r2, r3, r4, r5⟩, n⟩ := v
  obtain ⟨k', p', o', ⟨a1', a2', a3', a4', a5'⟩, ⟨b1', b2', b3', b4', b5'⟩, ⟨c1', c2', c3', c4', c5'⟩, ⟨d1', d2', d3', d4', d5'⟩, ⟨e1', e2', e3', e4', e5'⟩, ⟨r1', r2', r3', r4', r5'⟩, n'⟩ := w
  simp only [trC, List.cons.injEq, Value.int.injEq, Value.bool.injEq, true_and, and_true] at h
  simp only [Tr.mk.injEq, Va.mk.injEq]
  simp only [h, and_self]
theorem flat44 : Flat Tryd.prog 4 44 [.int .i64, .int .i64, .int .i64, .bool, .int .i64, .int .i64, .int .i64, .int .u64, .bool, .int .i64, .int .i64, .int .i64, .int .u64, .bool, .int .i64, .int .i64, .int .i64, .int .u64, .bool, .int .i64, .int .i64, .int .i64, .int .u64, .bool, .int .i64, .int .i64, .int .i64, .int .u64, .bool, .int .i64, .int .i64, .int .i64, .int .u64, .int .u64] := (Flat.struct ty44 (by kernel_rfl) (by kernel_rfl) (.cons (ks := [.int .i64]) (by decide) rfl (by kernel_rfl) (Flat.leaf (k := .int .i64) ty3) (.cons (ks := [.int .i64]) (by decide) rfl (by kernel_rfl) (Flat.leaf (k := .int .i64) ty3) (.cons (ks := [.int .i64]) (by decide) rfl (by kernel_rfl) (Flat.leaf (k := .int .i64) ty3) (.cons (ks := [.bool, .int .i64, .int .i64, .int .i64, .int .u64, .bool, .int .i64, .int .i64, .int .i64, .int .u64, .bool, .int .i64, .int .i64, .int .i64, .int .u64, .bool, .int .i64, .int .i64, .int .i64, .int .u64, .bool, .int .i64, .int .i64, .int .i64, .int .u64]) (by decide) rfl (by kernel_rfl) (Flat.array (ls := [.bool, .int .i64, .int .i64, .int .i64, .int .u64]) ty42 rfl (by kernel_rfl) (by kernel_rfl) (Flat.struct ty41 (by kernel_rfl) (by kernel_rfl) (.cons (ks := [.bool]) (by decide) rfl (by kernel_rfl) (Flat.leaf (k := .bool) ty4) (.cons (ks := [.int .i64]) (by decide) rfl (by kernel_rfl) (Flat.leaf (k := .int .i64) ty3) (.cons (ks := [.int .i64, .int .i64]) (by decide) rfl (by kernel_rfl) (Flat.struct ty39 (by kernel_rfl) (by kernel_rfl) (.cons (ks := [.int .i64]) (by decide) rfl (by kernel_rfl) (Flat.leaf (k := .int .i64) ty3) (.cons (ks := [.int .i64]) (by decide) rfl (by kernel_rfl) (Flat.leaf (k := .int .i64) ty3) .nil))) (.cons (ks := [.int .u64]) (by decide) rfl (by kernel_rfl) (Flat.leaf (k := .int .u64) ty28) .nil)))))) (.cons (ks := [.bool, .int .i64, .int .i64, .int .i64, .int .u64]) (by decide) rfl (by kernel_rfl) (Flat.struct ty41 (by kernel_rfl) (by kernel_rfl) (.cons (ks := [.bool]) (by decide) rfl (by kernel_rfl) (Flat.leaf (k := .bool) ty4) (.cons (ks := [.int .i64]) (by decide) rfl (by kernel_rfl) (Flat.leaf (k := .int .i64) ty3) (.cons (ks := [.int .i64, .int .i64]) (by decide) rfl (by kernel_rfl) (Flat.struct ty39 (by kernel_rfl) (by kernel_rfl) (.cons (ks := [.int .i64]) (by decide) rfl (by kernel_rfl) (Flat.leaf (k := .int .i64) ty3) (.cons (ks := [.int .i64]) (by decide) rfl (by kernel_rfl) (Flat.leaf (k := .int .i64) ty3) .nil))) (.cons (ks := [.int .u64]) (by decide) rfl (by kernel_rfl) (Flat.leaf (k := .int .u64) ty28) .nil))))) (.cons (ks := [.int .u64]) (by decide) rfl (by kernel_rfl) (Flat.leaf (k := .int .u64) ty28) .nil)))))))
theorem agg44 : aggB Tryd.prog 44 = true := by kernel_rfl
theorem gt44 : Tryd.prog.eqGuardType Tryd.prog.depth 44 = false := by kernel_rfl
set_option maxHeartbeats 4000000 in
theorem vmNil_pure {z e : Int} {v : Va} : Pure Tryd.prog (Tab) 6 [.int .i64 z, .agg (vaC v).toArray, .int .i64 e] (.bool true) := by
  intro w0 H hT
  refine L_enter Tryd.func6 rfl Tryd.ntmps6 rfl rfl ?_
  refine W_sr ?_
  refine W_box rfl rfl rfl (fun b4 => ?_)
  refine W_assign rfl rfl ?_
  refine W_nil ?_
  refine W_sr ?_
  refine W_assign rfl rfl ?_
  refine W_nil ?_
  refine W_sr ?_
  refine W_move rfl rfl ?_
  refine W_move rfl rfl ?_
  refine W_callp (.cons rfl (.cons rfl .nil)) Tryd.call27 rfl (T := fun _ => True) trivial (RReg_nil _) ?_
  refine W_move rfl rfl ?_
  refine W_extract rfl rfl rfl ?_
  refine W_extract rfl rfl rfl ?_
  refine W_alloc (l := vaC zeroV) ty41 rfl rfl (fun b8 => ?_)
  refine W_storeA rfl rfl ty41 rfl rfl (b := b8) zM (by decide) rfl zU ?_
  refine W_assign rfl rfl ?_
  refine W_nil ?_
  refine W_sr ?_
  refine W_move rfl rfl ?_
  refine W_move rfl rfl ?_
  refine W_move rfl rfl ?_
  refine W_callp (.cons rfl (.cons rfl (.cons rfl .nil))) Tryd.call26 rfl (T := fun _ => True) trivial (RRead_nil _ _) ?_
  refine W_move rfl rfl ?_
  refine W_extract rfl rfl rfl ?_
  refine W_extract rfl rfl rfl ?_
  refine W_assign rfl rfl ?_
  refine W_assign rfl rfl ?_
  refine W_nil ?_
  refine W_quietsr (by kernel_rfl) (by decide +kernel) ?_
  refine WQ_callp .nil Tryd.call11 rfl hT (vknown_pure ) ?_
  refine WQ_x (X_move rfl) rfl ?_
  refine WQ_gyes rfl rfl ?_
  refine WQ_x (X_move rfl) rfl ?_
  refine WQ_gyes rfl rfl ?_
  refine WQ_x (X_move rfl) rfl ?_
  refine WQ_gyes rfl rfl ?_
  refine WQ_callp (.cons rfl (.cons rfl .nil)) Tryd.call12 rfl (T := fun _ => True) trivial (RGo_nil _) ?_
  refine WQ_gyes rfl rfl ?_
  refine WQ_x (X_build (l := trC { trZ with kind := 1 }) ty44 pl44 (.cons rfl rfl rfl rfl rfl .nil) rfl rfl) rfl ?_
  refine WQ_gyes rfl rfl ?_
  refine WQ_x (X_eqF (f := trC) rfl rfl flat44 agg44 trC_like trC_inj gt44 (by decide)) rfl ?_
  rw [decide_eq_true (p := ({ trZ with kind := 1 } : Tr) = { trZ with kind := 1 }) rfl]
  first | refine WQ_x (X_pickt rfl rfl) rfl ?_ | refine WQ_x (X_pickf rfl rfl) rfl ?_
  refine WQ_x (X_move rfl) rfl ?_
  refine WQ_gyes rfl rfl ?_
  refine WQ_x (X_move rfl) rfl ?_
  refine WQ_gyes rfl rfl ?_
  refine WQ_x (X_loadB (vs := vaC v) rfl ty52 rfl zM rfl rfl) rfl ?_
  refine WQ_gyes rfl rfl ?_
  refine WQ_callp (.cons rfl .nil) Tryd.call18 rfl (T := fun _ => True) trivial (To_pure v) ?_
  refine WQ_gyes rfl rfl ?_
  refine WQ_x (X_move rfl) rfl ?_
  refine WQ_gyes rfl rfl ?_
  refine WQ_callp (.cons rfl (.cons rfl (.cons rfl .nil))) Tryd.call17 rfl (T := fun _ => True) trivial (RGive_nil v _) ?_
  refine WQ_gyes rfl rfl ?_
  refine WQ_x (X_bin rfl rfl b_eql) rfl ?_
  first | refine WQ_x (X_pickt rfl rfl) rfl ?_ | refine WQ_x (X_pickf rfl rfl) rfl ?_
  refine WQ_x (X_move rfl) rfl ?_
  refine WQ_gyes rfl rfl ?_
  refine WQ_x (X_move rfl) rfl ?_
  refine WQ_gyes rfl rfl ?_
  refine WQ_x (X_move rfl) rfl ?_
  refine WQ_gyes rfl rfl ?_
  refine WQ_callp (.cons rfl (.cons rfl .nil)) Tryd.call22 rfl (T := fun _ => True) trivial (REnd_nil ) ?_
  refine WQ_gyes rfl rfl ?_
  refine WQ_x (X_bin rfl rfl b_eql) rfl ?_
  first | refine WQ_x (X_pickt rfl rfl) rfl ?_ | refine WQ_x (X_pickf rfl rfl) rfl ?_
  refine WQ_x (X_move rfl) rfl ?_
  refine WQ_gyes rfl rfl ?_
  refine WQ_x (X_move rfl) rfl ?_
  refine WQ_gyes rfl rfl ?_
  refine WQ_callp (.cons rfl .nil) Tryd.call20 rfl (T := fun _ => True) trivial (RAsks_nil ) ?_
  refine WQ_gyes rfl rfl ?_
  refine WQ_x (X_not rfl) rfl ?_
  first | refine WQ_x (X_pickt rfl rfl) rfl ?_ | refine WQ_x (X_pickf rfl rfl) rfl ?_
  refine WQ_x (X_move rfl) rfl ?_
  refine WQ_gyes rfl rfl ?_
  refine WQ_x (X_move rfl) rfl ?_
  refine WQ_gyes rfl rfl ?_
  refine WQ_callp (.cons rfl .nil) Tryd.call19 rfl (T := fun _ => True) trivial (ROver_nil ) ?_
  first | refine WQ_x (X_pickt rfl rfl) rfl ?_ | refine WQ_x (X_pickf rfl rfl) rfl ?_
  refine WQ_x (X_move rfl) rfl ?_
  refine WQ_gyes rfl rfl ?_
  refine WQ_x (X_move rfl) rfl ?_
  refine WQ_gyes rfl rfl ?_
  refine WQ_callp (.cons rfl .nil) Tryd.call15 rfl (T := fun _ => True) trivial (RCode_nil ) ?_
  refine WQ_gyes rfl rfl ?_
  refine WQ_x (X_bin rfl rfl b_eql) rfl ?_
  first | refine WQ_x (X_pickt rfl rfl) rfl ?_ | refine WQ_x (X_pickf rfl rfl) rfl ?_
  refine WQ_x (X_move rfl) rfl ?_
  refine WQ_gyes rfl rfl ?_
  refine WQ_x (X_move rfl) rfl ?_
  refine WQ_gyes rfl rfl ?_
  refine WQ_callp (.cons rfl .nil) Tryd.call16 rfl (T := fun _ => True) trivial (RResult_nil ) ?_
  refine WQ_gyes rfl rfl ?_
  refine WQ_x (X_bin rfl rfl b_eql) rfl ?_
  first | refine WQ_x (X_pickt rfl rfl) rfl ?_ | refine WQ_x (X_pickf rfl rfl) rfl ?_
  refine WQ_x (X_move rfl) rfl ?_
  refine WQ_gyes rfl rfl ?_
  refine WQ_x (X_move rfl) rfl ?_
  refine WQ_gyes rfl rfl ?_
  refine WQ_callp (.cons rfl .nil) Tryd.call13 rfl (T := fun _ => True) trivial (RFuel_nil ) ?_
  refine WQ_gyes rfl rfl ?_
  refine WQ_x (X_bin rfl rfl b_eql) rfl ?_
  first | refine WQ_x (X_pickt rfl rfl) rfl ?_ | refine WQ_x (X_pickf rfl rfl) rfl ?_
  refine WQ_x (X_move rfl) rfl ?_
  refine WQ_gyes rfl rfl ?_
  refine WQ_x (X_move rfl) rfl ?_
  refine WQ_gyes rfl rfl ?_
  refine WQ_callp (.cons rfl .nil) Tryd.call14 rfl (T := fun _ => True) trivial (RAt_nil ) ?_
  refine WQ_gyes rfl rfl ?_
  refine WQ_x (X_bin rfl rfl b_eql) rfl ?_
  first | refine WQ_x (X_pickt rfl rfl) rfl ?_ | refine WQ_x (X_pickf rfl rfl) rfl ?_
  refine WQ_x (X_move rfl) rfl ?_
  refine WQ_gyes rfl rfl ?_
  refine WQ_x (X_loadB (vs := vaC zeroV) rfl ty41 rfl zM rfl rfl) rfl ?_
  refine WQ_gyes rfl rfl ?_
  refine WQ_callp (.cons rfl .nil) Tryd.call21 rfl (T := fun _ => True) trivial (Num_pure _) ?_
  refine WQ_gyes rfl rfl ?_
  refine WQ_x (X_eqF (f := vaC) rfl rfl flat41 agg41 vaC_like vaC_inj gt41 (by decide)) rfl ?_
  rw [decide_eq_true (p := zeroV = ⟨false, 0, 0, 0, 0⟩) rfl]
  first | refine WQ_x (X_pickt rfl rfl) rfl ?_ | refine WQ_x (X_pickf rfl rfl) rfl ?_
  refine WQ_x (X_move rfl) rfl ?_
  refine WQ_gyes rfl rfl ?_
  refine WQ_x (X_move rfl) rfl ?_
  refine WQ_gyes rfl rfl ?_
  refine WQ_x (X_bin rfl rfl b_eql) rfl ?_
  first | refine WQ_x (X_pickt rfl rfl) rfl ?_ | refine WQ_x (X_pickf rfl rfl) rfl ?_
  refine WQ_x (X_move rfl) rfl ?_
  refine WQ_gyes rfl rfl ?_
  refine WQ_x (X_move rfl) rfl ?_
  refine WQ_gyes rfl rfl ?_
  refine WQ_x (X_len rfl ty57 rfl) rfl ?_
  refine WQ_gyes rfl rfl ?_
  refine WQ_x (X_bin rfl rfl b_eql) rfl ?_
  first | refine WQ_x (X_pickt rfl rfl) rfl ?_ | refine WQ_x (X_pickf rfl rfl) rfl ?_
  refine WQ_x (X_move rfl) rfl ?_
  refine WQ_gyes rfl rfl ?_
  refine WQ_x (X_move rfl) rfl ?_
  refine WQ_gyes rfl rfl ?_
  refine WQ_x (X_bin rfl rfl b_eql) rfl ?_
  first | refine WQ_x (X_pickt rfl rfl) rfl ?_ | refine WQ_x (X_pickf rfl rfl) rfl ?_
  refine WQ_x (X_move rfl) rfl ?_
  refine WQ_gyes rfl rfl ?_
  refine WQ_x (X_move rfl) rfl ?_
  refine WQ_gyes rfl rfl ?_
  refine WQ_x (X_move rfl) rfl ?_
  refine WQ_gyes rfl rfl ?_
  refine WQ_callp (.cons rfl (.cons rfl (.cons rfl .nil))) Tryd.call24 rfl (T := fun _ => True) trivial (RWrite_nil _ _ _ _) ?_
  refine WQ_gyes rfl rfl ?_
  refine WQ_x (X_bin rfl rfl b_eql) rfl ?_
  first | refine WQ_x (X_pickt rfl rfl) rfl ?_ | refine WQ_x (X_pickf rfl rfl) rfl ?_
  refine WQ_x (X_assign rfl) rfl ?_
  refine WQ_nil ?_
  refine W_ret1m (H2 := H) Tryd.results6 rfl (.nil _) zH ?_
  exact ⟨rfl, rfl⟩
end Go.Proofs.YtcmfldfeakmdoaaDoor
namespace Go.Proofs.YtcmfldfeakmdoaaDoor
open Go Go.Sl Go.ChangeShapes Go.WideShapes Go.ChangeAt Go.RowKit
set_option maxRecDepth 100000
theorem own : ownKnob Tryd.prog.godebug = none := by kernel_rfl
theorem kids : Kids Tryd.prog (· < Tryd.prog.types.size) := kids_rows (by kernel_rfl) (by kernel_rfl)
theorem full : ∀ t e, t < Tryd.prog.types.size → Tryd.prog.underlying t = some (.slice e) → 0 < Tryd.prog.cellsOf e := slices_full_of Tryd.prog (by kernel_rfl)
theorem u4 : Tryd.prog.underlying 4 = some .bool := by kernel_rfl
theorem u3 : Tryd.prog.underlying 3 = some (.int .i64) := by kernel_rfl
theorem u23 : Tryd.prog.underlying 23 = some (.slice 52) := by kernel_rfl
theorem u22 : Tryd.prog.underlying 22 = some (.slice 80) := by kernel_rfl
theorem u5 : Tryd.prog.underlying 5 = some (.int .u8) := by kernel_rfl
theorem u136 : Tryd.prog.underlying 136 = some (.array 256 5) := by kernel_rfl
theorem gAscii : Tryd.prog.globalNamed "strings.asciiSpace" = some 0 := by kernel_rfl
theorem tAscii : (Tryd.prog.globals[0]?).map (·.type) = some 136 := by kernel_rfl
abbrev laidL : List (String × DataW Unit) := [("unicode.White_Space", Rows.laid_unicode_White_Space), ("strings.asciiSpace", Rows.laid_strings_asciiSpace)]
theorem tab_laid {W : World} (h : laidMetH Tryd.prog laidL W) : Tab W :=
  Lib.tabIs_of_head (rest := []) gAscii tAscii u136 u5 (by kernel_rfl) (by kernel_rfl) (laidMet.tail (show laidMet Tryd.prog laidL W from h))
noncomputable def laidWorld (os : Os) : World :=
  let N := (World.settled Tryd.prog os).heap.size
  let w0 := World.holding Tryd.prog os ⟨#[.cells #[.int .u16 9, .int .u16 13, .int .u16 1, .int .u16 32, .int .u16 133, .int .u16 101, .int .u16 160, .int .u16 5760, .int .u16 5600, .int .u16 8192, .int .u16 8202, .int .u16 1, .int .u16 8232, .int .u16 8233, .int .u16 1, .int .u16 8239, .int .u16 8287, .int .u16 48, .int .u16 12288, .int .u16 12288, .int .u16 1] 158, .cells #[.slice (some ⟨N, 0, none⟩) 7 7, .slice none 0 0, .int .i64 2] 155], #[], []⟩
  let put (h : Array Obj) (g : Nat) (cs : Array Value) : Array Obj := h.modify g fun
    | .cells _ t frozen => .cells cs t frozen
    | o => o
  let h0 := put w0.heap 0 (Lib.asciiSpaceTab.map fun z => Value.int .u8 z).toArray
  { w0 with heap := put h0 1 #[.pointer (some ⟨N + 1, 0, none⟩)] }
theorem laid_met (os : Os) (args : Array Value) : laidMet Tryd.prog laidL ((laidWorld os).forCall (fun _ _ => 0) ⟨#[], args, []⟩).memory :=
  laidMet_of_run' 8 (by kernel_rfl) (by kernel_rfl)
instance : Inhabited Ins := ⟨⟨0, 0, 0, 0, 0⟩⟩
def Ins.In (v : Ins) : Prop := (-9223372036854775808 ≤ v.op ∧ v.op ≤ 9223372036854775807) ∧ (-9223372036854775808 ≤ v.dst ∧ v.dst ≤ 9223372036854775807) ∧ (-9223372036854775808 ≤ v.src ∧ v.src ≤ 9223372036854775807) ∧ (-9223372036854775808 ≤ v.off ∧ v.off ≤ 9223372036854775807) ∧ (-9223372036854775808 ≤ v.imm ∧ v.imm ≤ 9223372036854775807)
theorem Ins.cells_len (v : Ins) : (Ins.cells v).length = 5 := rfl
theorem Ins.cells_of {cs : List Value} (h : Leafs [.int .i64, .int .i64, .int .i64, .int .i64, .int .i64] cs) : ∃ v : Ins, cs = Ins.cells v ∧ v.In := by
  obtain ⟨a0, c0, rfl, ⟨m0, rfl, e0⟩, h0⟩ := leafs_cons h
  obtain ⟨a1, c1, rfl, ⟨m1, rfl, e1⟩, h1⟩ := leafs_cons h0
  obtain ⟨a2, c2, rfl, ⟨m2, rfl, e2⟩, h2⟩ := leafs_cons h1
  obtain ⟨a3, c3, rfl, ⟨m3, rfl, e3⟩, h3⟩ := leafs_cons h2
  obtain ⟨a4, c4, rfl, ⟨m4, rfl, e4⟩, h4⟩ := leafs_cons h3
  obtain rfl := leafs_nil h4
  exact ⟨⟨m0, m1, m2, m3, m4⟩, rfl, ⟨e0, e1, e2, e3, e4⟩⟩
theorem flat80 : Flat Tryd.prog 1 80 [.int .i64, .int .i64, .int .i64, .int .i64, .int .i64] := (Flat.struct ty80 (by kernel_rfl) (by kernel_rfl) (.cons (ks := [.int .i64]) (by decide) rfl (by kernel_rfl) (Flat.leaf (k := .int .i64) ty3) (.cons (ks := [.int .i64]) (by decide) rfl (by kernel_rfl) (Flat.leaf (k := .int .i64) ty3) (.cons (ks := [.int .i64]) (by decide) rfl (by kernel_rfl) (Flat.leaf (k := .int .i64) ty3) (.cons (ks := [.int .i64]) (by decide) rfl (by kernel_rfl) (Flat.leaf (k := .int .i64) ty3) (.cons (ks := [.int .i64]) (by decide) rfl (by kernel_rfl) (Flat.leaf (k := .int .i64) ty3) .nil))))))
theorem ce80 : Tryd.prog.cellsOf 80 = 5 := by kernel_rfl
end Go.Proofs.YtcmfldfeakmdoaaDoor
namespace Go.Proofs.YtcmfldfeakmdoaaDoor
open Go Go.Sl
attribute [local irreducible] W
theorem RNew_bad {w0 : World} {H : Heap} {l : List Ins} {s : Bool} {ad adl : Option Addr} {cap capl : Nat} {fuel : Int} {la : List Va} (hz : (chkR l s).2 ≠ 0) (hi : InsOk l) (hlen : l.length ≤ 1000) (hcap : l.length ≤ cap) (hrow : Holds w0 H ad (insRow l)) (hla : la.length ≤ 5) (hrl : Holds w0 H adl (vaRow la)) (hf : 1 ≤ fuel ∧ fuel ≤ 256) (hT : Tab w0) :
    LCalls Tryd.prog w0 8 #[.agg #[.slice ad l.length cap, .bool s], .int .i64 fuel, .slice adl la.length capl] H (fun v H' => v = .tuple #[.pointer none, .int .i64 (chkR l s).2] ∧ H' = H) := by
  refine (RNew_L hi hlen hcap hrow hla hrl hf hT).mono ?_
  rintro v H' (⟨_, h⟩ | ⟨h, _⟩)
  · exact h
  · exact absurd h hz
theorem RNew_ok {w0 : World} {H : Heap} {l : List Ins} {s : Bool} {ad adl : Option Addr} {cap capl : Nat} {fuel : Int} {la : List Va} (hz : (chkR l s).2 = 0) (hi : InsOk l) (hlen : l.length ≤ 1000) (hcap : l.length ≤ cap) (hrow : Holds w0 H ad (insRow l)) (hla : la.length ≤ 5) (hrl : Holds w0 H adl (vaRow la)) (hf : 1 ≤ fuel ∧ fuel ≤ 256) (hT : Tab w0) :
    LCalls Tryd.prog w0 8 #[.agg #[.slice ad l.length cap, .bool s], .int .i64 fuel, .slice adl la.length capl] H (fun v H' => ∃ br bf adc capc HB, v = .tuple #[.pointer (some ⟨br, 0, none⟩), .int .i64 0] ∧ Holds w0 (HB ++ []) adc (insRow l) ∧ H' = (br, .cells 86 42 (runC bf adc l.length capc (newR la fuel))) :: (HB ++ ((bf, .cells 101 90 (vaRow (newV la))) :: H))) := by
  refine (RNew_L hi hlen hcap hrow hla hrl hf hT).mono ?_
  rintro v H' (⟨h, _⟩ | ⟨_, h⟩)
  · exact absurd hz h
  · exact h
theorem fuel_is {z : Int} (hz : -9223372036854775808 ≤ z ∧ z ≤ 9223372036854775807) {d : Nat} (hd : d = 256 ∨ d = 255 ∨ d = 20 ∨ d = 8) : ∃ f : Nat, f < d ∧ (d = 256 ∨ d = 8 → (f : Int) = z % d) ∧ (IntKind.u64.wrap z).tmod d = (f : Int) ∧ (0 ≤ (IntKind.u64.wrap z)) := by
  have h0 : 0 ≤ IntKind.u64.wrap z := by rw [u64_wrap]; omega
  refine ⟨((IntKind.u64.wrap z).tmod d).toNat, ?_, ?_, ?_, h0⟩
  all_goals rw [Int.tmod_eq_emod_of_nonneg h0]
  · rcases hd with rfl | rfl | rfl | rfl <;> omega
  · rintro (rfl | rfl) <;> rw [u64_wrap] <;> omega
  · rcases hd with rfl | rfl | rfl | rfl <;> omega
theorem giveF_at {l : List Ins} {r : Vs} {v : Va} {e : Int} (h : r.asks = true) : (giveF l r v e).2 = 0 ∧ (giveF l r v e).1.asks = false ∧ (giveF l r v e).1.fuel = r.fuel := by
  unfold giveF
  rw [if_neg (by rw [h]; decide)]
  refine ⟨rfl, ?_, nextF_fuel _ _⟩
  unfold nextF endF; split <;> rfl
set_option maxHeartbeats 8000000 in
theorem vmEnds_q {w0 : World} {H : Heap} {l : List Ins} {ad : Option Addr} {cap fN : Nat} {z : Int} {v : Va} (hz0 : -9223372036854775808 ≤ z ∧ z ≤ 9223372036854775807) (hfN : fN < 256) (hrem : (IntKind.u64.wrap z).tmod 256 = (fN : Int)) (hv : Wd v.n) (hi : InsOk l) (hrow : Holds w0 H ad (insRow l)) (hT : Tab w0) : PureAt Tryd.prog w0 H 4 [.slice ad l.length cap, .int .i64 z, .agg (vaC v).toArray] (.bool true) := by
  refine L_enter Tryd.func4 rfl Tryd.ntmps4 rfl rfl ?_
  by_cases hz : (chkR (l.take 64) true).2 = 0
  · skip
    refine W_sr ?_
    refine W_box (l := vaC v) rfl rfl rfl (fun b5 => ?_)
    refine W_assign rfl rfl ?_
    refine W_nil ?_
    refine W_sr ?_
    refine W_move rfl rfl ?_
    refine W_call (.cons rfl (.cons rfl .nil)) Tryd.call7 rfl ((code_L (H := (b5, .cells 52 5 (vaC v)) :: H) l 64 (by decide) (hrow.up zH) hT).hsub zH) ?_
    rintro cv H' ⟨HC, hOC, rfl⟩
    obtain ⟨adc, capc, rfl, hcc, _, hclC⟩ := Holds.of_own (w0 := w0) (H := HC ++ ((b5, .cells 52 5 (vaC v)) :: H)) hOC (fun p hp => List.mem_append_left _ hp)
    have hclen : (l.take 64).length ≤ 64 := by rw [List.length_take]; omega
    have hci : InsOk (l.take 64) := fun x hx => hi x (List.mem_of_mem_take hx)
    refine W_build (l := [.slice adc (l.take 64).length capc, .bool true]) ty27 pl27 (.cons rfl rfl rfl rfl rfl (.cons rfl rfl rfl rfl rfl .nil)) rfl rfl rfl ?_
    refine W_alloc (l := [.slice none 0 0, .bool false]) ty27 rfl rfl (fun b7 => ?_)
    refine W_storeA (l' := [.slice adc (l.take 64).length capc, .bool true]) rfl rfl ty27 rfl rfl (b := b7) zM (by exact Nat.le_refl 2) rfl zU ?_
    refine W_nil ?_
    refine W_sr ?_
    refine W_move rfl rfl ?_
    refine W_conv rfl ty3 ty28 rfl rfl ?_
    refine W_bin rfl rfl (b_rem (by decide) (m := (fN : Int)) hrem) rfl ?_
    refine W_conv rfl ty28 ty3 (m := (fN : Int)) (i64w (by omega)) rfl ?_
    refine W_bin rfl rfl (b_add (m := 1 + (fN : Int)) (i64w (by omega))) rfl ?_
    refine W_assign rfl rfl ?_
    refine W_nil ?_
    refine W_sr ?_
    refine W_loadB (vs := [.slice adc (l.take 64).length capc, .bool true]) rfl ty27 rfl (b := b7) zM rfl rfl rfl ?_
    refine W_move rfl rfl ?_
    refine W_call (.cons rfl (.cons rfl (.cons rfl .nil))) Tryd.call8 rfl ((RNew_ok (H := (b7, .cells 27 2 [.slice adc (l.take 64).length capc, .bool true]) :: (HC ++ ((b5, .cells 52 5 (vaC v)) :: H))) (l := (l.take 64)) (s := true) (la := []) (capl := 0) hz hci (by omega) hcc (hclC.up zH) (by decide) (adl := none) Holds.nil (fuel := 1 + (fN : Int)) (by omega) hT).hsub zH) ?_
    rintro v H' ⟨br, bf, ada, capa, HB, rfl, hcl, rfl⟩
    have hc : CodeOk (l.take 64) := chk_code hz
    have hr0 : RunOk (l.take 64) (newR [] (1 + (fN : Int))) := newR_ok hc (by decide) (fun v hv => by cases hv) (by omega)
    refine W_move rfl rfl ?_
    refine W_extract rfl rfl rfl ?_
    refine W_extract rfl rfl rfl ?_
    refine W_assign rfl rfl ?_
    refine W_assign rfl rfl ?_
    refine W_nil ?_
    refine W_seq ?_
    refine W_sr ?_
    refine W_move rfl rfl ?_
    refine W_bin rfl rfl b_neq rfl ?_
    refine W_nil ?_
    refine W_condF rfl rfl ?_
    refine W_skip ?_
    refine W_seq ?_
    refine W_sr ?_
    refine W_assign rfl rfl ?_
    refine W_nil ?_
    refine W_cutX (X := Vs) (fun _ => [(8, .pointer (some ⟨br, 0, none⟩))]) (fun r => (br, .cells 86 42 (runC bf ada (l.take 64).length capa r)) :: (bf, .cells 101 90 (vaRow (r).V)) :: (HB ++ ((b7, .cells 27 2 [.slice adc (l.take 64).length capc, .bool true]) :: (HC ++ ((b5, .cells 52 5 (vaC v)) :: H))))) (fun r => RunOk (l.take 64) r ∧ r.asks = false ∧ r.over = true) ?_ ?_
    · skip
      refine W_block ?_
      refine W_loopD (X := (Nat × Vs)) (fun x => [(1, .int .i64 (1 + (fN : Int))), (5, .pointer (some ⟨b5, 0, none⟩)), (7, .pointer (some ⟨b7, 0, none⟩)), (8, .pointer (some ⟨br, 0, none⟩)), (12, .int .i64 (x.1 : Int))]) (fun _ => []) (fun x => (br, .cells 86 42 (runC bf ada (l.take 64).length capa x.2)) :: (bf, .cells 101 90 (vaRow (x.2).V)) :: (HB ++ ((b7, .cells 27 2 [.slice adc (l.take 64).length capc, .bool true]) :: (HC ++ ((b5, .cells 52 5 (vaC v)) :: H))))) (fun x => x.1 ≤ fN + 2 ∧ RunOk (l.take 64) x.2 ∧ x.2.asks = false ∧ (x.2.over = false → x.2.fuel + (x.1 : Int) = 1 + (fN : Int))) (fun x => fN + 2 - x.1) (0, newR [] (1 + (fN : Int))) ⟨Nat.zero_le _, hr0, rfl, fun _ => by show (1 + (fN : Int)) + ((0 : Nat) : Int) = _; omega⟩ (sub_cons rfl (sub_cons rfl (sub_cons rfl (sub_cons rfl (sub_cons rfl (sub_nil _)))))) rfl zH ?_
      rintro ⟨i, r⟩ ⟨hi2, hr, ha, hof⟩
      dsimp only at hi2 hr ha hof ⊢
      refine W_seq ?_
      refine W_sr ?_
      refine W_move rfl rfl ?_
      refine W_move rfl rfl ?_
      refine W_bin rfl rfl b_leq rfl ?_
      refine W_nil ?_
      refine W_condPS (p := (i : Int) ≤ 1 + (fN : Int)) rfl (by simp) (fun c0 => ?_) (fun c0 => ?_)
      · skip
        refine W_skip ?_
        refine W_seq ?_
        refine W_block ?_
        refine W_seq ?_
        refine W_sr ?_
        refine W_move rfl rfl ?_
        refine W_call (.cons rfl .nil) Tryd.call19 rfl ((ROver_L (H := (bf, .cells 101 90 (vaRow r.V)) :: (HB ++ ((b7, .cells 27 2 [.slice adc (l.take 64).length capc, .bool true]) :: (HC ++ ((b5, .cells 52 5 (vaC v)) :: H))))) (br := br) (bf := bf) (r := r)).hsub zH) ?_
        rintro u H' ⟨rfl, rfl⟩
        refine W_nil ?_
        refine W_condPS (p := r.over = true) rfl (by simp) (fun c1 => ?_) (fun c1 => ?_)
        · skip
          refine W_exit rfl ?_
          refine W_joinX r ⟨hr, ha, c1⟩ (sub_cons rfl (sub_nil _)) zH
        · skip
          refine W_skip ?_
          refine W_sr ?_
          refine W_move rfl rfl ?_
          refine W_call (.cons rfl .nil) Tryd.call13 rfl ((RFuel_L (H := (bf, .cells 101 90 (vaRow r.V)) :: (HB ++ ((b7, .cells 27 2 [.slice adc (l.take 64).length capc, .bool true]) :: (HC ++ ((b5, .cells 52 5 (vaC v)) :: H))))) (br := br) (bf := bf) (r := r)).hsub zH) ?_
          rintro u H' ⟨rfl, rfl⟩
          refine W_move rfl rfl ?_
          refine W_call (.cons rfl .nil) Tryd.call14 rfl ((RAt_L (H := (bf, .cells 101 90 (vaRow r.V)) :: (HB ++ ((b7, .cells 27 2 [.slice adc (l.take 64).length capc, .bool true]) :: (HC ++ ((b5, .cells 52 5 (vaC v)) :: H))))) (br := br) (bf := bf) (r := r)).hsub zH) ?_
          rintro u H' ⟨rfl, rfl⟩
          refine W_assign rfl rfl ?_
          refine W_assign rfl rfl ?_
          refine W_nil ?_
          refine W_sr ?_
          refine W_move rfl rfl ?_
          refine W_call (.cons rfl (.cons rfl .nil)) Tryd.call12 rfl ((RGo_L (H := (HB ++ ((b7, .cells 27 2 [.slice adc (l.take 64).length capc, .bool true]) :: (HC ++ ((b5, .cells 52 5 (vaC v)) :: H))))) (br := br) (bf := bf) (r := r) (nn := 1) (l := (l.take 64)) rfl hc hci hr (hcl.up zH) (by decide) hT).hsub zH) ?_
          rintro u H' ⟨rfl, rfl⟩
          have hno : r.over = false := by simpa using c1
          obtain ⟨r', er⟩ : ∃ r', goF (l.take 64) (1 : Int).toNat r = r' := ⟨_, rfl⟩
          rw [er]
          have es : r' = stepX (l.take 64) r := by rw [← er]; exact if_neg (by rw [hno, ha]; decide)
          have hr' : RunOk (l.take 64) r' := er ▸ goF_ok hc _ hr
          have hrf := hr.fuel
          have hat : 0 ≤ r.at_ ∧ r.at_ < ((l.take 64).length : Int) := by obtain ⟨k, hk, hkl⟩ := hr.at_; omega
          have hcase : (r.fuel = 0 ∧ r'.over = true ∧ r'.asks = false ∧ r'.why = 16 ∧ r'.fuel = 0) ∨ (0 < r.fuel ∧ r'.fuel = r.fuel - 1 ∧ r'.asks = true) ∨ (0 < r.fuel ∧ r'.fuel = r.fuel - 1 ∧ r'.asks = false) := by
            by_cases h0 : r.fuel = 0
            · left
              have : r' = endF r 16 := by rw [es]; exact step_end h0
              subst this
              exact ⟨h0, rfl, rfl, rfl, h0⟩
            · right
              have hf1 : r'.fuel = r.fuel - 1 := by rw [es]; exact step_fuel h0
              cases ha2 : r'.asks with
              | true => exact .inl ⟨by omega, hf1, rfl⟩
              | false => exact .inr ⟨by omega, hf1, rfl⟩
          refine W_alloc (l := trC trZ) ty44 rfl rfl (fun b15 => ?_)
          refine W_storeA (l' := trC (trapOf r')) rfl rfl ty44 rfl rfl (b := b15) zM (Nat.le_of_ble_eq_true rfl) rfl zU ?_
          refine W_nil ?_
          refine W_seq ?_
          refine W_sr ?_
          refine W_move rfl rfl ?_
          rcases hcase with ⟨h0, hov, ha2, hwy, hfu⟩ | ⟨h0, hfu, ha2⟩ | ⟨h0, hfu, ha2⟩
          · skip
            refine W_bin rfl rfl b_lss rfl ?_
            rw [decide_eq_false (p := r.at_ < 0) (by omega)]
            refine W_move rfl rfl ?_
            refine W_gyes rfl rfl ?_
            refine W_move rfl rfl ?_
            refine W_gyes rfl rfl ?_
            refine W_fieldAddr rfl fld27_0 (by decide) rfl ?_
            refine W_gyes rfl rfl ?_
            refine W_load (v := .slice adc (l.take 64).length capc) rfl ty24 rfl (Cell.own (b := b7) zM rfl) rfl ?_
            refine W_gyes rfl rfl ?_
            refine W_len rfl ty24 rfl rfl ?_
            refine W_gyes rfl rfl ?_
            refine W_bin rfl rfl b_geq rfl ?_
            rw [decide_eq_false (p := r.at_ ≥ ((l.take 64).length : Int)) (by omega)]
            first | refine W_pickt rfl rfl rfl ?_ | refine W_pickf rfl rfl rfl ?_
            refine W_move rfl rfl ?_
            refine W_gyes rfl rfl ?_
            refine W_move rfl rfl ?_
            refine W_gyes rfl rfl ?_
            refine W_bin rfl rfl b_gtr rfl ?_
            rw [decide_eq_false (p := r.fuel > 0) (by omega)]
            refine W_gyes rfl rfl ?_
            refine W_move rfl rfl ?_
            refine W_gno rfl rfl rfl ?_
            refine W_gno rfl rfl rfl ?_
            refine W_gno rfl rfl rfl ?_
            refine W_gno rfl rfl rfl ?_
            refine W_gno rfl rfl rfl ?_
            refine W_gyes rfl rfl ?_
            first | refine W_pickt rfl rfl rfl ?_ | refine W_pickf rfl rfl rfl ?_
            first | refine W_pickt rfl rfl rfl ?_ | refine W_pickf rfl rfl rfl ?_
            refine W_move rfl rfl ?_
            refine W_gyes rfl rfl ?_
            refine W_move rfl rfl ?_
            refine W_gyes rfl rfl ?_
            refine W_bin rfl rfl b_eql rfl ?_
            rw [decide_eq_true (p := r.fuel = 0) h0]
            refine W_gyes rfl rfl ?_
            refine W_move rfl rfl ?_
            refine W_gyes rfl rfl ?_
            refine W_fieldAddr rfl fld44_0 (by decide) rfl ?_
            refine W_gyes rfl rfl ?_
            refine W_load (v := .int .i64 (trapOf r').kind) rfl ty3 rfl (Cell.own (b := b15) zM rfl) rfl ?_
            refine W_gyes rfl rfl ?_
            refine W_bin rfl rfl b_neq rfl ?_
            rw [decide_eq_false (p := (trapOf r').kind ≠ 1) (by unfold trapOf; rw [if_pos hov]; simp)]
            refine W_gyes rfl rfl ?_
            refine W_move rfl rfl ?_
            refine W_gyes rfl rfl ?_
            refine W_move rfl rfl ?_
            refine W_gyes rfl rfl ?_
            refine W_call (.cons rfl .nil) Tryd.call15 rfl ((RCode_L (H := (b15, .cells 44 34 (trC (trapOf r'))) :: (bf, .cells 101 90 (vaRow r'.V)) :: (HB ++ ((b7, .cells 27 2 [.slice adc (l.take 64).length capc, .bool true]) :: (HC ++ ((b5, .cells 52 5 (vaC v)) :: H))))) (br := br) (bf := bf) (r := r')).hsub zH) ?_
            rintro u H' ⟨rfl, rfl⟩
            refine W_gyes rfl rfl ?_
            refine W_bin rfl rfl b_neq rfl ?_
            rw [decide_eq_false (p := r'.why ≠ 16) (by omega)]
            refine W_gyes rfl rfl ?_
            first | refine W_pickt rfl rfl rfl ?_ | refine W_pickf rfl rfl rfl ?_
            refine W_gyes rfl rfl ?_
            refine W_move rfl rfl ?_
            refine W_gyes rfl rfl ?_
            refine W_move rfl rfl ?_
            refine W_gyes rfl rfl ?_
            refine W_call (.cons rfl .nil) Tryd.call13 rfl ((RFuel_L (H := (b15, .cells 44 34 (trC (trapOf r'))) :: (bf, .cells 101 90 (vaRow r'.V)) :: (HB ++ ((b7, .cells 27 2 [.slice adc (l.take 64).length capc, .bool true]) :: (HC ++ ((b5, .cells 52 5 (vaC v)) :: H))))) (br := br) (bf := bf) (r := r')).hsub zH) ?_
            rintro u H' ⟨rfl, rfl⟩
            refine W_gyes rfl rfl ?_
            refine W_bin rfl rfl b_neq rfl ?_
            rw [decide_eq_false (p := r'.fuel ≠ 0) (by omega)]
            refine W_gyes rfl rfl ?_
            first | refine W_pickt rfl rfl rfl ?_ | refine W_pickf rfl rfl rfl ?_
            refine W_gyes rfl rfl ?_
            first | refine W_pickt rfl rfl rfl ?_ | refine W_pickf rfl rfl rfl ?_
            first | refine W_pickt rfl rfl rfl ?_ | refine W_pickf rfl rfl rfl ?_
            refine W_nil ?_
            refine W_condF rfl rfl ?_
            refine W_skip ?_
            refine W_seq ?_
            refine W_anyC [(b15, .cells 44 34 (trC (trapOf r'))), (b5, .cells 52 5 (vaC v))] (by kernel_rfl) ?_
            refine WC_take 0 (l' := #[true, false, false, false, false, false, false, false, false, false, false, false, false, false, false, false, false, false, false, false, false, false, false, false, false]) rfl (by decide +kernel) (by decide +kernel) (by decide +kernel) rfl (by decide +kernel) (X_move rfl) rfl ?_
            refine WC_one 1 (l' := #[true, true, false, false, false, false, false, false, false, false, false, false, false, false, false, false, false, false, false, false, false, false, false, false, false]) zH (by decide +kernel) rfl (by decide +kernel) ?_
            refine W_call (.cons rfl .nil) Tryd.call20 rfl ((RAsks_L (H := (b15, .cells 44 34 (trC (trapOf r'))) :: (bf, .cells 101 90 (vaRow r'.V)) :: (HB ++ ((b7, .cells 27 2 [.slice adc (l.take 64).length capc, .bool true]) :: (HC ++ ((b5, .cells 52 5 (vaC v)) :: H))))) (br := br) (bf := bf) (r := r')).hsub zH) ?_
            rintro u H' ⟨rfl, rfl⟩
            rw [ha2]
            refine W_nil ?_
            refine WC_goal ?_
            refine WC_take 2 (l' := #[true, true, true, false, false, false, false, false, false, false, false, false, false, false, false, false, false, false, false, false, false, false, false, false, false]) rfl (by decide +kernel) (by decide +kernel) (by decide +kernel) rfl (by decide +kernel) (X_move rfl) rfl ?_
            refine WC_gno 3 (l' := #[true, true, true, true, false, false, false, false, false, false, false, false, false, false, false, false, false, false, false, false, false, false, false, false, false]) rfl (by decide +kernel) (by decide +kernel) (by decide +kernel) (by decide +kernel) rfl rfl rfl rfl ?_
            refine WC_gno 4 (l' := #[true, true, true, true, true, false, false, false, false, false, false, false, false, false, false, false, false, false, false, false, false, false, false, false, false]) rfl (by decide +kernel) (by decide +kernel) (by decide +kernel) (by decide +kernel) rfl rfl rfl rfl ?_
            refine WC_gno 5 (l' := #[true, true, true, true, true, true, false, false, false, false, false, false, false, false, false, false, false, false, false, false, false, false, false, false, false]) rfl (by decide +kernel) (by decide +kernel) (by decide +kernel) (by decide +kernel) rfl rfl rfl rfl ?_
            refine WC_gno 6 (l' := #[true, true, true, true, true, true, true, false, false, false, false, false, false, false, false, false, false, false, false, false, false, false, false, false, false]) rfl (by decide +kernel) (by decide +kernel) (by decide +kernel) (by decide +kernel) rfl rfl rfl rfl ?_
            refine WC_gnou 7 (l' := #[true, true, true, true, true, true, true, true, false, false, false, false, false, false, false, false, false, false, false, false, false, false, false, false, false]) rfl (by decide +kernel) (by decide +kernel) (by decide +kernel) (by decide +kernel) rfl rfl rfl ?_
            refine WC_gnou 8 (l' := #[true, true, true, true, true, true, true, true, true, false, false, false, false, false, false, false, false, false, false, false, false, false, false, false, false]) rfl (by decide +kernel) (by decide +kernel) (by decide +kernel) (by decide +kernel) rfl rfl rfl ?_
            refine WC_gnou 9 (l' := #[true, true, true, true, true, true, true, true, true, true, false, false, false, false, false, false, false, false, false, false, false, false, false, false, false]) rfl (by decide +kernel) (by decide +kernel) (by decide +kernel) (by decide +kernel) rfl rfl rfl ?_
            refine WC_gno 10 (l' := #[true, true, true, true, true, true, true, true, true, true, true, false, false, false, false, false, false, false, false, false, false, false, false, false, false]) rfl (by decide +kernel) (by decide +kernel) (by decide +kernel) (by decide +kernel) rfl rfl rfl rfl ?_
            refine WC_gno 11 (l' := #[true, true, true, true, true, true, true, true, true, true, true, true, false, false, false, false, false, false, false, false, false, false, false, false, false]) rfl (by decide +kernel) (by decide +kernel) (by decide +kernel) (by decide +kernel) rfl rfl rfl rfl ?_
            refine WC_gnou 12 (l' := #[true, true, true, true, true, true, true, true, true, true, true, true, true, false, false, false, false, false, false, false, false, false, false, false, false]) rfl (by decide +kernel) (by decide +kernel) (by decide +kernel) (by decide +kernel) rfl rfl rfl ?_
            refine WC_gnou 13 (l' := #[true, true, true, true, true, true, true, true, true, true, true, true, true, true, false, false, false, false, false, false, false, false, false, false, false]) rfl (by decide +kernel) (by decide +kernel) (by decide +kernel) (by decide +kernel) rfl rfl rfl ?_
            refine WC_gnou 14 (l' := #[true, true, true, true, true, true, true, true, true, true, true, true, true, true, true, false, false, false, false, false, false, false, false, false, false]) rfl (by decide +kernel) (by decide +kernel) (by decide +kernel) (by decide +kernel) rfl rfl rfl ?_
            refine WC_gnou 15 (l' := #[true, true, true, true, true, true, true, true, true, true, true, true, true, true, true, true, false, false, false, false, false, false, false, false, false]) rfl (by decide +kernel) (by decide +kernel) (by decide +kernel) (by decide +kernel) rfl rfl rfl ?_
            refine WC_gno 16 (l' := #[true, true, true, true, true, true, true, true, true, true, true, true, true, true, true, true, true, false, false, false, false, false, false, false, false]) rfl (by decide +kernel) (by decide +kernel) (by decide +kernel) (by decide +kernel) rfl rfl rfl rfl ?_
            refine WC_gno 17 (l' := #[true, true, true, true, true, true, true, true, true, true, true, true, true, true, true, true, true, true, false, false, false, false, false, false, false]) rfl (by decide +kernel) (by decide +kernel) (by decide +kernel) (by decide +kernel) rfl rfl rfl rfl ?_
            refine WC_gnou 18 (l' := #[true, true, true, true, true, true, true, true, true, true, true, true, true, true, true, true, true, true, true, false, false, false, false, false, false]) rfl (by decide +kernel) (by decide +kernel) (by decide +kernel) (by decide +kernel) rfl rfl rfl ?_
            refine WC_gnou 19 (l' := #[true, true, true, true, true, true, true, true, true, true, true, true, true, true, true, true, true, true, true, true, false, false, false, false, false]) rfl (by decide +kernel) (by decide +kernel) (by decide +kernel) (by decide +kernel) rfl rfl rfl ?_
            refine WC_gnou 20 (l' := #[true, true, true, true, true, true, true, true, true, true, true, true, true, true, true, true, true, true, true, true, true, false, false, false, false]) rfl (by decide +kernel) (by decide +kernel) (by decide +kernel) (by decide +kernel) rfl rfl rfl ?_
            refine WC_gnou 21 (l' := #[true, true, true, true, true, true, true, true, true, true, true, true, true, true, true, true, true, true, true, true, true, true, false, false, false]) rfl (by decide +kernel) (by decide +kernel) (by decide +kernel) (by decide +kernel) rfl rfl rfl ?_
            refine WC_gnou 22 (l' := #[true, true, true, true, true, true, true, true, true, true, true, true, true, true, true, true, true, true, true, true, true, true, true, false, false]) rfl (by decide +kernel) (by decide +kernel) (by decide +kernel) (by decide +kernel) rfl rfl rfl ?_
            refine WC_gno 23 (l' := #[true, true, true, true, true, true, true, true, true, true, true, true, true, true, true, true, true, true, true, true, true, true, true, true, false]) rfl (by decide +kernel) (by decide +kernel) (by decide +kernel) (by decide +kernel) rfl rfl rfl rfl ?_
            first | refine WC_take 24 (l' := #[true, true, true, true, true, true, true, true, true, true, true, true, true, true, true, true, true, true, true, true, true, true, true, true, true]) rfl (by decide +kernel) (by decide +kernel) (by decide +kernel) rfl (by decide +kernel) (X_pickt rfl rfl) rfl ?_ | refine WC_take 24 (l' := #[true, true, true, true, true, true, true, true, true, true, true, true, true, true, true, true, true, true, true, true, true, true, true, true, true]) rfl (by decide +kernel) (by decide +kernel) (by decide +kernel) rfl (by decide +kernel) (X_pickf rfl rfl) rfl ?_
            refine WC_done zH (by decide +kernel) ?_
            refine W_condF rfl rfl ?_
            refine W_skip ?_
            refine W_blk ?_
            refine W_region ?_
            refine W_move rfl rfl ?_
            refine W_bin rfl rfl (b_add (m := ((i + 1 : Nat) : Int)) ((i64w (by omega)).trans (by omega))) rfl ?_
            refine W_assign rfl rfl ?_
            refine W_nil ?_
            refine W_again (i + 1, r') ⟨by show i + 1 ≤ fN + 2; omega, hr', ha2, fun ho => by rw [hov] at ho; cases ho⟩ (by show fN + 2 - (i + 1) < fN + 2 - i; omega) (sub_cons rfl (sub_cons rfl (sub_cons rfl (sub_cons rfl (sub_cons rfl (sub_nil _)))))) rfl zH
          · skip
            refine W_bin rfl rfl b_lss rfl ?_
            rw [decide_eq_false (p := r.at_ < 0) (by omega)]
            refine W_move rfl rfl ?_
            refine W_gyes rfl rfl ?_
            refine W_move rfl rfl ?_
            refine W_gyes rfl rfl ?_
            refine W_fieldAddr rfl fld27_0 (by decide) rfl ?_
            refine W_gyes rfl rfl ?_
            refine W_load (v := .slice adc (l.take 64).length capc) rfl ty24 rfl (Cell.own (b := b7) zM rfl) rfl ?_
            refine W_gyes rfl rfl ?_
            refine W_len rfl ty24 rfl rfl ?_
            refine W_gyes rfl rfl ?_
            refine W_bin rfl rfl b_geq rfl ?_
            rw [decide_eq_false (p := r.at_ ≥ ((l.take 64).length : Int)) (by omega)]
            first | refine W_pickt rfl rfl rfl ?_ | refine W_pickf rfl rfl rfl ?_
            refine W_move rfl rfl ?_
            refine W_gyes rfl rfl ?_
            refine W_move rfl rfl ?_
            refine W_gyes rfl rfl ?_
            refine W_bin rfl rfl b_gtr rfl ?_
            rw [decide_eq_true (p := r.fuel > 0) (by omega)]
            refine W_gyes rfl rfl ?_
            refine W_move rfl rfl ?_
            refine W_gyes rfl rfl ?_
            refine W_move rfl rfl ?_
            refine W_gyes rfl rfl ?_
            refine W_call (.cons rfl .nil) Tryd.call13 rfl ((RFuel_L (H := (b15, .cells 44 34 (trC (trapOf r'))) :: (bf, .cells 101 90 (vaRow r'.V)) :: (HB ++ ((b7, .cells 27 2 [.slice adc (l.take 64).length capc, .bool true]) :: (HC ++ ((b5, .cells 52 5 (vaC v)) :: H))))) (br := br) (bf := bf) (r := r')).hsub zH) ?_
            rintro u H' ⟨rfl, rfl⟩
            refine W_gyes rfl rfl ?_
            refine W_move rfl rfl ?_
            refine W_gyes rfl rfl ?_
            refine W_bin rfl rfl (b_sub (m := r.fuel - 1) (by rw [i64w (by omega)])) rfl ?_
            refine W_gyes rfl rfl ?_
            refine W_bin rfl rfl b_neq rfl ?_
            rw [decide_eq_false (p := r'.fuel ≠ r.fuel - 1) (by omega)]
            refine W_gyes rfl rfl ?_
            first | refine W_pickt rfl rfl rfl ?_ | refine W_pickf rfl rfl rfl ?_
            first | refine W_pickt rfl rfl rfl ?_ | refine W_pickf rfl rfl rfl ?_
            refine W_move rfl rfl ?_
            refine W_gyes rfl rfl ?_
            refine W_move rfl rfl ?_
            refine W_gyes rfl rfl ?_
            refine W_bin rfl rfl b_eql rfl ?_
            rw [decide_eq_false (p := r.fuel = 0) (by omega)]
            refine W_gyes rfl rfl ?_
            refine W_move rfl rfl ?_
            refine W_gno rfl rfl rfl ?_
            refine W_gno rfl rfl rfl ?_
            refine W_gno rfl rfl rfl ?_
            refine W_gno rfl rfl rfl ?_
            refine W_gnou rfl rfl rfl ?_
            refine W_gnou rfl rfl rfl ?_
            refine W_gnou rfl rfl rfl ?_
            refine W_gno rfl rfl rfl ?_
            refine W_gno rfl rfl rfl ?_
            refine W_gnou rfl rfl rfl ?_
            refine W_gnou rfl rfl rfl ?_
            refine W_gnou rfl rfl rfl ?_
            refine W_gno rfl rfl rfl ?_
            refine W_gyes rfl rfl ?_
            first | refine W_pickt rfl rfl rfl ?_ | refine W_pickf rfl rfl rfl ?_
            first | refine W_pickt rfl rfl rfl ?_ | refine W_pickf rfl rfl rfl ?_
            refine W_nil ?_
            refine W_condF rfl rfl ?_
            refine W_skip ?_
            refine W_seq ?_
            refine W_anyC [(b15, .cells 44 34 (trC (trapOf r'))), (b5, .cells 52 5 (vaC v))] (by kernel_rfl) ?_
            refine WC_take 0 (l' := #[true, false, false, false, false, false, false, false, false, false, false, false, false, false, false, false, false, false, false, false, false, false, false, false, false]) rfl (by decide +kernel) (by decide +kernel) (by decide +kernel) rfl (by decide +kernel) (X_move rfl) rfl ?_
            refine WC_one 1 (l' := #[true, true, false, false, false, false, false, false, false, false, false, false, false, false, false, false, false, false, false, false, false, false, false, false, false]) zH (by decide +kernel) rfl (by decide +kernel) ?_
            refine W_call (.cons rfl .nil) Tryd.call20 rfl ((RAsks_L (H := (b15, .cells 44 34 (trC (trapOf r'))) :: (bf, .cells 101 90 (vaRow r'.V)) :: (HB ++ ((b7, .cells 27 2 [.slice adc (l.take 64).length capc, .bool true]) :: (HC ++ ((b5, .cells 52 5 (vaC v)) :: H))))) (br := br) (bf := bf) (r := r')).hsub zH) ?_
            rintro u H' ⟨rfl, rfl⟩
            rw [ha2]
            obtain ⟨ho9, hkd, _⟩ := hr'.asks ha2
            have htr : trapOf r' = r'.opn := by unfold trapOf; rw [if_neg (by rw [ho9]; decide), if_pos ha2]
            have hk0 : ¬ (trapOf r').kind = 0 := by rw [htr]; omega
            have hk1 : ¬ (trapOf r').kind = 1 := by rw [htr]; omega
            refine W_nil ?_
            refine WC_goal ?_
            refine WC_take 2 (l' := #[true, true, true, false, false, false, false, false, false, false, false, false, false, false, false, false, false, false, false, false, false, false, false, false, false]) rfl (by decide +kernel) (by decide +kernel) (by decide +kernel) rfl (by decide +kernel) (X_move rfl) rfl ?_
            refine WC_gyes 3 (l' := #[true, true, true, true, false, false, false, false, false, false, false, false, false, false, false, false, false, false, false, false, false, false, false, false, false]) rfl (by decide +kernel) (by decide +kernel) (by decide +kernel) rfl (by decide +kernel) rfl rfl (X_fieldAddr rfl fld44_0 (by decide)) rfl ?_
            refine WC_gyes 4 (l' := #[true, true, true, true, true, false, false, false, false, false, false, false, false, false, false, false, false, false, false, false, false, false, false, false, false]) rfl (by decide +kernel) (by decide +kernel) (by decide +kernel) rfl (by decide +kernel) rfl rfl (X_load (v := .int .i64 (trapOf r').kind) rfl ty3 rfl (Cell.own (b := b15) zM rfl)) rfl ?_
            refine WC_gyes 5 (l' := #[true, true, true, true, true, true, false, false, false, false, false, false, false, false, false, false, false, false, false, false, false, false, false, false, false]) rfl (by decide +kernel) (by decide +kernel) (by decide +kernel) rfl (by decide +kernel) rfl rfl (X_bin rfl rfl b_eql) rfl ?_
            rw [decide_eq_false (p := (trapOf r').kind = 0) hk0]
            refine WC_gyes 6 (l' := #[true, true, true, true, true, true, true, false, false, false, false, false, false, false, false, false, false, false, false, false, false, false, false, false, false]) rfl (by decide +kernel) (by decide +kernel) (by decide +kernel) rfl (by decide +kernel) rfl rfl (X_move rfl) rfl ?_
            refine WC_gyes 7 (l' := #[true, true, true, true, true, true, true, true, false, false, false, false, false, false, false, false, false, false, false, false, false, false, false, false, false]) rfl (by decide +kernel) (by decide +kernel) (by decide +kernel) rfl (by decide +kernel) rfl rfl (X_fieldAddr rfl fld44_0 (by decide)) rfl ?_
            refine WC_gyes 8 (l' := #[true, true, true, true, true, true, true, true, true, false, false, false, false, false, false, false, false, false, false, false, false, false, false, false, false]) rfl (by decide +kernel) (by decide +kernel) (by decide +kernel) rfl (by decide +kernel) rfl rfl (X_load (v := .int .i64 (trapOf r').kind) rfl ty3 rfl (Cell.own (b := b15) zM rfl)) rfl ?_
            refine WC_gyes 9 (l' := #[true, true, true, true, true, true, true, true, true, true, false, false, false, false, false, false, false, false, false, false, false, false, false, false, false]) rfl (by decide +kernel) (by decide +kernel) (by decide +kernel) rfl (by decide +kernel) rfl rfl (X_bin rfl rfl b_eql) rfl ?_
            rw [decide_eq_false (p := (trapOf r').kind = 1) hk1]
            first | refine WC_gyes 10 (l' := #[true, true, true, true, true, true, true, true, true, true, true, false, false, false, false, false, false, false, false, false, false, false, false, false, false]) rfl (by decide +kernel) (by decide +kernel) (by decide +kernel) rfl (by decide +kernel) rfl rfl (X_pickt rfl rfl) rfl ?_ | refine WC_gyes 10 (l' := #[true, true, true, true, true, true, true, true, true, true, true, false, false, false, false, false, false, false, false, false, false, false, false, false, false]) rfl (by decide +kernel) (by decide +kernel) (by decide +kernel) rfl (by decide +kernel) rfl rfl (X_pickf rfl rfl) rfl ?_
            refine WC_gyes 11 (l' := #[true, true, true, true, true, true, true, true, true, true, true, true, false, false, false, false, false, false, false, false, false, false, false, false, false]) rfl (by decide +kernel) (by decide +kernel) (by decide +kernel) rfl (by decide +kernel) rfl rfl (X_move rfl) rfl ?_
            refine WC_gyes 12 (l' := #[true, true, true, true, true, true, true, true, true, true, true, true, true, false, false, false, false, false, false, false, false, false, false, false, false]) rfl (by decide +kernel) (by decide +kernel) (by decide +kernel) rfl (by decide +kernel) rfl rfl (X_move rfl) rfl ?_
            refine WC_gyes 14 (l' := #[true, true, true, true, true, true, true, true, true, true, true, true, true, false, true, false, false, false, false, false, false, false, false, false, false]) rfl (by decide +kernel) (by decide +kernel) (by decide +kernel) rfl (by decide +kernel) rfl rfl (X_loadB (vs := trC (trapOf r')) rfl ty44 rfl (b := b15) zM rfl rfl) rfl ?_
            refine WC_one 13 (l' := #[true, true, true, true, true, true, true, true, true, true, true, true, true, true, true, false, false, false, false, false, false, false, false, false, false]) zH (by decide +kernel) rfl (by decide +kernel) ?_
            refine W_gyes rfl rfl ?_
            refine W_call (.cons rfl (.cons rfl .nil)) Tryd.call12 rfl ((RGo_L (H := (b15, .cells 44 34 (trC (trapOf r'))) :: (HB ++ ((b7, .cells 27 2 [.slice adc (l.take 64).length capc, .bool true]) :: (HC ++ ((b5, .cells 52 5 (vaC v)) :: H))))) (br := br) (bf := bf) (r := r') (nn := 5) (l := (l.take 64)) rfl hc hci hr' (hcl.up zH) (by decide) hT).hsub zH) ?_
            rintro u H' ⟨rfl, rfl⟩
            have e5 : goF (l.take 64) (5 : Int).toNat r' = r' := goF_done (by rw [ha2, Bool.or_true]) _
            rw [e5]
            refine W_nil ?_
            refine WC_goal ?_
            refine WC_gyes 15 (l' := #[true, true, true, true, true, true, true, true, true, true, true, true, true, true, true, true, false, false, false, false, false, false, false, false, false]) rfl (by decide +kernel) (by decide +kernel) (by decide +kernel) rfl (by decide +kernel) rfl rfl (X_neF (f := trC) rfl rfl flat44 agg44 trC_like trC_inj gt44 (by decide)) rfl ?_
            rw [decide_eq_true (p := trapOf r' = trapOf r') rfl]
            first | refine WC_gyes 16 (l' := #[true, true, true, true, true, true, true, true, true, true, true, true, true, true, true, true, true, false, false, false, false, false, false, false, false]) rfl (by decide +kernel) (by decide +kernel) (by decide +kernel) rfl (by decide +kernel) rfl rfl (X_pickt rfl rfl) rfl ?_ | refine WC_gyes 16 (l' := #[true, true, true, true, true, true, true, true, true, true, true, true, true, true, true, true, true, false, false, false, false, false, false, false, false]) rfl (by decide +kernel) (by decide +kernel) (by decide +kernel) rfl (by decide +kernel) rfl rfl (X_pickf rfl rfl) rfl ?_
            refine WC_gyes 17 (l' := #[true, true, true, true, true, true, true, true, true, true, true, true, true, true, true, true, true, true, false, false, false, false, false, false, false]) rfl (by decide +kernel) (by decide +kernel) (by decide +kernel) rfl (by decide +kernel) rfl rfl (X_move rfl) rfl ?_
            refine WC_gyes 18 (l' := #[true, true, true, true, true, true, true, true, true, true, true, true, true, true, true, true, true, true, true, false, false, false, false, false, false]) rfl (by decide +kernel) (by decide +kernel) (by decide +kernel) rfl (by decide +kernel) rfl rfl (X_move rfl) rfl ?_
            refine WC_gyes 19 (l' := #[true, true, true, true, true, true, true, true, true, true, true, true, true, true, true, true, true, true, true, true, false, false, false, false, false]) rfl (by decide +kernel) (by decide +kernel) (by decide +kernel) rfl (by decide +kernel) rfl rfl (X_loadB (vs := vaC v) rfl ty52 rfl (b := b5) zM rfl rfl) rfl ?_
            refine WC_one 20 (l' := #[true, true, true, true, true, true, true, true, true, true, true, true, true, true, true, true, true, true, true, true, true, false, false, false, false]) zH (by decide +kernel) rfl (by decide +kernel) ?_
            refine W_gyes rfl rfl ?_
            refine W_callp (.cons rfl .nil) Tryd.call18 rfl (T := fun _ => True) trivial (To_pure v) ?_
            refine W_nil ?_
            refine WC_goal ?_
            refine WC_one 21 (l' := #[true, true, true, true, true, true, true, true, true, true, true, true, true, true, true, true, true, true, true, true, true, true, false, false, false]) zH (by decide +kernel) rfl (by decide +kernel) ?_
            refine W_gyes rfl rfl ?_
            refine W_call (.cons rfl (.cons rfl (.cons rfl .nil))) Tryd.call17 rfl ((RGive_L (H := (b15, .cells 44 34 (trC (trapOf r'))) :: (HB ++ ((b7, .cells 27 2 [.slice adc (l.take 64).length capc, .bool true]) :: (HC ++ ((b5, .cells 52 5 (vaC v)) :: H))))) (br := br) (bf := bf) (r := r') (v := v) (e := 0) (l := (l.take 64)) rfl hc hci hr' (hcl.up zH)).hsub zH) ?_
            rintro u H' ⟨rfl, rfl⟩
            refine W_nil ?_
            refine WC_goal ?_
            refine WC_gyes 22 (l' := #[true, true, true, true, true, true, true, true, true, true, true, true, true, true, true, true, true, true, true, true, true, true, true, false, false]) rfl (by decide +kernel) (by decide +kernel) (by decide +kernel) rfl (by decide +kernel) rfl rfl (X_bin rfl rfl b_neq) rfl ?_
            rw [decide_eq_false (p := (giveF (l.take 64) r' v 0).2 ≠ 0) (fun h => h (giveF_at ha2).1)]
            first | refine WC_gyes 23 (l' := #[true, true, true, true, true, true, true, true, true, true, true, true, true, true, true, true, true, true, true, true, true, true, true, true, false]) rfl (by decide +kernel) (by decide +kernel) (by decide +kernel) rfl (by decide +kernel) rfl rfl (X_pickt rfl rfl) rfl ?_ | refine WC_gyes 23 (l' := #[true, true, true, true, true, true, true, true, true, true, true, true, true, true, true, true, true, true, true, true, true, true, true, true, false]) rfl (by decide +kernel) (by decide +kernel) (by decide +kernel) rfl (by decide +kernel) rfl rfl (X_pickf rfl rfl) rfl ?_
            first | refine WC_take 24 (l' := #[true, true, true, true, true, true, true, true, true, true, true, true, true, true, true, true, true, true, true, true, true, true, true, true, true]) rfl (by decide +kernel) (by decide +kernel) (by decide +kernel) rfl (by decide +kernel) (X_pickt rfl rfl) rfl ?_ | refine WC_take 24 (l' := #[true, true, true, true, true, true, true, true, true, true, true, true, true, true, true, true, true, true, true, true, true, true, true, true, true]) rfl (by decide +kernel) (by decide +kernel) (by decide +kernel) rfl (by decide +kernel) (X_pickf rfl rfl) rfl ?_
            refine WC_done zH (by decide +kernel) ?_
            refine W_condF rfl rfl ?_
            refine W_skip ?_
            refine W_blk ?_
            refine W_region ?_
            refine W_move rfl rfl ?_
            refine W_bin rfl rfl (b_add (m := ((i + 1 : Nat) : Int)) ((i64w (by omega)).trans (by omega))) rfl ?_
            refine W_assign rfl rfl ?_
            refine W_nil ?_
            refine W_again (i + 1, (giveF (l.take 64) r' v 0).1) ⟨by show i + 1 ≤ fN + 2; omega, giveF_ok hr' hv, (giveF_at ha2).2.1, fun _ => by show (giveF (l.take 64) r' v 0).1.fuel + ((i + 1 : Nat) : Int) = _; rw [(giveF_at ha2).2.2, hfu]; have := hof hno; omega⟩ (by show fN + 2 - (i + 1) < fN + 2 - i; omega) (sub_cons rfl (sub_cons rfl (sub_cons rfl (sub_cons rfl (sub_cons rfl (sub_nil _)))))) rfl zH
          · skip
            refine W_bin rfl rfl b_lss rfl ?_
            rw [decide_eq_false (p := r.at_ < 0) (by omega)]
            refine W_move rfl rfl ?_
            refine W_gyes rfl rfl ?_
            refine W_move rfl rfl ?_
            refine W_gyes rfl rfl ?_
            refine W_fieldAddr rfl fld27_0 (by decide) rfl ?_
            refine W_gyes rfl rfl ?_
            refine W_load (v := .slice adc (l.take 64).length capc) rfl ty24 rfl (Cell.own (b := b7) zM rfl) rfl ?_
            refine W_gyes rfl rfl ?_
            refine W_len rfl ty24 rfl rfl ?_
            refine W_gyes rfl rfl ?_
            refine W_bin rfl rfl b_geq rfl ?_
            rw [decide_eq_false (p := r.at_ ≥ ((l.take 64).length : Int)) (by omega)]
            first | refine W_pickt rfl rfl rfl ?_ | refine W_pickf rfl rfl rfl ?_
            refine W_move rfl rfl ?_
            refine W_gyes rfl rfl ?_
            refine W_move rfl rfl ?_
            refine W_gyes rfl rfl ?_
            refine W_bin rfl rfl b_gtr rfl ?_
            rw [decide_eq_true (p := r.fuel > 0) (by omega)]
            refine W_gyes rfl rfl ?_
            refine W_move rfl rfl ?_
            refine W_gyes rfl rfl ?_
            refine W_move rfl rfl ?_
            refine W_gyes rfl rfl ?_
            refine W_call (.cons rfl .nil) Tryd.call13 rfl ((RFuel_L (H := (b15, .cells 44 34 (trC (trapOf r'))) :: (bf, .cells 101 90 (vaRow r'.V)) :: (HB ++ ((b7, .cells 27 2 [.slice adc (l.take 64).length capc, .bool true]) :: (HC ++ ((b5, .cells 52 5 (vaC v)) :: H))))) (br := br) (bf := bf) (r := r')).hsub zH) ?_
            rintro u H' ⟨rfl, rfl⟩
            refine W_gyes rfl rfl ?_
            refine W_move rfl rfl ?_
            refine W_gyes rfl rfl ?_
            refine W_bin rfl rfl (b_sub (m := r.fuel - 1) (by rw [i64w (by omega)])) rfl ?_
            refine W_gyes rfl rfl ?_
            refine W_bin rfl rfl b_neq rfl ?_
            rw [decide_eq_false (p := r'.fuel ≠ r.fuel - 1) (by omega)]
            refine W_gyes rfl rfl ?_
            first | refine W_pickt rfl rfl rfl ?_ | refine W_pickf rfl rfl rfl ?_
            first | refine W_pickt rfl rfl rfl ?_ | refine W_pickf rfl rfl rfl ?_
            refine W_move rfl rfl ?_
            refine W_gyes rfl rfl ?_
            refine W_move rfl rfl ?_
            refine W_gyes rfl rfl ?_
            refine W_bin rfl rfl b_eql rfl ?_
            rw [decide_eq_false (p := r.fuel = 0) (by omega)]
            refine W_gyes rfl rfl ?_
            refine W_move rfl rfl ?_
            refine W_gno rfl rfl rfl ?_
            refine W_gno rfl rfl rfl ?_
            refine W_gno rfl rfl rfl ?_
            refine W_gno rfl rfl rfl ?_
            refine W_gnou rfl rfl rfl ?_
            refine W_gnou rfl rfl rfl ?_
            refine W_gnou rfl rfl rfl ?_
            refine W_gno rfl rfl rfl ?_
            refine W_gno rfl rfl rfl ?_
            refine W_gnou rfl rfl rfl ?_
            refine W_gnou rfl rfl rfl ?_
            refine W_gnou rfl rfl rfl ?_
            refine W_gno rfl rfl rfl ?_
            refine W_gyes rfl rfl ?_
            first | refine W_pickt rfl rfl rfl ?_ | refine W_pickf rfl rfl rfl ?_
            first | refine W_pickt rfl rfl rfl ?_ | refine W_pickf rfl rfl rfl ?_
            refine W_nil ?_
            refine W_condF rfl rfl ?_
            refine W_skip ?_
            refine W_seq ?_
            refine W_anyC [(b15, .cells 44 34 (trC (trapOf r'))), (b5, .cells 52 5 (vaC v))] (by kernel_rfl) ?_
            refine WC_take 0 (l' := #[true, false, false, false, false, false, false, false, false, false, false, false, false, false, false, false, false, false, false, false, false, false, false, false, false]) rfl (by decide +kernel) (by decide +kernel) (by decide +kernel) rfl (by decide +kernel) (X_move rfl) rfl ?_
            refine WC_one 1 (l' := #[true, true, false, false, false, false, false, false, false, false, false, false, false, false, false, false, false, false, false, false, false, false, false, false, false]) zH (by decide +kernel) rfl (by decide +kernel) ?_
            refine W_call (.cons rfl .nil) Tryd.call20 rfl ((RAsks_L (H := (b15, .cells 44 34 (trC (trapOf r'))) :: (bf, .cells 101 90 (vaRow r'.V)) :: (HB ++ ((b7, .cells 27 2 [.slice adc (l.take 64).length capc, .bool true]) :: (HC ++ ((b5, .cells 52 5 (vaC v)) :: H))))) (br := br) (bf := bf) (r := r')).hsub zH) ?_
            rintro u H' ⟨rfl, rfl⟩
            rw [ha2]
            refine W_nil ?_
            refine WC_goal ?_
            refine WC_take 2 (l' := #[true, true, true, false, false, false, false, false, false, false, false, false, false, false, false, false, false, false, false, false, false, false, false, false, false]) rfl (by decide +kernel) (by decide +kernel) (by decide +kernel) rfl (by decide +kernel) (X_move rfl) rfl ?_
            refine WC_gno 3 (l' := #[true, true, true, true, false, false, false, false, false, false, false, false, false, false, false, false, false, false, false, false, false, false, false, false, false]) rfl (by decide +kernel) (by decide +kernel) (by decide +kernel) (by decide +kernel) rfl rfl rfl rfl ?_
            refine WC_gno 4 (l' := #[true, true, true, true, true, false, false, false, false, false, false, false, false, false, false, false, false, false, false, false, false, false, false, false, false]) rfl (by decide +kernel) (by decide +kernel) (by decide +kernel) (by decide +kernel) rfl rfl rfl rfl ?_
            refine WC_gno 5 (l' := #[true, true, true, true, true, true, false, false, false, false, false, false, false, false, false, false, false, false, false, false, false, false, false, false, false]) rfl (by decide +kernel) (by decide +kernel) (by decide +kernel) (by decide +kernel) rfl rfl rfl rfl ?_
            refine WC_gno 6 (l' := #[true, true, true, true, true, true, true, false, false, false, false, false, false, false, false, false, false, false, false, false, false, false, false, false, false]) rfl (by decide +kernel) (by decide +kernel) (by decide +kernel) (by decide +kernel) rfl rfl rfl rfl ?_
            refine WC_gnou 7 (l' := #[true, true, true, true, true, true, true, true, false, false, false, false, false, false, false, false, false, false, false, false, false, false, false, false, false]) rfl (by decide +kernel) (by decide +kernel) (by decide +kernel) (by decide +kernel) rfl rfl rfl ?_
            refine WC_gnou 8 (l' := #[true, true, true, true, true, true, true, true, true, false, false, false, false, false, false, false, false, false, false, false, false, false, false, false, false]) rfl (by decide +kernel) (by decide +kernel) (by decide +kernel) (by decide +kernel) rfl rfl rfl ?_
            refine WC_gnou 9 (l' := #[true, true, true, true, true, true, true, true, true, true, false, false, false, false, false, false, false, false, false, false, false, false, false, false, false]) rfl (by decide +kernel) (by decide +kernel) (by decide +kernel) (by decide +kernel) rfl rfl rfl ?_
            refine WC_gno 10 (l' := #[true, true, true, true, true, true, true, true, true, true, true, false, false, false, false, false, false, false, false, false, false, false, false, false, false]) rfl (by decide +kernel) (by decide +kernel) (by decide +kernel) (by decide +kernel) rfl rfl rfl rfl ?_
            refine WC_gno 11 (l' := #[true, true, true, true, true, true, true, true, true, true, true, true, false, false, false, false, false, false, false, false, false, false, false, false, false]) rfl (by decide +kernel) (by decide +kernel) (by decide +kernel) (by decide +kernel) rfl rfl rfl rfl ?_
            refine WC_gnou 12 (l' := #[true, true, true, true, true, true, true, true, true, true, true, true, true, false, false, false, false, false, false, false, false, false, false, false, false]) rfl (by decide +kernel) (by decide +kernel) (by decide +kernel) (by decide +kernel) rfl rfl rfl ?_
            refine WC_gnou 13 (l' := #[true, true, true, true, true, true, true, true, true, true, true, true, true, true, false, false, false, false, false, false, false, false, false, false, false]) rfl (by decide +kernel) (by decide +kernel) (by decide +kernel) (by decide +kernel) rfl rfl rfl ?_
            refine WC_gnou 14 (l' := #[true, true, true, true, true, true, true, true, true, true, true, true, true, true, true, false, false, false, false, false, false, false, false, false, false]) rfl (by decide +kernel) (by decide +kernel) (by decide +kernel) (by decide +kernel) rfl rfl rfl ?_
            refine WC_gnou 15 (l' := #[true, true, true, true, true, true, true, true, true, true, true, true, true, true, true, true, false, false, false, false, false, false, false, false, false]) rfl (by decide +kernel) (by decide +kernel) (by decide +kernel) (by decide +kernel) rfl rfl rfl ?_
            refine WC_gno 16 (l' := #[true, true, true, true, true, true, true, true, true, true, true, true, true, true, true, true, true, false, false, false, false, false, false, false, false]) rfl (by decide +kernel) (by decide +kernel) (by decide +kernel) (by decide +kernel) rfl rfl rfl rfl ?_
            refine WC_gno 17 (l' := #[true, true, true, true, true, true, true, true, true, true, true, true, true, true, true, true, true, true, false, false, false, false, false, false, false]) rfl (by decide +kernel) (by decide +kernel) (by decide +kernel) (by decide +kernel) rfl rfl rfl rfl ?_
            refine WC_gnou 18 (l' := #[true, true, true, true, true, true, true, true, true, true, true, true, true, true, true, true, true, true, true, false, false, false, false, false, false]) rfl (by decide +kernel) (by decide +kernel) (by decide +kernel) (by decide +kernel) rfl rfl rfl ?_
            refine WC_gnou 19 (l' := #[true, true, true, true, true, true, true, true, true, true, true, true, true, true, true, true, true, true, true, true, false, false, false, false, false]) rfl (by decide +kernel) (by decide +kernel) (by decide +kernel) (by decide +kernel) rfl rfl rfl ?_
            refine WC_gnou 20 (l' := #[true, true, true, true, true, true, true, true, true, true, true, true, true, true, true, true, true, true, true, true, true, false, false, false, false]) rfl (by decide +kernel) (by decide +kernel) (by decide +kernel) (by decide +kernel) rfl rfl rfl ?_
            refine WC_gnou 21 (l' := #[true, true, true, true, true, true, true, true, true, true, true, true, true, true, true, true, true, true, true, true, true, true, false, false, false]) rfl (by decide +kernel) (by decide +kernel) (by decide +kernel) (by decide +kernel) rfl rfl rfl ?_
            refine WC_gnou 22 (l' := #[true, true, true, true, true, true, true, true, true, true, true, true, true, true, true, true, true, true, true, true, true, true, true, false, false]) rfl (by decide +kernel) (by decide +kernel) (by decide +kernel) (by decide +kernel) rfl rfl rfl ?_
            refine WC_gno 23 (l' := #[true, true, true, true, true, true, true, true, true, true, true, true, true, true, true, true, true, true, true, true, true, true, true, true, false]) rfl (by decide +kernel) (by decide +kernel) (by decide +kernel) (by decide +kernel) rfl rfl rfl rfl ?_
            first | refine WC_take 24 (l' := #[true, true, true, true, true, true, true, true, true, true, true, true, true, true, true, true, true, true, true, true, true, true, true, true, true]) rfl (by decide +kernel) (by decide +kernel) (by decide +kernel) rfl (by decide +kernel) (X_pickt rfl rfl) rfl ?_ | refine WC_take 24 (l' := #[true, true, true, true, true, true, true, true, true, true, true, true, true, true, true, true, true, true, true, true, true, true, true, true, true]) rfl (by decide +kernel) (by decide +kernel) (by decide +kernel) rfl (by decide +kernel) (X_pickf rfl rfl) rfl ?_
            refine WC_done zH (by decide +kernel) ?_
            refine W_condF rfl rfl ?_
            refine W_skip ?_
            refine W_blk ?_
            refine W_region ?_
            refine W_move rfl rfl ?_
            refine W_bin rfl rfl (b_add (m := ((i + 1 : Nat) : Int)) ((i64w (by omega)).trans (by omega))) rfl ?_
            refine W_assign rfl rfl ?_
            refine W_nil ?_
            refine W_again (i + 1, r') ⟨by show i + 1 ≤ fN + 2; omega, hr', ha2, fun ho => by show r'.fuel + ((i + 1 : Nat) : Int) = _; rw [hfu]; have := hof hno; omega⟩ (by show fN + 2 - (i + 1) < fN + 2 - i; omega) (sub_cons rfl (sub_cons rfl (sub_cons rfl (sub_cons rfl (sub_cons rfl (sub_nil _)))))) rfl zH
      · skip
        refine W_exit rfl ?_
        refine W_joinX r ⟨hr, ha, by cases ho : r.over with | true => rfl | false => have h1 := hof ho; have h2 := hr.fuel; omega⟩ (sub_cons rfl (sub_nil _)) zH
    rintro r2 ⟨hr2, ha2, ho2⟩
    refine W_sr ?_
    refine W_callp .nil Tryd.call11 rfl hT (vknown_pure ) ?_
    refine W_move rfl rfl ?_
    refine W_gyes rfl rfl ?_
    refine W_move rfl rfl ?_
    refine W_gyes rfl rfl ?_
    refine W_call (.cons rfl .nil) Tryd.call19 rfl ((ROver_L (H := (bf, .cells 101 90 (vaRow r2.V)) :: (HB ++ ((b7, .cells 27 2 [.slice adc (l.take 64).length capc, .bool true]) :: (HC ++ ((b5, .cells 52 5 (vaC v)) :: H))))) (br := br) (bf := bf) (r := r2)).hsub zH) ?_
    rintro u H' ⟨rfl, rfl⟩
    rw [ho2]
    first | refine W_pickt rfl rfl rfl ?_ | refine W_pickf rfl rfl rfl ?_
    refine W_move rfl rfl ?_
    refine W_gyes rfl rfl ?_
    refine W_move rfl rfl ?_
    refine W_gyes rfl rfl ?_
    refine W_call (.cons rfl .nil) Tryd.call20 rfl ((RAsks_L (H := (bf, .cells 101 90 (vaRow r2.V)) :: (HB ++ ((b7, .cells 27 2 [.slice adc (l.take 64).length capc, .bool true]) :: (HC ++ ((b5, .cells 52 5 (vaC v)) :: H))))) (br := br) (bf := bf) (r := r2)).hsub zH) ?_
    rintro u H' ⟨rfl, rfl⟩
    rw [ha2]
    refine W_gyes rfl rfl ?_
    refine W_not rfl rfl ?_
    first | refine W_pickt rfl rfl rfl ?_ | refine W_pickf rfl rfl rfl ?_
    refine W_move rfl rfl ?_
    refine W_gyes rfl rfl ?_
    refine W_move rfl rfl ?_
    refine W_gyes rfl rfl ?_
    refine W_call (.cons rfl (.cons rfl .nil)) Tryd.call12 rfl ((RGo_L (H := (HB ++ ((b7, .cells 27 2 [.slice adc (l.take 64).length capc, .bool true]) :: (HC ++ ((b5, .cells 52 5 (vaC v)) :: H))))) (br := br) (bf := bf) (r := r2) (nn := 3) (l := (l.take 64)) rfl hc hci hr2 (hcl.up zH) (by decide) hT).hsub zH) ?_
    rintro u H' ⟨rfl, rfl⟩
    rw [show goF (l.take 64) (3 : Int).toNat r2 = r2 from goF_done (by rw [ho2, Bool.true_or]) _]
    refine W_gyes rfl rfl ?_
    refine W_field rfl fld44_0 rfl rfl ?_
    refine W_gyes rfl rfl ?_
    refine W_bin rfl rfl b_eql rfl ?_
    rw [decide_eq_true (p := (trapOf r2).kind = 1) (by unfold trapOf; rw [if_pos ho2])]
    first | refine W_pickt rfl rfl rfl ?_ | refine W_pickf rfl rfl rfl ?_
    refine W_move rfl rfl ?_
    refine W_gyes rfl rfl ?_
    refine W_move rfl rfl ?_
    refine W_gyes rfl rfl ?_
    refine W_callp (.cons rfl .nil) Tryd.call21 rfl (T := fun _ => True) trivial (Num_pure _) ?_
    refine W_gyes rfl rfl ?_
    refine W_call (.cons rfl (.cons rfl (.cons rfl .nil))) Tryd.call17 rfl ((RGive_L (H := (HB ++ ((b7, .cells 27 2 [.slice adc (l.take 64).length capc, .bool true]) :: (HC ++ ((b5, .cells 52 5 (vaC v)) :: H))))) (br := br) (bf := bf) (r := r2) (v := ⟨false, 0, 0, 0, 1⟩) (e := 0) (l := (l.take 64)) rfl hc hci hr2 (hcl.up zH)).hsub zH) ?_
    rintro u H' ⟨rfl, rfl⟩
    rw [show giveF (l.take 64) r2 ⟨false, 0, 0, 0, 1⟩ 0 = (r2, 6) from if_pos ha2]
    refine W_gyes rfl rfl ?_
    refine W_bin rfl rfl b_eql rfl ?_
    first | refine W_pickt rfl rfl rfl ?_ | refine W_pickf rfl rfl rfl ?_
    refine W_move rfl rfl ?_
    refine W_gyes rfl rfl ?_
    refine W_move rfl rfl ?_
    refine W_gyes rfl rfl ?_
    refine W_call (.cons rfl (.cons rfl .nil)) Tryd.call22 rfl ((REnd_L (H := (bf, .cells 101 90 (vaRow r2.V)) :: (HB ++ ((b7, .cells 27 2 [.slice adc (l.take 64).length capc, .bool true]) :: (HC ++ ((b5, .cells 52 5 (vaC v)) :: H))))) (br := br) (bf := bf) (r := r2) (e := 1)).hsub zH) ?_
    rintro u H' ⟨rfl, rfl⟩
    rw [if_pos ho2, if_pos ho2]
    refine W_gyes rfl rfl ?_
    refine W_bin rfl rfl b_eql rfl ?_
    first | refine W_pickt rfl rfl rfl ?_ | refine W_pickf rfl rfl rfl ?_
    refine W_assign rfl rfl ?_
    refine W_nil ?_
    refine W_ret1m (H2 := H) Tryd.results4 rfl (.nil _) zH ?_
    exact ⟨rfl, rfl⟩
  · skip
    refine W_sr ?_
    refine W_box (l := vaC v) rfl rfl rfl (fun b5 => ?_)
    refine W_assign rfl rfl ?_
    refine W_nil ?_
    refine W_sr ?_
    refine W_move rfl rfl ?_
    refine W_call (.cons rfl (.cons rfl .nil)) Tryd.call7 rfl ((code_L (H := (b5, .cells 52 5 (vaC v)) :: H) l 64 (by decide) (hrow.up zH) hT).hsub zH) ?_
    rintro cv H' ⟨HC, hOC, rfl⟩
    obtain ⟨adc, capc, rfl, hcc, _, hclC⟩ := Holds.of_own (w0 := w0) (H := HC ++ ((b5, .cells 52 5 (vaC v)) :: H)) hOC (fun p hp => List.mem_append_left _ hp)
    have hclen : (l.take 64).length ≤ 64 := by rw [List.length_take]; omega
    have hci : InsOk (l.take 64) := fun x hx => hi x (List.mem_of_mem_take hx)
    refine W_build (l := [.slice adc (l.take 64).length capc, .bool true]) ty27 pl27 (.cons rfl rfl rfl rfl rfl (.cons rfl rfl rfl rfl rfl .nil)) rfl rfl rfl ?_
    refine W_alloc (l := [.slice none 0 0, .bool false]) ty27 rfl rfl (fun b7 => ?_)
    refine W_storeA (l' := [.slice adc (l.take 64).length capc, .bool true]) rfl rfl ty27 rfl rfl (b := b7) zM (by exact Nat.le_refl 2) rfl zU ?_
    refine W_nil ?_
    refine W_sr ?_
    refine W_move rfl rfl ?_
    refine W_conv rfl ty3 ty28 rfl rfl ?_
    refine W_bin rfl rfl (b_rem (by decide) (m := (fN : Int)) hrem) rfl ?_
    refine W_conv rfl ty28 ty3 (m := (fN : Int)) (i64w (by omega)) rfl ?_
    refine W_bin rfl rfl (b_add (m := 1 + (fN : Int)) (i64w (by omega))) rfl ?_
    refine W_assign rfl rfl ?_
    refine W_nil ?_
    refine W_sr ?_
    refine W_loadB (vs := [.slice adc (l.take 64).length capc, .bool true]) rfl ty27 rfl (b := b7) zM rfl rfl rfl ?_
    refine W_move rfl rfl ?_
    refine W_call (.cons rfl (.cons rfl (.cons rfl .nil))) Tryd.call8 rfl ((RNew_bad (H := (b7, .cells 27 2 [.slice adc (l.take 64).length capc, .bool true]) :: (HC ++ ((b5, .cells 52 5 (vaC v)) :: H))) (l := (l.take 64)) (s := true) (la := []) (capl := 0) hz hci (by omega) hcc (hclC.up zH) (by decide) (adl := none) Holds.nil (fuel := 1 + (fN : Int)) (by omega) hT).hsub zH) ?_
    rintro v H' ⟨rfl, rfl⟩
    refine W_move rfl rfl ?_
    refine W_extract rfl rfl rfl ?_
    refine W_extract rfl rfl rfl ?_
    refine W_assign rfl rfl ?_
    refine W_assign rfl rfl ?_
    refine W_nil ?_
    refine W_seq ?_
    refine W_sr ?_
    refine W_move rfl rfl ?_
    refine W_bin rfl rfl b_neq rfl ?_
    rw [decide_eq_true (p := (chkR (l.take 64) true).2 ≠ 0) hz]
    refine W_nil ?_
    refine W_condT rfl rfl ?_
    refine W_sr ?_
    refine W_loadB (vs := [.slice adc (l.take 64).length capc, .bool true]) rfl ty27 rfl (b := b7) zM rfl rfl rfl ?_
    refine W_callq (.cons rfl .nil) Tryd.call10 rfl (check_q hci (by omega) hcc (hclC.up zH) hT) ?_
    refine W_move rfl rfl ?_
    refine W_extract rfl rfl rfl ?_
    refine W_extract rfl rfl rfl ?_
    refine W_assign rfl rfl ?_
    refine W_assign rfl rfl ?_
    refine W_nil ?_
    refine W_sr ?_
    refine W_callp .nil Tryd.call11 rfl hT (vknown_pure ) ?_
    refine W_move rfl rfl ?_
    refine W_gyes rfl rfl ?_
    refine W_move rfl rfl ?_
    refine W_gyes rfl rfl ?_
    refine W_move rfl rfl ?_
    refine W_gyes rfl rfl ?_
    refine W_bin rfl rfl b_eql rfl ?_
    rw [decide_eq_true (p := (chkR (l.take 64) true).2 = (chkR (l.take 64) true).2) rfl]
    first | refine W_pickt rfl rfl rfl ?_ | refine W_pickf rfl rfl rfl ?_
    refine W_assign rfl rfl ?_
    refine W_nil ?_
    refine W_ret1m (H2 := H) Tryd.results4 rfl (.nil _) zH ?_
    exact ⟨rfl, rfl⟩
theorem vmEnds_pure {l : List Ins} {ad : Option Addr} {cap fN : Nat} {z : Int} {v : Va} (hz0 : -9223372036854775808 ≤ z ∧ z ≤ 9223372036854775807) (hfN : fN < 256) (hrem : (IntKind.u64.wrap z).tmod 256 = (fN : Int)) (hv : Wd v.n) (hi : InsOk l) :
    Pure Tryd.prog (fun w0 => Tab w0 ∧ InRow w0 ad (insRow l)) 4 [.slice ad l.length cap, .int .i64 z, .agg (vaC v).toArray] (.bool true) := fun w0 H hT => vmEnds_q hz0 hfN hrem hv hi (Holds.old hT.2) hT.1
end Go.Proofs.YtcmfldfeakmdoaaDoor
