/-
  Own work: contracts of functions that the statement reaches, and plain facts on what they compute; each theorem says its conditions.
-/
import Derived.Test.YtcmfldfeakmdoaaDoorVbT5
import Derived.Test.YtcmfldfeakmdoaaDoorVbS2
import Derived.Test.YtcmfldfeakmdoaaDoorVbA
set_option linter.all false
set_option linter.unusedSimpArgs false
set_option linter.unusedVariables false
namespace Go.Proofs.YtcmfldfeakmdoaaDoor
open Go Go.Sl
attribute [local irreducible] W
open Go.Script (lowL numL Bytes lowL_len lowL_bytes numL_nonneg numL_lt low_num)
def z109 : List Value := vaRow (newV []) ++ [.slice none 0 0, .int .i64 0, .int .i64 0, .bool false, .bool false] ++ trC trZ ++ [.int .i64 0, .int .u64 0]
theorem quo_is {n q : Nat} (h : n / 8 = q) (hn : n ≤ 4611686018427387904) : IntKind.i64.wrap ((n : Int).tdiv 8) = (q : Int) := by
  rw [Int.tdiv_eq_ediv_of_nonneg (by omega), i64w (by omega)]; omega
theorem va_n4 {V : List Va} {i : Nat} (h : i < V.length) : (vaRow V)[0 + i * 5 + 4]? = some (.int .u64 (V.getD i zeroV).n) := by
  have hg : V[i]? = some (V.getD i zeroV) := by rw [List.getD_eq_getElem?_getD, List.getElem?_eq_getElem h]; rfl
  have h2 := congrArg (fun l => l[4]?) (va_at hg)
  simp only [List.getElem?_take, List.getElem?_drop] at h2
  rw [Nat.zero_add]
  simpa [vaC] using h2
set_option maxHeartbeats 8000000 in
theorem vmBytes_pure {b : List Int} {bd : Option Addr} {cap2 fN an : Nat} {zf za : Int} (hbc : b.length ≤ cap2) (hbm : cap2 ≤ maxLen) (hB0 : Bytes b) (hfN : fN < 255) (hrem : (IntKind.u64.wrap zf).tmod 255 = (fN : Int)) (han : an < 8) (hrema : (IntKind.u64.wrap za).tmod 8 = (an : Int)) (hzf : -9223372036854775808 ≤ zf ∧ zf ≤ 9223372036854775807) (hza : -9223372036854775808 ≤ za ∧ za ≤ 9223372036854775807) : Pure Tryd.prog (fun w => Tab w ∧ InRow w bd (byV b)) 5 [.int .i64 zf, .int .i64 za, .slice bd b.length cap2] (.bool true) := by
  intro w0 H hT
  have hT0 := hT
  clear hT
  have hT := hT0.1
  obtain ⟨c, hc⟩ : ∃ c, c = b.take 64 := ⟨_, rfl⟩
  have hcl2 : c.length = min 64 b.length := by rw [hc, List.length_take]
  have hrowc : Holds w0 [] bd (byV c) := by
    have h : Holds w0 [] bd (byV b) := Holds.old hT0.2
    have e : byV c = (byV b).take 64 := by rw [hc]; simp [byV]
    rw [e]; exact h.take _
  have hB : Bytes c := by rw [hc]; exact hB0.take _
  have hat : I64 (an : Int) := ⟨by omega, by omega⟩
  have hnI : I64 ((c.length / 8 : Nat) : Int) := ⟨by omega, by omega⟩
  have hvw : ∀ v ∈ newV [], Wd v.n := fun v hv => by
    have e : newV [] = List.replicate 18 zeroV := rfl
    rw [e] at hv
    obtain rfl := (List.mem_replicate.1 hv).2
    exact wd_z
  have hcase : BCase an c := by
    unfold BCase
    by_cases h : badW (an : Int) ((c.length / 8 : Nat) : Int)
    · exact .inr (.inl h)
    · obtain ⟨an', nn, e1, e2, e3⟩ := notBad h
      obtain rfl : an' = an := by omega
      by_cases h8 : c.length % 8 = 0
      · exact .inl ⟨c.length / 8, by omega, by omega⟩
      · exact .inr (.inr ⟨by omega, h8⟩)
  refine L_enter Tryd.func5 rfl Tryd.ntmps5 rfl rfl ?_
  refine W_sr ?_
  refine W_assign rfl rfl ?_
  refine W_nil ?_
  refine W_sr ?_
  refine W_move rfl rfl ?_
  refine W_move rfl rfl ?_
  refine W_len rfl ty57 rfl rfl ?_
  refine W_min2 rfl rfl (m := ((c.length : Nat) : Int)) (by split <;> omega) rfl ?_
  refine W_slice0 (hh := c.length) rfl ty57 ty5 rfl ⟨_, rfl⟩ (by omega) rfl ?_
  refine W_assign rfl rfl ?_
  refine W_nil ?_
  refine W_sr ?_
  refine W_move rfl rfl ?_
  refine W_conv rfl ty3 ty28 rfl rfl ?_
  refine W_bin rfl rfl (b_rem (by decide) (m := (fN : Int)) hrem) rfl ?_
  refine W_conv rfl ty28 ty3 (m := (fN : Int)) (i64w (by omega)) rfl ?_
  refine W_bin rfl rfl (b_add (m := 2 + (fN : Int)) (i64w (by omega))) rfl ?_
  refine W_assign rfl rfl ?_
  refine W_nil ?_
  refine W_sr ?_
  refine W_move rfl rfl ?_
  refine W_conv rfl ty3 ty28 rfl rfl ?_
  refine W_bin rfl rfl (b_rem (by decide) (m := (an : Int)) hrema) rfl ?_
  refine W_conv rfl ty28 ty3 (m := (an : Int)) (i64w (by omega)) rfl ?_
  refine W_assign rfl rfl ?_
  refine W_nil ?_
  refine W_sr ?_
  refine W_move rfl rfl ?_
  refine W_build (l := (kLd an).cells) ty59 pl59 (.cons rfl rfl rfl rfl rfl (.cons rfl rfl rfl rfl rfl .nil)) rfl rfl rfl ?_
  refine W_build (l := kX.cells) ty59 pl59 (.cons rfl rfl rfl rfl rfl .nil) rfl rfl rfl ?_
  refine W_buildSlice (l := insRow (kb an)) ty24 ty59 (.cons rfl rfl rfl rfl rfl (.cons rfl rfl rfl rfl rfl .nil)) rfl rfl rfl rfl rfl rfl rfl (fun b35 => ?_)
  refine W_build (l := [.slice (some ⟨b35, 0, none⟩) 2 2, .bool false]) ty27 pl27 (.cons rfl rfl rfl rfl rfl .nil) rfl rfl rfl ?_
  refine W_move rfl rfl ?_
  refine W_call (.cons rfl (.cons rfl (.cons rfl .nil))) Tryd.call8 rfl ((RNew_ok (H := (b35, .cells 59 10 (insRow (kb an))) :: H) (l := kb an) (s := false) (cap := 2) (capl := 0) (la := []) (kb_z han) (kb_i han) (by show 2 ≤ 1000; decide) (by exact Nat.le_refl 2) (Holds.own (b := b35) zM) (by decide) (adl := none) Holds.nil (fuel := (2 + (fN : Int))) (by omega) hT).hsub zH) ?_
  rintro v H' ⟨br, bf, ada, capa, HB, rfl, hcl, rfl⟩
  refine W_move rfl rfl ?_
  refine W_extract rfl rfl rfl ?_
  refine W_extract rfl rfl rfl ?_
  refine W_assign rfl rfl ?_
  refine W_assign rfl rfl ?_
  refine W_nil ?_
  refine W_seq ?_
  refine W_sr ?_
  refine W_move rfl rfl ?_
  refine W_bin rfl rfl b_neq rfl ?_
  refine W_nil ?_
  refine W_condF rfl rfl ?_
  refine W_skip ?_
  refine W_sr ?_
  refine W_alloc (l := z109) ty67 rfl rfl (fun b9 => ?_)
  refine W_nil ?_
  refine W_sr ?_
  refine W_fieldAddr rfl fld67_0 (by decide) rfl ?_
  unfold BCase at hcase
  rcases hcase with ⟨nn, hb, hbl⟩ | hbad | ⟨hb, hodd⟩
  · skip
    have hnl : (wrN (newV []) an c nn).length = 18 := (wrN_len (newV []) an c nn).trans rfl
    have hnw : ∀ v ∈ (wrN (newV []) an c nn), Wd v.n := wrN_wd hB hvw nn
    refine W_loadB (vs := vaRow (newV [])) rfl ty62 rfl (b := b9) zM (by kernel_rfl) (by kernel_rfl) rfl ?_
    refine W_move rfl rfl ?_
    refine W_move rfl rfl ?_
    refine W_callq (.cons rfl (.cons rfl (.cons rfl .nil))) Tryd.call23 rfl (rwrite_q rfl hb hbl hB (hrowc.up zH)) ?_
    refine W_move rfl rfl ?_
    refine W_extract rfl rfl rfl ?_
    refine W_extract rfl rfl rfl ?_
    refine W_alloc (l := vaRow (List.replicate 18 zeroV)) ty62 rfl rfl (fun b10 => ?_)
    refine W_storeA (l' := vaRow (wrN (newV []) an c nn)) rfl rfl ty62 (va_one _) (by show (vaRow (wrN (newV []) an c nn)).length = 90; rw [vaRow_len]; omega) (b := b10) zM (by exact Nat.le_refl 90) (splice_all (by rw [vaRow_len, List.length_replicate, vaRow_len]; omega)) zU ?_
    refine W_assign rfl rfl ?_
    refine W_nil ?_
    refine W_seq ?_
    refine W_sr ?_
    refine W_move rfl rfl ?_
    refine W_move rfl rfl ?_
    refine W_move rfl rfl ?_
    refine W_call (.cons rfl (.cons rfl (.cons rfl .nil))) Tryd.call24 rfl ((RWrite_L (H := (b10, .cells 62 90 (vaRow (wrN (newV []) an c nn))) :: (HB ++ ((b9, .cells 67 131 z109) :: (b35, .cells 59 10 (insRow (kb an))) :: H))) (r := brun (newV []) (2 + (fN : Int))) (b := c) rfl hb hbl hB (hrowc.up zH)).hsub zH) ?_
    rintro v H' ⟨rfl, rfl⟩
    refine W_move rfl rfl ?_
    refine W_bin rfl rfl b_neq rfl ?_
    refine W_nil ?_
    refine W_condF rfl rfl ?_
    refine W_skip ?_
    refine W_sr ?_
    refine W_loadB (vs := vaRow (wrN (newV []) an c nn)) rfl ty62 rfl (b := b10) zM (by show Nat.ble _ (vaRow (wrN (newV []) an c nn)).length = true; rw [vaRow_len, Nat.ble_eq]; omega) (by rw [List.drop_zero, List.take_of_length_le (by rw [vaRow_len]; omega)]) rfl ?_
    refine W_move rfl rfl ?_
    refine W_move rfl rfl ?_
    refine W_len rfl ty57 rfl rfl ?_
    refine W_bin rfl rfl (b_quo (m := ((nn : Nat) : Int)) (by decide) (quo_is (n := c.length) (by omega) (by omega))) rfl ?_
    refine W_call (.cons rfl (.cons rfl (.cons rfl .nil))) Tryd.call25 rfl ((rread_L (V := (wrN (newV []) an c nn)) (an := an) (nn := nn) hnl hnw hb).hsub (.refl _)) ?_
    rintro v H' ⟨sx, HX, rfl, hX, rfl⟩
    obtain ⟨aX, cX, rfl, _, _, hhX⟩ := Holds.of_own (w0 := w0) (H := HX ++ []) hX (fun p hp => List.mem_append_left _ hp)
    refine W_move rfl rfl ?_
    refine W_extract rfl rfl rfl ?_
    refine W_extract rfl rfl rfl ?_
    refine W_assign rfl rfl ?_
    refine W_assign rfl rfl ?_
    refine W_nil ?_
    refine W_sr ?_
    refine W_move rfl rfl ?_
    refine W_move rfl rfl ?_
    refine W_move rfl rfl ?_
    refine W_len rfl ty57 rfl rfl ?_
    refine W_bin rfl rfl (b_quo (m := ((nn : Nat) : Int)) (by decide) (quo_is (n := c.length) (by omega) (by omega))) rfl ?_
    refine W_call (.cons rfl (.cons rfl (.cons rfl .nil))) Tryd.call26 rfl ((RRead_L (H := HX ++ ((b10, .cells 62 90 (vaRow (wrN (newV []) an c nn))) :: (HB ++ ((b9, .cells 67 131 z109) :: (b35, .cells 59 10 (insRow (kb an))) :: H)))) (br := br) (r := brun (wrN (newV []) an c nn) (2 + (fN : Int))) (an := an) (nn := nn) hnl hb).hsub zH) ?_
    rintro v H' ⟨sy, HY, rfl, hY, rfl⟩
    obtain ⟨aY, cY, rfl, _, _, hhY⟩ := Holds.of_own (w0 := w0) (H := HY ++ []) hY (fun p hp => List.mem_append_left _ hp)
    obtain ⟨X, hXe⟩ : ∃ X, (rdB (wrN (newV []) an c nn) an nn).1 = X := ⟨_, rfl⟩
    have hXl : X.length ≤ 144 := by rw [← hXe]; have := rdB_len (wrN (newV []) an c nn) an nn; omega
    have hhY2 : Holds w0 (HY ++ []) aY (byV X) := hXe ▸ hhY
    rw [hXe] at hhX
    rw [show (rdB (brun (wrN (newV []) an c nn) (2 + (fN : Int))).V an nn).1 = X from hXe, hXe]
    refine W_move rfl rfl ?_
    refine W_extract rfl rfl rfl ?_
    refine W_extract rfl rfl rfl ?_
    refine W_assign rfl rfl ?_
    refine W_assign rfl rfl ?_
    refine W_nil ?_
    refine W_seq ?_
    refine W_sr ?_
    refine W_move rfl rfl ?_
    refine W_move rfl rfl ?_
    refine W_bin rfl rfl b_neq rfl ?_
    rw [decide_eq_false (fun h => h rfl)]
    refine W_move rfl rfl ?_
    refine W_gyes rfl rfl ?_
    refine W_move rfl rfl ?_
    refine W_gyes rfl rfl ?_
    refine W_len rfl ty57 rfl rfl ?_
    refine W_gyes rfl rfl ?_
    refine W_move rfl rfl ?_
    refine W_gyes rfl rfl ?_
    refine W_len rfl ty57 rfl rfl ?_
    refine W_gyes rfl rfl ?_
    refine W_bin rfl rfl b_neq rfl ?_
    rw [decide_eq_false (fun h => h rfl)]
    first | refine W_pickt rfl rfl rfl ?_ | refine W_pickf rfl rfl rfl ?_
    refine W_nil ?_
    refine W_condF rfl rfl ?_
    refine W_skip ?_
    refine W_seq ?_
    refine W_sr ?_
    refine W_assign rfl rfl ?_
    refine W_nil ?_
    refine W_block ?_
    refine W_loopC (X := Nat) [(1, _), (7, _), (10, _), (12, _), (14, _)] (fun (i : Nat) => [(16, .int .i64 (i : Int))]) (fun _ => _) (fun _ => _) (fun (i : Nat) => i ≤ X.length) (fun (i : Nat) => X.length - i) 0 (Nat.zero_le _) (sub_cons rfl (sub_cons rfl (sub_cons rfl (sub_cons rfl (sub_cons rfl (sub_nil _)))))) (sub_cons rfl (sub_nil _)) rfl (.refl _) ?_
    rintro i hi
    simp only [List.cons_append, List.nil_append]
    refine W_seq ?_
    refine W_sr ?_
    refine W_move rfl rfl ?_
    refine W_move rfl rfl ?_
    refine W_len rfl ty57 rfl rfl ?_
    refine W_bin rfl rfl b_lss rfl ?_
    refine W_nil ?_
    refine W_condPS (p := (i : Int) < (X.length : Int)) rfl (by simp) (fun c0 => ?_) (fun c0 => ?_)
    · skip
      refine W_skip ?_
      refine W_seq ?_
      refine W_block ?_
      refine W_quietsr (by kernel_rfl) (by decide +kernel) ?_
      obtain ⟨b0, o0, rfl, hc0⟩ := hhX.at (i := i) (v := .int .u8 (X.getD i 0)) (byV_get (by omega))
      obtain ⟨b2, o2, rfl, hc2⟩ := hhY2.at (i := i) (v := .int .u8 (X.getD i 0)) (byV_get (by omega))
      refine WQ_x (X_move rfl) rfl ?_
      refine WQ_x (X_move rfl) rfl ?_
      refine WQ_x (X_indexAddr (j := i) rfl rfl ty57 ty5 (by first | rfl | omega) (by first | decide | omega | simp) rfl) rfl ?_
      refine WQ_x (X_load rfl ty5 rfl (v := .int .u8 (X.getD i 0)) (by rw [Nat.mul_one]; exact hc0.up zH)) rfl ?_
      refine WQ_x (X_move rfl) rfl ?_
      refine WQ_x (X_move rfl) rfl ?_
      refine WQ_x (X_indexAddr (j := i) rfl rfl ty57 ty5 (by first | rfl | omega) (by first | decide | omega | simp) rfl) rfl ?_
      refine WQ_x (X_load rfl ty5 rfl (v := .int .u8 (X.getD i 0)) (by rw [Nat.mul_one]; exact hc2.up zH)) rfl ?_
      refine WQ_x (X_bin rfl rfl b_neq) rfl ?_
      refine WQ_nil ?_
      refine W_condF rfl (by simp) ?_
      refine W_skip ?_
      refine W_blk ?_
      refine W_region ?_
      refine W_move rfl rfl ?_
      refine W_bin rfl rfl (b_add (m := ((i + 1 : Nat) : Int)) ((i64w (by omega)).trans (by omega))) rfl ?_
      refine W_assign rfl rfl ?_
      refine W_nil ?_
      refine W_again (i + 1) (by show i + 1 ≤ X.length; omega) (by show X.length - (i + 1) < X.length - i; omega) (sub_cons rfl (sub_cons rfl (sub_cons rfl (sub_cons rfl (sub_cons rfl (sub_cons rfl (sub_nil _))))))) rfl (.refl _)
    · skip
      refine W_exit rfl ?_
      refine W_seq ?_
      refine W_anyC [(b10, .cells 62 90 (vaRow (wrN (newV []) an c nn)))] (by kernel_rfl) ?_
      refine WC_one 0 (l' := #[true, false, false, false, false, false, false, false, false, false, false, false, false, false, false, false, false, false, false, false, false, false, false, false]) zH (by decide +kernel) rfl (by decide +kernel) ?_
      refine W_callp .nil Tryd.call11 rfl hT (vknown_pure ) ?_
      refine W_nil ?_
      refine WC_goal ?_
      refine WC_take 1 (l' := #[true, true, false, false, false, false, false, false, false, false, false, false, false, false, false, false, false, false, false, false, false, false, false, false]) rfl (by decide +kernel) (by decide +kernel) (by decide +kernel) rfl (by decide +kernel) (X_move rfl) rfl ?_
      refine WC_gyes 2 (l' := #[true, true, true, false, false, false, false, false, false, false, false, false, false, false, false, false, false, false, false, false, false, false, false, false]) rfl (by decide +kernel) (by decide +kernel) (by decide +kernel) rfl (by decide +kernel) rfl rfl (X_move rfl) rfl ?_
      refine WC_one 3 (l' := #[true, true, true, true, false, false, false, false, false, false, false, false, false, false, false, false, false, false, false, false, false, false, false, false]) zH (by decide +kernel) rfl (by decide +kernel) ?_
      refine W_gyes rfl rfl ?_
      obtain ⟨r2, hr2, ho2, hw2, hres⟩ := brun_go (V := (wrN (newV []) an c nn)) (F := (2 + (fN : Int))) han hnl (by omega)
      refine W_call (.cons rfl (.cons rfl .nil)) Tryd.call12 rfl ((RGo_L (H := (b10, .cells 62 90 (vaRow (wrN (newV []) an c nn))) :: (HB ++ ((b9, .cells 67 131 z109) :: (b35, .cells 59 10 (insRow (kb an))) :: H))) (br := br) (bf := bf) (r := brun (wrN (newV []) an c nn) (2 + (fN : Int))) (nn := 2) (l := kb an) rfl (kb_c han) (kb_i han) (brun_ok han hnl hnw (by omega)) (hcl.up zH) (by decide) hT).hsub zH) ?_
      rintro v H' ⟨rfl, rfl⟩
      rw [hr2]
      refine W_nil ?_
      refine WC_goal ?_
      refine WC_gyes 4 (l' := #[true, true, true, true, true, false, false, false, false, false, false, false, false, false, false, false, false, false, false, false, false, false, false, false]) rfl (by decide +kernel) (by decide +kernel) (by decide +kernel) rfl (by decide +kernel) rfl rfl (X_field rfl fld44_0 rfl) rfl ?_
      refine WC_gyes 5 (l' := #[true, true, true, true, true, true, false, false, false, false, false, false, false, false, false, false, false, false, false, false, false, false, false, false]) rfl (by decide +kernel) (by decide +kernel) (by decide +kernel) rfl (by decide +kernel) rfl rfl (X_bin rfl rfl b_eql) rfl ?_
      rw [decide_eq_true (p := (trapOf r2).kind = 1) (by unfold trapOf; rw [if_pos ho2])]
      first | refine WC_take 6 (l' := #[true, true, true, true, true, true, true, false, false, false, false, false, false, false, false, false, false, false, false, false, false, false, false, false]) rfl (by decide +kernel) (by decide +kernel) (by decide +kernel) rfl (by decide +kernel) (X_pickt rfl rfl) rfl ?_ | refine WC_take 6 (l' := #[true, true, true, true, true, true, true, false, false, false, false, false, false, false, false, false, false, false, false, false, false, false, false, false]) rfl (by decide +kernel) (by decide +kernel) (by decide +kernel) rfl (by decide +kernel) (X_pickf rfl rfl) rfl ?_
      refine WC_take 7 (l' := #[true, true, true, true, true, true, true, true, false, false, false, false, false, false, false, false, false, false, false, false, false, false, false, false]) rfl (by decide +kernel) (by decide +kernel) (by decide +kernel) rfl (by decide +kernel) (X_move rfl) rfl ?_
      refine WC_gyes 8 (l' := #[true, true, true, true, true, true, true, true, true, false, false, false, false, false, false, false, false, false, false, false, false, false, false, false]) rfl (by decide +kernel) (by decide +kernel) (by decide +kernel) rfl (by decide +kernel) rfl rfl (X_move rfl) rfl ?_
      refine WC_one 9 (l' := #[true, true, true, true, true, true, true, true, true, true, false, false, false, false, false, false, false, false, false, false, false, false, false, false]) zH (by decide +kernel) rfl (by decide +kernel) ?_
      refine W_gyes rfl rfl ?_
      refine W_call (.cons rfl .nil) Tryd.call15 rfl ((RCode_L (H := (bf, .cells 101 90 (vaRow r2.V)) :: (b10, .cells 62 90 (vaRow (wrN (newV []) an c nn))) :: (HB ++ ((b9, .cells 67 131 z109) :: (b35, .cells 59 10 (insRow (kb an))) :: H))) (br := br) (bf := bf) (r := r2)).hsub zH) ?_
      rintro v H' ⟨rfl, rfl⟩
      refine W_nil ?_
      refine WC_goal ?_
      refine WC_gyes 10 (l' := #[true, true, true, true, true, true, true, true, true, true, true, false, false, false, false, false, false, false, false, false, false, false, false, false]) rfl (by decide +kernel) (by decide +kernel) (by decide +kernel) rfl (by decide +kernel) rfl rfl (X_bin rfl rfl b_eql) rfl ?_
      rw [decide_eq_true (p := r2.why = 0) hw2]
      first | refine WC_take 11 (l' := #[true, true, true, true, true, true, true, true, true, true, true, true, false, false, false, false, false, false, false, false, false, false, false, false]) rfl (by decide +kernel) (by decide +kernel) (by decide +kernel) rfl (by decide +kernel) (X_pickt rfl rfl) rfl ?_ | refine WC_take 11 (l' := #[true, true, true, true, true, true, true, true, true, true, true, true, false, false, false, false, false, false, false, false, false, false, false, false]) rfl (by decide +kernel) (by decide +kernel) (by decide +kernel) rfl (by decide +kernel) (X_pickf rfl rfl) rfl ?_
      refine WC_take 12 (l' := #[true, true, true, true, true, true, true, true, true, true, true, true, true, false, false, false, false, false, false, false, false, false, false, false]) rfl (by decide +kernel) (by decide +kernel) (by decide +kernel) rfl (by decide +kernel) (X_move rfl) rfl ?_
      refine WC_gyes 13 (l' := #[true, true, true, true, true, true, true, true, true, true, true, true, true, true, false, false, false, false, false, false, false, false, false, false]) rfl (by decide +kernel) (by decide +kernel) (by decide +kernel) rfl (by decide +kernel) rfl rfl (X_move rfl) rfl ?_
      refine WC_gyes 15 (l' := #[true, true, true, true, true, true, true, true, true, true, true, true, true, true, false, true, false, false, false, false, false, false, false, false]) rfl (by decide +kernel) (by decide +kernel) (by decide +kernel) rfl (by decide +kernel) rfl rfl (X_move rfl) rfl ?_
      refine WC_gyes 16 (l' := #[true, true, true, true, true, true, true, true, true, true, true, true, true, true, false, true, true, false, false, false, false, false, false, false]) rfl (by decide +kernel) (by decide +kernel) (by decide +kernel) rfl (by decide +kernel) rfl rfl (X_bin rfl rfl (b_add (m := ((10 + an : Nat) : Int)) ((i64w (by omega)).trans (by omega)))) rfl ?_
      refine WC_gyes 17 (l' := #[true, true, true, true, true, true, true, true, true, true, true, true, true, true, false, true, true, true, false, false, false, false, false, false]) rfl (by decide +kernel) (by decide +kernel) (by decide +kernel) rfl (by decide +kernel) rfl rfl (X_fieldAddr rfl fld62_0 (by decide)) rfl ?_
      refine WC_gyes 18 (l' := #[true, true, true, true, true, true, true, true, true, true, true, true, true, true, false, true, true, true, true, false, false, false, false, false]) rfl (by decide +kernel) (by decide +kernel) (by decide +kernel) rfl (by decide +kernel) rfl rfl (X_indexAddrA (j := (10 + an)) rfl rfl ty60 ty52 (by first | rfl | omega) (by first | decide | omega | simp) rfl) rfl ?_
      refine WC_gyes 19 (l' := #[true, true, true, true, true, true, true, true, true, true, true, true, true, true, false, true, true, true, true, true, false, false, false, false]) rfl (by decide +kernel) (by decide +kernel) (by decide +kernel) rfl (by decide +kernel) rfl rfl (X_fieldAddr rfl fld52_4 (by decide)) rfl ?_
      refine WC_gyes 20 (l' := #[true, true, true, true, true, true, true, true, true, true, true, true, true, true, false, true, true, true, true, true, true, false, false, false]) rfl (by decide +kernel) (by decide +kernel) (by decide +kernel) rfl (by decide +kernel) rfl rfl (X_load (v := .int .u64 ((wrN (newV []) an c nn).getD (10 + an) zeroV).n) rfl ty28 rfl (Cell.own (b := b10) zM (va_n4 (by rw [hnl]; omega)))) rfl ?_
      refine WC_one 14 (l' := #[true, true, true, true, true, true, true, true, true, true, true, true, true, true, true, true, true, true, true, true, true, false, false, false]) zH (by decide +kernel) rfl (by decide +kernel) ?_
      refine W_gyes rfl rfl ?_
      refine W_call (.cons rfl .nil) Tryd.call16 rfl ((RResult_L (H := (bf, .cells 101 90 (vaRow r2.V)) :: (b10, .cells 62 90 (vaRow (wrN (newV []) an c nn))) :: (HB ++ ((b9, .cells 67 131 z109) :: (b35, .cells 59 10 (insRow (kb an))) :: H))) (br := br) (bf := bf) (r := r2)).hsub zH) ?_
      rintro v H' ⟨rfl, rfl⟩
      refine W_nil ?_
      refine WC_goal ?_
      refine WC_gyes 21 (l' := #[true, true, true, true, true, true, true, true, true, true, true, true, true, true, true, true, true, true, true, true, true, true, false, false]) rfl (by decide +kernel) (by decide +kernel) (by decide +kernel) rfl (by decide +kernel) rfl rfl (X_bin rfl rfl b_eql) rfl ?_
      rw [decide_eq_true (p := r2.res = ((wrN (newV []) an c nn).getD (10 + an) zeroV).n) hres]
      first | refine WC_take 22 (l' := #[true, true, true, true, true, true, true, true, true, true, true, true, true, true, true, true, true, true, true, true, true, true, true, false]) rfl (by decide +kernel) (by decide +kernel) (by decide +kernel) rfl (by decide +kernel) (X_pickt rfl rfl) rfl ?_ | refine WC_take 22 (l' := #[true, true, true, true, true, true, true, true, true, true, true, true, true, true, true, true, true, true, true, true, true, true, true, false]) rfl (by decide +kernel) (by decide +kernel) (by decide +kernel) rfl (by decide +kernel) (X_pickf rfl rfl) rfl ?_
      refine WC_take 23 (l' := #[true, true, true, true, true, true, true, true, true, true, true, true, true, true, true, true, true, true, true, true, true, true, true, true]) rfl (by decide +kernel) (by decide +kernel) (by decide +kernel) rfl (by decide +kernel) (X_assign rfl) rfl ?_
      refine WC_done zH (by decide +kernel) ?_
      refine W_ret1m (H2 := H) Tryd.results5 rfl (.nil _) zH ?_
      exact ⟨rfl, rfl⟩
  · skip
    have hnl : (newV []).length = 18 := rfl
    have hnw : ∀ v ∈ (newV []), Wd v.n := hvw
    refine W_loadB (vs := vaRow (newV [])) rfl ty62 rfl (b := b9) zM (by kernel_rfl) (by kernel_rfl) rfl ?_
    refine W_move rfl rfl ?_
    refine W_move rfl rfl ?_
    refine W_callp (.cons rfl (.cons rfl (.cons rfl .nil))) Tryd.call23 rfl (T := fun _ => True) trivial (rwrite_bad rfl hat (by omega) (.inr hbad)) ?_
    refine W_move rfl rfl ?_
    refine W_extract rfl rfl rfl ?_
    refine W_extract rfl rfl rfl ?_
    refine W_alloc (l := vaRow (List.replicate 18 zeroV)) ty62 rfl rfl (fun b10 => ?_)
    refine W_storeA (l' := vaRow (newV [])) rfl rfl ty62 (va_one _) (by show (vaRow (newV [])).length = 90; rw [vaRow_len]; omega) (b := b10) zM (by exact Nat.le_refl 90) (splice_all (by rw [vaRow_len, List.length_replicate, vaRow_len]; omega)) zU ?_
    refine W_assign rfl rfl ?_
    refine W_nil ?_
    refine W_seq ?_
    refine W_sr ?_
    refine W_move rfl rfl ?_
    refine W_move rfl rfl ?_
    refine W_move rfl rfl ?_
    refine W_call (.cons rfl (.cons rfl (.cons rfl .nil))) Tryd.call24 rfl ((RWrite_bad (nn := 0) (H := (b10, .cells 62 90 (vaRow (newV []))) :: (HB ++ ((b9, .cells 67 131 z109) :: (b35, .cells 59 10 (insRow (kb an))) :: H))) (r := brun (newV []) (2 + (fN : Int))) (b := c) hat (by omega) hbad).hsub zH) ?_
    rintro v H' ⟨rfl, rfl⟩
    refine W_move rfl rfl ?_
    refine W_bin rfl rfl b_neq rfl ?_
    refine W_nil ?_
    refine W_condF rfl rfl ?_
    refine W_skip ?_
    refine W_sr ?_
    refine W_loadB (vs := vaRow (newV [])) rfl ty62 rfl (b := b10) zM (by show Nat.ble _ (vaRow (newV [])).length = true; rw [vaRow_len, Nat.ble_eq]; omega) (by rw [List.drop_zero, List.take_of_length_le (by rw [vaRow_len]; omega)]) rfl ?_
    refine W_move rfl rfl ?_
    refine W_move rfl rfl ?_
    refine W_len rfl ty57 rfl rfl ?_
    refine W_bin rfl rfl (b_quo (m := (((c.length / 8) : Nat) : Int)) (by decide) (quo_is (n := c.length) rfl (by omega))) rfl ?_
    refine W_callp (.cons rfl (.cons rfl (.cons rfl .nil))) Tryd.call25 rfl (T := fun _ => True) trivial (rread_bad (newV []) hat hnI hbad) ?_
    refine W_move rfl rfl ?_
    refine W_extract rfl rfl rfl ?_
    refine W_extract rfl rfl rfl ?_
    refine W_assign rfl rfl ?_
    refine W_assign rfl rfl ?_
    refine W_nil ?_
    refine W_sr ?_
    refine W_move rfl rfl ?_
    refine W_move rfl rfl ?_
    refine W_move rfl rfl ?_
    refine W_len rfl ty57 rfl rfl ?_
    refine W_bin rfl rfl (b_quo (m := (((c.length / 8) : Nat) : Int)) (by decide) (quo_is (n := c.length) rfl (by omega))) rfl ?_
    refine W_call (.cons rfl (.cons rfl (.cons rfl .nil))) Tryd.call26 rfl ((RRead_bad (H := (b10, .cells 62 90 (vaRow (newV []))) :: (HB ++ ((b9, .cells 67 131 z109) :: (b35, .cells 59 10 (insRow (kb an))) :: H))) (br := br) (r := brun (newV []) (2 + (fN : Int))) hat hnI hbad).hsub zH) ?_
    rintro v H' ⟨rfl, rfl⟩
    obtain ⟨X, hXe⟩ : ∃ X : List Int, X = [] := ⟨_, rfl⟩
    have hXl : X.length ≤ 144 := by rw [hXe]; decide
    have hhX : ∀ H, Holds w0 H none (byV X) := fun H => by rw [hXe]; exact Holds.nil
    have e0 : (0 : Nat) = X.length := by rw [hXe]; rfl
    refine W_move rfl rfl ?_
    refine W_extract rfl rfl rfl ?_
    refine W_extract rfl rfl rfl ?_
    refine W_assign rfl rfl ?_
    refine W_assign rfl rfl ?_
    refine W_nil ?_
    refine W_seq ?_
    refine W_sr ?_
    refine W_move rfl rfl ?_
    refine W_move rfl rfl ?_
    refine W_bin rfl rfl b_neq rfl ?_
    refine W_move rfl rfl ?_
    refine W_gyes rfl rfl ?_
    refine W_move rfl rfl ?_
    refine W_gyes rfl rfl ?_
    refine W_len rfl ty57 rfl rfl ?_
    refine W_gyes rfl rfl ?_
    refine W_move rfl rfl ?_
    refine W_gyes rfl rfl ?_
    refine W_len rfl ty57 rfl rfl ?_
    refine W_gyes rfl rfl ?_
    refine W_bin rfl rfl b_neq rfl ?_
    rw [decide_eq_false (fun h => h rfl)]
    first | refine W_pickt rfl rfl rfl ?_ | refine W_pickf rfl rfl rfl ?_
    refine W_nil ?_
    refine W_condF rfl rfl ?_
    refine W_skip ?_
    refine W_seq ?_
    refine W_sr ?_
    refine W_assign rfl rfl ?_
    refine W_nil ?_
    refine W_block ?_
    refine W_loopC (X := Nat) [(1, _), (7, _), (10, _), (12, _), (14, _)] (fun (i : Nat) => [(16, .int .i64 (i : Int))]) (fun _ => _) (fun _ => _) (fun (i : Nat) => i ≤ X.length) (fun (i : Nat) => X.length - i) 0 (Nat.zero_le _) (sub_cons rfl (sub_cons rfl (sub_cons rfl (sub_cons rfl (sub_cons rfl (sub_nil _)))))) (sub_cons rfl (sub_nil _)) rfl (.refl _) ?_
    rintro i hi
    simp only [List.cons_append, List.nil_append]
    refine W_seq ?_
    refine W_sr ?_
    refine W_move rfl rfl ?_
    refine W_move rfl rfl ?_
    refine W_len rfl ty57 rfl rfl ?_
    refine W_bin rfl rfl b_lss rfl ?_
    refine W_nil ?_
    refine W_condF rfl (by simp) ?_
    refine W_exit rfl ?_
    refine W_seq ?_
    refine W_anyC [(b10, .cells 62 90 (vaRow (newV [])))] (by kernel_rfl) ?_
    refine WC_one 0 (l' := #[true, false, false, false, false, false, false, false, false, false, false, false, false, false, false, false, false, false, false, false, false, false, false, false]) zH (by decide +kernel) rfl (by decide +kernel) ?_
    refine W_callp .nil Tryd.call11 rfl hT (vknown_pure ) ?_
    refine W_nil ?_
    refine WC_goal ?_
    refine WC_take 1 (l' := #[true, true, false, false, false, false, false, false, false, false, false, false, false, false, false, false, false, false, false, false, false, false, false, false]) rfl (by decide +kernel) (by decide +kernel) (by decide +kernel) rfl (by decide +kernel) (X_move rfl) rfl ?_
    refine WC_gyes 2 (l' := #[true, true, true, false, false, false, false, false, false, false, false, false, false, false, false, false, false, false, false, false, false, false, false, false]) rfl (by decide +kernel) (by decide +kernel) (by decide +kernel) rfl (by decide +kernel) rfl rfl (X_move rfl) rfl ?_
    refine WC_one 3 (l' := #[true, true, true, true, false, false, false, false, false, false, false, false, false, false, false, false, false, false, false, false, false, false, false, false]) zH (by decide +kernel) rfl (by decide +kernel) ?_
    refine W_gyes rfl rfl ?_
    obtain ⟨r2, hr2, ho2, hw2, hres⟩ := brun_go (V := (newV [])) (F := (2 + (fN : Int))) han hnl (by omega)
    refine W_call (.cons rfl (.cons rfl .nil)) Tryd.call12 rfl ((RGo_L (H := (b10, .cells 62 90 (vaRow (newV []))) :: (HB ++ ((b9, .cells 67 131 z109) :: (b35, .cells 59 10 (insRow (kb an))) :: H))) (br := br) (bf := bf) (r := brun (newV []) (2 + (fN : Int))) (nn := 2) (l := kb an) rfl (kb_c han) (kb_i han) (brun_ok han hnl hnw (by omega)) (hcl.up zH) (by decide) hT).hsub zH) ?_
    rintro v H' ⟨rfl, rfl⟩
    rw [hr2]
    refine W_nil ?_
    refine WC_goal ?_
    refine WC_gyes 4 (l' := #[true, true, true, true, true, false, false, false, false, false, false, false, false, false, false, false, false, false, false, false, false, false, false, false]) rfl (by decide +kernel) (by decide +kernel) (by decide +kernel) rfl (by decide +kernel) rfl rfl (X_field rfl fld44_0 rfl) rfl ?_
    refine WC_gyes 5 (l' := #[true, true, true, true, true, true, false, false, false, false, false, false, false, false, false, false, false, false, false, false, false, false, false, false]) rfl (by decide +kernel) (by decide +kernel) (by decide +kernel) rfl (by decide +kernel) rfl rfl (X_bin rfl rfl b_eql) rfl ?_
    rw [decide_eq_true (p := (trapOf r2).kind = 1) (by unfold trapOf; rw [if_pos ho2])]
    first | refine WC_take 6 (l' := #[true, true, true, true, true, true, true, false, false, false, false, false, false, false, false, false, false, false, false, false, false, false, false, false]) rfl (by decide +kernel) (by decide +kernel) (by decide +kernel) rfl (by decide +kernel) (X_pickt rfl rfl) rfl ?_ | refine WC_take 6 (l' := #[true, true, true, true, true, true, true, false, false, false, false, false, false, false, false, false, false, false, false, false, false, false, false, false]) rfl (by decide +kernel) (by decide +kernel) (by decide +kernel) rfl (by decide +kernel) (X_pickf rfl rfl) rfl ?_
    refine WC_take 7 (l' := #[true, true, true, true, true, true, true, true, false, false, false, false, false, false, false, false, false, false, false, false, false, false, false, false]) rfl (by decide +kernel) (by decide +kernel) (by decide +kernel) rfl (by decide +kernel) (X_move rfl) rfl ?_
    refine WC_gyes 8 (l' := #[true, true, true, true, true, true, true, true, true, false, false, false, false, false, false, false, false, false, false, false, false, false, false, false]) rfl (by decide +kernel) (by decide +kernel) (by decide +kernel) rfl (by decide +kernel) rfl rfl (X_move rfl) rfl ?_
    refine WC_one 9 (l' := #[true, true, true, true, true, true, true, true, true, true, false, false, false, false, false, false, false, false, false, false, false, false, false, false]) zH (by decide +kernel) rfl (by decide +kernel) ?_
    refine W_gyes rfl rfl ?_
    refine W_call (.cons rfl .nil) Tryd.call15 rfl ((RCode_L (H := (bf, .cells 101 90 (vaRow r2.V)) :: (b10, .cells 62 90 (vaRow (newV []))) :: (HB ++ ((b9, .cells 67 131 z109) :: (b35, .cells 59 10 (insRow (kb an))) :: H))) (br := br) (bf := bf) (r := r2)).hsub zH) ?_
    rintro v H' ⟨rfl, rfl⟩
    refine W_nil ?_
    refine WC_goal ?_
    refine WC_gyes 10 (l' := #[true, true, true, true, true, true, true, true, true, true, true, false, false, false, false, false, false, false, false, false, false, false, false, false]) rfl (by decide +kernel) (by decide +kernel) (by decide +kernel) rfl (by decide +kernel) rfl rfl (X_bin rfl rfl b_eql) rfl ?_
    rw [decide_eq_true (p := r2.why = 0) hw2]
    first | refine WC_take 11 (l' := #[true, true, true, true, true, true, true, true, true, true, true, true, false, false, false, false, false, false, false, false, false, false, false, false]) rfl (by decide +kernel) (by decide +kernel) (by decide +kernel) rfl (by decide +kernel) (X_pickt rfl rfl) rfl ?_ | refine WC_take 11 (l' := #[true, true, true, true, true, true, true, true, true, true, true, true, false, false, false, false, false, false, false, false, false, false, false, false]) rfl (by decide +kernel) (by decide +kernel) (by decide +kernel) rfl (by decide +kernel) (X_pickf rfl rfl) rfl ?_
    refine WC_take 12 (l' := #[true, true, true, true, true, true, true, true, true, true, true, true, true, false, false, false, false, false, false, false, false, false, false, false]) rfl (by decide +kernel) (by decide +kernel) (by decide +kernel) rfl (by decide +kernel) (X_move rfl) rfl ?_
    refine WC_gyes 13 (l' := #[true, true, true, true, true, true, true, true, true, true, true, true, true, true, false, false, false, false, false, false, false, false, false, false]) rfl (by decide +kernel) (by decide +kernel) (by decide +kernel) rfl (by decide +kernel) rfl rfl (X_move rfl) rfl ?_
    refine WC_gyes 15 (l' := #[true, true, true, true, true, true, true, true, true, true, true, true, true, true, false, true, false, false, false, false, false, false, false, false]) rfl (by decide +kernel) (by decide +kernel) (by decide +kernel) rfl (by decide +kernel) rfl rfl (X_move rfl) rfl ?_
    refine WC_gyes 16 (l' := #[true, true, true, true, true, true, true, true, true, true, true, true, true, true, false, true, true, false, false, false, false, false, false, false]) rfl (by decide +kernel) (by decide +kernel) (by decide +kernel) rfl (by decide +kernel) rfl rfl (X_bin rfl rfl (b_add (m := ((10 + an : Nat) : Int)) ((i64w (by omega)).trans (by omega)))) rfl ?_
    refine WC_gyes 17 (l' := #[true, true, true, true, true, true, true, true, true, true, true, true, true, true, false, true, true, true, false, false, false, false, false, false]) rfl (by decide +kernel) (by decide +kernel) (by decide +kernel) rfl (by decide +kernel) rfl rfl (X_fieldAddr rfl fld62_0 (by decide)) rfl ?_
    refine WC_gyes 18 (l' := #[true, true, true, true, true, true, true, true, true, true, true, true, true, true, false, true, true, true, true, false, false, false, false, false]) rfl (by decide +kernel) (by decide +kernel) (by decide +kernel) rfl (by decide +kernel) rfl rfl (X_indexAddrA (j := (10 + an)) rfl rfl ty60 ty52 (by first | rfl | omega) (by first | decide | omega | simp) rfl) rfl ?_
    refine WC_gyes 19 (l' := #[true, true, true, true, true, true, true, true, true, true, true, true, true, true, false, true, true, true, true, true, false, false, false, false]) rfl (by decide +kernel) (by decide +kernel) (by decide +kernel) rfl (by decide +kernel) rfl rfl (X_fieldAddr rfl fld52_4 (by decide)) rfl ?_
    refine WC_gyes 20 (l' := #[true, true, true, true, true, true, true, true, true, true, true, true, true, true, false, true, true, true, true, true, true, false, false, false]) rfl (by decide +kernel) (by decide +kernel) (by decide +kernel) rfl (by decide +kernel) rfl rfl (X_load (v := .int .u64 ((newV []).getD (10 + an) zeroV).n) rfl ty28 rfl (Cell.own (b := b10) zM (va_n4 (by rw [hnl]; omega)))) rfl ?_
    refine WC_one 14 (l' := #[true, true, true, true, true, true, true, true, true, true, true, true, true, true, true, true, true, true, true, true, true, false, false, false]) zH (by decide +kernel) rfl (by decide +kernel) ?_
    refine W_gyes rfl rfl ?_
    refine W_call (.cons rfl .nil) Tryd.call16 rfl ((RResult_L (H := (bf, .cells 101 90 (vaRow r2.V)) :: (b10, .cells 62 90 (vaRow (newV []))) :: (HB ++ ((b9, .cells 67 131 z109) :: (b35, .cells 59 10 (insRow (kb an))) :: H))) (br := br) (bf := bf) (r := r2)).hsub zH) ?_
    rintro v H' ⟨rfl, rfl⟩
    refine W_nil ?_
    refine WC_goal ?_
    refine WC_gyes 21 (l' := #[true, true, true, true, true, true, true, true, true, true, true, true, true, true, true, true, true, true, true, true, true, true, false, false]) rfl (by decide +kernel) (by decide +kernel) (by decide +kernel) rfl (by decide +kernel) rfl rfl (X_bin rfl rfl b_eql) rfl ?_
    rw [decide_eq_true (p := r2.res = ((newV []).getD (10 + an) zeroV).n) hres]
    first | refine WC_take 22 (l' := #[true, true, true, true, true, true, true, true, true, true, true, true, true, true, true, true, true, true, true, true, true, true, true, false]) rfl (by decide +kernel) (by decide +kernel) (by decide +kernel) rfl (by decide +kernel) (X_pickt rfl rfl) rfl ?_ | refine WC_take 22 (l' := #[true, true, true, true, true, true, true, true, true, true, true, true, true, true, true, true, true, true, true, true, true, true, true, false]) rfl (by decide +kernel) (by decide +kernel) (by decide +kernel) rfl (by decide +kernel) (X_pickf rfl rfl) rfl ?_
    refine WC_take 23 (l' := #[true, true, true, true, true, true, true, true, true, true, true, true, true, true, true, true, true, true, true, true, true, true, true, true]) rfl (by decide +kernel) (by decide +kernel) (by decide +kernel) rfl (by decide +kernel) (X_assign rfl) rfl ?_
    refine WC_done zH (by decide +kernel) ?_
    refine W_ret1m (H2 := H) Tryd.results5 rfl (.nil _) zH ?_
    exact ⟨rfl, rfl⟩
  · skip
    have hnl : (newV []).length = 18 := rfl
    have hnw : ∀ v ∈ (newV []), Wd v.n := hvw
    refine W_loadB (vs := vaRow (newV [])) rfl ty62 rfl (b := b9) zM (by kernel_rfl) (by kernel_rfl) rfl ?_
    refine W_move rfl rfl ?_
    refine W_move rfl rfl ?_
    refine W_callp (.cons rfl (.cons rfl (.cons rfl .nil))) Tryd.call23 rfl (T := fun _ => True) trivial (rwrite_bad rfl hat (by omega) (.inl hodd)) ?_
    refine W_move rfl rfl ?_
    refine W_extract rfl rfl rfl ?_
    refine W_extract rfl rfl rfl ?_
    refine W_alloc (l := vaRow (List.replicate 18 zeroV)) ty62 rfl rfl (fun b10 => ?_)
    refine W_storeA (l' := vaRow (newV [])) rfl rfl ty62 (va_one _) (by show (vaRow (newV [])).length = 90; rw [vaRow_len]; omega) (b := b10) zM (by exact Nat.le_refl 90) (splice_all (by rw [vaRow_len, List.length_replicate, vaRow_len]; omega)) zU ?_
    refine W_assign rfl rfl ?_
    refine W_nil ?_
    refine W_seq ?_
    refine W_sr ?_
    refine W_move rfl rfl ?_
    refine W_move rfl rfl ?_
    refine W_move rfl rfl ?_
    refine W_call (.cons rfl (.cons rfl (.cons rfl .nil))) Tryd.call24 rfl ((RWrite_odd (nn := 0) (H := (b10, .cells 62 90 (vaRow (newV []))) :: (HB ++ ((b9, .cells 67 131 z109) :: (b35, .cells 59 10 (insRow (kb an))) :: H))) (r := brun (newV []) (2 + (fN : Int))) (b := c) (by omega) hb hodd).hsub zH) ?_
    rintro v H' ⟨rfl, rfl⟩
    refine W_move rfl rfl ?_
    refine W_bin rfl rfl b_neq rfl ?_
    refine W_nil ?_
    refine W_condF rfl rfl ?_
    refine W_skip ?_
    refine W_sr ?_
    refine W_loadB (vs := vaRow (newV [])) rfl ty62 rfl (b := b10) zM (by show Nat.ble _ (vaRow (newV [])).length = true; rw [vaRow_len, Nat.ble_eq]; omega) (by rw [List.drop_zero, List.take_of_length_le (by rw [vaRow_len]; omega)]) rfl ?_
    refine W_move rfl rfl ?_
    refine W_move rfl rfl ?_
    refine W_len rfl ty57 rfl rfl ?_
    refine W_bin rfl rfl (b_quo (m := (((c.length / 8) : Nat) : Int)) (by decide) (quo_is (n := c.length) rfl (by omega))) rfl ?_
    refine W_call (.cons rfl (.cons rfl (.cons rfl .nil))) Tryd.call25 rfl ((rread_L (V := (newV [])) (an := an) (nn := (c.length / 8)) hnl hnw hb).hsub (.refl _)) ?_
    rintro v H' ⟨sx, HX, rfl, hX, rfl⟩
    obtain ⟨aX, cX, rfl, _, _, hhX⟩ := Holds.of_own (w0 := w0) (H := HX ++ []) hX (fun p hp => List.mem_append_left _ hp)
    refine W_move rfl rfl ?_
    refine W_extract rfl rfl rfl ?_
    refine W_extract rfl rfl rfl ?_
    refine W_assign rfl rfl ?_
    refine W_assign rfl rfl ?_
    refine W_nil ?_
    refine W_sr ?_
    refine W_move rfl rfl ?_
    refine W_move rfl rfl ?_
    refine W_move rfl rfl ?_
    refine W_len rfl ty57 rfl rfl ?_
    refine W_bin rfl rfl (b_quo (m := (((c.length / 8) : Nat) : Int)) (by decide) (quo_is (n := c.length) rfl (by omega))) rfl ?_
    refine W_call (.cons rfl (.cons rfl (.cons rfl .nil))) Tryd.call26 rfl ((RRead_L (H := HX ++ ((b10, .cells 62 90 (vaRow (newV []))) :: (HB ++ ((b9, .cells 67 131 z109) :: (b35, .cells 59 10 (insRow (kb an))) :: H)))) (br := br) (r := brun (newV []) (2 + (fN : Int))) (an := an) (nn := (c.length / 8)) hnl hb).hsub zH) ?_
    rintro v H' ⟨sy, HY, rfl, hY, rfl⟩
    obtain ⟨aY, cY, rfl, _, _, hhY⟩ := Holds.of_own (w0 := w0) (H := HY ++ []) hY (fun p hp => List.mem_append_left _ hp)
    obtain ⟨X, hXe⟩ : ∃ X, (rdB (newV []) an (c.length / 8)).1 = X := ⟨_, rfl⟩
    have hXl : X.length ≤ 144 := by rw [← hXe]; have := rdB_len (newV []) an (c.length / 8); omega
    have hhY2 : Holds w0 (HY ++ []) aY (byV X) := hXe ▸ hhY
    rw [hXe] at hhX
    rw [show (rdB (brun (newV []) (2 + (fN : Int))).V an (c.length / 8)).1 = X from hXe, hXe]
    refine W_move rfl rfl ?_
    refine W_extract rfl rfl rfl ?_
    refine W_extract rfl rfl rfl ?_
    refine W_assign rfl rfl ?_
    refine W_assign rfl rfl ?_
    refine W_nil ?_
    refine W_seq ?_
    refine W_sr ?_
    refine W_move rfl rfl ?_
    refine W_move rfl rfl ?_
    refine W_bin rfl rfl b_neq rfl ?_
    rw [decide_eq_false (fun h => h rfl)]
    refine W_move rfl rfl ?_
    refine W_gyes rfl rfl ?_
    refine W_move rfl rfl ?_
    refine W_gyes rfl rfl ?_
    refine W_len rfl ty57 rfl rfl ?_
    refine W_gyes rfl rfl ?_
    refine W_move rfl rfl ?_
    refine W_gyes rfl rfl ?_
    refine W_len rfl ty57 rfl rfl ?_
    refine W_gyes rfl rfl ?_
    refine W_bin rfl rfl b_neq rfl ?_
    rw [decide_eq_false (fun h => h rfl)]
    first | refine W_pickt rfl rfl rfl ?_ | refine W_pickf rfl rfl rfl ?_
    refine W_nil ?_
    refine W_condF rfl rfl ?_
    refine W_skip ?_
    refine W_seq ?_
    refine W_sr ?_
    refine W_assign rfl rfl ?_
    refine W_nil ?_
    refine W_block ?_
    refine W_loopC (X := Nat) [(1, _), (7, _), (10, _), (12, _), (14, _)] (fun (i : Nat) => [(16, .int .i64 (i : Int))]) (fun _ => _) (fun _ => _) (fun (i : Nat) => i ≤ X.length) (fun (i : Nat) => X.length - i) 0 (Nat.zero_le _) (sub_cons rfl (sub_cons rfl (sub_cons rfl (sub_cons rfl (sub_cons rfl (sub_nil _)))))) (sub_cons rfl (sub_nil _)) rfl (.refl _) ?_
    rintro i hi
    simp only [List.cons_append, List.nil_append]
    refine W_seq ?_
    refine W_sr ?_
    refine W_move rfl rfl ?_
    refine W_move rfl rfl ?_
    refine W_len rfl ty57 rfl rfl ?_
    refine W_bin rfl rfl b_lss rfl ?_
    refine W_nil ?_
    refine W_condPS (p := (i : Int) < (X.length : Int)) rfl (by simp) (fun c0 => ?_) (fun c0 => ?_)
    · skip
      refine W_skip ?_
      refine W_seq ?_
      refine W_block ?_
      refine W_quietsr (by kernel_rfl) (by decide +kernel) ?_
      obtain ⟨b0, o0, rfl, hc0⟩ := hhX.at (i := i) (v := .int .u8 (X.getD i 0)) (byV_get (by omega))
      obtain ⟨b2, o2, rfl, hc2⟩ := hhY2.at (i := i) (v := .int .u8 (X.getD i 0)) (byV_get (by omega))
      refine WQ_x (X_move rfl) rfl ?_
      refine WQ_x (X_move rfl) rfl ?_
      refine WQ_x (X_indexAddr (j := i) rfl rfl ty57 ty5 (by first | rfl | omega) (by first | decide | omega | simp) rfl) rfl ?_
      refine WQ_x (X_load rfl ty5 rfl (v := .int .u8 (X.getD i 0)) (by rw [Nat.mul_one]; exact hc0.up zH)) rfl ?_
      refine WQ_x (X_move rfl) rfl ?_
      refine WQ_x (X_move rfl) rfl ?_
      refine WQ_x (X_indexAddr (j := i) rfl rfl ty57 ty5 (by first | rfl | omega) (by first | decide | omega | simp) rfl) rfl ?_
      refine WQ_x (X_load rfl ty5 rfl (v := .int .u8 (X.getD i 0)) (by rw [Nat.mul_one]; exact hc2.up zH)) rfl ?_
      refine WQ_x (X_bin rfl rfl b_neq) rfl ?_
      refine WQ_nil ?_
      refine W_condF rfl (by simp) ?_
      refine W_skip ?_
      refine W_blk ?_
      refine W_region ?_
      refine W_move rfl rfl ?_
      refine W_bin rfl rfl (b_add (m := ((i + 1 : Nat) : Int)) ((i64w (by omega)).trans (by omega))) rfl ?_
      refine W_assign rfl rfl ?_
      refine W_nil ?_
      refine W_again (i + 1) (by show i + 1 ≤ X.length; omega) (by show X.length - (i + 1) < X.length - i; omega) (sub_cons rfl (sub_cons rfl (sub_cons rfl (sub_cons rfl (sub_cons rfl (sub_cons rfl (sub_nil _))))))) rfl (.refl _)
    · skip
      refine W_exit rfl ?_
      refine W_seq ?_
      refine W_anyC [(b10, .cells 62 90 (vaRow (newV [])))] (by kernel_rfl) ?_
      refine WC_one 0 (l' := #[true, false, false, false, false, false, false, false, false, false, false, false, false, false, false, false, false, false, false, false, false, false, false, false]) zH (by decide +kernel) rfl (by decide +kernel) ?_
      refine W_callp .nil Tryd.call11 rfl hT (vknown_pure ) ?_
      refine W_nil ?_
      refine WC_goal ?_
      refine WC_take 1 (l' := #[true, true, false, false, false, false, false, false, false, false, false, false, false, false, false, false, false, false, false, false, false, false, false, false]) rfl (by decide +kernel) (by decide +kernel) (by decide +kernel) rfl (by decide +kernel) (X_move rfl) rfl ?_
      refine WC_gyes 2 (l' := #[true, true, true, false, false, false, false, false, false, false, false, false, false, false, false, false, false, false, false, false, false, false, false, false]) rfl (by decide +kernel) (by decide +kernel) (by decide +kernel) rfl (by decide +kernel) rfl rfl (X_move rfl) rfl ?_
      refine WC_one 3 (l' := #[true, true, true, true, false, false, false, false, false, false, false, false, false, false, false, false, false, false, false, false, false, false, false, false]) zH (by decide +kernel) rfl (by decide +kernel) ?_
      refine W_gyes rfl rfl ?_
      obtain ⟨r2, hr2, ho2, hw2, hres⟩ := brun_go (V := (newV [])) (F := (2 + (fN : Int))) han hnl (by omega)
      refine W_call (.cons rfl (.cons rfl .nil)) Tryd.call12 rfl ((RGo_L (H := (b10, .cells 62 90 (vaRow (newV []))) :: (HB ++ ((b9, .cells 67 131 z109) :: (b35, .cells 59 10 (insRow (kb an))) :: H))) (br := br) (bf := bf) (r := brun (newV []) (2 + (fN : Int))) (nn := 2) (l := kb an) rfl (kb_c han) (kb_i han) (brun_ok han hnl hnw (by omega)) (hcl.up zH) (by decide) hT).hsub zH) ?_
      rintro v H' ⟨rfl, rfl⟩
      rw [hr2]
      refine W_nil ?_
      refine WC_goal ?_
      refine WC_gyes 4 (l' := #[true, true, true, true, true, false, false, false, false, false, false, false, false, false, false, false, false, false, false, false, false, false, false, false]) rfl (by decide +kernel) (by decide +kernel) (by decide +kernel) rfl (by decide +kernel) rfl rfl (X_field rfl fld44_0 rfl) rfl ?_
      refine WC_gyes 5 (l' := #[true, true, true, true, true, true, false, false, false, false, false, false, false, false, false, false, false, false, false, false, false, false, false, false]) rfl (by decide +kernel) (by decide +kernel) (by decide +kernel) rfl (by decide +kernel) rfl rfl (X_bin rfl rfl b_eql) rfl ?_
      rw [decide_eq_true (p := (trapOf r2).kind = 1) (by unfold trapOf; rw [if_pos ho2])]
      first | refine WC_take 6 (l' := #[true, true, true, true, true, true, true, false, false, false, false, false, false, false, false, false, false, false, false, false, false, false, false, false]) rfl (by decide +kernel) (by decide +kernel) (by decide +kernel) rfl (by decide +kernel) (X_pickt rfl rfl) rfl ?_ | refine WC_take 6 (l' := #[true, true, true, true, true, true, true, false, false, false, false, false, false, false, false, false, false, false, false, false, false, false, false, false]) rfl (by decide +kernel) (by decide +kernel) (by decide +kernel) rfl (by decide +kernel) (X_pickf rfl rfl) rfl ?_
      refine WC_take 7 (l' := #[true, true, true, true, true, true, true, true, false, false, false, false, false, false, false, false, false, false, false, false, false, false, false, false]) rfl (by decide +kernel) (by decide +kernel) (by decide +kernel) rfl (by decide +kernel) (X_move rfl) rfl ?_
      refine WC_gyes 8 (l' := #[true, true, true, true, true, true, true, true, true, false, false, false, false, false, false, false, false, false, false, false, false, false, false, false]) rfl (by decide +kernel) (by decide +kernel) (by decide +kernel) rfl (by decide +kernel) rfl rfl (X_move rfl) rfl ?_
      refine WC_one 9 (l' := #[true, true, true, true, true, true, true, true, true, true, false, false, false, false, false, false, false, false, false, false, false, false, false, false]) zH (by decide +kernel) rfl (by decide +kernel) ?_
      refine W_gyes rfl rfl ?_
      refine W_call (.cons rfl .nil) Tryd.call15 rfl ((RCode_L (H := (bf, .cells 101 90 (vaRow r2.V)) :: (b10, .cells 62 90 (vaRow (newV []))) :: (HB ++ ((b9, .cells 67 131 z109) :: (b35, .cells 59 10 (insRow (kb an))) :: H))) (br := br) (bf := bf) (r := r2)).hsub zH) ?_
      rintro v H' ⟨rfl, rfl⟩
      refine W_nil ?_
      refine WC_goal ?_
      refine WC_gyes 10 (l' := #[true, true, true, true, true, true, true, true, true, true, true, false, false, false, false, false, false, false, false, false, false, false, false, false]) rfl (by decide +kernel) (by decide +kernel) (by decide +kernel) rfl (by decide +kernel) rfl rfl (X_bin rfl rfl b_eql) rfl ?_
      rw [decide_eq_true (p := r2.why = 0) hw2]
      first | refine WC_take 11 (l' := #[true, true, true, true, true, true, true, true, true, true, true, true, false, false, false, false, false, false, false, false, false, false, false, false]) rfl (by decide +kernel) (by decide +kernel) (by decide +kernel) rfl (by decide +kernel) (X_pickt rfl rfl) rfl ?_ | refine WC_take 11 (l' := #[true, true, true, true, true, true, true, true, true, true, true, true, false, false, false, false, false, false, false, false, false, false, false, false]) rfl (by decide +kernel) (by decide +kernel) (by decide +kernel) rfl (by decide +kernel) (X_pickf rfl rfl) rfl ?_
      refine WC_take 12 (l' := #[true, true, true, true, true, true, true, true, true, true, true, true, true, false, false, false, false, false, false, false, false, false, false, false]) rfl (by decide +kernel) (by decide +kernel) (by decide +kernel) rfl (by decide +kernel) (X_move rfl) rfl ?_
      refine WC_gyes 13 (l' := #[true, true, true, true, true, true, true, true, true, true, true, true, true, true, false, false, false, false, false, false, false, false, false, false]) rfl (by decide +kernel) (by decide +kernel) (by decide +kernel) rfl (by decide +kernel) rfl rfl (X_move rfl) rfl ?_
      refine WC_gyes 15 (l' := #[true, true, true, true, true, true, true, true, true, true, true, true, true, true, false, true, false, false, false, false, false, false, false, false]) rfl (by decide +kernel) (by decide +kernel) (by decide +kernel) rfl (by decide +kernel) rfl rfl (X_move rfl) rfl ?_
      refine WC_gyes 16 (l' := #[true, true, true, true, true, true, true, true, true, true, true, true, true, true, false, true, true, false, false, false, false, false, false, false]) rfl (by decide +kernel) (by decide +kernel) (by decide +kernel) rfl (by decide +kernel) rfl rfl (X_bin rfl rfl (b_add (m := ((10 + an : Nat) : Int)) ((i64w (by omega)).trans (by omega)))) rfl ?_
      refine WC_gyes 17 (l' := #[true, true, true, true, true, true, true, true, true, true, true, true, true, true, false, true, true, true, false, false, false, false, false, false]) rfl (by decide +kernel) (by decide +kernel) (by decide +kernel) rfl (by decide +kernel) rfl rfl (X_fieldAddr rfl fld62_0 (by decide)) rfl ?_
      refine WC_gyes 18 (l' := #[true, true, true, true, true, true, true, true, true, true, true, true, true, true, false, true, true, true, true, false, false, false, false, false]) rfl (by decide +kernel) (by decide +kernel) (by decide +kernel) rfl (by decide +kernel) rfl rfl (X_indexAddrA (j := (10 + an)) rfl rfl ty60 ty52 (by first | rfl | omega) (by first | decide | omega | simp) rfl) rfl ?_
      refine WC_gyes 19 (l' := #[true, true, true, true, true, true, true, true, true, true, true, true, true, true, false, true, true, true, true, true, false, false, false, false]) rfl (by decide +kernel) (by decide +kernel) (by decide +kernel) rfl (by decide +kernel) rfl rfl (X_fieldAddr rfl fld52_4 (by decide)) rfl ?_
      refine WC_gyes 20 (l' := #[true, true, true, true, true, true, true, true, true, true, true, true, true, true, false, true, true, true, true, true, true, false, false, false]) rfl (by decide +kernel) (by decide +kernel) (by decide +kernel) rfl (by decide +kernel) rfl rfl (X_load (v := .int .u64 ((newV []).getD (10 + an) zeroV).n) rfl ty28 rfl (Cell.own (b := b10) zM (va_n4 (by rw [hnl]; omega)))) rfl ?_
      refine WC_one 14 (l' := #[true, true, true, true, true, true, true, true, true, true, true, true, true, true, true, true, true, true, true, true, true, false, false, false]) zH (by decide +kernel) rfl (by decide +kernel) ?_
      refine W_gyes rfl rfl ?_
      refine W_call (.cons rfl .nil) Tryd.call16 rfl ((RResult_L (H := (bf, .cells 101 90 (vaRow r2.V)) :: (b10, .cells 62 90 (vaRow (newV []))) :: (HB ++ ((b9, .cells 67 131 z109) :: (b35, .cells 59 10 (insRow (kb an))) :: H))) (br := br) (bf := bf) (r := r2)).hsub zH) ?_
      rintro v H' ⟨rfl, rfl⟩
      refine W_nil ?_
      refine WC_goal ?_
      refine WC_gyes 21 (l' := #[true, true, true, true, true, true, true, true, true, true, true, true, true, true, true, true, true, true, true, true, true, true, false, false]) rfl (by decide +kernel) (by decide +kernel) (by decide +kernel) rfl (by decide +kernel) rfl rfl (X_bin rfl rfl b_eql) rfl ?_
      rw [decide_eq_true (p := r2.res = ((newV []).getD (10 + an) zeroV).n) hres]
      first | refine WC_take 22 (l' := #[true, true, true, true, true, true, true, true, true, true, true, true, true, true, true, true, true, true, true, true, true, true, true, false]) rfl (by decide +kernel) (by decide +kernel) (by decide +kernel) rfl (by decide +kernel) (X_pickt rfl rfl) rfl ?_ | refine WC_take 22 (l' := #[true, true, true, true, true, true, true, true, true, true, true, true, true, true, true, true, true, true, true, true, true, true, true, false]) rfl (by decide +kernel) (by decide +kernel) (by decide +kernel) rfl (by decide +kernel) (X_pickf rfl rfl) rfl ?_
      refine WC_take 23 (l' := #[true, true, true, true, true, true, true, true, true, true, true, true, true, true, true, true, true, true, true, true, true, true, true, true]) rfl (by decide +kernel) (by decide +kernel) (by decide +kernel) rfl (by decide +kernel) (X_assign rfl) rfl ?_
      refine WC_done zH (by decide +kernel) ?_
      refine W_ret1m (H2 := H) Tryd.results5 rfl (.nil _) zH ?_
      exact ⟨rfl, rfl⟩
end Go.Proofs.YtcmfldfeakmdoaaDoor
