/-
  Own work: contracts of functions that the statement reaches, and plain facts on what they compute; each theorem says its conditions.
-/
import Derived.Test.YtphdlpmnidiliaaGreatDoorXpT6
import Derived.Test.YtphdlpmnidiliaaGreatDoorXpS1
import Derived.Test.YtphdlpmnidiliaaGreatDoorXpA
set_option linter.all false
set_option linter.unusedSimpArgs false
set_option linter.unusedVariables false
namespace Go.Proofs.YtphdlpmnidiliaaGreatDoor
open Go Go.Sl
attribute [local irreducible] W
set_option maxHeartbeats 4000000 in
theorem dxUnlink_L {w0 : World} {H : Heap} {HR : Heap} {x : Xm} {E : List Elm} {cs : List Value} (hv : DxV w0 HR x E cs) (hHR : HSub H HR) {i : Nat} {e : Elm} (he : E[i]? = some e) (hk : e.key ∈ keyL x.C) (hn : (keyL x.C).Nodup) (hEl : E.length ≤ 1000) (hCl : x.C.length ≤ 1000) (hul : x.used.length ≤ 1000)  : LCalls Tryz.prog w0 90 #[.agg (List.toArray cs), .int .i64 (i : Int)] (H) (fun v H' => ∃ cs1 X, v = .agg (List.toArray cs1) ∧ DxV w0 (X ++ HR) ((x.unlink e.key).1) (E.set i { e with linked := false }) cs1 ∧ H' = X ++ H) := by
  obtain ⟨ads, caps, ade, cape, adc, capc, adu, capu, rfl, hS0, hSc, hE0, hEc, hC0, hCc, hU0, hUc⟩ := hv
  have hS := hS0.up hHR
  have hE := hE0.up hHR
  have hC := hC0.up hHR
  have hU := hU0.up hHR
  have hi := (List.getElem?_eq_some_iff.1 he).1
  obtain ⟨qk, pk, eqk, hkc⟩ := Holds.row elmC_len (by decide) hE he
  obtain ⟨D, hD⟩ : ∃ D, D = drop1O x.used e.key := ⟨_, rfl⟩
  have hDl : D.length ≤ 1000 := by rw [hD]; exact Nat.le_trans (List.length_filter_le _ _) hul
  refine L_enter (l := [.agg (List.toArray [.int .i64 (x.kind : Int), .int .i64 (x.entries : Int), .int .i64 (x.words : Int), .bool x.closed, .slice ads (x.L).length caps, .slice ade (E).length cape, .slice adc (x.C).length capc, .slice adu (x.used).length capu]), .int .i64 (i : Int)]) Tryz.func90 rfl Tryz.ntmps90 rfl rfl ?_
  refine W_sr ?_
  refine W_box (l := [.int .i64 (x.kind : Int), .int .i64 (x.entries : Int), .int .i64 (x.words : Int), .bool x.closed, .slice ads (x.L).length caps, .slice ade (E).length cape, .slice adc (x.C).length capc, .slice adu (x.used).length capu]) rfl rfl rfl (fun b2 => ?_)
  refine W_alloc (l := [.int .i64 0, .int .i64 0, .int .i64 0, .bool false, .slice none 0 0, .slice none 0 0, .slice none 0 0, .slice none 0 0]) ty56 rfl rfl (fun b4 => ?_)
  refine W_nil ?_
  refine W_sr ?_
  refine W_fieldAddr rfl fld56_5 (by decide) rfl ?_
  refine W_load (v := .slice ade (E).length cape) rfl ty53 rfl (Cell.own (b := b2) zM rfl) rfl ?_
  refine W_move rfl rfl ?_
  refine W_indexAddr (b := qk) (o := pk) (j := i) (by rw [← eqk]; rfl) rfl ty53 ty71 rfl (by omega) rfl rfl ?_
  refine W_loadA (vs := elmC e) rfl ty71 rfl rfl (hkc.up zH) rfl ?_
  refine W_alloc (l := [.int .u64 0, .int .i64 0, .int .i64 0, .int .u64 0, .int .u64 0, .int .u64 0, .int .u64 0, .bool false]) ty71 rfl rfl (fun b5 => ?_)
  refine W_storeA (l' := elmC e) rfl rfl ty71 rfl rfl (b := b5) zM (by exact Nat.le_refl 8) rfl zU ?_
  refine W_nil ?_
  refine W_sr ?_
  refine W_fieldAddr rfl fld71_4 (by decide) rfl ?_
  refine W_store (l' := elmC { e with linked := false }) rfl rfl ty4 rfl rfl (b := b5) zM rfl rfl zU ?_
  refine W_nil ?_
  refine W_sr ?_
  refine W_fieldAddr rfl fld56_6 (by decide) rfl ?_
  refine W_load (v := .slice adc (x.C).length capc) rfl ty54 rfl (Cell.own (b := b2) zM rfl) rfl ?_
  refine W_fieldAddr rfl fld71_0 (by decide) rfl ?_
  refine W_load (v := .int .u64 e.key) rfl ty22 rfl (Cell.own (b := b5) zM rfl) rfl ?_
  refine W_call (.cons rfl (.cons rfl .nil)) Tryz.call110 rfl (LCalls.hsub (dkDel_L (hC.up zH) hCl hCc hn hk (H := (b2, .cells 56 8 [.int .i64 (x.kind : Int), .int .i64 (x.entries : Int), .int .i64 (x.words : Int), .bool x.closed, .slice ads (x.L).length caps, .slice ade (E).length cape, .slice adc (x.C).length capc, .slice adu (x.used).length capu]) :: (b5, .cells 71 8 (elmC { e with linked := false })) :: (b4, .cells 56 8 [.int .i64 0, .int .i64 0, .int .i64 0, .bool false, .slice none 0 0, .slice none 0 0, .slice none 0 0, .slice none 0 0]) :: H)) zH) ?_
  rintro v H' ⟨ad2, cap2, X1, rfl, hO1, hc2, rfl⟩
  refine W_move rfl rfl ?_
  refine W_extract rfl rfl rfl ?_
  refine W_extract rfl rfl rfl ?_
  refine W_fieldAddr rfl fld56_6 (by decide) rfl ?_
  refine W_store (l' := [.int .i64 (x.kind : Int), .int .i64 (x.entries : Int), .int .i64 (x.words : Int), .bool x.closed, .slice ads (x.L).length caps, .slice ade (E).length cape, .slice ad2 (delC x.C e.key).length cap2, .slice adu (x.used).length capu]) rfl rfl ty54 rfl rfl (b := b2) zM rfl rfl zU ?_
  refine W_nil ?_
  refine W_sr ?_
  refine W_loadB (vs := [.int .i64 (x.kind : Int), .int .i64 (x.entries : Int), .int .i64 (x.words : Int), .bool x.closed, .slice ads (x.L).length caps, .slice ade (E).length cape, .slice ad2 (delC x.C e.key).length cap2, .slice adu (x.used).length capu]) rfl ty56 rfl (b := b2) zM rfl rfl rfl ?_
  refine W_fieldAddr rfl fld71_0 (by decide) rfl ?_
  refine W_load (v := .int .u64 e.key) rfl ty22 rfl (Cell.own (b := b5) zM rfl) rfl ?_
  refine W_call (.cons rfl (.cons rfl .nil)) Tryz.call59 rfl (LCalls.hsub (dxUse_L (HR := X1 ++ HR) (x := (Xm.mk x.kind x.entries x.words x.closed x.L (delC x.C e.key) x.used)) (E := E) (k := e.key) ⟨ads, caps, ade, cape, ad2, cap2, adu, capu, rfl, hS0.up (.dropS (.refl _)), hSc, hE0.up (.dropS (.refl _)), hEc, hO1.toHolds (fun p hp => by repeat (first | exact List.mem_append_left _ hp | apply List.mem_append_right | apply List.mem_cons_of_mem)), hc2, hU0.up (.dropS (.refl _)), hUc⟩ ((show HSub _ (X1 ++ H) from zH).trans (.app (.here _) hHR)) hul (H := (b2, .cells 56 8 [.int .i64 (x.kind : Int), .int .i64 (x.entries : Int), .int .i64 (x.words : Int), .bool x.closed, .slice ads (x.L).length caps, .slice ade (E).length cape, .slice ad2 (delC x.C e.key).length cap2, .slice adu (x.used).length capu]) :: (b5, .cells 71 8 (elmC { e with linked := false })) :: (b4, .cells 56 8 [.int .i64 0, .int .i64 0, .int .i64 0, .bool false, .slice none 0 0, .slice none 0 0, .slice none 0 0, .slice none 0 0]) :: (X1 ++ H))) zH) ?_
  rintro v H' ⟨cs2, X2, rfl, ⟨ad3, cap3, ad4, cap4, ad5, cap5, ad6, cap6, rfl, k1, k2, k3, k4, k5, k6, k7, k8⟩, rfl⟩
  dsimp only [Xm.use] at k1 k2 k3 k4 k5 k6 k7 k8 ⊢
  rw [← hD] at k7 k8 ⊢
  refine W_storeA (l' := [.int .i64 (x.kind : Int), .int .i64 (x.entries : Int), .int .i64 (x.words : Int), .bool x.closed, .slice ad3 (x.L).length cap3, .slice ad4 (E).length cap4, .slice ad5 (delC x.C e.key).length cap5, .slice ad6 (D ++ [e.key]).length cap6]) rfl rfl ty56 rfl rfl (b := b2) zM (by exact Nat.le_refl 8) rfl zU ?_
  refine W_nil ?_
  refine W_sr ?_
  refine W_buildSlice (l := []) ty42 ty22 .nil rfl rfl rfl rfl rfl rfl rfl (fun b25 => ?_)
  refine W_fieldAddr rfl fld56_7 (by decide) rfl ?_
  refine W_load (v := .slice ad6 (D ++ [e.key]).length cap6) rfl ty42 rfl (Cell.own (b := b2) zM rfl) rfl ?_
  refine W_fieldAddr rfl fld56_7 (by decide) rfl ?_
  refine W_load (v := .slice ad6 (D ++ [e.key]).length cap6) rfl ty42 rfl (Cell.own (b := b2) zM rfl) rfl ?_
  refine W_len rfl ty42 rfl rfl ?_
  refine W_bin rfl rfl (b_sub (m := (D.length : Int)) (by rw [List.length_append, List.length_singleton, i64w (by omega)]; omega)) rfl ?_
  obtain ⟨b0, o0, rfl, _⟩ := k7.at (i := D.length) (v := .int .u64 e.key) (by rw [List.getElem?_map, List.getElem?_append_right (Nat.le_refl _), Nat.sub_self]; rfl)
  refine W_slice0 (hh := D.length) rfl ty42 ty22 rfl ⟨_, rfl⟩ (by rw [List.length_append] at k8; omega) rfl ?_
  refine W_append (news := D.map (Value.int .u64)) (m := D.length) (HB := [(b25, .cells 22 0 [])]) (H0 := (b2, .cells 56 8 [.int .i64 (x.kind : Int), .int .i64 (x.entries : Int), .int .i64 (x.words : Int), .bool x.closed, .slice ad3 (x.L).length cap3, .slice ad4 (E).length cap4, .slice ad5 (delC x.C e.key).length cap5, .slice (some ⟨b0, o0, none⟩) (D ++ [e.key]).length cap6]) :: (b5, .cells 71 8 (elmC { e with linked := false })) :: (b4, .cells 56 8 [.int .i64 0, .int .i64 0, .int .i64 0, .bool false, .slice none 0 0, .slice none 0 0, .slice none 0 0, .slice none 0 0]) :: (X2 ++ (X1 ++ H))) rfl rfl ty42 ty22 rfl (by decide) (OwnS.own (n := 0) (cap := 0) (xs := []) rfl (Nat.le_refl _) (Nat.zero_le _)) (by simp) (by have := (k7.up (show HSub (X2 ++ (X1 ++ H)) (X2 ++ (X1 ++ HR)) from .app (.here _) (.app (.here _) hHR))).take D.length; rw [List.map_append, List.take_left' (List.length_map _)] at this; exact this.up zH) (rowU_one _) (by simp only [maxLen]; omega) (by omega) zH rfl (fun v3 X3 hO3 => ?_)
  rw [Nat.zero_add] at hO3
  simp only [List.nil_append] at hO3
  obtain ⟨ad7, cap7, rfl, hc7, _⟩ := hO3.shape
  refine W_fieldAddr rfl fld56_7 (by decide) rfl ?_
  refine W_store (l' := [.int .i64 (x.kind : Int), .int .i64 (x.entries : Int), .int .i64 (x.words : Int), .bool x.closed, .slice ad3 (x.L).length cap3, .slice ad4 (E).length cap4, .slice ad5 (delC x.C e.key).length cap5, .slice ad7 (D).length cap7]) rfl rfl ty42 rfl rfl (b := b2) zM rfl rfl zU ?_
  refine W_nil ?_
  refine W_sr ?_
  refine W_loadB (vs := [.int .i64 (x.kind : Int), .int .i64 (x.entries : Int), .int .i64 (x.words : Int), .bool x.closed, .slice ad3 (x.L).length cap3, .slice ad4 (E).length cap4, .slice ad5 (delC x.C e.key).length cap5, .slice ad7 (D).length cap7]) rfl ty56 rfl (b := b2) zM rfl rfl rfl ?_
  refine W_move rfl rfl ?_
  refine W_loadB (vs := elmC { e with linked := false }) rfl ty71 rfl (b := b5) zM rfl rfl rfl ?_
  refine W_call (.cons rfl (.cons rfl (.cons rfl .nil))) Tryz.call89 rfl (LCalls.hsub (dxset_L (HR := X3 ++ (X2 ++ (X1 ++ HR))) (x := (Xm.mk x.kind x.entries x.words x.closed x.L (delC x.C e.key) D)) (E := E) (i := i) (o := { e with linked := false }) ⟨ad3, cap3, ad4, cap4, ad5, cap5, ad7, cap7, rfl, k1.up (.dropS (.refl _)), k2, k3.up (.dropS (.refl _)), k4, k5.up (.dropS (.refl _)), k6, hO3.toHolds (fun p hp => by repeat (first | exact List.mem_append_left _ hp | apply List.mem_append_right | apply List.mem_cons_of_mem)), hc7⟩ ((show HSub _ (X3 ++ (X2 ++ (X1 ++ H))) from zH).trans (.app (.here _) (.app (.here _) (.app (.here _) hHR)))) hi hEl (H := (b2, .cells 56 8 [.int .i64 (x.kind : Int), .int .i64 (x.entries : Int), .int .i64 (x.words : Int), .bool x.closed, .slice ad3 (x.L).length cap3, .slice ad4 (E).length cap4, .slice ad5 (delC x.C e.key).length cap5, .slice ad7 (D).length cap7]) :: (b5, .cells 71 8 (elmC { e with linked := false })) :: (b4, .cells 56 8 [.int .i64 0, .int .i64 0, .int .i64 0, .bool false, .slice none 0 0, .slice none 0 0, .slice none 0 0, .slice none 0 0]) :: (X3 ++ (X2 ++ (X1 ++ H))))) zH) ?_
  rintro v H' ⟨cs4, X4, rfl, h4, rfl⟩
  have h4o := h4
  obtain ⟨ad8, cap8, ad9, cap9, ad10, cap10, ad11, cap11, rfl, _⟩ := h4o
  refine W_storeA (l' := [.int .i64 (x.kind : Int), .int .i64 (x.entries : Int), .int .i64 (x.words : Int), .bool x.closed, .slice ad8 (x.L).length cap8, .slice ad9 (E.set i { e with linked := false }).length cap9, .slice ad10 (delC x.C e.key).length cap10, .slice ad11 (D).length cap11]) rfl rfl ty56 rfl rfl (b := b4) zM (by exact Nat.le_refl 8) rfl zU ?_
  refine W_nil ?_
  refine W_ret1cO (H2 := X4 ++ (X3 ++ (X2 ++ (X1 ++ H)))) Tryz.results90 rfl (.nil _) ty56 rfl zM rfl zH ?_
  refine ⟨_, X4 ++ (X3 ++ (X2 ++ X1)), rfl, ?_, by simp only [List.append_assoc]⟩
  simp only [List.append_assoc]
  unfold Xm.unlink
  rw [← hD]
  exact h4
set_option maxHeartbeats 1000000 in
theorem dxLen_q {w0 : World} {H : Heap} {HR : Heap} {x : Xm} {E : List Elm} {cs : List Value} (hv : DxV w0 HR x E cs) (hHR : HSub H HR)  : PureAt Tryz.prog w0 H 28 [.agg (List.toArray cs)] (.int .i64 (x.used.length : Int)) := by
  obtain ⟨ads, caps, ade, cape, adc, capc, adu, capu, rfl, hS0, hSc, hE0, hEc, hC0, hCc, hU0, hUc⟩ := hv
  have hS := hS0.up hHR
  have hE := hE0.up hHR
  have hC := hC0.up hHR
  have hU := hU0.up hHR
  refine L_enter Tryz.func28 rfl Tryz.ntmps28 rfl rfl ?_
  refine W_sr ?_
  refine W_box (l := [.int .i64 (x.kind : Int), .int .i64 (x.entries : Int), .int .i64 (x.words : Int), .bool x.closed, .slice ads (x.L).length caps, .slice ade (E).length cape, .slice adc (x.C).length capc, .slice adu (x.used).length capu]) rfl rfl rfl (fun b1 => ?_)
  refine W_assign rfl rfl ?_
  refine W_nil ?_
  refine W_sr ?_
  refine W_fieldAddr rfl fld56_7 (by decide) rfl ?_
  refine W_load (v := .slice adu (x.used).length capu) rfl ty42 rfl (Cell.own (b := b1) zM rfl) rfl ?_
  refine W_len rfl ty42 rfl rfl ?_
  refine W_assign rfl rfl ?_
  refine W_nil ?_
  refine W_ret1m (H2 := H) Tryz.results28 rfl (.nil _) zH ?_
  exact ⟨rfl, rfl⟩
def linkK (E : List Elm) : List Int := (E.filter (·.linked)).map (·.key)
theorem linkK_hit {E : List Elm} {i : Nat} {e : Elm} (h : E[i]? = some e) (hl : e.linked = true) : ((E.take (i + 1)).filter (·.linked)).map (·.key) = ((E.take i).filter (·.linked)).map (·.key) ++ [e.key] := by
  rw [takeAt' h, List.filter_append, List.filter_cons_of_pos (by simpa using hl)]; simp
theorem linkK_miss {E : List Elm} {i : Nat} {e : Elm} (h : E[i]? = some e) (hl : ¬ e.linked = true) : ((E.take (i + 1)).filter (·.linked)).map (·.key) = ((E.take i).filter (·.linked)).map (·.key) := by
  rw [takeAt' h, List.filter_append, List.filter_cons_of_neg (by simpa using hl)]; simp
noncomputable def keysD (x : Xm) (E : List Elm) : List Int := if x.kind = 2 then x.used else if x.kind = 1 then keysC x.C else linkK E
set_option maxHeartbeats 2000000 in
theorem dxKeys_L {w0 : World} {H : Heap} {HR : Heap} {x : Xm} {E : List Elm} {cs : List Value} (hv : DxV w0 HR x E cs) (hHR : HSub H HR) (hEl : E.length ≤ 1000) (hCl : x.C.length ≤ 1000)  : LCalls Tryz.prog w0 27 #[.agg (List.toArray cs)] (H) (fun v H' => ∃ ad cap X, v = .slice ad (keysD x E).length cap ∧ Holds w0 (X ++ HR) ad ((keysD x E).map (Value.int .u64)) ∧ H' = X ++ H) := by
  obtain ⟨ads, caps, ade, cape, adc, capc, adu, capu, rfl, hS0, hSc, hE0, hEc, hC0, hCc, hU0, hUc⟩ := hv
  have hS := hS0.up hHR
  have hE := hE0.up hHR
  have hC := hC0.up hHR
  have hU := hU0.up hHR
  refine L_enter (l := [.agg (List.toArray [.int .i64 (x.kind : Int), .int .i64 (x.entries : Int), .int .i64 (x.words : Int), .bool x.closed, .slice ads (x.L).length caps, .slice ade (E).length cape, .slice adc (x.C).length capc, .slice adu (x.used).length capu])]) Tryz.func27 rfl Tryz.ntmps27 rfl rfl ?_
  refine W_sr ?_
  refine W_box (l := [.int .i64 (x.kind : Int), .int .i64 (x.entries : Int), .int .i64 (x.words : Int), .bool x.closed, .slice ads (x.L).length caps, .slice ade (E).length cape, .slice adc (x.C).length capc, .slice adu (x.used).length capu]) rfl rfl rfl (fun b1 => ?_)
  refine W_assign rfl rfl ?_
  refine W_nil ?_
  refine W_seq ?_
  refine W_sr ?_
  refine W_fieldAddr rfl fld56_0 (by decide) rfl ?_
  refine W_load (v := .int .i64 (x.kind : Int)) rfl ty3 rfl (Cell.own (b := b1) zM rfl) rfl ?_
  refine W_bin rfl rfl b_eql rfl ?_
  refine W_nil ?_
  refine W_condPS (p := x.kind = 2) rfl (by rw [decide_eq_true_eq]; omega) (fun q0 => ?_) (fun q0 => ?_)
  · skip
    refine W_sr ?_
    refine W_fieldAddr rfl fld56_7 (by decide) rfl ?_
    refine W_load (v := .slice adu (x.used).length capu) rfl ty42 rfl (Cell.own (b := b1) zM rfl) rfl ?_
    refine W_assign rfl rfl ?_
    refine W_nil ?_
    refine W_ret1m (H2 := H) Tryz.results27 rfl (.nil _) zH ?_
    refine ⟨adu, capu, [], ?_, ?_, rfl⟩ <;> (rw [show keysD x E = x.used from if_pos q0])
    exact hU0
  · skip
    refine W_skip ?_
    refine W_seq ?_
    refine W_sr ?_
    refine W_fieldAddr rfl fld56_0 (by decide) rfl ?_
    refine W_load (v := .int .i64 (x.kind : Int)) rfl ty3 rfl (Cell.own (b := b1) zM rfl) rfl ?_
    refine W_bin rfl rfl b_eql rfl ?_
    refine W_nil ?_
    refine W_condPS (p := x.kind = 1) rfl (by rw [decide_eq_true_eq]; omega) (fun q1 => ?_) (fun q1 => ?_)
    · skip
      refine W_sr ?_
      refine W_fieldAddr rfl fld56_6 (by decide) rfl ?_
      refine W_load (v := .slice adc (x.C).length capc) rfl ty54 rfl (Cell.own (b := b1) zM rfl) rfl ?_
      refine W_call (.cons rfl (.cons rfl .nil)) Tryz.call68 rfl (LCalls.hsub (dkKeys_L (hC.up zH) hCl (H := (b1, .cells 56 8 [.int .i64 (x.kind : Int), .int .i64 (x.entries : Int), .int .i64 (x.words : Int), .bool x.closed, .slice ads (x.L).length caps, .slice ade (E).length cape, .slice adc (x.C).length capc, .slice adu (x.used).length capu]) :: H)) zH) ?_
      rintro v H' ⟨X, hO, rfl⟩
      refine W_assign rfl rfl ?_
      refine W_nil ?_
      refine W_ret1m (H2 := X ++ H) Tryz.results27 rfl (.nil _) zH ?_
      obtain ⟨ad, cap, rfl, _, _⟩ := hO.shape
      refine ⟨ad, cap, X, ?_, ?_, rfl⟩ <;> (rw [show keysD x E = keysC x.C by unfold keysD; rw [if_neg q0, if_pos q1]])
      exact hO.toHolds (fun p hp => List.mem_append_left _ hp)
    · skip
      refine W_skip ?_
      refine W_sr ?_
      refine W_assign rfl rfl ?_
      refine W_nil ?_
      refine W_seq ?_
      refine W_sr ?_
      refine W_assign rfl rfl ?_
      refine W_nil ?_
      refine W_block ?_
      refine W_loopC (X := (Nat × Value × Heap)) [(1, _)] (fun (z : (Nat × Value × Heap)) => [(3, z.2.1), (4, .int .i64 (z.1 : Int))]) (fun _ => _) (fun (z : (Nat × Value × Heap)) => z.2.2 ++ ((b1, .cells 56 8 [.int .i64 (x.kind : Int), .int .i64 (x.entries : Int), .int .i64 (x.words : Int), .bool x.closed, .slice ads (x.L).length caps, .slice ade (E).length cape, .slice adc (x.C).length capc, .slice adu (x.used).length capu]) :: H)) (fun (z : (Nat × Value × Heap)) => z.1 ≤ E.length ∧ OwnS 22 1 z.2.1 (((E.take z.1).filter (·.linked)).map (·.key)).length ((((E.take z.1).filter (·.linked)).map (·.key)).map (Value.int .u64)) z.2.2) (fun (z : (Nat × Value × Heap)) => E.length - z.1) (0, .slice none 0 0, []) ⟨Nat.zero_le _, .nil⟩ (sub_cons rfl (sub_nil _)) (sub_cons rfl (sub_cons rfl (sub_nil _))) rfl zH ?_
      rintro ⟨i, v, X⟩ ⟨hi, hO⟩
      dsimp only at hi hO ⊢
      have hql : (((E.take i).filter (·.linked)).map (·.key)).length ≤ 1000 := by rw [List.length_map]; exact Nat.le_trans (List.length_filter_le _ _) (by rw [List.length_take]; omega)
      simp only [List.cons_append, List.nil_append]
      refine W_seq ?_
      refine W_sr ?_
      refine W_move rfl rfl ?_
      refine W_fieldAddr rfl fld56_5 (by decide) rfl ?_
      refine W_load (v := .slice ade (E).length cape) rfl ty53 rfl (Cell.own (b := b1) zM rfl) rfl ?_
      refine W_len rfl ty53 rfl rfl ?_
      refine W_bin rfl rfl b_lss rfl ?_
      refine W_nil ?_
      refine W_condPS (p := (i : Int) < (E.length : Int)) rfl (by simp) (fun q2 => ?_) (fun q2 => ?_)
      · skip
        refine W_skip ?_
        refine W_seq ?_
        refine W_block ?_
        refine W_sr ?_
        obtain ⟨e, he⟩ : ∃ e, E[i]? = some e := ⟨_, List.getElem?_eq_getElem (by omega)⟩
        obtain ⟨qk, pk, eqk, hkc⟩ := Holds.row elmC_len (by decide) hE he
        refine W_fieldAddr rfl fld56_5 (by decide) rfl ?_
        refine W_load (v := .slice ade (E).length cape) rfl ty53 rfl (Cell.own (b := b1) zM rfl) rfl ?_
        refine W_move rfl rfl ?_
        refine W_indexAddr (b := qk) (o := pk) (j := i) (by rw [← eqk]; rfl) rfl ty53 ty71 rfl (by omega) rfl rfl ?_
        refine W_fieldAddr rfl fld71_4 (by decide) rfl ?_
        refine W_load (v := .bool e.linked) rfl ty4 rfl ((hkc 7 (.bool e.linked) (rfl)).up zH) rfl ?_
        by_cases hl : e.linked = true
        · skip
          rw [hl]
          refine W_nil ?_
          refine W_condT rfl rfl ?_
          refine W_region ?_
          refine W_move rfl rfl ?_
          refine W_fieldAddr rfl fld56_5 (by decide) rfl ?_
          refine W_load (v := .slice ade (E).length cape) rfl ty53 rfl (Cell.own (b := b1) zM rfl) rfl ?_
          refine W_move rfl rfl ?_
          refine W_indexAddr (b := qk) (o := pk) (j := i) (by rw [← eqk]; rfl) rfl ty53 ty71 rfl (by omega) rfl rfl ?_
          refine W_fieldAddr rfl fld71_0 (by decide) rfl ?_
          refine W_load (v := .int .u64 e.key) rfl ty22 rfl ((hkc 0 (.int .u64 e.key) (rfl)).up zH) rfl ?_
          refine W_buildSlice (l := [.int .u64 e.key]) ty42 ty22 (.cons rfl rfl rfl rfl rfl .nil) rfl rfl rfl rfl rfl rfl rfl (fun b36 => ?_)
          refine W_append (news := [.int .u64 e.key]) (m := 1) (HB := X) (H0 := (b36, .cells 22 1 [.int .u64 e.key]) :: (b1, .cells 56 8 [.int .i64 (x.kind : Int), .int .i64 (x.entries : Int), .int .i64 (x.words : Int), .bool x.closed, .slice ads (x.L).length caps, .slice ade (E).length cape, .slice adc (x.C).length capc, .slice adu (x.used).length capu]) :: H) rfl rfl ty42 ty22 rfl (by decide) hO rfl (Holds.own (b := b36) zM) rfl (by simp only [maxLen]; omega) (by omega) zH rfl (fun v' X' hO' => ?_)
          refine W_assign rfl rfl ?_
          refine W_nil ?_
          refine W_blk ?_
          refine W_region ?_
          refine W_move rfl rfl ?_
          refine W_bin rfl rfl (b_add (m := ((i + 1 : Nat) : Int)) ((i64w (by omega)).trans (by omega))) rfl ?_
          refine W_assign rfl rfl ?_
          refine W_nil ?_
          refine W_again (i + 1, v', X') ⟨by show i + 1 ≤ E.length; omega, by show OwnS 22 1 v' (((E.take (i + 1)).filter (·.linked)).map (·.key)).length ((((E.take (i + 1)).filter (·.linked)).map (·.key)).map (Value.int .u64)) X'; rw [linkK_hit he hl, List.length_append, List.map_append]; exact hO'⟩ (by show E.length - (i + 1) < E.length - i; omega) (sub_cons rfl (sub_cons rfl (sub_cons rfl (sub_nil _)))) rfl zH
        · skip
          rw [show e.linked = false by cases h : e.linked with | true => exact absurd h hl | false => rfl]
          refine W_nil ?_
          refine W_condF rfl rfl ?_
          refine W_skip ?_
          refine W_blk ?_
          refine W_region ?_
          refine W_move rfl rfl ?_
          refine W_bin rfl rfl (b_add (m := ((i + 1 : Nat) : Int)) ((i64w (by omega)).trans (by omega))) rfl ?_
          refine W_assign rfl rfl ?_
          refine W_nil ?_
          refine W_again (i + 1, v, X) ⟨by show i + 1 ≤ E.length; omega, by show OwnS 22 1 v (((E.take (i + 1)).filter (·.linked)).map (·.key)).length ((((E.take (i + 1)).filter (·.linked)).map (·.key)).map (Value.int .u64)) X; rw [linkK_miss he hl]; exact hO⟩ (by show E.length - (i + 1) < E.length - i; omega) (sub_cons rfl (sub_cons rfl (sub_cons rfl (sub_nil _)))) rfl zH
      · skip
        refine W_exit rfl ?_
        refine W_sr ?_
        refine W_move rfl rfl ?_
        refine W_assign rfl rfl ?_
        refine W_nil ?_
        refine W_ret1m (H2 := X ++ H) Tryz.results27 rfl (.nil _) zH ?_
        obtain rfl : i = E.length := by omega
        rw [List.take_length] at hO
        obtain ⟨ad, cap, rfl, _, _⟩ := hO.shape
        refine ⟨ad, cap, X, ?_, ?_, rfl⟩ <;> (rw [show keysD x E = linkK E by unfold keysD; rw [if_neg q0, if_neg q1]])
        · rfl
        · exact hO.toHolds (fun p hp => List.mem_append_left _ hp)
end Go.Proofs.YtphdlpmnidiliaaGreatDoor
namespace Go.Proofs.YtphdlpmnidiliaaGreatDoor
open Go Go.Sl
attribute [local irreducible] W
set_option maxHeartbeats 4000000 in
theorem dxlink_L {w0 : World} {H : Heap} {HR : Heap} {x : Xm} {E : List Elm} {cs : List Value} (hv : DxV w0 HR x E cs) (hHR : HSub H HR) {k : Int} {ws : List Int} {adw : Option Addr} {capw i : Nat} {s : Slt} (hk : AreOk x.L) (h3 : ∀ s ∈ x.L, s.st = 0 ∨ s.st = 1 ∨ s.st = 2) (hf : firstF x.L = some i) (hs : x.L[i]? = some s) (hno : k ∉ keyL x.C) (hEl : E.length ≤ 900) (hC64 : x.C.length < 64) (hul : x.used.length ≤ 1000) (hrow : Holds w0 H adw (ws.map (Value.int .u64)))  : LCalls Tryz.prog w0 55 #[.agg (List.toArray cs), .int .u64 k, .slice adw ws.length capw] (H) (fun v H' => ∃ cs1 X, v = .tuple #[.agg (List.toArray cs1), .int .i64 (E.length : Int)] ∧ DxV w0 (X ++ HR) ((x.link (Cel.mk k (W4.of ws))).1) (E ++ [(Elm.mk k (i : Int) s.own.gen (W4.of ws) true)]) cs1 ∧ H' = X ++ H) := by
  obtain ⟨ads, caps, ade, cape, adc, capc, adu, capu, rfl, hS0, hSc, hE0, hEc, hC0, hCc, hU0, hUc⟩ := hv
  have hS := hS0.up hHR
  have hE := hE0.up hHR
  have hC := hC0.up hHR
  have hU := hU0.up hHR
  refine L_enter (l := [.agg (List.toArray [.int .i64 (x.kind : Int), .int .i64 (x.entries : Int), .int .i64 (x.words : Int), .bool x.closed, .slice ads (x.L).length caps, .slice ade (E).length cape, .slice adc (x.C).length capc, .slice adu (x.used).length capu]), .int .u64 k, .slice adw ws.length capw]) Tryz.func55 rfl Tryz.ntmps55 rfl rfl ?_
  refine W_sr ?_
  refine W_box (l := [.int .i64 (x.kind : Int), .int .i64 (x.entries : Int), .int .i64 (x.words : Int), .bool x.closed, .slice ads (x.L).length caps, .slice ade (E).length cape, .slice adc (x.C).length capc, .slice adu (x.used).length capu]) rfl rfl rfl (fun b3 => ?_)
  refine W_alloc (l := [.int .i64 0, .int .i64 0, .int .i64 0, .bool false, .slice none 0 0, .slice none 0 0, .slice none 0 0, .slice none 0 0]) ty56 rfl rfl (fun b6 => ?_)
  refine W_assign rfl rfl ?_
  refine W_nil ?_
  refine W_sr ?_
  refine W_fieldAddr rfl fld56_4 (by decide) rfl ?_
  refine W_load (v := .slice ads (x.L).length caps) rfl ty52 rfl (Cell.own (b := b3) zM rfl) rfl ?_
  refine W_call (.cons rfl (.cons rfl .nil)) Tryz.call86 rfl (LCalls.hsub (dsPut_L (Cel.mk k (W4.of ws)) hk h3 (hS.up zH) hf hs (H := (b3, .cells 56 8 [.int .i64 (x.kind : Int), .int .i64 (x.entries : Int), .int .i64 (x.words : Int), .bool x.closed, .slice ads (x.L).length caps, .slice ade (E).length cape, .slice adc (x.C).length capc, .slice adu (x.used).length capu]) :: (b6, .cells 56 8 [.int .i64 0, .int .i64 0, .int .i64 0, .bool false, .slice none 0 0, .slice none 0 0, .slice none 0 0, .slice none 0 0]) :: H)) zH) ?_
  rintro v H' ⟨ad1, cap1, X1, rfl, hO1, hc1, rfl⟩
  refine W_move rfl rfl ?_
  refine W_extract rfl rfl rfl ?_
  refine W_extract rfl rfl rfl ?_
  refine W_extract rfl rfl rfl ?_
  refine W_extract rfl rfl rfl ?_
  refine W_assign rfl rfl ?_
  refine W_assign rfl rfl ?_
  refine W_assign rfl rfl ?_
  refine W_assign rfl rfl ?_
  refine W_nil ?_
  refine W_sr ?_
  refine W_move rfl rfl ?_
  refine W_fieldAddr rfl fld56_4 (by decide) rfl ?_
  refine W_store (l' := [.int .i64 (x.kind : Int), .int .i64 (x.entries : Int), .int .i64 (x.words : Int), .bool x.closed, .slice ad1 (x.L).length cap1, .slice ade (E).length cape, .slice adc (x.C).length capc, .slice adu (x.used).length capu]) rfl rfl ty52 rfl rfl (b := b3) zM rfl rfl zU ?_
  refine W_nil ?_
  refine W_sr ?_
  refine W_buildSlice (l := []) ty53 ty71 .nil rfl rfl rfl rfl rfl rfl rfl (fun b23 => ?_)
  refine W_fieldAddr rfl fld56_5 (by decide) rfl ?_
  refine W_load (v := .slice ade (E).length cape) rfl ty53 rfl (Cell.own (b := b3) zM rfl) rfl ?_
  refine W_append (news := elR E) (m := E.length) (HB := [(b23, .cells 71 0 [])]) (H0 := (b3, .cells 56 8 [.int .i64 (x.kind : Int), .int .i64 (x.entries : Int), .int .i64 (x.words : Int), .bool x.closed, .slice ad1 (x.L).length cap1, .slice ade (E).length cape, .slice adc (x.C).length capc, .slice adu (x.used).length capu]) :: (b6, .cells 56 8 [.int .i64 0, .int .i64 0, .int .i64 0, .bool false, .slice none 0 0, .slice none 0 0, .slice none 0 0, .slice none 0 0]) :: (X1 ++ H)) rfl rfl ty53 ty71 rfl (by decide) (OwnS.own (n := 0) (cap := 0) (xs := []) rfl (Nat.le_refl _) (Nat.zero_le _)) (elR_len E) (hE.up zH) (elR_one E) (by simp only [maxLen]; omega) (by omega) zH rfl (fun v2 X2 hO2 => ?_)
  rw [Nat.zero_add] at hO2
  simp only [List.nil_append] at hO2
  refine W_assign rfl rfl ?_
  refine W_nil ?_
  refine W_sr ?_
  refine W_move rfl rfl ?_
  refine W_move rfl rfl ?_
  refine W_move rfl rfl ?_
  refine W_move rfl rfl ?_
  refine W_move rfl rfl ?_
  refine W_callq (.cons rfl .nil) Tryz.call87 rfl (dval_q (hrow.up zH)) ?_
  refine W_build (l := elmC (Elm.mk k (i : Int) s.own.gen (W4.of ws) true)) ty71 pl71 (.cons rfl rfl rfl rfl rfl (.cons rfl rfl rfl rfl rfl (.cons rfl rfl rfl rfl rfl (.cons rfl rfl rfl rfl rfl (.cons rfl rfl rfl rfl rfl .nil))))) rfl rfl rfl ?_
  refine W_buildSlice (l := elmC (Elm.mk k (i : Int) s.own.gen (W4.of ws) true)) ty53 ty71 (.cons rfl rfl rfl rfl rfl .nil) rfl rfl rfl rfl rfl rfl rfl (fun b34 => ?_)
  refine W_append (news := elmC (Elm.mk k (i : Int) s.own.gen (W4.of ws) true)) (m := 1) (HB := X2) (H0 := (b34, .cells 71 8 (elmC (Elm.mk k (i : Int) s.own.gen (W4.of ws) true))) :: (b3, .cells 56 8 [.int .i64 (x.kind : Int), .int .i64 (x.entries : Int), .int .i64 (x.words : Int), .bool x.closed, .slice ad1 (x.L).length cap1, .slice ade (E).length cape, .slice adc (x.C).length capc, .slice adu (x.used).length capu]) :: (b6, .cells 56 8 [.int .i64 0, .int .i64 0, .int .i64 0, .bool false, .slice none 0 0, .slice none 0 0, .slice none 0 0, .slice none 0 0]) :: (X1 ++ H)) rfl rfl ty53 ty71 rfl (by decide) hO2 rfl (Holds.own (b := b34) zM) rfl (by simp only [maxLen]; omega) (by omega) zH rfl (fun v3 X3 hO3 => ?_)
  obtain ⟨ad2, cap2, rfl, hc2, _⟩ := hO3.shape
  refine W_fieldAddr rfl fld56_5 (by decide) rfl ?_
  refine W_store (l' := [.int .i64 (x.kind : Int), .int .i64 (x.entries : Int), .int .i64 (x.words : Int), .bool x.closed, .slice ad1 (x.L).length cap1, .slice ad2 (E.length + 1) cap2, .slice adc (x.C).length capc, .slice adu (x.used).length capu]) rfl rfl ty53 rfl rfl (b := b3) zM rfl rfl zU ?_
  refine W_nil ?_
  refine W_sr ?_
  refine W_fieldAddr rfl fld56_6 (by decide) rfl ?_
  refine W_load (v := .slice adc (x.C).length capc) rfl ty54 rfl (Cell.own (b := b3) zM rfl) rfl ?_
  refine W_move rfl rfl ?_
  refine W_call (.cons rfl (.cons rfl (.cons rfl (.cons rfl .nil)))) Tryz.call88 rfl (LCalls.hsub (dkPut_L (hC.up zH) (by omega) ⟨(i : Int), s.own.gen⟩ hno hC64 (H := (b3, .cells 56 8 [.int .i64 (x.kind : Int), .int .i64 (x.entries : Int), .int .i64 (x.words : Int), .bool x.closed, .slice ad1 (x.L).length cap1, .slice ad2 (E.length + 1) cap2, .slice adc (x.C).length capc, .slice adu (x.used).length capu]) :: (b6, .cells 56 8 [.int .i64 0, .int .i64 0, .int .i64 0, .bool false, .slice none 0 0, .slice none 0 0, .slice none 0 0, .slice none 0 0]) :: (X3 ++ (X1 ++ H)))) zH) ?_
  rintro v H' ⟨ad3, cap3, X4, rfl, hO4, hc3, rfl⟩
  refine W_move rfl rfl ?_
  refine W_extract rfl rfl rfl ?_
  refine W_extract rfl rfl rfl ?_
  refine W_extract rfl rfl rfl ?_
  refine W_fieldAddr rfl fld56_6 (by decide) rfl ?_
  refine W_store (l' := [.int .i64 (x.kind : Int), .int .i64 (x.entries : Int), .int .i64 (x.words : Int), .bool x.closed, .slice ad1 (x.L).length cap1, .slice ad2 (E.length + 1) cap2, .slice ad3 (x.C.length + 1) cap3, .slice adu (x.used).length capu]) rfl rfl ty54 rfl rfl (b := b3) zM rfl rfl zU ?_
  refine W_nil ?_
  refine W_seq ?_
  refine W_anyC [(b3, .cells 56 8 [.int .i64 (x.kind : Int), .int .i64 (x.entries : Int), .int .i64 (x.words : Int), .bool x.closed, .slice ad1 (x.L).length cap1, .slice ad2 (E.length + 1) cap2, .slice ad3 (x.C.length + 1) cap3, .slice adu (x.used).length capu])] (by kernel_rfl) ?_
  refine WC_take 0 (l' := #[true, false, false, false, false, false, false, false, false]) rfl (by decide +kernel) (by decide +kernel) (by decide +kernel) rfl (by decide +kernel) (X_loadB (vs := [.int .i64 (x.kind : Int), .int .i64 (x.entries : Int), .int .i64 (x.words : Int), .bool x.closed, .slice ad1 (x.L).length cap1, .slice ad2 (E.length + 1) cap2, .slice ad3 (x.C.length + 1) cap3, .slice adu (x.used).length capu]) rfl ty56 rfl (b := b3) zM rfl rfl) rfl ?_
  refine WC_take 1 (l' := #[true, true, false, false, false, false, false, false, false]) rfl (by decide +kernel) (by decide +kernel) (by decide +kernel) rfl (by decide +kernel) (X_move rfl) rfl ?_
  refine WC_take 3 (l' := #[true, true, false, true, false, false, false, false, false]) rfl (by decide +kernel) (by decide +kernel) (by decide +kernel) rfl (by decide +kernel) (X_fieldAddr rfl fld56_5 (by decide)) rfl ?_
  refine WC_take 4 (l' := #[true, true, false, true, true, false, false, false, false]) rfl (by decide +kernel) (by decide +kernel) (by decide +kernel) rfl (by decide +kernel) (X_load (v := .slice ad2 (E.length + 1) cap2) rfl ty53 rfl (Cell.own (b := b3) zM rfl)) rfl ?_
  refine WC_take 5 (l' := #[true, true, false, true, true, true, false, false, false]) rfl (by decide +kernel) (by decide +kernel) (by decide +kernel) rfl (by decide +kernel) (X_len rfl ty53 rfl) rfl ?_
  refine WC_take 6 (l' := #[true, true, false, true, true, true, true, false, false]) rfl (by decide +kernel) (by decide +kernel) (by decide +kernel) rfl (by decide +kernel) (X_bin rfl rfl (b_sub (m := (E.length : Int)) (by rw [i64w (by omega)]; omega))) rfl ?_
  refine WC_one 2 (l' := #[true, true, true, true, true, true, true, false, false]) zH (by decide +kernel) rfl (by decide +kernel) ?_
  refine W_call (.cons rfl (.cons rfl .nil)) Tryz.call59 rfl (LCalls.hsub (dxUse_L (HR := X4 ++ (X3 ++ (X1 ++ HR))) (x := (Xm.mk x.kind x.entries x.words x.closed (x.L.set i { s with st := 1, cel := (Cel.mk k (W4.of ws)) }) ((k, ⟨(i : Int), s.own.gen⟩) :: x.C) x.used)) (E := E ++ [(Elm.mk k (i : Int) s.own.gen (W4.of ws) true)]) (k := k) ⟨ad1, cap1, ad2, cap2, ad3, cap3, adu, capu, (by simp only [List.length_set, List.length_append, List.length_cons, List.length_nil]), hO1.toHolds (fun p hp => by repeat (first | exact List.mem_append_left _ hp | apply List.mem_append_right | apply List.mem_cons_of_mem)), (by rw [List.length_set]; exact hc1), (by rw [elR, List.flatMap_append]; exact hO3.toHolds (fun p hp => by repeat (first | exact List.mem_append_left _ hp | apply List.mem_append_right | apply List.mem_cons_of_mem))), (by rw [List.length_append]; exact hc2), hO4.toHolds (fun p hp => by repeat (first | exact List.mem_append_left _ hp | apply List.mem_append_right | apply List.mem_cons_of_mem)), hc3, hU0.up (.dropS (.dropS (.dropS (.refl _)))), hUc⟩ ((show HSub _ (X4 ++ (X3 ++ (X1 ++ H))) from zH).trans (.app (.here _) (.app (.here _) (.app (.here _) hHR)))) hul (H := (b3, .cells 56 8 [.int .i64 (x.kind : Int), .int .i64 (x.entries : Int), .int .i64 (x.words : Int), .bool x.closed, .slice ad1 (x.L).length cap1, .slice ad2 (E.length + 1) cap2, .slice ad3 (x.C.length + 1) cap3, .slice adu (x.used).length capu]) :: (b6, .cells 56 8 [.int .i64 0, .int .i64 0, .int .i64 0, .bool false, .slice none 0 0, .slice none 0 0, .slice none 0 0, .slice none 0 0]) :: (X4 ++ (X3 ++ (X1 ++ H))))) zH) ?_
  rintro v H' ⟨cs2, X5, rfl, h5, rfl⟩
  have h5o := h5
  obtain ⟨ad8, cap8, ad9, cap9, ad10, cap10, ad11, cap11, rfl, _⟩ := h5o
  refine W_nil ?_
  refine WC_goal ?_
  refine WC_one 7 (l' := #[true, true, true, true, true, true, true, true, false]) zH (by decide +kernel) rfl (by decide +kernel) ?_
  refine W_storeA (l' := [.int .i64 (x.kind : Int), .int .i64 (x.entries : Int), .int .i64 (x.words : Int), .bool x.closed, .slice ad8 (Xm.use (Xm.mk x.kind x.entries x.words x.closed (x.L.set i { s with st := 1, cel := (Cel.mk k (W4.of ws)) }) ((k, ⟨(i : Int), s.own.gen⟩) :: x.C) x.used) k).L.length cap8, .slice ad9 (E ++ [(Elm.mk k (i : Int) s.own.gen (W4.of ws) true)]).length cap9, .slice ad10 (Xm.use (Xm.mk x.kind x.entries x.words x.closed (x.L.set i { s with st := 1, cel := (Cel.mk k (W4.of ws)) }) ((k, ⟨(i : Int), s.own.gen⟩) :: x.C) x.used) k).C.length cap10, .slice ad11 (Xm.use (Xm.mk x.kind x.entries x.words x.closed (x.L.set i { s with st := 1, cel := (Cel.mk k (W4.of ws)) }) ((k, ⟨(i : Int), s.own.gen⟩) :: x.C) x.used) k).used.length cap11]) rfl rfl ty56 rfl rfl (b := b6) zM (by exact Nat.le_refl 8) rfl zU ?_
  refine W_nil ?_
  refine WC_goal ?_
  refine WC_take 8 (l' := #[true, true, true, true, true, true, true, true, true]) rfl (by decide +kernel) (by decide +kernel) (by decide +kernel) rfl (by decide +kernel) (X_assign rfl) rfl ?_
  refine WC_done zH (by decide +kernel) ?_
  refine W_ret2G (H2 := X5 ++ (X4 ++ (X3 ++ (X1 ++ H)))) Tryz.results55 (.nil _) (.own rfl ty56 rfl zM rfl) (.tmp rfl) zH ?_
  refine ⟨_, X5 ++ (X4 ++ (X3 ++ X1)), rfl, ?_, by simp only [List.append_assoc]⟩
  simp only [List.append_assoc]
  rw [Xm.link_is hf hs]
  obtain ⟨hs1, _⟩ := hk.own i s hs
  obtain ⟨⟨a, b⟩, st, c⟩ := s
  dsimp only at hs1
  subst hs1
  exact h5
end Go.Proofs.YtphdlpmnidiliaaGreatDoor
namespace Go.Proofs.YtphdlpmnidiliaaGreatDoor
open Go Go.Sl
attribute [local irreducible] W
def arrE (k : Nat) : List Elm := (List.range k).map fun i : Nat => ⟨(i : Int), (i : Int), 1, zW, true⟩
theorem arrE_len (k : Nat) : (arrE k).length = k := by unfold arrE; rw [List.length_map, List.length_range]
theorem arrE_succ (k : Nat) : arrE (k + 1) = arrE k ++ [⟨(k : Int), (k : Int), 1, zW, true⟩] := by unfold arrE; rw [List.range_succ, List.map_append]; rfl
theorem arr_three {n k : Nat} : ∀ s ∈ arrL n k, s.st = 0 ∨ s.st = 1 ∨ s.st = 2 := by
  intro s hs
  unfold arrL at hs
  obtain ⟨i, _, rfl⟩ := List.mem_map.1 hs
  by_cases h : i < k
  · rw [if_pos h]; exact .inr (.inl rfl)
  · rw [if_neg h]; exact .inl rfl
def arrM (kind entries words k : Nat) : Xm := ⟨kind, entries, words, false, arrL (2 * entries) k, arrC k, arrU k⟩
theorem arrM_link {kind entries words k : Nat} (h : k < 2 * entries) : ((arrM kind entries words k).link (Cel.mk (k : Int) (W4.of []))).1 = arrM kind entries words (k + 1) := by
  have h1 : (arrM kind entries words k).L[k]? = some (newS k) := by show (arrL _ _)[k]? = _; rw [arrL_at h, if_neg (Nat.lt_irrefl _)]
  rw [Xm.link_is (i := k) (arrL_first h) h1]
  unfold arrM
  rw [← arrL_set, arrC_succ, ← arrU_succ]
  rfl
set_option maxHeartbeats 1000000 in
theorem dxNew_kind {w0 : World} {H : Heap} {kind entries words : Int} (h : kind < 0 ∨ 2 < kind)  : LCalls Tryz.prog w0 22 #[.int .i64 kind, .int .i64 entries, .int .i64 words] (H) (fun v H' => v = .tuple #[.agg (List.toArray [.int .i64 0, .int .i64 0, .int .i64 0, .bool false, .slice none 0 0, .slice none 0 0, .slice none 0 0, .slice none 0 0]), .int .i64 11] ∧ H' = H) := by
  refine L_enter (l := [.int .i64 kind, .int .i64 entries, .int .i64 words]) Tryz.func22 rfl Tryz.ntmps22 rfl rfl ?_
  refine W_sr ?_
  refine W_alloc (l := [.int .i64 0, .int .i64 0, .int .i64 0, .bool false, .slice none 0 0, .slice none 0 0, .slice none 0 0, .slice none 0 0]) ty56 rfl rfl (fun b6 => ?_)
  refine W_assign rfl rfl ?_
  refine W_nil ?_
  refine W_seq ?_
  refine W_sr ?_
  refine W_move rfl rfl ?_
  rcases h with h | h
  · skip
    refine W_bin rfl rfl b_lss rfl ?_
    first | rw [decide_eq_true (by omega)] | rw [decide_eq_false (by omega)]
    refine W_move rfl rfl ?_
    refine W_gno rfl rfl rfl ?_
    refine W_gno rfl rfl rfl ?_
    first | refine W_pickt rfl rfl rfl ?_ | refine W_pickf rfl rfl rfl ?_
    refine W_nil ?_
    refine W_condT rfl rfl ?_
    refine W_sr ?_
    refine W_build (l := [.int .i64 0, .int .i64 0, .int .i64 0, .bool false, .slice none 0 0, .slice none 0 0, .slice none 0 0, .slice none 0 0]) ty56 pl56 .nil rfl rfl rfl ?_
    refine W_storeA (l' := [.int .i64 0, .int .i64 0, .int .i64 0, .bool false, .slice none 0 0, .slice none 0 0, .slice none 0 0, .slice none 0 0]) rfl rfl ty56 rfl rfl (b := b6) zM (by exact Nat.le_refl 8) rfl zU ?_
    refine W_assign rfl rfl ?_
    refine W_nil ?_
    refine W_ret2G (H2 := H) Tryz.results22 (.nil _) (.own rfl ty56 rfl zM rfl) (.tmp rfl) zH ?_
    exact ⟨rfl, rfl⟩
  · skip
    refine W_bin rfl rfl b_lss rfl ?_
    first | rw [decide_eq_true (by omega)] | rw [decide_eq_false (by omega)]
    refine W_move rfl rfl ?_
    refine W_gyes rfl rfl ?_
    refine W_move rfl rfl ?_
    refine W_gyes rfl rfl ?_
    refine W_bin rfl rfl b_gtr rfl ?_
    first | rw [decide_eq_true (by omega)] | rw [decide_eq_false (by omega)]
    first | refine W_pickt rfl rfl rfl ?_ | refine W_pickf rfl rfl rfl ?_
    refine W_nil ?_
    refine W_condT rfl rfl ?_
    refine W_sr ?_
    refine W_build (l := [.int .i64 0, .int .i64 0, .int .i64 0, .bool false, .slice none 0 0, .slice none 0 0, .slice none 0 0, .slice none 0 0]) ty56 pl56 .nil rfl rfl rfl ?_
    refine W_storeA (l' := [.int .i64 0, .int .i64 0, .int .i64 0, .bool false, .slice none 0 0, .slice none 0 0, .slice none 0 0, .slice none 0 0]) rfl rfl ty56 rfl rfl (b := b6) zM (by exact Nat.le_refl 8) rfl zU ?_
    refine W_assign rfl rfl ?_
    refine W_nil ?_
    refine W_ret2G (H2 := H) Tryz.results22 (.nil _) (.own rfl ty56 rfl zM rfl) (.tmp rfl) zH ?_
    exact ⟨rfl, rfl⟩
set_option maxHeartbeats 1000000 in
theorem dxNew_args {w0 : World} {H : Heap} {kind entries words : Int} (hk : 0 ≤ kind ∧ kind ≤ 2) (h : ¬ ((1 ≤ entries ∧ entries ≤ 8) ∧ 1 ≤ words ∧ words ≤ 4))  : LCalls Tryz.prog w0 22 #[.int .i64 kind, .int .i64 entries, .int .i64 words] (H) (fun v H' => v = .tuple #[.agg (List.toArray [.int .i64 0, .int .i64 0, .int .i64 0, .bool false, .slice none 0 0, .slice none 0 0, .slice none 0 0, .slice none 0 0]), .int .i64 2] ∧ H' = H) := by
  refine L_enter (l := [.int .i64 kind, .int .i64 entries, .int .i64 words]) Tryz.func22 rfl Tryz.ntmps22 rfl rfl ?_
  refine W_sr ?_
  refine W_alloc (l := [.int .i64 0, .int .i64 0, .int .i64 0, .bool false, .slice none 0 0, .slice none 0 0, .slice none 0 0, .slice none 0 0]) ty56 rfl rfl (fun b6 => ?_)
  refine W_assign rfl rfl ?_
  refine W_nil ?_
  refine W_seq ?_
  refine W_sr ?_
  refine W_move rfl rfl ?_
  refine W_bin rfl rfl b_lss rfl ?_
  first | rw [decide_eq_true (by omega)] | rw [decide_eq_false (by omega)]
  refine W_move rfl rfl ?_
  refine W_gyes rfl rfl ?_
  refine W_move rfl rfl ?_
  refine W_gyes rfl rfl ?_
  refine W_bin rfl rfl b_gtr rfl ?_
  first | rw [decide_eq_true (by omega)] | rw [decide_eq_false (by omega)]
  first | refine W_pickt rfl rfl rfl ?_ | refine W_pickf rfl rfl rfl ?_
  refine W_nil ?_
  refine W_condF rfl rfl ?_
  refine W_skip ?_
  refine W_seq ?_
  refine W_sr ?_
  refine W_move rfl rfl ?_
  rcases (show entries < 1 ∨ (¬ entries < 1 ∧ 8 < entries) ∨ (¬ entries < 1 ∧ ¬ 8 < entries ∧ words < 1) ∨ (¬ entries < 1 ∧ ¬ 8 < entries ∧ ¬ words < 1 ∧ 4 < words) by omega) with h | h | h | h
  · skip
    refine W_bin rfl rfl b_lss rfl ?_
    first | rw [decide_eq_true (by omega)] | rw [decide_eq_false (by omega)]
    refine W_move rfl rfl ?_
    refine W_gno rfl rfl rfl ?_
    refine W_gno rfl rfl rfl ?_
    first | refine W_pickt rfl rfl rfl ?_ | refine W_pickf rfl rfl rfl ?_
    refine W_move rfl rfl ?_
    refine W_gno rfl rfl rfl ?_
    refine W_gno rfl rfl rfl ?_
    first | refine W_pickt rfl rfl rfl ?_ | refine W_pickf rfl rfl rfl ?_
    refine W_move rfl rfl ?_
    refine W_gno rfl rfl rfl ?_
    refine W_gno rfl rfl rfl ?_
    first | refine W_pickt rfl rfl rfl ?_ | refine W_pickf rfl rfl rfl ?_
    refine W_nil ?_
    refine W_condT rfl rfl ?_
    refine W_sr ?_
    refine W_build (l := [.int .i64 0, .int .i64 0, .int .i64 0, .bool false, .slice none 0 0, .slice none 0 0, .slice none 0 0, .slice none 0 0]) ty56 pl56 .nil rfl rfl rfl ?_
    refine W_storeA (l' := [.int .i64 0, .int .i64 0, .int .i64 0, .bool false, .slice none 0 0, .slice none 0 0, .slice none 0 0, .slice none 0 0]) rfl rfl ty56 rfl rfl (b := b6) zM (by exact Nat.le_refl 8) rfl zU ?_
    refine W_assign rfl rfl ?_
    refine W_nil ?_
    refine W_ret2G (H2 := H) Tryz.results22 (.nil _) (.own rfl ty56 rfl zM rfl) (.tmp rfl) zH ?_
    exact ⟨rfl, rfl⟩
  · skip
    refine W_bin rfl rfl b_lss rfl ?_
    first | rw [decide_eq_true (by omega)] | rw [decide_eq_false (by omega)]
    refine W_move rfl rfl ?_
    refine W_gyes rfl rfl ?_
    refine W_move rfl rfl ?_
    refine W_gyes rfl rfl ?_
    refine W_bin rfl rfl b_gtr rfl ?_
    first | rw [decide_eq_true (by omega)] | rw [decide_eq_false (by omega)]
    first | refine W_pickt rfl rfl rfl ?_ | refine W_pickf rfl rfl rfl ?_
    refine W_move rfl rfl ?_
    refine W_gno rfl rfl rfl ?_
    refine W_gno rfl rfl rfl ?_
    first | refine W_pickt rfl rfl rfl ?_ | refine W_pickf rfl rfl rfl ?_
    refine W_move rfl rfl ?_
    refine W_gno rfl rfl rfl ?_
    refine W_gno rfl rfl rfl ?_
    first | refine W_pickt rfl rfl rfl ?_ | refine W_pickf rfl rfl rfl ?_
    refine W_nil ?_
    refine W_condT rfl rfl ?_
    refine W_sr ?_
    refine W_build (l := [.int .i64 0, .int .i64 0, .int .i64 0, .bool false, .slice none 0 0, .slice none 0 0, .slice none 0 0, .slice none 0 0]) ty56 pl56 .nil rfl rfl rfl ?_
    refine W_storeA (l' := [.int .i64 0, .int .i64 0, .int .i64 0, .bool false, .slice none 0 0, .slice none 0 0, .slice none 0 0, .slice none 0 0]) rfl rfl ty56 rfl rfl (b := b6) zM (by exact Nat.le_refl 8) rfl zU ?_
    refine W_assign rfl rfl ?_
    refine W_nil ?_
    refine W_ret2G (H2 := H) Tryz.results22 (.nil _) (.own rfl ty56 rfl zM rfl) (.tmp rfl) zH ?_
    exact ⟨rfl, rfl⟩
  · skip
    refine W_bin rfl rfl b_lss rfl ?_
    first | rw [decide_eq_true (by omega)] | rw [decide_eq_false (by omega)]
    refine W_move rfl rfl ?_
    refine W_gyes rfl rfl ?_
    refine W_move rfl rfl ?_
    refine W_gyes rfl rfl ?_
    refine W_bin rfl rfl b_gtr rfl ?_
    first | rw [decide_eq_true (by omega)] | rw [decide_eq_false (by omega)]
    first | refine W_pickt rfl rfl rfl ?_ | refine W_pickf rfl rfl rfl ?_
    refine W_move rfl rfl ?_
    refine W_gyes rfl rfl ?_
    refine W_move rfl rfl ?_
    refine W_gyes rfl rfl ?_
    refine W_bin rfl rfl b_lss rfl ?_
    first | rw [decide_eq_true (by omega)] | rw [decide_eq_false (by omega)]
    first | refine W_pickt rfl rfl rfl ?_ | refine W_pickf rfl rfl rfl ?_
    refine W_move rfl rfl ?_
    refine W_gno rfl rfl rfl ?_
    refine W_gno rfl rfl rfl ?_
    first | refine W_pickt rfl rfl rfl ?_ | refine W_pickf rfl rfl rfl ?_
    refine W_nil ?_
    refine W_condT rfl rfl ?_
    refine W_sr ?_
    refine W_build (l := [.int .i64 0, .int .i64 0, .int .i64 0, .bool false, .slice none 0 0, .slice none 0 0, .slice none 0 0, .slice none 0 0]) ty56 pl56 .nil rfl rfl rfl ?_
    refine W_storeA (l' := [.int .i64 0, .int .i64 0, .int .i64 0, .bool false, .slice none 0 0, .slice none 0 0, .slice none 0 0, .slice none 0 0]) rfl rfl ty56 rfl rfl (b := b6) zM (by exact Nat.le_refl 8) rfl zU ?_
    refine W_assign rfl rfl ?_
    refine W_nil ?_
    refine W_ret2G (H2 := H) Tryz.results22 (.nil _) (.own rfl ty56 rfl zM rfl) (.tmp rfl) zH ?_
    exact ⟨rfl, rfl⟩
  · skip
    refine W_bin rfl rfl b_lss rfl ?_
    first | rw [decide_eq_true (by omega)] | rw [decide_eq_false (by omega)]
    refine W_move rfl rfl ?_
    refine W_gyes rfl rfl ?_
    refine W_move rfl rfl ?_
    refine W_gyes rfl rfl ?_
    refine W_bin rfl rfl b_gtr rfl ?_
    first | rw [decide_eq_true (by omega)] | rw [decide_eq_false (by omega)]
    first | refine W_pickt rfl rfl rfl ?_ | refine W_pickf rfl rfl rfl ?_
    refine W_move rfl rfl ?_
    refine W_gyes rfl rfl ?_
    refine W_move rfl rfl ?_
    refine W_gyes rfl rfl ?_
    refine W_bin rfl rfl b_lss rfl ?_
    first | rw [decide_eq_true (by omega)] | rw [decide_eq_false (by omega)]
    first | refine W_pickt rfl rfl rfl ?_ | refine W_pickf rfl rfl rfl ?_
    refine W_move rfl rfl ?_
    refine W_gyes rfl rfl ?_
    refine W_move rfl rfl ?_
    refine W_gyes rfl rfl ?_
    refine W_bin rfl rfl b_gtr rfl ?_
    first | rw [decide_eq_true (by omega)] | rw [decide_eq_false (by omega)]
    first | refine W_pickt rfl rfl rfl ?_ | refine W_pickf rfl rfl rfl ?_
    refine W_nil ?_
    refine W_condT rfl rfl ?_
    refine W_sr ?_
    refine W_build (l := [.int .i64 0, .int .i64 0, .int .i64 0, .bool false, .slice none 0 0, .slice none 0 0, .slice none 0 0, .slice none 0 0]) ty56 pl56 .nil rfl rfl rfl ?_
    refine W_storeA (l' := [.int .i64 0, .int .i64 0, .int .i64 0, .bool false, .slice none 0 0, .slice none 0 0, .slice none 0 0, .slice none 0 0]) rfl rfl ty56 rfl rfl (b := b6) zM (by exact Nat.le_refl 8) rfl zU ?_
    refine W_assign rfl rfl ?_
    refine W_nil ?_
    refine W_ret2G (H2 := H) Tryz.results22 (.nil _) (.own rfl ty56 rfl zM rfl) (.tmp rfl) zH ?_
    exact ⟨rfl, rfl⟩
set_option maxHeartbeats 4000000 in
theorem dxNew_L {w0 : World} {H : Heap} {kind entries words : Nat} (h1 : kind ≤ 2) (h2 : 1 ≤ entries ∧ entries ≤ 8) (hw : 1 ≤ words ∧ words ≤ 4)  : LCalls Tryz.prog w0 22 #[.int .i64 (kind : Int), .int .i64 (entries : Int), .int .i64 (words : Int)] (H) (fun v H' => ∃ cs1 X, v = .tuple #[.agg (List.toArray cs1), .int .i64 0] ∧ DxV w0 (X ++ H) (Xm.new kind entries words) (arrE (if kind = 0 then entries else 0)) cs1 ∧ H' = X ++ H) := by
  refine L_enter (l := [.int .i64 (kind : Int), .int .i64 (entries : Int), .int .i64 (words : Int)]) Tryz.func22 rfl Tryz.ntmps22 rfl rfl ?_
  refine W_sr ?_
  refine W_alloc (l := [.int .i64 0, .int .i64 0, .int .i64 0, .bool false, .slice none 0 0, .slice none 0 0, .slice none 0 0, .slice none 0 0]) ty56 rfl rfl (fun b6 => ?_)
  refine W_assign rfl rfl ?_
  refine W_nil ?_
  refine W_seq ?_
  refine W_sr ?_
  refine W_move rfl rfl ?_
  refine W_bin rfl rfl b_lss rfl ?_
  first | rw [decide_eq_true (by omega)] | rw [decide_eq_false (by omega)]
  refine W_move rfl rfl ?_
  refine W_gyes rfl rfl ?_
  refine W_move rfl rfl ?_
  refine W_gyes rfl rfl ?_
  refine W_bin rfl rfl b_gtr rfl ?_
  first | rw [decide_eq_true (by omega)] | rw [decide_eq_false (by omega)]
  first | refine W_pickt rfl rfl rfl ?_ | refine W_pickf rfl rfl rfl ?_
  refine W_nil ?_
  refine W_condF rfl rfl ?_
  refine W_skip ?_
  refine W_seq ?_
  refine W_sr ?_
  refine W_move rfl rfl ?_
  refine W_bin rfl rfl b_lss rfl ?_
  first | rw [decide_eq_true (by omega)] | rw [decide_eq_false (by omega)]
  refine W_move rfl rfl ?_
  refine W_gyes rfl rfl ?_
  refine W_move rfl rfl ?_
  refine W_gyes rfl rfl ?_
  refine W_bin rfl rfl b_gtr rfl ?_
  first | rw [decide_eq_true (by omega)] | rw [decide_eq_false (by omega)]
  first | refine W_pickt rfl rfl rfl ?_ | refine W_pickf rfl rfl rfl ?_
  refine W_move rfl rfl ?_
  refine W_gyes rfl rfl ?_
  refine W_move rfl rfl ?_
  refine W_gyes rfl rfl ?_
  refine W_bin rfl rfl b_lss rfl ?_
  first | rw [decide_eq_true (by omega)] | rw [decide_eq_false (by omega)]
  first | refine W_pickt rfl rfl rfl ?_ | refine W_pickf rfl rfl rfl ?_
  refine W_move rfl rfl ?_
  refine W_gyes rfl rfl ?_
  refine W_move rfl rfl ?_
  refine W_gyes rfl rfl ?_
  refine W_bin rfl rfl b_gtr rfl ?_
  first | rw [decide_eq_true (by omega)] | rw [decide_eq_false (by omega)]
  first | refine W_pickt rfl rfl rfl ?_ | refine W_pickf rfl rfl rfl ?_
  refine W_nil ?_
  refine W_condF rfl rfl ?_
  refine W_skip ?_
  refine W_sr ?_
  refine W_move rfl rfl ?_
  refine W_move rfl rfl ?_
  refine W_move rfl rfl ?_
  refine W_move rfl rfl ?_
  refine W_bin rfl rfl (b_mul (m := ((2 * entries : Nat) : Int)) (by rw [i64w (by omega)]; omega)) rfl ?_
  refine W_call (.cons rfl .nil) Tryz.call54 rfl (LCalls.hsub (dsNew_L (n := 2 * entries) (by omega) (H := (b6, .cells 56 8 [.int .i64 0, .int .i64 0, .int .i64 0, .bool false, .slice none 0 0, .slice none 0 0, .slice none 0 0, .slice none 0 0]) :: H)) zH) ?_
  rintro v H' ⟨X0, hO0, rfl⟩
  obtain ⟨ad1, cap1, rfl, hc1, _⟩ := hO0.shape
  refine W_build (l := [.int .i64 (kind : Int), .int .i64 (entries : Int), .int .i64 (words : Int), .bool false, .slice ad1 (2 * entries) cap1, .slice none 0 0, .slice none 0 0, .slice none 0 0]) ty56 pl56 (.cons rfl rfl rfl rfl rfl (.cons rfl rfl rfl rfl rfl (.cons rfl rfl rfl rfl rfl (.cons rfl rfl rfl rfl rfl .nil)))) rfl rfl rfl ?_
  refine W_alloc (l := [.int .i64 0, .int .i64 0, .int .i64 0, .bool false, .slice none 0 0, .slice none 0 0, .slice none 0 0, .slice none 0 0]) ty56 rfl rfl (fun b8 => ?_)
  refine W_storeA (l' := [.int .i64 (kind : Int), .int .i64 (entries : Int), .int .i64 (words : Int), .bool false, .slice ad1 (2 * entries) cap1, .slice none 0 0, .slice none 0 0, .slice none 0 0]) rfl rfl ty56 rfl rfl (b := b8) zM (by exact Nat.le_refl 8) rfl zU ?_
  refine W_nil ?_
  refine W_seq ?_
  refine W_sr ?_
  refine W_assign rfl rfl ?_
  refine W_nil ?_
  refine W_block ?_
  refine W_loopC (X := (Nat × Heap × List Value)) [(0, _), (1, _), (6, _), (8, _)] (fun (z : (Nat × Heap × List Value)) => [(9, .int .i64 (z.1 : Int))]) (fun _ => _) (fun (z : (Nat × Heap × List Value)) => (b8, .cells 56 8 z.2.2) :: (b6, .cells 56 8 [.int .i64 0, .int .i64 0, .int .i64 0, .bool false, .slice none 0 0, .slice none 0 0, .slice none 0 0, .slice none 0 0]) :: (z.2.1 ++ H)) (fun (z : (Nat × Heap × List Value)) => z.1 ≤ entries ∧ (kind ≠ 0 → z.1 = 0) ∧ DxV w0 (z.2.1 ++ H) (arrM kind entries words z.1) (arrE z.1) z.2.2) (fun (z : (Nat × Heap × List Value)) => entries - z.1) (0, X0, [.int .i64 (kind : Int), .int .i64 (entries : Int), .int .i64 (words : Int), .bool false, .slice ad1 (2 * entries) cap1, .slice none 0 0, .slice none 0 0, .slice none 0 0]) ⟨Nat.zero_le _, fun _ => rfl, ⟨ad1, cap1, none, 0, none, 0, none, 0, by simp only [arrM, arrL_len]; rfl, hO0.toHolds (fun p hp => by repeat (first | exact List.mem_append_left _ hp | apply List.mem_append_right | apply List.mem_cons_of_mem)), by show (arrL _ _).length ≤ _; rw [arrL_len]; exact hc1, Holds.nil, Nat.le_refl _, Holds.nil, Nat.le_refl _, Holds.nil, Nat.le_refl _⟩⟩ (sub_cons rfl (sub_cons rfl (sub_cons rfl (sub_cons rfl (sub_nil _))))) (sub_cons rfl (sub_nil _)) rfl zH ?_
  rintro ⟨i, X, cs⟩ ⟨hi, hk0, hD⟩
  dsimp only at hi hk0 hD ⊢
  have hDo := hD
  obtain ⟨ad3, cap3, ad4, cap4, ad5, cap5, ad6, cap6, rfl, _⟩ := hDo
  simp only [List.cons_append, List.nil_append]
  refine W_seq ?_
  refine W_sr ?_
  refine W_move rfl rfl ?_
  refine W_move rfl rfl ?_
  refine W_bin rfl rfl b_lss rfl ?_
  refine W_move rfl rfl ?_
  apply W_and
  iterate 4 exact rfl
  case h1 =>
    intro hg3
    refine W_gyes rfl rfl ?_
    refine W_move rfl rfl ?_
    refine W_gyes rfl rfl ?_
    refine W_bin rfl rfl b_eql rfl ?_
    exact W_met rfl zR
  refine W_nil ?_
  refine W_condPS (p := (i : Int) < (entries : Int) ∧ (kind : Int) = 0) rfl (by first | exact Iff.rfl | simp) (fun q0 => ?_) (fun q0 => ?_)
  · skip
    refine W_skip ?_
    refine W_seq ?_
    refine W_block ?_
    refine W_region ?_
    refine W_loadB (vs := [.int .i64 ((arrM kind entries words i).kind : Int), .int .i64 ((arrM kind entries words i).entries : Int), .int .i64 ((arrM kind entries words i).words : Int), .bool (arrM kind entries words i).closed, .slice ad3 (arrM kind entries words i).L.length cap3, .slice ad4 (arrE i).length cap4, .slice ad5 (arrM kind entries words i).C.length cap5, .slice ad6 (arrM kind entries words i).used.length cap6]) rfl ty56 rfl (b := b8) zM rfl rfl rfl ?_
    refine W_move rfl rfl ?_
    refine W_conv rfl ty3 ty22 (u64w (by omega)) rfl ?_
    have hi2 : i < 2 * entries := by omega
    have hli := arrE_len i
    refine W_call (.cons rfl (.cons rfl (.cons rfl .nil))) Tryz.call55 rfl (LCalls.hsub (dxlink_L (HR := X ++ H) (x := (arrM kind entries words i)) (E := arrE i) (k := (i : Int)) (ws := []) (i := i) (s := newS i) hD zH (arr_ok (kk := i) (b := false) h1 h2 hw (by omega)).are arr_three (arrL_first hi2) (by show (arrL _ _)[i]? = _; rw [arrL_at hi2, if_neg (Nat.lt_irrefl _)]) (by show _ ∉ keyL (arrC i); rw [arrC_keys]; intro h; have := (arrU_mem.1 (List.mem_reverse.1 h)).2; omega) (by rw [hli]; omega) (by show (arrC i).length < 64; rw [arrC_len]; omega) (by show (arrU i).length ≤ _; rw [arrU_len]; omega) Holds.nil (H := (b8, .cells 56 8 [.int .i64 ((arrM kind entries words i).kind : Int), .int .i64 ((arrM kind entries words i).entries : Int), .int .i64 ((arrM kind entries words i).words : Int), .bool (arrM kind entries words i).closed, .slice ad3 (arrM kind entries words i).L.length cap3, .slice ad4 (arrE i).length cap4, .slice ad5 (arrM kind entries words i).C.length cap5, .slice ad6 (arrM kind entries words i).used.length cap6]) :: (b6, .cells 56 8 [.int .i64 0, .int .i64 0, .int .i64 0, .bool false, .slice none 0 0, .slice none 0 0, .slice none 0 0, .slice none 0 0]) :: (X ++ H))) zH) ?_
    rintro v H' ⟨cs5, X5, rfl, h5, rfl⟩
    rw [arrM_link hi2, show (arrE i ++ [Elm.mk (i : Int) (i : Int) (newS i).own.gen (W4.of []) true]) = arrE (i + 1) from (arrE_succ i).symm] at h5
    have h5o := h5
    obtain ⟨ad8, cap8, ad9, cap9, ad10, cap10, ad11, cap11, rfl, _⟩ := h5o
    rw [hli]
    refine W_move rfl rfl ?_
    refine W_extract rfl rfl rfl ?_
    refine W_extract rfl rfl rfl ?_
    refine W_storeA (l' := [.int .i64 (kind : Int), .int .i64 (entries : Int), .int .i64 (words : Int), .bool false, .slice ad8 (arrM kind entries words (i + 1)).L.length cap8, .slice ad9 (arrE (i + 1)).length cap9, .slice ad10 (arrM kind entries words (i + 1)).C.length cap10, .slice ad11 (arrM kind entries words (i + 1)).used.length cap11]) rfl rfl ty56 rfl rfl (b := b8) zM (by exact Nat.le_refl 8) rfl zU ?_
    refine W_nil ?_
    refine W_blk ?_
    refine W_region ?_
    refine W_move rfl rfl ?_
    refine W_bin rfl rfl (b_add (m := ((i + 1 : Nat) : Int)) ((i64w (by omega)).trans (by omega))) rfl ?_
    refine W_assign rfl rfl ?_
    refine W_nil ?_
    refine W_again (i + 1, X5 ++ X, [.int .i64 (kind : Int), .int .i64 (entries : Int), .int .i64 (words : Int), .bool false, .slice ad8 (arrM kind entries words (i + 1)).L.length cap8, .slice ad9 (arrE (i + 1)).length cap9, .slice ad10 (arrM kind entries words (i + 1)).C.length cap10, .slice ad11 (arrM kind entries words (i + 1)).used.length cap11]) ⟨by show i + 1 ≤ entries; omega, fun h => absurd h (by omega), by rw [List.append_assoc]; exact h5⟩ (by show entries - (i + 1) < entries - i; omega) (sub_cons rfl (sub_cons rfl (sub_cons rfl (sub_cons rfl (sub_cons rfl (sub_nil _)))))) rfl (by rw [List.append_assoc]; first | exact hsubI | (repeat (first | with_reducible exact HSub.refl _ | refine HSub.cons zT ?_ | refine HSub.app zS ?_ | exact HSub.nil _ | exact HSub.refl _ | refine HSub.drop ?_ | refine HSub.dropS ?_)))
  · skip
    refine W_exit rfl ?_
    refine W_sr ?_
    refine W_loadB (vs := [.int .i64 ((arrM kind entries words i).kind : Int), .int .i64 ((arrM kind entries words i).entries : Int), .int .i64 ((arrM kind entries words i).words : Int), .bool (arrM kind entries words i).closed, .slice ad3 (arrM kind entries words i).L.length cap3, .slice ad4 (arrE i).length cap4, .slice ad5 (arrM kind entries words i).C.length cap5, .slice ad6 (arrM kind entries words i).used.length cap6]) rfl ty56 rfl (b := b8) zM rfl rfl rfl ?_
    refine W_storeA (l' := [.int .i64 ((arrM kind entries words i).kind : Int), .int .i64 ((arrM kind entries words i).entries : Int), .int .i64 ((arrM kind entries words i).words : Int), .bool (arrM kind entries words i).closed, .slice ad3 (arrM kind entries words i).L.length cap3, .slice ad4 (arrE i).length cap4, .slice ad5 (arrM kind entries words i).C.length cap5, .slice ad6 (arrM kind entries words i).used.length cap6]) rfl rfl ty56 rfl rfl (b := b6) zM (by exact Nat.le_refl 8) rfl zU ?_
    refine W_assign rfl rfl ?_
    refine W_nil ?_
    refine W_ret2G (H2 := X ++ H) Tryz.results22 (.nil _) (.own rfl ty56 rfl zM rfl) (.tmp rfl) zH ?_
    have hii : i = if kind = 0 then entries else 0 := by split <;> omega
    refine ⟨_, X, rfl, ?_, rfl⟩
    unfold Xm.new
    rw [← hii]
    exact hD
end Go.Proofs.YtphdlpmnidiliaaGreatDoor
namespace Go.Proofs.YtphdlpmnidiliaaGreatDoor
open Go Go.Sl
attribute [local irreducible] W
structure EOk (x : Xm) (E : List Elm) : Prop where
  nd : ∀ (i j : Nat) (a b : Elm), E[i]? = some a → E[j]? = some b → a.hd = b.hd → i = j
  has : ∀ (i : Nat) (s : Slt), x.L[i]? = some s → s.st = 1 → ∃ (j : Nat) (e : Elm), E[j]? = some e ∧ e.hd = s.own ∧ e.key = s.cel.key ∧ e.w = s.cel.w
  lnk : ∀ (j : Nat) (e : Elm), E[j]? = some e → (e.linked = true ↔ (e.key, e.hd) ∈ x.C)
  old : ∀ (j : Nat) (e : Elm), E[j]? = some e → ∀ (i : Nat) (s : Slt), x.L[i]? = some s → e.slot = (i : Int) → e.gen ≤ s.own.gen ∧ (e.gen = s.own.gen → s.st ≠ 0)
  three : ∀ s ∈ x.L, s.st = 0 ∨ s.st = 1 ∨ s.st = 2
theorem EOk.cong {x y : Xm} {E : List Elm} (h : EOk x E) (hL : y.L = x.L) (hC : y.C = x.C) : EOk y E :=
  ⟨h.nd, by rw [hL]; exact h.has, by rw [hC]; exact h.lnk, by rw [hL]; exact h.old, by rw [hL]; exact h.three⟩
def hdE (E : List Elm) (z : Int) : Hd := if z < 0 then zHd else match E[z.toNat]? with
  | some e => e.hd
  | none => zHd
theorem hdE_at {E : List Elm} {i : Nat} {e : Elm} (h : E[i]? = some e) : hdE E (i : Int) = e.hd := by
  unfold hdE; rw [if_neg (by omega), show ((i : Nat) : Int).toNat = i by omega, h]
theorem hdE_neg (E : List Elm) : hdE E (-1) = zHd := rfl
section
variable {x : Xm} {E : List Elm}
theorem EOk.fnd (h : EOk x E) (hx : x.Ok) {k : Int} {g : Hd} (hf : fndC x.C k = some g) : ∃ (i : Nat) (e : Elm), fndE E k = some i ∧ E[i]? = some e ∧ e.linked = true ∧ e.key = k ∧ e.hd = g := by
  obtain ⟨i0, s, h1, h2, h3, h4, h5⟩ := hx.own hf
  obtain ⟨j, e, e1, e2, e3, e4⟩ := h.has i0 s h2 h3
  have hl : e.linked = true := (h.lnk j e e1).2 (by rw [e2, h4, e3, h5]; exact fndC_mem hf)
  cases hi : fndE E k with
  | none =>
    unfold fndE at hi
    rw [List.findIdx?_eq_none_iff] at hi
    have := hi e (List.mem_of_getElem? e1)
    rw [hl, decide_eq_true (by rw [e3, h5])] at this
    cases this
  | some i =>
    obtain ⟨e', q1, q2⟩ := idx_at hi
    rw [Bool.and_eq_true] at q2
    have hk := of_decide_eq_true q2.2
    refine ⟨i, e', rfl, q1, q2.1, hk, ?_⟩
    have := (h.lnk i e' q1).1 q2.1
    rw [hk] at this
    have := fndC_of hx.nd this
    rw [hf] at this
    exact (Option.some.inj this).symm
theorem EOk.fndN (h : EOk x E) {k : Int} (hf : fndC x.C k = none) : fndE E k = none := by
  cases hi : fndE E k with
  | none => rfl
  | some i =>
    obtain ⟨e', q1, q2⟩ := idx_at hi
    rw [Bool.and_eq_true] at q2
    have := (h.lnk i e' q1).1 q2.1
    exact absurd (List.mem_map.2 ⟨_, this, of_decide_eq_true q2.2⟩) (fndC_none.1 hf)
theorem EOk.at (h : EOk x E) (hx : x.Ok) {g : Hd} (he : errA x.L g = 0) : ∃ (i : Nat) (e : Elm), atE E g.slot g.gen = some i ∧ E[i]? = some e ∧ e.hd = g ∧ e.key = (celA x.L g).key ∧ e.w = (celA x.L g).w ∧ e.linked = x.linked g := by
  obtain ⟨i0, s, h1, h2, h3, h4, h5, h6⟩ := errA_ok he
  obtain ⟨j, e, e1, e2, e3, e4⟩ := h.has i0 s h2 h3
  have hat : atE E g.slot g.gen = some j := by
    refine idx_hit e1 ?_ ?_
    · rw [← h4, ← e2]; unfold Elm.hd; simp
    · intro j' y hj hy hc
      rw [Bool.and_eq_true] at hc
      have : y.hd = e.hd := by
        rw [e2, h4]; unfold Elm.hd
        rw [of_decide_eq_true hc.1, of_decide_eq_true hc.2]
      have := h.nd j' j y e hy e1 this
      omega
  refine ⟨j, e, hat, e1, by rw [e2, h4], by rw [h5, e3], by rw [h5, e4], ?_⟩
  unfold Xm.linked
  rw [he, h5, decide_eq_true rfl, Bool.true_and]
  have hl := h.lnk j e e1
  rw [e2, h4, e3] at hl
  cases hb : e.linked with
  | true => exact (decide_eq_true (fndC_of hx.nd (hl.1 hb))).symm
  | false =>
    symm
    apply decide_eq_false
    intro hf
    have := hl.2 (fndC_mem hf)
    rw [hb] at this
    cases this
theorem EOk.atX0 (h : EOk x E) (hx : x.Ok) {g : Hd} (he : errA x.L g = 0) : ∃ (i : Nat) (e : Elm), atX x.L E g.slot g.gen = ((i : Int), 0) ∧ E[i]? = some e ∧ e.hd = g ∧ e.key = (celA x.L g).key ∧ e.w = (celA x.L g).w ∧ e.linked = x.linked g := by
  obtain ⟨i, e, h1, h2⟩ := h.at hx he
  refine ⟨i, e, ?_, h2⟩
  unfold atX
  rw [if_neg (by rw [he]; decide), h1]
theorem atX_err {L : List Slt} {g : Hd} (he : errA L g ≠ 0) : atX L E g.slot g.gen = (-1, errA L g) := by unfold atX; rw [if_pos he]
theorem EOk.setw (h : EOk x E) {i : Nat} {e : Elm} (he : E[i]? = some e) (w : W4) : ∀ (j : Nat) (a : Elm), (E.set i { e with w := w })[j]? = some a → ∃ b, E[j]? = some b ∧ b.hd = a.hd ∧ b.key = a.key ∧ b.linked = a.linked := by
  intro j a ha
  have hil := (List.getElem?_eq_some_iff.1 he).1
  by_cases c : i = j
  · subst c
    rw [List.getElem?_set_self hil] at ha
    obtain rfl := Option.some.inj ha
    exact ⟨e, he, rfl, rfl, rfl⟩
  · rw [List.getElem?_set_ne c] at ha
    exact ⟨a, ha, rfl, rfl, rfl⟩
theorem EOk.words (h : EOk x E) (hown : ∀ (q : Nat) (t : Slt), x.L[q]? = some t → t.own.slot = (q : Int)) {g : Hd} (he : errA x.L g = 0) {i : Nat} {e : Elm} (hi : E[i]? = some e) (hg : e.hd = g) (f : Slt → Cel) (w : W4) (hf : ∀ s : Slt, s.own = g → s.cel = celA x.L g → (f s).key = e.key ∧ (f s).w = w) : EOk (Xm.mk x.kind x.entries x.words x.closed (setA x.L g (fun s => { s with cel := f s })) x.C x.used) (E.set i { e with w := w }) := by
  obtain ⟨i0, s, h1, h2, h3, h4, h5, h6⟩ := errA_ok he
  have hil := (List.getElem?_eq_some_iff.1 hi).1
  have hsl := (List.getElem?_eq_some_iff.1 h2).1
  have hw := h.setw hi w
  have hLget : ∀ (q : Nat) (t : Slt), (x.L.set i0 { s with cel := f s })[q]? = some t → (q = i0 ∧ t = { s with cel := f s }) ∨ (q ≠ i0 ∧ x.L[q]? = some t) := by
    intro q t ht
    by_cases c : i0 = q
    · subst c
      rw [List.getElem?_set_self hsl] at ht
      exact .inl ⟨rfl, (Option.some.inj ht).symm⟩
    · rw [List.getElem?_set_ne c] at ht
      exact .inr ⟨fun e => c e.symm, ht⟩
  rw [h6]
  constructor
  · intro a b p q hp hq hpq
    obtain ⟨p', p1, p2, _⟩ := hw a p hp
    obtain ⟨q', q1, q2, _⟩ := hw b q hq
    exact h.nd a b p' q' p1 q1 (by rw [p2, q2, hpq])
  · intro q t ht hu
    rcases hLget q t ht with ⟨rfl, rfl⟩ | ⟨hq, ht⟩
    · obtain ⟨c1, c2⟩ := hf s h4 h5.symm
      exact ⟨i, { e with w := w }, List.getElem?_set_self hil, by show e.hd = s.own; rw [hg, h4], c1.symm, c2.symm⟩
    · obtain ⟨j, b, b1, b2, b3, b4⟩ := h.has q t ht hu
      by_cases c : i = j
      · subst c
        obtain rfl := Option.some.inj (hi.symm.trans b1)
        exfalso
        apply hq
        have hslot := hown q t ht
        rw [← b2, hg] at hslot
        omega
      · exact ⟨j, b, by rw [List.getElem?_set_ne c]; exact b1, b2, b3, b4⟩
  · intro j a ha
    obtain ⟨b, b1, b2, b3, b4⟩ := hw j a ha
    rw [← b2, ← b3, ← b4]
    exact h.lnk j b b1
  · intro j a ha q t ht hs
    obtain ⟨b, b1, b2, b3, b4⟩ := hw j a ha
    have e1 : a.slot = b.slot := congrArg Hd.slot b2.symm
    have e2 : a.gen = b.gen := congrArg Hd.gen b2.symm
    rw [e2]
    rcases hLget q t ht with ⟨rfl, rfl⟩ | ⟨hq, ht⟩
    · exact h.old j b b1 q s h2 (by rw [← e1]; exact hs)
    · exact h.old j b b1 q t ht (by rw [← e1]; exact hs)
  · intro t ht
    obtain ⟨q, hq, rfl⟩ := List.getElem_of_mem ht
    rcases hLget q _ (List.getElem?_eq_getElem hq) with ⟨_, e⟩ | ⟨_, e⟩
    · rw [e]; exact h.three s (List.mem_of_getElem? h2)
    · exact h.three _ (List.mem_of_getElem? e)
end
end Go.Proofs.YtphdlpmnidiliaaGreatDoor
namespace Go.Proofs.YtphdlpmnidiliaaGreatDoor
open Go Go.Sl
attribute [local irreducible] W
theorem set_get {α : Type} {l : List α} {i q : Nat} {x t : α} (h : (l.set i x)[q]? = some t) : (q = i ∧ t = x) ∨ (q ≠ i ∧ l[q]? = some t) := by
  by_cases c : i = q
  · subst c
    have hl := (List.getElem?_eq_some_iff.1 h).1
    rw [List.length_set] at hl
    rw [List.getElem?_set_self hl] at h
    exact .inl ⟨rfl, (Option.some.inj h).symm⟩
  · rw [List.getElem?_set_ne c] at h
    exact .inr ⟨fun e => c e.symm, h⟩
theorem app_get {α : Type} {l : List α} {q : Nat} {x t : α} (h : (l ++ [x])[q]? = some t) : (q = l.length ∧ t = x) ∨ (q < l.length ∧ l[q]? = some t) := by
  rcases Nat.lt_trichotomy q l.length with c | c | c
  · rw [List.getElem?_append_left c] at h
    exact .inr ⟨c, h⟩
  · subst c
    rw [List.getElem?_append_right (Nat.le_refl _), Nat.sub_self] at h
    exact .inl ⟨rfl, (Option.some.inj h).symm⟩
  · rw [List.getElem?_eq_none (by rw [List.length_append, List.length_singleton]; omega)] at h; cases h
theorem linkK_set : ∀ {E : List Elm} {i : Nat} {e e' : Elm}, E[i]? = some e → e'.linked = e.linked → e'.key = e.key → linkK (E.set i e') = linkK E
  | [], i, e, e', h, _, _ => by cases h
  | a :: E, 0, e, e', h, h1, h2 => by
    obtain rfl : a = e := Option.some.inj h
    unfold linkK
    rw [List.set_cons_zero]
    by_cases c : a.linked = true
    · rw [List.filter_cons_of_pos (by simpa using (h1.trans c)), List.filter_cons_of_pos (by simpa using c), List.map_cons, List.map_cons, h2]
    · rw [List.filter_cons_of_neg (by rw [h1]; simpa using c), List.filter_cons_of_neg (by simpa using c)]
  | a :: E, i + 1, e, e', h, h1, h2 => by
    have ih := linkK_set (E := E) (i := i) (e := e) (e' := e') (by simpa using h) h1 h2
    unfold linkK at ih ⊢
    rw [List.set_cons_succ]
    by_cases c : a.linked = true
    · rw [List.filter_cons_of_pos (by simpa using c), List.filter_cons_of_pos (by simpa using c), List.map_cons, List.map_cons, ih]
    · rw [List.filter_cons_of_neg (by simpa using c), List.filter_cons_of_neg (by simpa using c), ih]
theorem hdE_set {E : List Elm} {i : Nat} {e e' : Elm} (he : E[i]? = some e) (h : e'.hd = e.hd) (z : Int) : hdE (E.set i e') z = hdE E z := by
  unfold hdE
  split
  · rfl
  · by_cases c : i = z.toNat
    · subst c
      rw [List.getElem?_set_self (List.getElem?_eq_some_iff.1 he).1, he]
      exact h
    · rw [List.getElem?_set_ne c]
theorem DxV.cong {w0 : World} {HR : Heap} {x y : Xm} {E : List Elm} {cs : List Value} (h : DxV w0 HR x E cs) (hk : y.kind = x.kind ∧ y.entries = x.entries ∧ y.words = x.words ∧ y.closed = x.closed) (hL : sdR y.L = sdR x.L) (hl : y.L.length = x.L.length) (hC : y.C = x.C) (hU : y.used = x.used) : DxV w0 HR y E cs := by
  obtain ⟨ads, caps, ade, cape, adc, capc, adu, capu, e, h1, h2, h3, h4, h5, h6, h7, h8⟩ := h
  exact ⟨ads, caps, ade, cape, adc, capc, adu, capu, by rw [e, hk.1, hk.2.1, hk.2.2.1, hk.2.2.2, hl, hC, hU], by rw [hL]; exact h1, by rw [hl]; exact h2, h3, h4, by rw [hC]; exact h5, by rw [hC]; exact h6, by rw [hU]; exact h7, by rw [hU]; exact h8⟩
theorem sdR_cel (L : List Slt) (g : Hd) (f : Slt → Cel) : sdR (setA L g (fun s => { s with cel := f s })) = sdR L := by
  by_cases he : errA L g = 0
  · obtain ⟨i0, s, h1, h2, h3, h4, h5, h6⟩ := errA_ok he
    rw [h6]
    have := rows_same (f := sdC) (l := L) (i := i0) (x := { s with cel := f s }) (y := s) rfl
    rw [set_same' h2] at this
    exact this
  · unfold setA
    split
    · rw [if_neg he]
    · rfl
section
variable {x : Xm} {E : List Elm}
theorem EOk.unlink (h : EOk x E) (hx : x.Ok) {i : Nat} {e : Elm} (he : E[i]? = some e) (hl : e.linked = true) : EOk (x.unlink e.key).1 (E.set i { e with linked := false }) := by
  have hil := (List.getElem?_eq_some_iff.1 he).1
  have hin := (h.lnk i e he).1 hl
  have hset : ∀ (q : Nat) (a : Elm), (E.set i { e with linked := false })[q]? = some a → ∃ b, E[q]? = some b ∧ b.hd = a.hd ∧ b.key = a.key ∧ b.w = a.w := by
    intro q a ha
    rcases set_get ha with ⟨rfl, rfl⟩ | ⟨_, ha⟩
    · exact ⟨e, he, rfl, rfl, rfl⟩
    · exact ⟨a, ha, rfl, rfl, rfl⟩
  constructor
  · intro a b p q hp hq hpq
    obtain ⟨p', p1, p2, _⟩ := hset a p hp
    obtain ⟨q', q1, q2, _⟩ := hset b q hq
    exact h.nd a b p' q' p1 q1 (by rw [p2, q2, hpq])
  · intro q t ht hu
    obtain ⟨j, b, b1, b2, b3, b4⟩ := h.has q t ht hu
    by_cases c : i = j
    · subst c
      obtain rfl := Option.some.inj (he.symm.trans b1)
      exact ⟨i, _, List.getElem?_set_self hil, b2, b3, b4⟩
    · exact ⟨j, b, by rw [List.getElem?_set_ne c]; exact b1, b2, b3, b4⟩
  · intro q a ha
    show _ ↔ _ ∈ delC x.C e.key
    unfold delC
    rw [List.mem_filter, decide_eq_true_eq]
    rcases set_get ha with ⟨rfl, rfl⟩ | ⟨hq, ha⟩
    · exact ⟨fun c => (by cases c), fun c => absurd rfl c.2⟩
    · rw [h.lnk q a ha]
      refine ⟨fun c => ⟨c, fun hk => hq ?_⟩, fun c => c.1⟩
      have hk2 : a.key = e.key := hk
      refine h.nd q i a e ha he ?_
      rw [hk2] at c
      have h1 := fndC_of hx.nd c
      rw [fndC_of hx.nd hin] at h1
      exact (Option.some.inj h1).symm
  · intro j a ha q t ht hs
    obtain ⟨b, b1, b2, b3, b4⟩ := hset j a ha
    have e1 : a.slot = b.slot := congrArg Hd.slot b2.symm
    have e2 : a.gen = b.gen := congrArg Hd.gen b2.symm
    rw [e2]
    exact h.old j b b1 q t ht (by rw [← e1]; exact hs)
  · exact h.three
theorem EOk.link (h : EOk x E) (hx : x.Ok) {k : Int} {w : W4} {i : Nat} {s : Slt} (hf : firstF x.L = some i) (hs : x.L[i]? = some s) (hno : k ∉ keyL x.C) : EOk (x.link ⟨k, w⟩).1 (E ++ [⟨k, (i : Int), s.own.gen, w, true⟩]) := by
  rw [Xm.link_is hf hs]
  have hsl := (List.getElem?_eq_some_iff.1 hs).1
  obtain ⟨s', hs', h0, -⟩ := firstF_some hf
  obtain rfl : s = s' := Option.some.inj (hs.symm.trans hs')
  obtain ⟨o1, o2, o3⟩ := hx.are.own i s hs
  have hN : (⟨(i : Int), s.own.gen⟩ : Hd) = s.own := by rw [← o1]
  have fresh : ∀ (j : Nat) (a : Elm), E[j]? = some a → a.hd ≠ s.own := by
    intro j a ha hc
    have c1 : a.slot = (i : Int) := (congrArg Hd.slot hc).trans o1
    have := h.old j a ha i s hs c1
    exact this.2 (congrArg Hd.gen hc) h0
  constructor
  · intro a b p q hp hq hpq
    rcases app_get hp with ⟨rfl, rfl⟩ | ⟨ha, hp⟩ <;> rcases app_get hq with ⟨rfl, rfl⟩ | ⟨hb, hq⟩
    · rfl
    · exact absurd (hpq.symm.trans hN) (fresh b q hq)
    · exact absurd (hpq.trans hN) (fresh a p hp)
    · exact h.nd a b p q hp hq hpq
  · intro q t ht hu
    rcases set_get ht with ⟨rfl, rfl⟩ | ⟨hq, ht⟩
    · exact ⟨E.length, ⟨k, (q : Int), s.own.gen, w, true⟩, by rw [List.getElem?_append_right (Nat.le_refl _), Nat.sub_self]; rfl, hN, rfl, rfl⟩
    · obtain ⟨j, b, b1, b2⟩ := h.has q t ht hu
      exact ⟨j, b, by rw [List.getElem?_append_left (List.getElem?_eq_some_iff.1 b1).1]; exact b1, b2⟩
  · intro q a ha
    show _ ↔ _ ∈ (k, s.own) :: x.C
    rw [List.mem_cons]
    rcases app_get ha with ⟨rfl, rfl⟩ | ⟨_, ha⟩
    · exact ⟨fun _ => .inl (by show (k, (⟨(i : Int), s.own.gen⟩ : Hd)) = _; rw [hN]), fun _ => rfl⟩
    · rw [h.lnk q a ha]
      exact ⟨.inr, fun c => c.elim (fun e => absurd (Prod.mk.inj e).2 (fresh q a ha)) id⟩
  · intro j a ha q t ht hs2
    rcases set_get ht with ⟨rfl, rfl⟩ | ⟨hq, ht⟩
    · rcases app_get ha with ⟨rfl, rfl⟩ | ⟨_, ha⟩
      · exact ⟨Int.le_refl _, fun _ => by show (1 : Nat) ≠ 0; decide⟩
      · exact ⟨(h.old j a ha q s hs hs2).1, fun _ => by show (1 : Nat) ≠ 0; decide⟩
    · rcases app_get ha with ⟨rfl, rfl⟩ | ⟨_, ha⟩
      · exfalso; apply hq
        have : (i : Int) = (q : Int) := hs2
        omega
      · exact h.old j a ha q t ht hs2
  · intro t ht
    rcases List.mem_or_eq_of_mem_set ht with ht | rfl
    · exact h.three t ht
    · exact .inr (.inl rfl)
theorem EOk.free (h : EOk x E) {g : Hd} (he : errA x.L g = 0) : EOk (Xm.mk x.kind x.entries x.words x.closed (setA x.L g relS) x.C x.used) E := by
  obtain ⟨i0, s, h1, h2, h3, h4, h5, h6⟩ := errA_ok he
  rw [h6]
  have hr : (relS s).st = 0 ∨ (relS s).st = 2 := by unfold relS; split; exact .inr rfl; exact .inl rfl
  constructor
  · exact h.nd
  · intro q t ht hu
    rcases set_get ht with ⟨rfl, rfl⟩ | ⟨hq, ht⟩
    · rcases hr with c | c <;> rw [c] at hu <;> cases hu
    · exact h.has q t ht hu
  · exact h.lnk
  · intro j a ha q t ht hs2
    rcases set_get ht with ⟨rfl, rfl⟩ | ⟨hq, ht⟩
    · have := (h.old j a ha q s h2 hs2).1
      unfold relS
      split
      · exact ⟨this, fun _ => by show (2 : Nat) ≠ 0; decide⟩
      · exact ⟨by show a.gen ≤ s.own.gen + 1; omega, fun c => absurd c (by show ¬ a.gen = s.own.gen + 1; omega)⟩
    · exact h.old j a ha q t ht hs2
  · intro t ht
    rcases List.mem_or_eq_of_mem_set ht with ht | rfl
    · exact h.three t ht
    · rcases hr with c | c
      · exact .inl c
      · exact .inr (.inr c)
end
theorem arr_eok {kind entries words : Nat} (h1 : kind ≤ 2) (h2 : 1 ≤ entries ∧ entries ≤ 8) (hw : 1 ≤ words ∧ words ≤ 4) : ∀ k, k ≤ entries → EOk (arrM kind entries words k) (arrE k)
  | 0, _ => by
    constructor
    · intro i j a b ha; cases ha
    · intro i s hs hu
      have hi : i < 2 * entries := by
        have := (List.getElem?_eq_some_iff.1 hs).1
        have e : (arrM kind entries words 0).L.length = 2 * entries := arrL_len _ _
        omega
      have e : (arrL (2 * entries) 0)[i]? = some s := hs
      rw [arrL_at hi, if_neg (by omega)] at e
      obtain rfl := Option.some.inj e
      cases hu
    · intro j e he; cases he
    · intro j e he; cases he
    · exact arr_three
  | k + 1, hk => by
    have ih := arr_eok h1 h2 hw k (by omega)
    have hi2 : k < 2 * entries := by omega
    have := ih.link (arr_ok (kk := k) (b := false) h1 h2 hw (by omega)) (k := (k : Int)) (w := W4.of []) (arrL_first hi2) (s := newS k) (by show (arrL _ _)[k]? = _; rw [arrL_at hi2, if_neg (Nat.lt_irrefl _)]) (by show _ ∉ keyL (arrC k); rw [arrC_keys]; intro h; have := (arrU_mem.1 (List.mem_reverse.1 h)).2; omega)
    rw [arrM_link hi2] at this
    rw [arrE_succ]
    exact this
theorem new_eok {kind entries words : Nat} (h1 : kind ≤ 2) (h2 : 1 ≤ entries ∧ entries ≤ 8) (hw : 1 ≤ words ∧ words ≤ 4) : EOk (Xm.new kind entries words) (arrE (if kind = 0 then entries else 0)) :=
  arr_eok h1 h2 hw _ (by split <;> omega)
end Go.Proofs.YtphdlpmnidiliaaGreatDoor
namespace Go.Proofs.YtphdlpmnidiliaaGreatDoor
open Go Go.Sl
attribute [local irreducible] W
theorem elm_w (e : Elm) {n : Nat} (h : n < 4) : (elmC e)[3 + n]? = some (.int .u64 (e.w.get n)) := by
  have : n = 0 ∨ n = 1 ∨ n = 2 ∨ n = 3 := by omega
  rcases this with rfl | rfl | rfl | rfl <;> rfl
theorem elm_put (e : Elm) {n : Nat} (h : n < 4) (v : Int) : (elmC e).set (3 + n) (.int .u64 v) = elmC { e with w := e.w.put n v } := by
  have : n = 0 ∨ n = 1 ∨ n = 2 ∨ n = 3 := by omega
  rcases this with rfl | rfl | rfl | rfl <;> rfl
set_option maxHeartbeats 2000000 in
theorem dxDel_L {w0 : World} {H : Heap} {HR : Heap} {x : Xm} {E : List Elm} {cs : List Value} (hv : DxV w0 HR x E cs) (hHR : HSub H HR) (hx : x.Ok) (ho : EOk x E) (hEl : E.length ≤ 800) {k : Int}  : LCalls Tryz.prog w0 60 #[.agg (List.toArray cs), .int .u64 k] (H) (fun v H' => ∃ cs1 X E' z, v = .tuple #[.agg (List.toArray cs1), .int .i64 z, .int .i64 (x.del k).2.2] ∧ DxV w0 (X ++ HR) ((x.del k).1) (E') cs1 ∧ EOk (x.del k).1 E' ∧ hdE E' z = (x.del k).2.1 ∧ E'.length = E.length ∧ (x.kind = 0 → linkK E' = linkK E) ∧ H' = X ++ H) := by
  obtain ⟨ads, caps, ade, cape, adc, capc, adu, capu, rfl, hS0, hSc, hE0, hEc, hC0, hCc, hU0, hUc⟩ := hv
  have hS := hS0.up hHR
  have hE := hE0.up hHR
  have hC := hC0.up hHR
  have hU := hU0.up hHR
  have hCl : x.C.length ≤ 8 := Nat.le_trans hx.le hx.ent.2
  have hul : x.used.length ≤ 8 := by rw [hx.ulen]; exact hCl
  refine L_enter (l := [.agg (List.toArray [.int .i64 (x.kind : Int), .int .i64 (x.entries : Int), .int .i64 (x.words : Int), .bool x.closed, .slice ads (x.L).length caps, .slice ade (E).length cape, .slice adc (x.C).length capc, .slice adu (x.used).length capu]), .int .u64 k]) Tryz.func60 rfl Tryz.ntmps60 rfl rfl ?_
  refine W_sr ?_
  refine W_box (l := [.int .i64 (x.kind : Int), .int .i64 (x.entries : Int), .int .i64 (x.words : Int), .bool x.closed, .slice ads (x.L).length caps, .slice ade (E).length cape, .slice adc (x.C).length capc, .slice adu (x.used).length capu]) rfl rfl rfl (fun b2 => ?_)
  refine W_alloc (l := [.int .i64 0, .int .i64 0, .int .i64 0, .bool false, .slice none 0 0, .slice none 0 0, .slice none 0 0, .slice none 0 0]) ty56 rfl rfl (fun b4 => ?_)
  refine W_assign rfl rfl ?_
  refine W_assign rfl rfl ?_
  refine W_nil ?_
  refine W_seq ?_
  refine W_sr ?_
  refine W_fieldAddr rfl fld56_0 (by decide) rfl ?_
  refine W_load (v := .int .i64 (x.kind : Int)) rfl ty3 rfl (Cell.own (b := b2) zM rfl) rfl ?_
  refine W_bin rfl rfl b_eql rfl ?_
  refine W_nil ?_
  refine W_condPS (p := x.kind = 0) rfl (by rw [decide_eq_true_eq]; omega) (fun q0 => ?_) (fun q0 => ?_)
  · skip
    refine W_sr ?_
    refine W_loadB (vs := [.int .i64 (x.kind : Int), .int .i64 (x.entries : Int), .int .i64 (x.words : Int), .bool x.closed, .slice ads (x.L).length caps, .slice ade (E).length cape, .slice adc (x.C).length capc, .slice adu (x.used).length capu]) rfl ty56 rfl (b := b2) zM rfl rfl rfl ?_
    refine W_storeA (l' := [.int .i64 (x.kind : Int), .int .i64 (x.entries : Int), .int .i64 (x.words : Int), .bool x.closed, .slice ads (x.L).length caps, .slice ade (E).length cape, .slice adc (x.C).length capc, .slice adu (x.used).length capu]) rfl rfl ty56 rfl rfl (b := b4) zM (by exact Nat.le_refl 8) rfl zU ?_
    refine W_assign rfl rfl ?_
    refine W_assign rfl rfl ?_
    refine W_nil ?_
    refine W_ret3G (H2 := H) Tryz.results60 (.nil _) (.own rfl ty56 rfl zM rfl) (.tmp rfl) (.tmp rfl) zH ?_
    rw [show x.del k = (x, zHd, 17) from if_pos q0]
    exact ⟨_, [], E, -1, rfl, ⟨ads, caps, ade, cape, adc, capc, adu, capu, rfl, hS0, hSc, hE0, hEc, hC0, hCc, hU0, hUc⟩, ho, rfl, rfl, fun _ => rfl, rfl⟩
  · skip
    refine W_skip ?_
    refine W_sr ?_
    refine W_loadB (vs := [.int .i64 (x.kind : Int), .int .i64 (x.entries : Int), .int .i64 (x.words : Int), .bool x.closed, .slice ads (x.L).length caps, .slice ade (E).length cape, .slice adc (x.C).length capc, .slice adu (x.used).length capu]) rfl ty56 rfl (b := b2) zM rfl rfl rfl ?_
    refine W_move rfl rfl ?_
    refine W_callq (.cons rfl (.cons rfl .nil)) Tryz.call58 rfl (dxFind_q (x := x) (E := E) (k := k) ⟨ads, caps, ade, cape, adc, capc, adu, capu, rfl, hS0, hSc, hE0, hEc, hC0, hCc, hU0, hUc⟩ ((show HSub _ H from zH).trans hHR) (by omega)) ?_
    rcases hf : fndC x.C k with _ | g
    · skip
      rw [ho.fndN hf, show zI none = -1 from rfl]
      refine W_assign rfl rfl ?_
      refine W_nil ?_
      refine W_seq ?_
      refine W_sr ?_
      refine W_move rfl rfl ?_
      refine W_bin rfl rfl b_lss rfl ?_
      first | rw [decide_eq_true (by omega)] | rw [decide_eq_false (by omega)]
      refine W_nil ?_
      refine W_condT rfl rfl ?_
      refine W_sr ?_
      refine W_loadB (vs := [.int .i64 (x.kind : Int), .int .i64 (x.entries : Int), .int .i64 (x.words : Int), .bool x.closed, .slice ads (x.L).length caps, .slice ade (E).length cape, .slice adc (x.C).length capc, .slice adu (x.used).length capu]) rfl ty56 rfl (b := b2) zM rfl rfl rfl ?_
      refine W_storeA (l' := [.int .i64 (x.kind : Int), .int .i64 (x.entries : Int), .int .i64 (x.words : Int), .bool x.closed, .slice ads (x.L).length caps, .slice ade (E).length cape, .slice adc (x.C).length capc, .slice adu (x.used).length capu]) rfl rfl ty56 rfl rfl (b := b4) zM (by exact Nat.le_refl 8) rfl zU ?_
      refine W_assign rfl rfl ?_
      refine W_assign rfl rfl ?_
      refine W_nil ?_
      refine W_ret3G (H2 := H) Tryz.results60 (.nil _) (.own rfl ty56 rfl zM rfl) (.tmp rfl) (.tmp rfl) zH ?_
      rw [show x.del k = (x, zHd, 4) by unfold Xm.del; rw [if_neg q0, hf]]
      exact ⟨_, [], E, -1, rfl, ⟨ads, caps, ade, cape, adc, capc, adu, capu, rfl, hS0, hSc, hE0, hEc, hC0, hCc, hU0, hUc⟩, ho, rfl, rfl, fun _ => rfl, rfl⟩
    · skip
      obtain ⟨i, e, hfe, he, hel, hek, heg⟩ := ho.fnd hx hf
      rw [hfe, show zI (some i) = (i : Int) from rfl]
      have hi := (List.getElem?_eq_some_iff.1 he).1
      obtain ⟨qk, pk, eqk, hkc⟩ := Holds.row elmC_len (by decide) hE he
      refine W_assign rfl rfl ?_
      refine W_nil ?_
      refine W_seq ?_
      refine W_sr ?_
      refine W_move rfl rfl ?_
      refine W_bin rfl rfl b_lss rfl ?_
      first | rw [decide_eq_true (by omega)] | rw [decide_eq_false (by omega)]
      refine W_nil ?_
      refine W_condF rfl rfl ?_
      refine W_skip ?_
      refine W_sr ?_
      refine W_loadB (vs := [.int .i64 (x.kind : Int), .int .i64 (x.entries : Int), .int .i64 (x.words : Int), .bool x.closed, .slice ads (x.L).length caps, .slice ade (E).length cape, .slice adc (x.C).length capc, .slice adu (x.used).length capu]) rfl ty56 rfl (b := b2) zM rfl rfl rfl ?_
      refine W_move rfl rfl ?_
      refine W_call (.cons rfl (.cons rfl .nil)) Tryz.call90 rfl (LCalls.hsub (dxUnlink_L (x := x) (E := E) (i := i) (e := e) ⟨ads, caps, ade, cape, adc, capc, adu, capu, rfl, hS0, hSc, hE0, hEc, hC0, hCc, hU0, hUc⟩ ((show HSub _ H from zH).trans hHR) he (by rw [hek]; exact keyL_mem hf) hx.nd (by omega) (by omega) (by omega) (H := (b2, .cells 56 8 [.int .i64 (x.kind : Int), .int .i64 (x.entries : Int), .int .i64 (x.words : Int), .bool x.closed, .slice ads (x.L).length caps, .slice ade (E).length cape, .slice adc (x.C).length capc, .slice adu (x.used).length capu]) :: (b4, .cells 56 8 [.int .i64 0, .int .i64 0, .int .i64 0, .bool false, .slice none 0 0, .slice none 0 0, .slice none 0 0, .slice none 0 0]) :: H)) zH) ?_
      rintro v H' ⟨cs1, X, rfl, hD, rfl⟩
      have hDo := hD
      obtain ⟨ad1, cap1, ad2, cap2, ad3, cap3, ad4, cap4, rfl, _⟩ := hDo
      refine W_move rfl rfl ?_
      refine W_storeA (l' := [.int .i64 ((x.unlink e.key).1.kind : Int), .int .i64 ((x.unlink e.key).1.entries : Int), .int .i64 ((x.unlink e.key).1.words : Int), .bool (x.unlink e.key).1.closed, .slice ad1 ((x.unlink e.key).1.L).length cap1, .slice ad2 (E.set i { e with linked := false }).length cap2, .slice ad3 ((x.unlink e.key).1.C).length cap3, .slice ad4 ((x.unlink e.key).1.used).length cap4]) rfl rfl ty56 rfl rfl (b := b4) zM (by exact Nat.le_refl 8) rfl zU ?_
      refine W_assign rfl rfl ?_
      refine W_assign rfl rfl ?_
      refine W_nil ?_
      refine W_ret3G (H2 := X ++ H) Tryz.results60 (.nil _) (.own rfl ty56 rfl zM rfl) (.tmp rfl) (.tmp rfl) zH ?_
      rw [show x.del k = ((x.unlink k).1, (x.unlink k).2, 0) by unfold Xm.del; rw [if_neg q0, hf]]
      have hoo := ho.unlink hx he hel
      rw [← hek]
      exact ⟨_, X, _, (i : Int), rfl, hD, hoo, by rw [hdE_at (List.getElem?_set_self hi)]; show e.hd = (fndC x.C e.key).getD zHd; rw [hek, hf, heg]; rfl, List.length_set, fun c => absurd c q0, rfl⟩
theorem dsFree_at {w0 : World} {H : Heap} {L : List Slt} {ad : Option Addr} {cap i : Nat} {s : Slt} {slot gen : Int} (hk : AreOk L) (hrow : Holds w0 H ad (sdR L)) (hs : L[i]? = some s) (hu : s.st = 1) (e1 : slot = (i : Int)) (e2 : gen = s.own.gen) : LCalls Tryz.prog w0 91 #[.slice ad L.length cap, .int .i64 slot, .int .i64 gen] H (fun v H' => ∃ ad1 cap1 X, v = .tuple #[.slice ad1 L.length cap1, .int .i64 0] ∧ OwnS 117 3 (.slice ad1 L.length cap1) L.length (sdR (L.set i (relS s))) X ∧ L.length ≤ cap1 ∧ H' = X ++ H) := by
  subst e1 e2
  exact dsFree_L hk hrow hs hu
set_option maxHeartbeats 2000000 in
theorem dxFree_L {w0 : World} {H : Heap} {HR : Heap} {x : Xm} {E : List Elm} {cs : List Value} (hv : DxV w0 HR x E cs) (hHR : HSub H HR) (hx : x.Ok) (ho : EOk x E) (hEl : E.length ≤ 800) {g : Hd}  : LCalls Tryz.prog w0 61 #[.agg (List.toArray cs), .int .i64 g.slot, .int .i64 g.gen] (H) (fun v H' => ∃ cs1 X, v = .tuple #[.agg (List.toArray cs1), .int .i64 (x.free g).2] ∧ DxV w0 (X ++ HR) ((x.free g).1) (E) cs1 ∧ EOk (x.free g).1 E ∧ H' = X ++ H) := by
  obtain ⟨ads, caps, ade, cape, adc, capc, adu, capu, rfl, hS0, hSc, hE0, hEc, hC0, hCc, hU0, hUc⟩ := hv
  have hS := hS0.up hHR
  have hE := hE0.up hHR
  have hC := hC0.up hHR
  have hU := hU0.up hHR
  have hCl : x.C.length ≤ 8 := Nat.le_trans hx.le hx.ent.2
  have hul : x.used.length ≤ 8 := by rw [hx.ulen]; exact hCl
  refine L_enter (l := [.agg (List.toArray [.int .i64 (x.kind : Int), .int .i64 (x.entries : Int), .int .i64 (x.words : Int), .bool x.closed, .slice ads (x.L).length caps, .slice ade (E).length cape, .slice adc (x.C).length capc, .slice adu (x.used).length capu]), .int .i64 g.slot, .int .i64 g.gen]) Tryz.func61 rfl Tryz.ntmps61 rfl rfl ?_
  refine W_sr ?_
  refine W_box (l := [.int .i64 (x.kind : Int), .int .i64 (x.entries : Int), .int .i64 (x.words : Int), .bool x.closed, .slice ads (x.L).length caps, .slice ade (E).length cape, .slice adc (x.C).length capc, .slice adu (x.used).length capu]) rfl rfl rfl (fun b3 => ?_)
  refine W_alloc (l := [.int .i64 0, .int .i64 0, .int .i64 0, .bool false, .slice none 0 0, .slice none 0 0, .slice none 0 0, .slice none 0 0]) ty56 rfl rfl (fun b6 => ?_)
  refine W_assign rfl rfl ?_
  refine W_nil ?_
  refine W_sr ?_
  refine W_loadB (vs := [.int .i64 (x.kind : Int), .int .i64 (x.entries : Int), .int .i64 (x.words : Int), .bool x.closed, .slice ads (x.L).length caps, .slice ade (E).length cape, .slice adc (x.C).length capc, .slice adu (x.used).length capu]) rfl ty56 rfl (b := b3) zM rfl rfl rfl ?_
  refine W_move rfl rfl ?_
  refine W_move rfl rfl ?_
  refine W_callq (.cons rfl (.cons rfl (.cons rfl .nil))) Tryz.call32 rfl (dxAt_q (x := x) (E := E) (slot := g.slot) (gen := g.gen) ⟨ads, caps, ade, cape, adc, capc, adu, capu, rfl, hS0, hSc, hE0, hEc, hC0, hCc, hU0, hUc⟩ ((show HSub _ H from zH).trans hHR) hx.are (by omega)) ?_
  by_cases her : errA x.L g = 0
  · skip
    obtain ⟨i, e, hat, he, heg, hek, hew, hel⟩ := ho.atX0 hx her
    rw [hat]
    have hi := (List.getElem?_eq_some_iff.1 he).1
    obtain ⟨qk, pk, eqk, hkc⟩ := Holds.row elmC_len (by decide) hE he
    refine W_move rfl rfl ?_
    refine W_extract rfl rfl rfl ?_
    refine W_extract rfl rfl rfl ?_
    refine W_assign rfl rfl ?_
    refine W_assign rfl rfl ?_
    refine W_nil ?_
    refine W_seq ?_
    refine W_sr ?_
    refine W_move rfl rfl ?_
    refine W_bin rfl rfl b_neq rfl ?_
    first | rw [decide_eq_true her] | rw [decide_eq_false (fun h => h rfl)]
    refine W_nil ?_
    refine W_condF rfl rfl ?_
    refine W_skip ?_
    refine W_seq ?_
    refine W_sr ?_
    refine W_fieldAddr rfl fld56_5 (by decide) rfl ?_
    refine W_load (v := .slice ade (E).length cape) rfl ty53 rfl (Cell.own (b := b3) zM rfl) rfl ?_
    refine W_move rfl rfl ?_
    refine W_indexAddr (b := qk) (o := pk) (j := i) (by rw [← eqk]; rfl) rfl ty53 ty71 rfl (by omega) rfl rfl ?_
    refine W_fieldAddr rfl fld71_4 (by decide) rfl ?_
    refine W_load (v := .bool e.linked) rfl ty4 rfl ((hkc 7 (.bool e.linked) (rfl)).up zH) rfl ?_
    rcases hlk : e.linked with _ | _
    · skip
      refine W_nil ?_
      refine W_condF rfl rfl ?_
      refine W_skip ?_
      refine W_sr ?_
      refine W_fieldAddr rfl fld56_4 (by decide) rfl ?_
      refine W_load (v := .slice ads (x.L).length caps) rfl ty52 rfl (Cell.own (b := b3) zM rfl) rfl ?_
      refine W_move rfl rfl ?_
      refine W_move rfl rfl ?_
      obtain ⟨i0, s, h1, h2, h3, h4, h5, h6⟩ := errA_ok her
      refine W_call (.cons rfl (.cons rfl (.cons rfl .nil))) Tryz.call91 rfl (LCalls.hsub (dsFree_at (i := i0) (s := s) hx.are (hS.up zH) h2 h3 h1 (by rw [h4]) (H := (b3, .cells 56 8 [.int .i64 (x.kind : Int), .int .i64 (x.entries : Int), .int .i64 (x.words : Int), .bool x.closed, .slice ads (x.L).length caps, .slice ade (E).length cape, .slice adc (x.C).length capc, .slice adu (x.used).length capu]) :: (b6, .cells 56 8 [.int .i64 0, .int .i64 0, .int .i64 0, .bool false, .slice none 0 0, .slice none 0 0, .slice none 0 0, .slice none 0 0]) :: H)) zH) ?_
      rintro v H' ⟨ad1, cap1, X, rfl, hO1, hc1, rfl⟩
      refine W_move rfl rfl ?_
      refine W_extract rfl rfl rfl ?_
      refine W_extract rfl rfl rfl ?_
      refine W_fieldAddr rfl fld56_4 (by decide) rfl ?_
      refine W_store (l' := [.int .i64 (x.kind : Int), .int .i64 (x.entries : Int), .int .i64 (x.words : Int), .bool x.closed, .slice ad1 (x.L).length cap1, .slice ade (E).length cape, .slice adc (x.C).length capc, .slice adu (x.used).length capu]) rfl rfl ty52 rfl rfl (b := b3) zM rfl rfl zU ?_
      refine W_nil ?_
      refine W_sr ?_
      refine W_loadB (vs := [.int .i64 (x.kind : Int), .int .i64 (x.entries : Int), .int .i64 (x.words : Int), .bool x.closed, .slice ad1 (x.L).length cap1, .slice ade (E).length cape, .slice adc (x.C).length capc, .slice adu (x.used).length capu]) rfl ty56 rfl (b := b3) zM rfl rfl rfl ?_
      refine W_storeA (l' := [.int .i64 (x.kind : Int), .int .i64 (x.entries : Int), .int .i64 (x.words : Int), .bool x.closed, .slice ad1 (x.L).length cap1, .slice ade (E).length cape, .slice adc (x.C).length capc, .slice adu (x.used).length capu]) rfl rfl ty56 rfl rfl (b := b6) zM (by exact Nat.le_refl 8) rfl zU ?_
      refine W_assign rfl rfl ?_
      refine W_nil ?_
      refine W_ret2G (H2 := X ++ H) Tryz.results61 (.nil _) (.own rfl ty56 rfl zM rfl) (.tmp rfl) zH ?_
      rw [show x.free g = (Xm.mk x.kind x.entries x.words x.closed (setA x.L g relS) x.C x.used, 0) by unfold Xm.free; rw [if_neg (by rw [her]; decide), if_neg (by rw [← hel, hlk]; decide)]]
      refine ⟨_, X, rfl, ?_, ho.free her, rfl⟩
      rw [h6]
      exact ⟨ad1, cap1, ade, cape, adc, capc, adu, capu, by simp only [List.length_set], hO1.toHolds (fun p hp => by repeat (first | exact List.mem_append_left _ hp | apply List.mem_append_right | apply List.mem_cons_of_mem)), by rw [List.length_set]; exact hc1, hE0.up (.dropS (.refl _)), hEc, hC0.up (.dropS (.refl _)), hCc, hU0.up (.dropS (.refl _)), hUc⟩
    · skip
      refine W_nil ?_
      refine W_condT rfl rfl ?_
      refine W_sr ?_
      refine W_loadB (vs := [.int .i64 (x.kind : Int), .int .i64 (x.entries : Int), .int .i64 (x.words : Int), .bool x.closed, .slice ads (x.L).length caps, .slice ade (E).length cape, .slice adc (x.C).length capc, .slice adu (x.used).length capu]) rfl ty56 rfl (b := b3) zM rfl rfl rfl ?_
      refine W_storeA (l' := [.int .i64 (x.kind : Int), .int .i64 (x.entries : Int), .int .i64 (x.words : Int), .bool x.closed, .slice ads (x.L).length caps, .slice ade (E).length cape, .slice adc (x.C).length capc, .slice adu (x.used).length capu]) rfl rfl ty56 rfl rfl (b := b6) zM (by exact Nat.le_refl 8) rfl zU ?_
      refine W_assign rfl rfl ?_
      refine W_nil ?_
      refine W_ret2G (H2 := H) Tryz.results61 (.nil _) (.own rfl ty56 rfl zM rfl) (.tmp rfl) zH ?_
      rw [show x.free g = (x, 21) by unfold Xm.free; rw [if_neg (by rw [her]; decide), if_pos (by rw [← hel, hlk])]]
      exact ⟨_, [], rfl, ⟨ads, caps, ade, cape, adc, capc, adu, capu, rfl, hS0, hSc, hE0, hEc, hC0, hCc, hU0, hUc⟩, ho, rfl⟩
  · skip
    rw [atX_err her]
    refine W_move rfl rfl ?_
    refine W_extract rfl rfl rfl ?_
    refine W_extract rfl rfl rfl ?_
    refine W_assign rfl rfl ?_
    refine W_assign rfl rfl ?_
    refine W_nil ?_
    refine W_seq ?_
    refine W_sr ?_
    refine W_move rfl rfl ?_
    refine W_bin rfl rfl b_neq rfl ?_
    first | rw [decide_eq_true her] | rw [decide_eq_false (fun h => h rfl)]
    refine W_nil ?_
    refine W_condT rfl rfl ?_
    refine W_sr ?_
    refine W_loadB (vs := [.int .i64 (x.kind : Int), .int .i64 (x.entries : Int), .int .i64 (x.words : Int), .bool x.closed, .slice ads (x.L).length caps, .slice ade (E).length cape, .slice adc (x.C).length capc, .slice adu (x.used).length capu]) rfl ty56 rfl (b := b3) zM rfl rfl rfl ?_
    refine W_move rfl rfl ?_
    refine W_storeA (l' := [.int .i64 (x.kind : Int), .int .i64 (x.entries : Int), .int .i64 (x.words : Int), .bool x.closed, .slice ads (x.L).length caps, .slice ade (E).length cape, .slice adc (x.C).length capc, .slice adu (x.used).length capu]) rfl rfl ty56 rfl rfl (b := b6) zM (by exact Nat.le_refl 8) rfl zU ?_
    refine W_assign rfl rfl ?_
    refine W_nil ?_
    refine W_ret2G (H2 := H) Tryz.results61 (.nil _) (.own rfl ty56 rfl zM rfl) (.tmp rfl) zH ?_
    rw [show x.free g = (x, errA x.L g) from if_pos her]
    exact ⟨_, [], rfl, ⟨ads, caps, ade, cape, adc, capc, adu, capu, rfl, hS0, hSc, hE0, hEc, hC0, hCc, hU0, hUc⟩, ho, rfl⟩
set_option maxHeartbeats 1000000 in
theorem dxWord_q {w0 : World} {H : Heap} {HR : Heap} {x : Xm} {E : List Elm} {cs : List Value} (hv : DxV w0 HR x E cs) (hHR : HSub H HR) (hx : x.Ok) (ho : EOk x E) (hEl : E.length ≤ 800) {g : Hd} {at_ : Int}  : PureAt Tryz.prog w0 H 63 [.agg (List.toArray cs), .int .i64 g.slot, .int .i64 g.gen, .int .i64 at_] (.tuple #[.int .u64 (x.load g at_).1, .int .i64 (x.load g at_).2]) := by
  obtain ⟨ads, caps, ade, cape, adc, capc, adu, capu, rfl, hS0, hSc, hE0, hEc, hC0, hCc, hU0, hUc⟩ := hv
  have hS := hS0.up hHR
  have hE := hE0.up hHR
  have hC := hC0.up hHR
  have hU := hU0.up hHR
  have hCl : x.C.length ≤ 8 := Nat.le_trans hx.le hx.ent.2
  have hul : x.used.length ≤ 8 := by rw [hx.ulen]; exact hCl
  refine L_enter Tryz.func63 rfl Tryz.ntmps63 rfl rfl ?_
  refine W_sr ?_
  refine W_box (l := [.int .i64 (x.kind : Int), .int .i64 (x.entries : Int), .int .i64 (x.words : Int), .bool x.closed, .slice ads (x.L).length caps, .slice ade (E).length cape, .slice adc (x.C).length capc, .slice adu (x.used).length capu]) rfl rfl rfl (fun b4 => ?_)
  refine W_assign rfl rfl ?_
  refine W_assign rfl rfl ?_
  refine W_nil ?_
  refine W_sr ?_
  refine W_loadB (vs := [.int .i64 (x.kind : Int), .int .i64 (x.entries : Int), .int .i64 (x.words : Int), .bool x.closed, .slice ads (x.L).length caps, .slice ade (E).length cape, .slice adc (x.C).length capc, .slice adu (x.used).length capu]) rfl ty56 rfl (b := b4) zM rfl rfl rfl ?_
  refine W_move rfl rfl ?_
  refine W_move rfl rfl ?_
  refine W_callq (.cons rfl (.cons rfl (.cons rfl .nil))) Tryz.call32 rfl (dxAt_q (x := x) (E := E) (slot := g.slot) (gen := g.gen) ⟨ads, caps, ade, cape, adc, capc, adu, capu, rfl, hS0, hSc, hE0, hEc, hC0, hCc, hU0, hUc⟩ ((show HSub _ H from zH).trans hHR) hx.are (by omega)) ?_
  by_cases her : errA x.L g = 0
  · skip
    obtain ⟨i, e, hat, he, heg, hek, hew, hel⟩ := ho.atX0 hx her
    rw [hat]
    have hi := (List.getElem?_eq_some_iff.1 he).1
    obtain ⟨qk, pk, eqk, hkc⟩ := Holds.row elmC_len (by decide) hE he
    refine W_move rfl rfl ?_
    refine W_extract rfl rfl rfl ?_
    refine W_extract rfl rfl rfl ?_
    refine W_assign rfl rfl ?_
    refine W_assign rfl rfl ?_
    refine W_nil ?_
    refine W_seq ?_
    refine W_sr ?_
    refine W_move rfl rfl ?_
    refine W_bin rfl rfl b_neq rfl ?_
    first | rw [decide_eq_true her] | rw [decide_eq_false (fun h => h rfl)]
    refine W_nil ?_
    refine W_condF rfl rfl ?_
    refine W_skip ?_
    refine W_seq ?_
    refine W_sr ?_
    refine W_move rfl rfl ?_
    rcases (show at_ < 0 ∨ (¬ at_ < 0 ∧ (x.words : Int) ≤ at_) ∨ (¬ at_ < 0 ∧ ¬ (x.words : Int) ≤ at_) by omega) with hr | hr | hr
    · skip
      refine W_bin rfl rfl b_lss rfl ?_
      first | rw [decide_eq_true (by omega)] | rw [decide_eq_false (by omega)]
      refine W_move rfl rfl ?_
      refine W_gno rfl rfl rfl ?_
      refine W_gno rfl rfl rfl ?_
      refine W_gno rfl rfl rfl ?_
      refine W_gno rfl rfl rfl ?_
      first | refine W_pickt rfl rfl rfl ?_ | refine W_pickf rfl rfl rfl ?_
      refine W_nil ?_
      refine W_condT rfl rfl ?_
      refine W_sr ?_
      refine W_assign rfl rfl ?_
      refine W_assign rfl rfl ?_
      refine W_nil ?_
      refine W_ret2m (H2 := H) Tryz.results63 rfl rfl (.nil _) zH ?_
      rw [show x.load g at_ = (0, 1) by unfold Xm.load; rw [if_neg (by rw [her]; decide), if_pos (by omega)]]
      exact ⟨rfl, rfl⟩
    · skip
      refine W_bin rfl rfl b_lss rfl ?_
      first | rw [decide_eq_true (by omega)] | rw [decide_eq_false (by omega)]
      refine W_move rfl rfl ?_
      refine W_gyes rfl rfl ?_
      refine W_move rfl rfl ?_
      refine W_gyes rfl rfl ?_
      refine W_fieldAddr rfl fld56_2 (by decide) rfl ?_
      refine W_gyes rfl rfl ?_
      refine W_load (v := .int .i64 (x.words : Int)) rfl ty3 rfl (Cell.own (b := b4) zM rfl) rfl ?_
      refine W_gyes rfl rfl ?_
      refine W_bin rfl rfl b_geq rfl ?_
      first | rw [decide_eq_true (by omega)] | rw [decide_eq_false (by omega)]
      first | refine W_pickt rfl rfl rfl ?_ | refine W_pickf rfl rfl rfl ?_
      refine W_nil ?_
      refine W_condT rfl rfl ?_
      refine W_sr ?_
      refine W_assign rfl rfl ?_
      refine W_assign rfl rfl ?_
      refine W_nil ?_
      refine W_ret2m (H2 := H) Tryz.results63 rfl rfl (.nil _) zH ?_
      rw [show x.load g at_ = (0, 1) by unfold Xm.load; rw [if_neg (by rw [her]; decide), if_pos (by omega)]]
      exact ⟨rfl, rfl⟩
    · skip
      obtain ⟨n, rfl⟩ : ∃ n : Nat, at_ = (n : Int) := ⟨at_.toNat, by omega⟩
      have hn4 : n < 4 := by have := hx.wrd; omega
      refine W_bin rfl rfl b_lss rfl ?_
      first | rw [decide_eq_true (by omega)] | rw [decide_eq_false (by omega)]
      refine W_move rfl rfl ?_
      refine W_gyes rfl rfl ?_
      refine W_move rfl rfl ?_
      refine W_gyes rfl rfl ?_
      refine W_fieldAddr rfl fld56_2 (by decide) rfl ?_
      refine W_gyes rfl rfl ?_
      refine W_load (v := .int .i64 (x.words : Int)) rfl ty3 rfl (Cell.own (b := b4) zM rfl) rfl ?_
      refine W_gyes rfl rfl ?_
      refine W_bin rfl rfl b_geq rfl ?_
      first | rw [decide_eq_true (by omega)] | rw [decide_eq_false (by omega)]
      first | refine W_pickt rfl rfl rfl ?_ | refine W_pickf rfl rfl rfl ?_
      refine W_nil ?_
      refine W_condF rfl rfl ?_
      refine W_skip ?_
      refine W_sr ?_
      refine W_fieldAddr rfl fld56_5 (by decide) rfl ?_
      refine W_load (v := .slice ade (E).length cape) rfl ty53 rfl (Cell.own (b := b4) zM rfl) rfl ?_
      refine W_move rfl rfl ?_
      refine W_move rfl rfl ?_
      refine W_indexAddr (b := qk) (o := pk) (j := i) (by rw [← eqk]; rfl) rfl ty53 ty71 rfl (by omega) rfl rfl ?_
      refine W_fieldAddr rfl fld71_3 (by decide) rfl ?_
      refine W_indexAddrA (j := n) rfl rfl ty69 ty22 (by first | rfl | omega) (by omega) rfl rfl ?_
      refine W_load (v := .int .u64 (e.w.get n)) rfl ty22 rfl (by have h := hkc (3 + n) _ (elm_w e hn4); rw [← Nat.add_assoc] at h; rw [Nat.mul_one]; exact h.up zH) rfl ?_
      refine W_assign rfl rfl ?_
      refine W_assign rfl rfl ?_
      refine W_nil ?_
      refine W_ret2m (H2 := H) Tryz.results63 rfl rfl (.nil _) zH ?_
      rw [show x.load g (n : Int) = ((celA x.L g).w.get n, 0) by unfold Xm.load; rw [if_neg (by rw [her]; decide), if_neg (by omega), Int.toNat_natCast], ← hew]
      exact ⟨rfl, rfl⟩
  · skip
    rw [atX_err her]
    refine W_move rfl rfl ?_
    refine W_extract rfl rfl rfl ?_
    refine W_extract rfl rfl rfl ?_
    refine W_assign rfl rfl ?_
    refine W_assign rfl rfl ?_
    refine W_nil ?_
    refine W_seq ?_
    refine W_sr ?_
    refine W_move rfl rfl ?_
    refine W_bin rfl rfl b_neq rfl ?_
    first | rw [decide_eq_true her] | rw [decide_eq_false (fun h => h rfl)]
    refine W_nil ?_
    refine W_condT rfl rfl ?_
    refine W_sr ?_
    refine W_move rfl rfl ?_
    refine W_assign rfl rfl ?_
    refine W_assign rfl rfl ?_
    refine W_nil ?_
    refine W_ret2m (H2 := H) Tryz.results63 rfl rfl (.nil _) zH ?_
    rw [show x.load g at_ = (0, errA x.L g) from if_pos her]
    exact ⟨rfl, rfl⟩
set_option maxHeartbeats 4000000 in
theorem dxStore_L {w0 : World} {H : Heap} {HR : Heap} {x : Xm} {E : List Elm} {cs : List Value} (hv : DxV w0 HR x E cs) (hHR : HSub H HR) (hx : x.Ok) (ho : EOk x E) (hEl : E.length ≤ 800) {g : Hd} {at_ xv : Int}  : LCalls Tryz.prog w0 62 #[.agg (List.toArray cs), .int .i64 g.slot, .int .i64 g.gen, .int .i64 at_, .int .u64 xv] (H) (fun v H' => ∃ cs1 X E', v = .tuple #[.agg (List.toArray cs1), .int .i64 (x.store g at_ xv).2] ∧ DxV w0 (X ++ HR) ((x.store g at_ xv).1) (E') cs1 ∧ EOk (x.store g at_ xv).1 E' ∧ E'.length = E.length ∧ (x.kind = 0 → linkK E' = linkK E) ∧ H' = X ++ H) := by
  obtain ⟨ads, caps, ade, cape, adc, capc, adu, capu, rfl, hS0, hSc, hE0, hEc, hC0, hCc, hU0, hUc⟩ := hv
  have hS := hS0.up hHR
  have hE := hE0.up hHR
  have hC := hC0.up hHR
  have hU := hU0.up hHR
  have hCl : x.C.length ≤ 8 := Nat.le_trans hx.le hx.ent.2
  have hul : x.used.length ≤ 8 := by rw [hx.ulen]; exact hCl
  refine L_enter (l := [.agg (List.toArray [.int .i64 (x.kind : Int), .int .i64 (x.entries : Int), .int .i64 (x.words : Int), .bool x.closed, .slice ads (x.L).length caps, .slice ade (E).length cape, .slice adc (x.C).length capc, .slice adu (x.used).length capu]), .int .i64 g.slot, .int .i64 g.gen, .int .i64 at_, .int .u64 xv]) Tryz.func62 rfl Tryz.ntmps62 rfl rfl ?_
  refine W_sr ?_
  refine W_box (l := [.int .i64 (x.kind : Int), .int .i64 (x.entries : Int), .int .i64 (x.words : Int), .bool x.closed, .slice ads (x.L).length caps, .slice ade (E).length cape, .slice adc (x.C).length capc, .slice adu (x.used).length capu]) rfl rfl rfl (fun b5 => ?_)
  refine W_alloc (l := [.int .i64 0, .int .i64 0, .int .i64 0, .bool false, .slice none 0 0, .slice none 0 0, .slice none 0 0, .slice none 0 0]) ty56 rfl rfl (fun b10 => ?_)
  refine W_assign rfl rfl ?_
  refine W_nil ?_
  refine W_sr ?_
  refine W_loadB (vs := [.int .i64 (x.kind : Int), .int .i64 (x.entries : Int), .int .i64 (x.words : Int), .bool x.closed, .slice ads (x.L).length caps, .slice ade (E).length cape, .slice adc (x.C).length capc, .slice adu (x.used).length capu]) rfl ty56 rfl (b := b5) zM rfl rfl rfl ?_
  refine W_move rfl rfl ?_
  refine W_move rfl rfl ?_
  refine W_move rfl rfl ?_
  refine W_callq (.cons rfl (.cons rfl (.cons rfl (.cons rfl .nil)))) Tryz.call63 rfl (dxWord_q (x := x) (E := E) (g := g) (at_ := at_) ⟨ads, caps, ade, cape, adc, capc, adu, capu, rfl, hS0, hSc, hE0, hEc, hC0, hCc, hU0, hUc⟩ ((show HSub _ H from zH).trans hHR) hx ho hEl) ?_
  rcases (show errA x.L g ≠ 0 ∨ (errA x.L g = 0 ∧ (at_ < 0 ∨ (x.words : Int) ≤ at_)) ∨ (errA x.L g = 0 ∧ ¬ (at_ < 0 ∨ (x.words : Int) ≤ at_)) by omega) with her | ⟨her, hr⟩ | ⟨her, hr⟩
  · skip
    rw [show x.load g at_ = (0, errA x.L g) from if_pos her]
    refine W_move rfl rfl ?_
    refine W_extract rfl rfl rfl ?_
    refine W_extract rfl rfl rfl ?_
    refine W_assign rfl rfl ?_
    refine W_assign rfl rfl ?_
    refine W_nil ?_
    refine W_seq ?_
    refine W_sr ?_
    refine W_move rfl rfl ?_
    refine W_bin rfl rfl b_neq rfl ?_
    first | rw [decide_eq_true her] | rw [decide_eq_true (by decide)] | rw [decide_eq_false (fun h => h rfl)]
    refine W_nil ?_
    refine W_condT rfl rfl ?_
    refine W_sr ?_
    refine W_loadB (vs := [.int .i64 (x.kind : Int), .int .i64 (x.entries : Int), .int .i64 (x.words : Int), .bool x.closed, .slice ads (x.L).length caps, .slice ade (E).length cape, .slice adc (x.C).length capc, .slice adu (x.used).length capu]) rfl ty56 rfl (b := b5) zM rfl rfl rfl ?_
    refine W_move rfl rfl ?_
    refine W_storeA (l' := [.int .i64 (x.kind : Int), .int .i64 (x.entries : Int), .int .i64 (x.words : Int), .bool x.closed, .slice ads (x.L).length caps, .slice ade (E).length cape, .slice adc (x.C).length capc, .slice adu (x.used).length capu]) rfl rfl ty56 rfl rfl (b := b10) zM (by exact Nat.le_refl 8) rfl zU ?_
    refine W_assign rfl rfl ?_
    refine W_nil ?_
    refine W_ret2G (H2 := H) Tryz.results62 (.nil _) (.own rfl ty56 rfl zM rfl) (.tmp rfl) zH ?_
    rw [show x.store g at_ xv = (x, errA x.L g) from if_pos her]
    exact ⟨_, [], E, rfl, ⟨ads, caps, ade, cape, adc, capc, adu, capu, rfl, hS0, hSc, hE0, hEc, hC0, hCc, hU0, hUc⟩, ho, rfl, fun _ => rfl, rfl⟩
  · skip
    rw [show x.load g at_ = (0, 1) by unfold Xm.load; rw [if_neg (by rw [her]; decide), if_pos hr]]
    refine W_move rfl rfl ?_
    refine W_extract rfl rfl rfl ?_
    refine W_extract rfl rfl rfl ?_
    refine W_assign rfl rfl ?_
    refine W_assign rfl rfl ?_
    refine W_nil ?_
    refine W_seq ?_
    refine W_sr ?_
    refine W_move rfl rfl ?_
    refine W_bin rfl rfl b_neq rfl ?_
    first | rw [decide_eq_true her] | rw [decide_eq_true (by decide)] | rw [decide_eq_false (fun h => h rfl)]
    refine W_nil ?_
    refine W_condT rfl rfl ?_
    refine W_sr ?_
    refine W_loadB (vs := [.int .i64 (x.kind : Int), .int .i64 (x.entries : Int), .int .i64 (x.words : Int), .bool x.closed, .slice ads (x.L).length caps, .slice ade (E).length cape, .slice adc (x.C).length capc, .slice adu (x.used).length capu]) rfl ty56 rfl (b := b5) zM rfl rfl rfl ?_
    refine W_move rfl rfl ?_
    refine W_storeA (l' := [.int .i64 (x.kind : Int), .int .i64 (x.entries : Int), .int .i64 (x.words : Int), .bool x.closed, .slice ads (x.L).length caps, .slice ade (E).length cape, .slice adc (x.C).length capc, .slice adu (x.used).length capu]) rfl rfl ty56 rfl rfl (b := b10) zM (by exact Nat.le_refl 8) rfl zU ?_
    refine W_assign rfl rfl ?_
    refine W_nil ?_
    refine W_ret2G (H2 := H) Tryz.results62 (.nil _) (.own rfl ty56 rfl zM rfl) (.tmp rfl) zH ?_
    rw [show x.store g at_ xv = (x, 1) by unfold Xm.store; rw [if_neg (by rw [her]; decide), if_pos hr]]
    exact ⟨_, [], E, rfl, ⟨ads, caps, ade, cape, adc, capc, adu, capu, rfl, hS0, hSc, hE0, hEc, hC0, hCc, hU0, hUc⟩, ho, rfl, fun _ => rfl, rfl⟩
  · skip
    rw [show x.load g at_ = ((celA x.L g).w.get at_.toNat, 0) by unfold Xm.load; rw [if_neg (by rw [her]; decide), if_neg hr]]
    obtain ⟨i, e, hat, he, heg, hek, hew, hel⟩ := ho.atX0 hx her
    have hi := (List.getElem?_eq_some_iff.1 he).1
    obtain ⟨qk, pk, eqk, hkc⟩ := Holds.row elmC_len (by decide) hE he
    obtain ⟨n, rfl⟩ : ∃ n : Nat, at_ = (n : Int) := ⟨at_.toNat, by omega⟩
    have hn4 : n < 4 := by have := hx.wrd; omega
    refine W_move rfl rfl ?_
    refine W_extract rfl rfl rfl ?_
    refine W_extract rfl rfl rfl ?_
    refine W_assign rfl rfl ?_
    refine W_assign rfl rfl ?_
    refine W_nil ?_
    refine W_seq ?_
    refine W_sr ?_
    refine W_move rfl rfl ?_
    refine W_bin rfl rfl b_neq rfl ?_
    first | rw [decide_eq_true her] | rw [decide_eq_true (by decide)] | rw [decide_eq_false (fun h => h rfl)]
    refine W_nil ?_
    refine W_condF rfl rfl ?_
    refine W_skip ?_
    refine W_sr ?_
    refine W_loadB (vs := [.int .i64 (x.kind : Int), .int .i64 (x.entries : Int), .int .i64 (x.words : Int), .bool x.closed, .slice ads (x.L).length caps, .slice ade (E).length cape, .slice adc (x.C).length capc, .slice adu (x.used).length capu]) rfl ty56 rfl (b := b5) zM rfl rfl rfl ?_
    refine W_move rfl rfl ?_
    refine W_move rfl rfl ?_
    refine W_callq (.cons rfl (.cons rfl (.cons rfl .nil))) Tryz.call32 rfl (dxAt_q (x := x) (E := E) (slot := g.slot) (gen := g.gen) ⟨ads, caps, ade, cape, adc, capc, adu, capu, rfl, hS0, hSc, hE0, hEc, hC0, hCc, hU0, hUc⟩ ((show HSub _ H from zH).trans hHR) hx.are (by omega)) ?_
    rw [hat]
    refine W_move rfl rfl ?_
    refine W_extract rfl rfl rfl ?_
    refine W_extract rfl rfl rfl ?_
    refine W_assign rfl rfl ?_
    refine W_assign rfl rfl ?_
    refine W_nil ?_
    refine W_sr ?_
    refine W_fieldAddr rfl fld56_5 (by decide) rfl ?_
    refine W_load (v := .slice ade (E).length cape) rfl ty53 rfl (Cell.own (b := b5) zM rfl) rfl ?_
    refine W_move rfl rfl ?_
    refine W_indexAddr (b := qk) (o := pk) (j := i) (by rw [← eqk]; rfl) rfl ty53 ty71 rfl (by omega) rfl rfl ?_
    refine W_loadA (vs := elmC e) rfl ty71 rfl rfl (hkc.up zH) rfl ?_
    refine W_alloc (l := [.int .u64 0, .int .i64 0, .int .i64 0, .int .u64 0, .int .u64 0, .int .u64 0, .int .u64 0, .bool false]) ty71 rfl rfl (fun b16 => ?_)
    refine W_storeA (l' := elmC e) rfl rfl ty71 rfl rfl (b := b16) zM (by exact Nat.le_refl 8) rfl zU ?_
    refine W_nil ?_
    refine W_sr ?_
    refine W_move rfl rfl ?_
    refine W_move rfl rfl ?_
    refine W_fieldAddr rfl fld71_3 (by decide) rfl ?_
    refine W_indexAddrA (j := n) rfl rfl ty69 ty22 (by first | rfl | omega) (by omega) rfl rfl ?_
    refine W_store (l' := elmC { e with w := e.w.put n xv }) rfl rfl ty22 rfl rfl (b := b16) zM (by show Nat.blt _ 8 = true; rw [Nat.blt_eq]; omega) (by rw [Nat.zero_add, Nat.mul_one]; exact elm_put e hn4 xv) zU ?_
    refine W_nil ?_
    refine W_sr ?_
    refine W_loadB (vs := [.int .i64 (x.kind : Int), .int .i64 (x.entries : Int), .int .i64 (x.words : Int), .bool x.closed, .slice ads (x.L).length caps, .slice ade (E).length cape, .slice adc (x.C).length capc, .slice adu (x.used).length capu]) rfl ty56 rfl (b := b5) zM rfl rfl rfl ?_
    refine W_move rfl rfl ?_
    refine W_loadB (vs := elmC { e with w := e.w.put n xv }) rfl ty71 rfl (b := b16) zM rfl rfl rfl ?_
    refine W_call (.cons rfl (.cons rfl (.cons rfl .nil))) Tryz.call89 rfl (LCalls.hsub (dxset_L (HR := HR) (x := x) (E := E) (i := i) (o := { e with w := e.w.put n xv }) ⟨ads, caps, ade, cape, adc, capc, adu, capu, rfl, hS0, hSc, hE0, hEc, hC0, hCc, hU0, hUc⟩ ((show HSub _ H from zH).trans hHR) hi (by omega) (H := (b5, .cells 56 8 [.int .i64 (x.kind : Int), .int .i64 (x.entries : Int), .int .i64 (x.words : Int), .bool x.closed, .slice ads (x.L).length caps, .slice ade (E).length cape, .slice adc (x.C).length capc, .slice adu (x.used).length capu]) :: (b16, .cells 71 8 (elmC { e with w := e.w.put n xv })) :: (b10, .cells 56 8 [.int .i64 0, .int .i64 0, .int .i64 0, .bool false, .slice none 0 0, .slice none 0 0, .slice none 0 0, .slice none 0 0]) :: H)) zH) ?_
    rintro v H' ⟨cs4, X4, rfl, h4, rfl⟩
    have h4o := h4
    obtain ⟨ad1, cap1, ad2, cap2, ad3, cap3, ad4, cap4, rfl, _⟩ := h4o
    refine W_storeA (l' := [.int .i64 (x.kind : Int), .int .i64 (x.entries : Int), .int .i64 (x.words : Int), .bool x.closed, .slice ad1 (x.L).length cap1, .slice ad2 ((E.set i { e with w := e.w.put n xv })).length cap2, .slice ad3 (x.C).length cap3, .slice ad4 (x.used).length cap4]) rfl rfl ty56 rfl rfl (b := b10) zM (by exact Nat.le_refl 8) rfl zU ?_
    refine W_assign rfl rfl ?_
    refine W_nil ?_
    refine W_ret2G (H2 := X4 ++ H) Tryz.results62 (.nil _) (.own rfl ty56 rfl zM rfl) (.tmp rfl) zH ?_
    rw [show x.store g (n : Int) xv = (Xm.mk x.kind x.entries x.words x.closed (setA x.L g (fun s => { s with cel := ⟨s.cel.key, s.cel.w.put n xv⟩ })) x.C x.used, 0) by unfold Xm.store; rw [if_neg (by rw [her]; decide), if_neg hr, Int.toNat_natCast]]
    exact ⟨_, X4, _, rfl, h4.cong ⟨rfl, rfl, rfl, rfl⟩ (sdR_cel _ _ _) (setA_len _ _ _) rfl rfl, ho.words (fun q t ht => (hx.are.own q t ht).1) her he heg (fun s => ⟨s.cel.key, s.cel.w.put n xv⟩) _ (fun s h1 h2 => ⟨by show s.cel.key = e.key; rw [h2, hek], by show s.cel.w.put n xv = e.w.put n xv; rw [h2, hew]⟩), List.length_set, fun _ => linkK_set he rfl rfl, rfl⟩
end Go.Proofs.YtphdlpmnidiliaaGreatDoor
