/-
  Own work: contracts of functions that the statement reaches, and plain facts on what they compute; each theorem says its conditions.
-/
import Derived.Test.YtphdlpmnidiliaaGreatDoorXpT7
import Derived.Test.YtphdlpmnidiliaaGreatDoorXpS1
import Derived.Test.YtphdlpmnidiliaaGreatDoorXpA
set_option linter.all false
set_option linter.unusedSimpArgs false
set_option linter.unusedVariables false
namespace Go.Proofs.YtphdlpmnidiliaaGreatDoor
open Go Go.Sl
attribute [local irreducible] W
theorem keyL_unl {x : Xm} {k k0 : Int} (h : k ∉ keyL x.C) : k ∉ keyL (x.unlink k0).1.C := by
  show k ∉ keyL (delC x.C k0)
  rw [keyL_del]
  exact fun c => h (List.mem_filter.1 c).1
theorem decide_nonneg {n : Nat} : decide (0 ≤ (n : Int)) = true := decide_eq_true (by omega)
set_option maxHeartbeats 16000000 in
theorem dxPut_L {w0 : World} {H : Heap} {HR : Heap} {x : Xm} {E : List Elm} {cs : List Value} (hv : DxV w0 HR x E cs) (hHR : HSub H HR) (hx : x.Ok) (ho : EOk x E) (hEl : E.length ≤ 800) {how k : Int} {ws : List Int} {adw : Option Addr} {capw : Nat} (hrow : Holds w0 H adw (ws.map (Value.int .u64)))  : LCalls Tryz.prog w0 56 #[.agg (List.toArray cs), .int .i64 how, .int .u64 k, .slice adw ws.length capw] (H) (fun v H' => ∃ cs1 X E' a b, v = .tuple #[.agg (List.toArray cs1), .int .i64 a, .int .i64 b, .int .i64 (x.put how k ws).2.2] ∧ DxV w0 (X ++ HR) ((x.put how k ws).1) (E') cs1 ∧ EOk (x.put how k ws).1 E' ∧ hdE E' a = (x.put how k ws).2.1.h ∧ hdE E' b = (x.put how k ws).2.1.gone ∧ decide (0 ≤ b) = (x.put how k ws).2.1.out ∧ E'.length ≤ E.length + 1 ∧ (x.kind = 0 → linkK E' = linkK E) ∧ H' = X ++ H) := by
  obtain ⟨ads, caps, ade, cape, adc, capc, adu, capu, rfl, hS0, hSc, hE0, hEc, hC0, hCc, hU0, hUc⟩ := hv
  have hS := hS0.up hHR
  have hE := hE0.up hHR
  have hC := hC0.up hHR
  have hU := hU0.up hHR
  have hCl : x.C.length ≤ 8 := Nat.le_trans hx.le hx.ent.2
  have hul : x.used.length ≤ 8 := by rw [hx.ulen]; exact hCl
  refine L_enter (l := [.agg (List.toArray [.int .i64 (x.kind : Int), .int .i64 (x.entries : Int), .int .i64 (x.words : Int), .bool x.closed, .slice ads (x.L).length caps, .slice ade (E).length cape, .slice adc (x.C).length capc, .slice adu (x.used).length capu]), .int .i64 how, .int .u64 k, .slice adw ws.length capw]) Tryz.func56 rfl Tryz.ntmps56 rfl rfl ?_
  refine W_sr ?_
  refine W_box (l := [.int .i64 (x.kind : Int), .int .i64 (x.entries : Int), .int .i64 (x.words : Int), .bool x.closed, .slice ads (x.L).length caps, .slice ade (E).length cape, .slice adc (x.C).length capc, .slice adu (x.used).length capu]) rfl rfl rfl (fun b4 => ?_)
  refine W_alloc (l := [.int .i64 0, .int .i64 0, .int .i64 0, .bool false, .slice none 0 0, .slice none 0 0, .slice none 0 0, .slice none 0 0]) ty56 rfl rfl (fun b8 => ?_)
  refine W_assign rfl rfl ?_
  refine W_assign rfl rfl ?_
  refine W_assign rfl rfl ?_
  refine W_nil ?_
  refine W_seq ?_
  refine W_sr ?_
  refine W_move rfl rfl ?_
  rcases (show how < 0 ∨ (¬ how < 0 ∧ 2 < how) ∨ (¬ how < 0 ∧ ¬ 2 < how ∧ x.words < ws.length) ∨ (¬ how < 0 ∧ ¬ 2 < how ∧ ¬ x.words < ws.length) by omega) with hd | hd | hd | hd
  · skip
    refine W_bin rfl rfl b_lss rfl ?_
    first | rw [decide_eq_true (by omega)] | rw [decide_eq_false (by omega)]
    refine W_move rfl rfl ?_
    refine W_gno rfl rfl rfl ?_
    refine W_gno rfl rfl rfl ?_
    first | refine W_pickt rfl rfl rfl ?_ | refine W_pickf rfl rfl rfl ?_
    refine W_move rfl rfl ?_
    refine W_gno rfl rfl rfl ?_
    refine W_gno rfl rfl rfl ?_
    refine W_gno rfl rfl rfl ?_
    refine W_gno rfl rfl rfl ?_
    refine W_gno rfl rfl rfl ?_
    first | refine W_pickt rfl rfl rfl ?_ | refine W_pickf rfl rfl rfl ?_
    refine W_nil ?_
    refine W_condT rfl rfl ?_
    refine W_sr ?_
    refine W_loadB (vs := [.int .i64 (x.kind : Int), .int .i64 (x.entries : Int), .int .i64 (x.words : Int), .bool x.closed, .slice ads (x.L).length caps, .slice ade (E).length cape, .slice adc (x.C).length capc, .slice adu (x.used).length capu]) rfl ty56 rfl (b := b4) zM rfl rfl rfl ?_
    refine W_storeA (l' := [.int .i64 (x.kind : Int), .int .i64 (x.entries : Int), .int .i64 (x.words : Int), .bool x.closed, .slice ads (x.L).length caps, .slice ade (E).length cape, .slice adc (x.C).length capc, .slice adu (x.used).length capu]) rfl rfl ty56 rfl rfl (b := b8) zM (by exact Nat.le_refl 8) rfl zU ?_
    refine W_assign rfl rfl ?_
    refine W_assign rfl rfl ?_
    refine W_assign rfl rfl ?_
    refine W_nil ?_
    refine W_ret4G (H2 := H) Tryz.results56 (.nil _) (.own rfl ty56 rfl zM rfl) (.tmp rfl) (.tmp rfl) (.tmp rfl) zH ?_
    rw [show x.put how k ws = (x, zPutt, 1) from if_pos (by omega)]
    exact ⟨_, [], E, -1, -1, rfl, ⟨ads, caps, ade, cape, adc, capc, adu, capu, rfl, hS0, hSc, hE0, hEc, hC0, hCc, hU0, hUc⟩, ho, rfl, rfl, rfl, Nat.le_succ _, fun _ => rfl, rfl⟩
  · skip
    refine W_bin rfl rfl b_lss rfl ?_
    first | rw [decide_eq_true (by omega)] | rw [decide_eq_false (by omega)]
    refine W_move rfl rfl ?_
    refine W_gyes rfl rfl ?_
    refine W_move rfl rfl ?_
    refine W_gyes rfl rfl ?_
    refine W_bin rfl rfl b_gtr rfl ?_
    first | rw [decide_eq_true (by omega)] | rw [decide_eq_false (by omega)]
    first | refine W_pickt rfl rfl rfl ?_ | refine W_pickf rfl rfl rfl ?_
    refine W_move rfl rfl ?_
    refine W_gno rfl rfl rfl ?_
    refine W_gno rfl rfl rfl ?_
    refine W_gno rfl rfl rfl ?_
    refine W_gno rfl rfl rfl ?_
    refine W_gno rfl rfl rfl ?_
    first | refine W_pickt rfl rfl rfl ?_ | refine W_pickf rfl rfl rfl ?_
    refine W_nil ?_
    refine W_condT rfl rfl ?_
    refine W_sr ?_
    refine W_loadB (vs := [.int .i64 (x.kind : Int), .int .i64 (x.entries : Int), .int .i64 (x.words : Int), .bool x.closed, .slice ads (x.L).length caps, .slice ade (E).length cape, .slice adc (x.C).length capc, .slice adu (x.used).length capu]) rfl ty56 rfl (b := b4) zM rfl rfl rfl ?_
    refine W_storeA (l' := [.int .i64 (x.kind : Int), .int .i64 (x.entries : Int), .int .i64 (x.words : Int), .bool x.closed, .slice ads (x.L).length caps, .slice ade (E).length cape, .slice adc (x.C).length capc, .slice adu (x.used).length capu]) rfl rfl ty56 rfl rfl (b := b8) zM (by exact Nat.le_refl 8) rfl zU ?_
    refine W_assign rfl rfl ?_
    refine W_assign rfl rfl ?_
    refine W_assign rfl rfl ?_
    refine W_nil ?_
    refine W_ret4G (H2 := H) Tryz.results56 (.nil _) (.own rfl ty56 rfl zM rfl) (.tmp rfl) (.tmp rfl) (.tmp rfl) zH ?_
    rw [show x.put how k ws = (x, zPutt, 1) from if_pos (by omega)]
    exact ⟨_, [], E, -1, -1, rfl, ⟨ads, caps, ade, cape, adc, capc, adu, capu, rfl, hS0, hSc, hE0, hEc, hC0, hCc, hU0, hUc⟩, ho, rfl, rfl, rfl, Nat.le_succ _, fun _ => rfl, rfl⟩
  · skip
    refine W_bin rfl rfl b_lss rfl ?_
    first | rw [decide_eq_true (by omega)] | rw [decide_eq_false (by omega)]
    refine W_move rfl rfl ?_
    refine W_gyes rfl rfl ?_
    refine W_move rfl rfl ?_
    refine W_gyes rfl rfl ?_
    refine W_bin rfl rfl b_gtr rfl ?_
    first | rw [decide_eq_true (by omega)] | rw [decide_eq_false (by omega)]
    first | refine W_pickt rfl rfl rfl ?_ | refine W_pickf rfl rfl rfl ?_
    refine W_move rfl rfl ?_
    refine W_gyes rfl rfl ?_
    refine W_move rfl rfl ?_
    refine W_gyes rfl rfl ?_
    refine W_len rfl ty42 rfl rfl ?_
    refine W_gyes rfl rfl ?_
    refine W_fieldAddr rfl fld56_2 (by decide) rfl ?_
    refine W_gyes rfl rfl ?_
    refine W_load (v := .int .i64 (x.words : Int)) rfl ty3 rfl (Cell.own (b := b4) zM rfl) rfl ?_
    refine W_gyes rfl rfl ?_
    refine W_bin rfl rfl b_gtr rfl ?_
    first | rw [decide_eq_true (by omega)] | rw [decide_eq_false (by omega)]
    first | refine W_pickt rfl rfl rfl ?_ | refine W_pickf rfl rfl rfl ?_
    refine W_nil ?_
    refine W_condT rfl rfl ?_
    refine W_sr ?_
    refine W_loadB (vs := [.int .i64 (x.kind : Int), .int .i64 (x.entries : Int), .int .i64 (x.words : Int), .bool x.closed, .slice ads (x.L).length caps, .slice ade (E).length cape, .slice adc (x.C).length capc, .slice adu (x.used).length capu]) rfl ty56 rfl (b := b4) zM rfl rfl rfl ?_
    refine W_storeA (l' := [.int .i64 (x.kind : Int), .int .i64 (x.entries : Int), .int .i64 (x.words : Int), .bool x.closed, .slice ads (x.L).length caps, .slice ade (E).length cape, .slice adc (x.C).length capc, .slice adu (x.used).length capu]) rfl rfl ty56 rfl rfl (b := b8) zM (by exact Nat.le_refl 8) rfl zU ?_
    refine W_assign rfl rfl ?_
    refine W_assign rfl rfl ?_
    refine W_assign rfl rfl ?_
    refine W_nil ?_
    refine W_ret4G (H2 := H) Tryz.results56 (.nil _) (.own rfl ty56 rfl zM rfl) (.tmp rfl) (.tmp rfl) (.tmp rfl) zH ?_
    rw [show x.put how k ws = (x, zPutt, 1) from if_pos (by omega)]
    exact ⟨_, [], E, -1, -1, rfl, ⟨ads, caps, ade, cape, adc, capc, adu, capu, rfl, hS0, hSc, hE0, hEc, hC0, hCc, hU0, hUc⟩, ho, rfl, rfl, rfl, Nat.le_succ _, fun _ => rfl, rfl⟩
  · skip
    refine W_bin rfl rfl b_lss rfl ?_
    first | rw [decide_eq_true (by omega)] | rw [decide_eq_false (by omega)]
    refine W_move rfl rfl ?_
    refine W_gyes rfl rfl ?_
    refine W_move rfl rfl ?_
    refine W_gyes rfl rfl ?_
    refine W_bin rfl rfl b_gtr rfl ?_
    first | rw [decide_eq_true (by omega)] | rw [decide_eq_false (by omega)]
    first | refine W_pickt rfl rfl rfl ?_ | refine W_pickf rfl rfl rfl ?_
    refine W_move rfl rfl ?_
    refine W_gyes rfl rfl ?_
    refine W_move rfl rfl ?_
    refine W_gyes rfl rfl ?_
    refine W_len rfl ty42 rfl rfl ?_
    refine W_gyes rfl rfl ?_
    refine W_fieldAddr rfl fld56_2 (by decide) rfl ?_
    refine W_gyes rfl rfl ?_
    refine W_load (v := .int .i64 (x.words : Int)) rfl ty3 rfl (Cell.own (b := b4) zM rfl) rfl ?_
    refine W_gyes rfl rfl ?_
    refine W_bin rfl rfl b_gtr rfl ?_
    first | rw [decide_eq_true (by omega)] | rw [decide_eq_false (by omega)]
    first | refine W_pickt rfl rfl rfl ?_ | refine W_pickf rfl rfl rfl ?_
    refine W_nil ?_
    refine W_condF rfl rfl ?_
    refine W_skip ?_
    refine W_seq ?_
    refine W_sr ?_
    refine W_fieldAddr rfl fld56_3 (by decide) rfl ?_
    rcases Bool.eq_false_or_eq_true x.closed with hcl | hcl
    · skip
      refine W_load (v := .bool true) rfl ty4 rfl (Cell.own (b := b4) zM (by show some (Value.bool x.closed) = _; rw [hcl])) rfl ?_
      refine W_nil ?_
      refine W_condT rfl rfl ?_
      refine W_sr ?_
      refine W_loadB (vs := [.int .i64 (x.kind : Int), .int .i64 (x.entries : Int), .int .i64 (x.words : Int), .bool x.closed, .slice ads (x.L).length caps, .slice ade (E).length cape, .slice adc (x.C).length capc, .slice adu (x.used).length capu]) rfl ty56 rfl (b := b4) zM rfl rfl rfl ?_
      refine W_storeA (l' := [.int .i64 (x.kind : Int), .int .i64 (x.entries : Int), .int .i64 (x.words : Int), .bool x.closed, .slice ads (x.L).length caps, .slice ade (E).length cape, .slice adc (x.C).length capc, .slice adu (x.used).length capu]) rfl rfl ty56 rfl rfl (b := b8) zM (by exact Nat.le_refl 8) rfl zU ?_
      refine W_assign rfl rfl ?_
      refine W_assign rfl rfl ?_
      refine W_assign rfl rfl ?_
      refine W_nil ?_
      refine W_ret4G (H2 := H) Tryz.results56 (.nil _) (.own rfl ty56 rfl zM rfl) (.tmp rfl) (.tmp rfl) (.tmp rfl) zH ?_
      rw [show x.put how k ws = (x, zPutt, 22) by unfold Xm.put; rw [if_neg (by omega), if_pos hcl]]
      exact ⟨_, [], E, -1, -1, rfl, ⟨ads, caps, ade, cape, adc, capc, adu, capu, rfl, hS0, hSc, hE0, hEc, hC0, hCc, hU0, hUc⟩, ho, rfl, rfl, rfl, Nat.le_succ _, fun _ => rfl, rfl⟩
    · skip
      refine W_load (v := .bool false) rfl ty4 rfl (Cell.own (b := b4) zM (by show some (Value.bool x.closed) = _; rw [hcl])) rfl ?_
      refine W_nil ?_
      refine W_condF rfl rfl ?_
      refine W_skip ?_
      refine W_sr ?_
      refine W_loadB (vs := [.int .i64 (x.kind : Int), .int .i64 (x.entries : Int), .int .i64 (x.words : Int), .bool x.closed, .slice ads (x.L).length caps, .slice ade (E).length cape, .slice adc (x.C).length capc, .slice adu (x.used).length capu]) rfl ty56 rfl (b := b4) zM rfl rfl rfl ?_
      refine W_move rfl rfl ?_
      refine W_callq (.cons rfl (.cons rfl .nil)) Tryz.call58 rfl (dxFind_q (x := x) (E := E) (k := k) ⟨ads, caps, ade, cape, adc, capc, adu, capu, rfl, hS0, hSc, hE0, hEc, hC0, hCc, hU0, hUc⟩ ((show HSub _ H from zH).trans hHR) (by omega)) ?_
      rcases hf : fndC x.C k with _ | g
      · skip
        rw [ho.fndN hf, show zI none = -1 from rfl]
        refine W_assign rfl rfl ?_
        refine W_nil ?_
        refine W_seq ?_
        refine W_sr ?_
        refine W_move rfl rfl ?_
        refine W_bin rfl rfl b_geq rfl ?_
        first | rw [decide_eq_true (by omega)] | rw [decide_eq_false (by omega)]
        refine W_nil ?_
        refine W_condF rfl rfl ?_
        refine W_skip ?_
        refine W_sr ?_
        refine W_fieldAddr rfl fld56_4 (by decide) rfl ?_
        refine W_load (v := .slice ads (x.L).length caps) rfl ty52 rfl (Cell.own (b := b4) zM rfl) rfl ?_
        refine W_callq (.cons rfl .nil) Tryz.call24 rfl (dsCount_q hx.are ho.three (hS.up zH)) ?_
        refine W_move rfl rfl ?_
        refine W_extract rfl rfl rfl ?_
        refine W_extract rfl rfl rfl ?_
        refine W_assign rfl rfl ?_
        refine W_assign rfl rfl ?_
        refine W_nil ?_
        refine W_seq ?_
        refine W_sr ?_
        refine W_fieldAddr rfl fld56_0 (by decide) rfl ?_
        refine W_load (v := .int .i64 (x.kind : Int)) rfl ty3 rfl (Cell.own (b := b4) zM rfl) rfl ?_
        refine W_bin rfl rfl b_eql rfl ?_
        refine W_nil ?_
        refine W_condPS (p := x.kind = 0) rfl (by rw [decide_eq_true_eq]; omega) (fun q0 => ?_) (fun q0 => ?_)
        · skip
          refine W_sr ?_
          refine W_loadB (vs := [.int .i64 (x.kind : Int), .int .i64 (x.entries : Int), .int .i64 (x.words : Int), .bool x.closed, .slice ads (x.L).length caps, .slice ade (E).length cape, .slice adc (x.C).length capc, .slice adu (x.used).length capu]) rfl ty56 rfl (b := b4) zM rfl rfl rfl ?_
          refine W_storeA (l' := [.int .i64 (x.kind : Int), .int .i64 (x.entries : Int), .int .i64 (x.words : Int), .bool x.closed, .slice ads (x.L).length caps, .slice ade (E).length cape, .slice adc (x.C).length capc, .slice adu (x.used).length capu]) rfl rfl ty56 rfl rfl (b := b8) zM (by exact Nat.le_refl 8) rfl zU ?_
          refine W_assign rfl rfl ?_
          refine W_assign rfl rfl ?_
          refine W_assign rfl rfl ?_
          refine W_nil ?_
          refine W_ret4G (H2 := H) Tryz.results56 (.nil _) (.own rfl ty56 rfl zM rfl) (.tmp rfl) (.tmp rfl) (.tmp rfl) zH ?_
          have hrf : x.refE how = 2 := by unfold Xm.refE; rw [if_pos q0]
          rw [show x.put how k ws = (x, zPutt, 2) by unfold Xm.put; rw [if_neg (by omega), if_neg (by rw [hcl]; decide), hf]; dsimp only; rw [if_pos (by rw [hrf]; decide), hrf]]
          exact ⟨_, [], E, -1, -1, rfl, ⟨ads, caps, ade, cape, adc, capc, adu, capu, rfl, hS0, hSc, hE0, hEc, hC0, hCc, hU0, hUc⟩, ho, rfl, rfl, rfl, Nat.le_succ _, fun _ => rfl, rfl⟩
        · skip
          refine W_skip ?_
          refine W_seq ?_
          refine W_sr ?_
          refine W_move rfl rfl ?_
          refine W_bin rfl rfl b_eql rfl ?_
          refine W_nil ?_
          refine W_condPS (p := how = 2) rfl (by simp) (fun q1 => ?_) (fun q1 => ?_)
          · skip
            refine W_sr ?_
            refine W_loadB (vs := [.int .i64 (x.kind : Int), .int .i64 (x.entries : Int), .int .i64 (x.words : Int), .bool x.closed, .slice ads (x.L).length caps, .slice ade (E).length cape, .slice adc (x.C).length capc, .slice adu (x.used).length capu]) rfl ty56 rfl (b := b4) zM rfl rfl rfl ?_
            refine W_storeA (l' := [.int .i64 (x.kind : Int), .int .i64 (x.entries : Int), .int .i64 (x.words : Int), .bool x.closed, .slice ads (x.L).length caps, .slice ade (E).length cape, .slice adc (x.C).length capc, .slice adu (x.used).length capu]) rfl rfl ty56 rfl rfl (b := b8) zM (by exact Nat.le_refl 8) rfl zU ?_
            refine W_assign rfl rfl ?_
            refine W_assign rfl rfl ?_
            refine W_assign rfl rfl ?_
            refine W_nil ?_
            refine W_ret4G (H2 := H) Tryz.results56 (.nil _) (.own rfl ty56 rfl zM rfl) (.tmp rfl) (.tmp rfl) (.tmp rfl) zH ?_
            have hrf : x.refE how = 4 := by unfold Xm.refE; rw [if_neg q0, if_pos q1]
            rw [show x.put how k ws = (x, zPutt, 4) by unfold Xm.put; rw [if_neg (by omega), if_neg (by rw [hcl]; decide), hf]; dsimp only; rw [if_pos (by rw [hrf]; decide), hrf]]
            exact ⟨_, [], E, -1, -1, rfl, ⟨ads, caps, ade, cape, adc, capc, adu, capu, rfl, hS0, hSc, hE0, hEc, hC0, hCc, hU0, hUc⟩, ho, rfl, rfl, rfl, Nat.le_succ _, fun _ => rfl, rfl⟩
          · skip
            refine W_skip ?_
            refine W_seq ?_
            refine W_seq ?_
            rcases Decidable.em (x.kind = 1) with hk1 | hk1
            · skip
              refine W_quiet (by kernel_rfl) (by decide +kernel) ?_
              refine WQ_x (X_fieldAddr rfl fld56_0 (by decide)) rfl ?_
              refine WQ_x (X_load (v := .int .i64 (x.kind : Int)) rfl ty3 rfl (Cell.own (b := b4) zM rfl)) rfl ?_
              refine WQ_x (X_bin rfl rfl b_eql) rfl ?_
              first | rw [decide_eq_true (by omega)] | rw [decide_eq_false (by omega)]
              refine WQ_x (X_move rfl) rfl ?_
              refine WQ_gyes rfl rfl ?_
              refine WQ_x (X_loadB (vs := [.int .i64 (x.kind : Int), .int .i64 (x.entries : Int), .int .i64 (x.words : Int), .bool x.closed, .slice ads (x.L).length caps, .slice ade (E).length cape, .slice adc (x.C).length capc, .slice adu (x.used).length capu]) rfl ty56 rfl (b := b4) zM rfl rfl) rfl ?_
              refine WQ_gyes rfl rfl ?_
              refine WQ_callq (.cons rfl .nil) Tryz.call28 rfl (dxLen_q (x := x) (E := E) ⟨ads, caps, ade, cape, adc, capc, adu, capu, rfl, hS0, hSc, hE0, hEc, hC0, hCc, hU0, hUc⟩ ((show HSub _ H from zH).trans hHR)) ?_
              refine WQ_gyes rfl rfl ?_
              refine WQ_x (X_fieldAddr rfl fld56_1 (by decide)) rfl ?_
              refine WQ_gyes rfl rfl ?_
              refine WQ_x (X_load (v := .int .i64 (x.entries : Int)) rfl ty3 rfl (Cell.own (b := b4) zM rfl)) rfl ?_
              refine WQ_gyes rfl rfl ?_
              refine WQ_x (X_bin rfl rfl b_geq) rfl ?_
              first | refine WQ_x (X_pickt rfl rfl) rfl ?_ | refine WQ_x (X_pickf rfl rfl) rfl ?_
              refine WQ_nil ?_
              refine W_condPS (p := x.entries ≤ x.used.length) rfl (by rw [decide_eq_true_eq]; omega) (fun q2 => ?_) (fun q2 => ?_)
              · skip
                refine W_sr ?_
                refine W_loadB (vs := [.int .i64 (x.kind : Int), .int .i64 (x.entries : Int), .int .i64 (x.words : Int), .bool x.closed, .slice ads (x.L).length caps, .slice ade (E).length cape, .slice adc (x.C).length capc, .slice adu (x.used).length capu]) rfl ty56 rfl (b := b4) zM rfl rfl rfl ?_
                refine W_storeA (l' := [.int .i64 (x.kind : Int), .int .i64 (x.entries : Int), .int .i64 (x.words : Int), .bool x.closed, .slice ads (x.L).length caps, .slice ade (E).length cape, .slice adc (x.C).length capc, .slice adu (x.used).length capu]) rfl rfl ty56 rfl rfl (b := b8) zM (by exact Nat.le_refl 8) rfl zU ?_
                refine W_assign rfl rfl ?_
                refine W_assign rfl rfl ?_
                refine W_assign rfl rfl ?_
                refine W_nil ?_
                refine W_ret4G (H2 := H) Tryz.results56 (.nil _) (.own rfl ty56 rfl zM rfl) (.tmp rfl) (.tmp rfl) (.tmp rfl) zH ?_
                have hrf : x.refE how = 3 := by unfold Xm.refE; rw [if_neg q0, if_neg q1, if_pos ⟨hk1, by have h1 := hx.ulen; have h2 := hx.le; omega⟩]
                rw [show x.put how k ws = (x, zPutt, 3) by unfold Xm.put; rw [if_neg (by omega), if_neg (by rw [hcl]; decide), hf]; dsimp only; rw [if_pos (by rw [hrf]; decide), hrf]]
                exact ⟨_, [], E, -1, -1, rfl, ⟨ads, caps, ade, cape, adc, capc, adu, capu, rfl, hS0, hSc, hE0, hEc, hC0, hCc, hU0, hUc⟩, ho, rfl, rfl, rfl, Nat.le_succ _, fun _ => rfl, rfl⟩
              · skip
                refine W_skip ?_
                refine W_seq ?_
                refine W_sr ?_
                refine W_move rfl rfl ?_
                refine W_bin rfl rfl b_eql rfl ?_
                refine W_nil ?_
                refine W_condPS (p := cntA 0 x.L = 0) rfl (by rw [decide_eq_true_eq]; omega) (fun q3 => ?_) (fun q3 => ?_)
                · skip
                  refine W_sr ?_
                  refine W_loadB (vs := [.int .i64 (x.kind : Int), .int .i64 (x.entries : Int), .int .i64 (x.words : Int), .bool x.closed, .slice ads (x.L).length caps, .slice ade (E).length cape, .slice adc (x.C).length capc, .slice adu (x.used).length capu]) rfl ty56 rfl (b := b4) zM rfl rfl rfl ?_
                  refine W_storeA (l' := [.int .i64 (x.kind : Int), .int .i64 (x.entries : Int), .int .i64 (x.words : Int), .bool x.closed, .slice ads (x.L).length caps, .slice ade (E).length cape, .slice adc (x.C).length capc, .slice adu (x.used).length capu]) rfl rfl ty56 rfl rfl (b := b8) zM (by exact Nat.le_refl 8) rfl zU ?_
                  refine W_assign rfl rfl ?_
                  refine W_assign rfl rfl ?_
                  refine W_assign rfl rfl ?_
                  refine W_nil ?_
                  refine W_ret4G (H2 := H) Tryz.results56 (.nil _) (.own rfl ty56 rfl zM rfl) (.tmp rfl) (.tmp rfl) (.tmp rfl) zH ?_
                  have hrf : x.refE how = 20 := by unfold Xm.refE; rw [if_neg q0, if_neg q1, if_neg (fun c => q2 (by have := hx.ulen; omega)), if_pos q3]
                  rw [show x.put how k ws = (x, zPutt, 20) by unfold Xm.put; rw [if_neg (by omega), if_neg (by rw [hcl]; decide), hf]; dsimp only; rw [if_pos (by rw [hrf]; decide), hrf]]
                  exact ⟨_, [], E, -1, -1, rfl, ⟨ads, caps, ade, cape, adc, capc, adu, capu, rfl, hS0, hSc, hE0, hEc, hC0, hCc, hU0, hUc⟩, ho, rfl, rfl, rfl, Nat.le_succ _, fun _ => rfl, rfl⟩
                · skip
                  refine W_skip ?_
                  refine W_sr ?_
                  refine W_assign rfl rfl ?_
                  refine W_nil ?_
                  refine W_seq ?_
                  refine W_quietsr (by kernel_rfl) (by decide +kernel) ?_
                  refine WQ_x (X_loadB (vs := [.int .i64 (x.kind : Int), .int .i64 (x.entries : Int), .int .i64 (x.words : Int), .bool x.closed, .slice ads (x.L).length caps, .slice ade (E).length cape, .slice adc (x.C).length capc, .slice adu (x.used).length capu]) rfl ty56 rfl (b := b4) zM rfl rfl) rfl ?_
                  refine WQ_callq (.cons rfl .nil) Tryz.call28 rfl (dxLen_q (x := x) (E := E) ⟨ads, caps, ade, cape, adc, capc, adu, capu, rfl, hS0, hSc, hE0, hEc, hC0, hCc, hU0, hUc⟩ ((show HSub _ H from zH).trans hHR)) ?_
                  refine WQ_x (X_fieldAddr rfl fld56_1 (by decide)) rfl ?_
                  refine WQ_x (X_load (v := .int .i64 (x.entries : Int)) rfl ty3 rfl (Cell.own (b := b4) zM rfl)) rfl ?_
                  refine WQ_x (X_bin rfl rfl b_geq) rfl ?_
                  refine WQ_nil ?_
                  refine W_condPS (p := x.entries ≤ x.used.length) rfl (by rw [decide_eq_true_eq]; omega) (fun q4 => ?_) (fun q4 => ?_)
                  · skip
                    refine W_seq ?_
                    have hfull : x.C.length = x.entries := by have h1 := hx.ulen; have h2 := hx.le; omega
                    obtain ⟨z, hz⟩ : ∃ z, x.used[0]? = some z := ⟨_, List.getElem?_eq_getElem (by have := hx.ent; omega)⟩
                    have hzh : x.used.headD 0 = z := by
                      cases hu : x.used with
                      | nil => rw [hu] at hz; cases hz
                      | cons a l => rw [hu] at hz; exact Option.some.inj hz
                    obtain ⟨qu, pu, equ, hcu⟩ := hU.at (i := 0) (v := .int .u64 z) (by rw [List.getElem?_map, hz]; rfl)
                    obtain ⟨g0, hf0⟩ : ∃ g0, fndC x.C z = some g0 := by
                      cases hq : fndC x.C z with
                      | some g0 => exact ⟨g0, rfl⟩
                      | none => exact absurd (hx.umem.1 (List.mem_of_getElem? hz)) (fndC_none.1 hq)
                    obtain ⟨i, e, hfe, he, hel, hek, heg⟩ := ho.fnd hx hf0
                    have hi := (List.getElem?_eq_some_iff.1 he).1
                    · skip
                      refine W_quiet (by kernel_rfl) (by decide +kernel) ?_
                      refine WQ_x (X_loadB (vs := [.int .i64 (x.kind : Int), .int .i64 (x.entries : Int), .int .i64 (x.words : Int), .bool x.closed, .slice ads (x.L).length caps, .slice ade (E).length cape, .slice adc (x.C).length capc, .slice adu (x.used).length capu]) rfl ty56 rfl (b := b4) zM rfl rfl) rfl ?_
                      refine WQ_x (X_fieldAddr rfl fld56_7 (by decide)) rfl ?_
                      refine WQ_x (X_load (v := .slice adu (x.used).length capu) rfl ty42 rfl (Cell.own (b := b4) zM rfl)) rfl ?_
                      refine WQ_x (X_indexAddr (b := qu) (o := pu) (j := 0) (by rw [← equ]; rfl) rfl ty42 ty22 rfl (by have := hx.ent; omega) rfl) rfl ?_
                      refine WQ_x (X_load (v := .int .u64 z) rfl ty22 rfl (by exact hcu.up zH)) rfl ?_
                      refine WQ_callq (.cons rfl (.cons rfl .nil)) Tryz.call58 rfl (dxFind_q (x := x) (E := E) (k := z) ⟨ads, caps, ade, cape, adc, capc, adu, capu, rfl, hS0, hSc, hE0, hEc, hC0, hCc, hU0, hUc⟩ ((show HSub _ H from zH).trans hHR) (by omega)) ?_
                      rw [hfe, show zI (some i) = (i : Int) from rfl]
                      refine WQ_x (X_assign rfl) rfl ?_
                      refine WQ_nil ?_
                      refine W_region ?_
                      refine W_loadB (vs := [.int .i64 (x.kind : Int), .int .i64 (x.entries : Int), .int .i64 (x.words : Int), .bool x.closed, .slice ads (x.L).length caps, .slice ade (E).length cape, .slice adc (x.C).length capc, .slice adu (x.used).length capu]) rfl ty56 rfl (b := b4) zM rfl rfl rfl ?_
                      refine W_move rfl rfl ?_
                      refine W_call (.cons rfl (.cons rfl .nil)) Tryz.call90 rfl (LCalls.hsub (dxUnlink_L (x := x) (E := E) (i := i) (e := e) ⟨ads, caps, ade, cape, adc, capc, adu, capu, rfl, hS0, hSc, hE0, hEc, hC0, hCc, hU0, hUc⟩ ((show HSub _ H from zH).trans hHR) he (by rw [hek]; exact keyL_mem hf0) hx.nd (by omega) (by omega) (by omega) (H := (b4, .cells 56 8 [.int .i64 (x.kind : Int), .int .i64 (x.entries : Int), .int .i64 (x.words : Int), .bool x.closed, .slice ads (x.L).length caps, .slice ade (E).length cape, .slice adc (x.C).length capc, .slice adu (x.used).length capu]) :: (b8, .cells 56 8 [.int .i64 0, .int .i64 0, .int .i64 0, .bool false, .slice none 0 0, .slice none 0 0, .slice none 0 0, .slice none 0 0]) :: H)) zH) ?_
                      rintro v H' ⟨cs1, X1, rfl, hD1, rfl⟩
                      have hD1o := hD1
                      obtain ⟨ad1, cap1, ad2, cap2, ad3, cap3, ad4, cap4, rfl, _⟩ := hD1o
                      refine W_storeA (l' := [.int .i64 ((x.unlink e.key).1.kind : Int), .int .i64 ((x.unlink e.key).1.entries : Int), .int .i64 ((x.unlink e.key).1.words : Int), .bool (x.unlink e.key).1.closed, .slice ad1 ((x.unlink e.key).1.L).length cap1, .slice ad2 ((E.set i { e with linked := false })).length cap2, .slice ad3 ((x.unlink e.key).1.C).length cap3, .slice ad4 ((x.unlink e.key).1.used).length cap4]) rfl rfl ty56 rfl rfl (b := b4) zM (by exact Nat.le_refl 8) rfl zU ?_
                      refine W_nil ?_
                      refine W_sr ?_
                      refine W_loadB (vs := [.int .i64 ((x.unlink e.key).1.kind : Int), .int .i64 ((x.unlink e.key).1.entries : Int), .int .i64 ((x.unlink e.key).1.words : Int), .bool (x.unlink e.key).1.closed, .slice ad1 ((x.unlink e.key).1.L).length cap1, .slice ad2 ((E.set i { e with linked := false })).length cap2, .slice ad3 ((x.unlink e.key).1.C).length cap3, .slice ad4 ((x.unlink e.key).1.used).length cap4]) rfl ty56 rfl (b := b4) zM rfl rfl rfl ?_
                      refine W_move rfl rfl ?_
                      refine W_move rfl rfl ?_
                      have hrf : x.refE how = 0 := by unfold Xm.refE; rw [if_neg q0, if_neg q1, if_neg (fun c => q2 (by have := hx.ulen; omega)), if_neg q3]
                      obtain ⟨i1, s1, hf1, hs1⟩ := Xm.free_slot hrf
                      have hno := fndC_none.1 hf
                      have hx1 : (x.unlink e.key).1.Ok := hx.unlink e.key
                      have ho1 := ho.unlink hx he hel
                      refine W_call (.cons rfl (.cons rfl (.cons rfl .nil))) Tryz.call55 rfl (LCalls.hsub (dxlink_L (HR := X1 ++ HR) (x := (x.unlink e.key).1) (E := (E.set i { e with linked := false })) (k := k) (ws := ws) (capw := capw) (i := i1) (s := s1) hD1 ((show HSub _ (X1 ++ H) from zH).trans (.app (.here _) hHR)) hx1.are ho1.three hf1 hs1 (keyL_unl hno) (by rw [List.length_set]; omega) (by have := hx1.le; have := hx1.ent; omega) (by have := hx1.ulen; have := hx1.le; have := hx1.ent; omega) (hrow.up zH) (H := (b4, .cells 56 8 [.int .i64 ((x.unlink e.key).1.kind : Int), .int .i64 ((x.unlink e.key).1.entries : Int), .int .i64 ((x.unlink e.key).1.words : Int), .bool (x.unlink e.key).1.closed, .slice ad1 ((x.unlink e.key).1.L).length cap1, .slice ad2 ((E.set i { e with linked := false })).length cap2, .slice ad3 ((x.unlink e.key).1.C).length cap3, .slice ad4 ((x.unlink e.key).1.used).length cap4]) :: (b8, .cells 56 8 [.int .i64 0, .int .i64 0, .int .i64 0, .bool false, .slice none 0 0, .slice none 0 0, .slice none 0 0, .slice none 0 0]) :: (X1 ++ H))) zH) ?_
                      rintro v H' ⟨cs5, X2, rfl, hD2, rfl⟩
                      have hD2o := hD2
                      obtain ⟨ad5, cap5, ad6, cap6, ad7, cap7, ad8, cap8, rfl, _⟩ := hD2o
                      refine W_move rfl rfl ?_
                      refine W_extract rfl rfl rfl ?_
                      refine W_extract rfl rfl rfl ?_
                      refine W_storeA (l' := [.int .i64 (((x.unlink e.key).1.link (Cel.mk k (W4.of ws))).1.kind : Int), .int .i64 (((x.unlink e.key).1.link (Cel.mk k (W4.of ws))).1.entries : Int), .int .i64 (((x.unlink e.key).1.link (Cel.mk k (W4.of ws))).1.words : Int), .bool ((x.unlink e.key).1.link (Cel.mk k (W4.of ws))).1.closed, .slice ad5 (((x.unlink e.key).1.link (Cel.mk k (W4.of ws))).1.L).length cap5, .slice ad6 (((E.set i { e with linked := false }) ++ [Elm.mk k (i1 : Int) s1.own.gen (W4.of ws) true])).length cap6, .slice ad7 (((x.unlink e.key).1.link (Cel.mk k (W4.of ws))).1.C).length cap7, .slice ad8 (((x.unlink e.key).1.link (Cel.mk k (W4.of ws))).1.used).length cap8]) rfl rfl ty56 rfl rfl (b := b4) zM (by exact Nat.le_refl 8) rfl zU ?_
                      refine W_assign rfl rfl ?_
                      refine W_nil ?_
                      refine W_sr ?_
                      refine W_loadB (vs := [.int .i64 (((x.unlink e.key).1.link (Cel.mk k (W4.of ws))).1.kind : Int), .int .i64 (((x.unlink e.key).1.link (Cel.mk k (W4.of ws))).1.entries : Int), .int .i64 (((x.unlink e.key).1.link (Cel.mk k (W4.of ws))).1.words : Int), .bool ((x.unlink e.key).1.link (Cel.mk k (W4.of ws))).1.closed, .slice ad5 (((x.unlink e.key).1.link (Cel.mk k (W4.of ws))).1.L).length cap5, .slice ad6 (((E.set i { e with linked := false }) ++ [Elm.mk k (i1 : Int) s1.own.gen (W4.of ws) true])).length cap6, .slice ad7 (((x.unlink e.key).1.link (Cel.mk k (W4.of ws))).1.C).length cap7, .slice ad8 (((x.unlink e.key).1.link (Cel.mk k (W4.of ws))).1.used).length cap8]) rfl ty56 rfl (b := b4) zM rfl rfl rfl ?_
                      refine W_move rfl rfl ?_
                      refine W_move rfl rfl ?_
                      refine W_storeA (l' := [.int .i64 (((x.unlink e.key).1.link (Cel.mk k (W4.of ws))).1.kind : Int), .int .i64 (((x.unlink e.key).1.link (Cel.mk k (W4.of ws))).1.entries : Int), .int .i64 (((x.unlink e.key).1.link (Cel.mk k (W4.of ws))).1.words : Int), .bool ((x.unlink e.key).1.link (Cel.mk k (W4.of ws))).1.closed, .slice ad5 (((x.unlink e.key).1.link (Cel.mk k (W4.of ws))).1.L).length cap5, .slice ad6 (((E.set i { e with linked := false }) ++ [Elm.mk k (i1 : Int) s1.own.gen (W4.of ws) true])).length cap6, .slice ad7 (((x.unlink e.key).1.link (Cel.mk k (W4.of ws))).1.C).length cap7, .slice ad8 (((x.unlink e.key).1.link (Cel.mk k (W4.of ws))).1.used).length cap8]) rfl rfl ty56 rfl rfl (b := b8) zM (by exact Nat.le_refl 8) rfl zU ?_
                      refine W_assign rfl rfl ?_
                      refine W_assign rfl rfl ?_
                      refine W_assign rfl rfl ?_
                      refine W_nil ?_
                      refine W_ret4G (H2 := X2 ++ (X1 ++ H)) Tryz.results56 (.nil _) (.own rfl ty56 rfl zM rfl) (.tmp rfl) (.tmp rfl) (.tmp rfl) zH ?_
                      obtain ⟨o1, o2, o3⟩ := hx.are.own i1 s1 hs1
                      have hN : (⟨(i1 : Int), s1.own.gen⟩ : Hd) = s1.own := by rw [← o1]
                      rw [show x.put how k ws = (((x.unlink e.key).1.link ⟨k, W4.of ws⟩).1, ⟨((x.unlink e.key).1.link ⟨k, W4.of ws⟩).2, (x.unlink e.key).2, true⟩, 0) by unfold Xm.put; rw [if_neg (by omega), if_neg (by rw [hcl]; decide), hf]; dsimp only; rw [if_neg (by rw [hrf]; exact fun c => c rfl), if_pos hfull, hzh, ← hek]]
                      have hoo := ho1.link hx1 (w := W4.of ws) hf1 hs1 (keyL_unl hno)
                      refine ⟨_, X2 ++ X1, _, (E.length : Int), (i : Int), by rw [List.length_set]; rfl, ?_, hoo, ?_, ?_, decide_nonneg, by rw [List.length_append, List.length_set]; exact Nat.le_refl _, fun c => absurd c q0, by rw [List.append_assoc]⟩
                      · rw [List.append_assoc]; exact hD2
                      · rw [Xm.link_is (x := (x.unlink e.key).1) hf1 hs1, show (E.length : Int) = ((E.set i { e with linked := false }).length : Int) by rw [List.length_set], hdE_at (by rw [List.getElem?_append_right (Nat.le_refl _), Nat.sub_self]; rfl)]
                        exact hN
                      · rw [hdE_at (e := { e with linked := false }) (by rw [List.getElem?_append_left (by rw [List.length_set]; exact hi)]; exact List.getElem?_set_self hi)]
                        show e.hd = (fndC x.C e.key).getD zHd
                        rw [hek, hf0, heg]; rfl
                  · skip
                    refine W_skip ?_
                    refine W_sr ?_
                    refine W_loadB (vs := [.int .i64 (x.kind : Int), .int .i64 (x.entries : Int), .int .i64 (x.words : Int), .bool x.closed, .slice ads (x.L).length caps, .slice ade (E).length cape, .slice adc (x.C).length capc, .slice adu (x.used).length capu]) rfl ty56 rfl (b := b4) zM rfl rfl rfl ?_
                    refine W_move rfl rfl ?_
                    refine W_move rfl rfl ?_
                    have hrf : x.refE how = 0 := by unfold Xm.refE; rw [if_neg q0, if_neg q1, if_neg (fun c => q2 (by have := hx.ulen; omega)), if_neg q3]
                    obtain ⟨i1, s1, hf1, hs1⟩ := Xm.free_slot hrf
                    have hno := fndC_none.1 hf
                    refine W_call (.cons rfl (.cons rfl (.cons rfl .nil))) Tryz.call55 rfl (LCalls.hsub (dxlink_L (HR := HR) (x := x) (E := E) (k := k) (ws := ws) (capw := capw) (i := i1) (s := s1) ⟨ads, caps, ade, cape, adc, capc, adu, capu, rfl, hS0, hSc, hE0, hEc, hC0, hCc, hU0, hUc⟩ ((show HSub _ H from zH).trans hHR) hx.are ho.three hf1 hs1 hno (by omega) (by omega) (by omega) (hrow.up zH) (H := (b4, .cells 56 8 [.int .i64 (x.kind : Int), .int .i64 (x.entries : Int), .int .i64 (x.words : Int), .bool x.closed, .slice ads (x.L).length caps, .slice ade (E).length cape, .slice adc (x.C).length capc, .slice adu (x.used).length capu]) :: (b8, .cells 56 8 [.int .i64 0, .int .i64 0, .int .i64 0, .bool false, .slice none 0 0, .slice none 0 0, .slice none 0 0, .slice none 0 0]) :: H)) zH) ?_
                    rintro v H' ⟨cs5, X2, rfl, hD2, rfl⟩
                    have hD2o := hD2
                    obtain ⟨ad5, cap5, ad6, cap6, ad7, cap7, ad8, cap8, rfl, _⟩ := hD2o
                    refine W_move rfl rfl ?_
                    refine W_extract rfl rfl rfl ?_
                    refine W_extract rfl rfl rfl ?_
                    refine W_storeA (l' := [.int .i64 ((x.link (Cel.mk k (W4.of ws))).1.kind : Int), .int .i64 ((x.link (Cel.mk k (W4.of ws))).1.entries : Int), .int .i64 ((x.link (Cel.mk k (W4.of ws))).1.words : Int), .bool (x.link (Cel.mk k (W4.of ws))).1.closed, .slice ad5 ((x.link (Cel.mk k (W4.of ws))).1.L).length cap5, .slice ad6 ((E ++ [Elm.mk k (i1 : Int) s1.own.gen (W4.of ws) true])).length cap6, .slice ad7 ((x.link (Cel.mk k (W4.of ws))).1.C).length cap7, .slice ad8 ((x.link (Cel.mk k (W4.of ws))).1.used).length cap8]) rfl rfl ty56 rfl rfl (b := b4) zM (by exact Nat.le_refl 8) rfl zU ?_
                    refine W_assign rfl rfl ?_
                    refine W_nil ?_
                    refine W_sr ?_
                    refine W_loadB (vs := [.int .i64 ((x.link (Cel.mk k (W4.of ws))).1.kind : Int), .int .i64 ((x.link (Cel.mk k (W4.of ws))).1.entries : Int), .int .i64 ((x.link (Cel.mk k (W4.of ws))).1.words : Int), .bool (x.link (Cel.mk k (W4.of ws))).1.closed, .slice ad5 ((x.link (Cel.mk k (W4.of ws))).1.L).length cap5, .slice ad6 ((E ++ [Elm.mk k (i1 : Int) s1.own.gen (W4.of ws) true])).length cap6, .slice ad7 ((x.link (Cel.mk k (W4.of ws))).1.C).length cap7, .slice ad8 ((x.link (Cel.mk k (W4.of ws))).1.used).length cap8]) rfl ty56 rfl (b := b4) zM rfl rfl rfl ?_
                    refine W_move rfl rfl ?_
                    refine W_move rfl rfl ?_
                    refine W_storeA (l' := [.int .i64 ((x.link (Cel.mk k (W4.of ws))).1.kind : Int), .int .i64 ((x.link (Cel.mk k (W4.of ws))).1.entries : Int), .int .i64 ((x.link (Cel.mk k (W4.of ws))).1.words : Int), .bool (x.link (Cel.mk k (W4.of ws))).1.closed, .slice ad5 ((x.link (Cel.mk k (W4.of ws))).1.L).length cap5, .slice ad6 ((E ++ [Elm.mk k (i1 : Int) s1.own.gen (W4.of ws) true])).length cap6, .slice ad7 ((x.link (Cel.mk k (W4.of ws))).1.C).length cap7, .slice ad8 ((x.link (Cel.mk k (W4.of ws))).1.used).length cap8]) rfl rfl ty56 rfl rfl (b := b8) zM (by exact Nat.le_refl 8) rfl zU ?_
                    refine W_assign rfl rfl ?_
                    refine W_assign rfl rfl ?_
                    refine W_assign rfl rfl ?_
                    refine W_nil ?_
                    refine W_ret4G (H2 := X2 ++ H) Tryz.results56 (.nil _) (.own rfl ty56 rfl zM rfl) (.tmp rfl) (.tmp rfl) (.tmp rfl) zH ?_
                    obtain ⟨o1, o2, o3⟩ := hx.are.own i1 s1 hs1
                    have hN : (⟨(i1 : Int), s1.own.gen⟩ : Hd) = s1.own := by rw [← o1]
                    have hnf : ¬ x.C.length = x.entries := by have h1 := hx.ulen; omega
                    rw [show x.put how k ws = ((x.link ⟨k, W4.of ws⟩).1, ⟨(x.link ⟨k, W4.of ws⟩).2, zHd, false⟩, 0) by unfold Xm.put; rw [if_neg (by omega), if_neg (by rw [hcl]; decide), hf]; dsimp only; rw [if_neg (by rw [hrf]; exact fun c => c rfl), if_neg hnf]]
                    have hoo := ho.link hx (w := W4.of ws) hf1 hs1 hno
                    refine ⟨_, X2, _, (E.length : Int), -1, rfl, hD2, hoo, ?_, rfl, rfl, by rw [List.length_append]; exact Nat.le_refl _, fun c => absurd c q0, rfl⟩
                    rw [Xm.link_is hf1 hs1, hdE_at (by rw [List.getElem?_append_right (Nat.le_refl _), Nat.sub_self]; rfl)]
                    exact hN
            · skip
              refine W_quiet (by kernel_rfl) (by decide +kernel) ?_
              refine WQ_x (X_fieldAddr rfl fld56_0 (by decide)) rfl ?_
              refine WQ_x (X_load (v := .int .i64 (x.kind : Int)) rfl ty3 rfl (Cell.own (b := b4) zM rfl)) rfl ?_
              refine WQ_x (X_bin rfl rfl b_eql) rfl ?_
              first | rw [decide_eq_true (by omega)] | rw [decide_eq_false (by omega)]
              refine WQ_x (X_move rfl) rfl ?_
              refine WQ_gno rfl rfl rfl rfl ?_
              refine WQ_gno rfl rfl rfl rfl ?_
              refine WQ_gno rfl rfl rfl rfl ?_
              refine WQ_gno rfl rfl rfl rfl ?_
              refine WQ_gno rfl rfl rfl rfl ?_
              first | refine WQ_x (X_pickt rfl rfl) rfl ?_ | refine WQ_x (X_pickf rfl rfl) rfl ?_
              refine WQ_nil ?_
              refine W_condF rfl rfl ?_
              refine W_skip ?_
              refine W_seq ?_
              refine W_sr ?_
              refine W_move rfl rfl ?_
              refine W_bin rfl rfl b_eql rfl ?_
              refine W_nil ?_
              refine W_condPS (p := cntA 0 x.L = 0) rfl (by rw [decide_eq_true_eq]; omega) (fun q2 => ?_) (fun q2 => ?_)
              · skip
                refine W_sr ?_
                refine W_loadB (vs := [.int .i64 (x.kind : Int), .int .i64 (x.entries : Int), .int .i64 (x.words : Int), .bool x.closed, .slice ads (x.L).length caps, .slice ade (E).length cape, .slice adc (x.C).length capc, .slice adu (x.used).length capu]) rfl ty56 rfl (b := b4) zM rfl rfl rfl ?_
                refine W_storeA (l' := [.int .i64 (x.kind : Int), .int .i64 (x.entries : Int), .int .i64 (x.words : Int), .bool x.closed, .slice ads (x.L).length caps, .slice ade (E).length cape, .slice adc (x.C).length capc, .slice adu (x.used).length capu]) rfl rfl ty56 rfl rfl (b := b8) zM (by exact Nat.le_refl 8) rfl zU ?_
                refine W_assign rfl rfl ?_
                refine W_assign rfl rfl ?_
                refine W_assign rfl rfl ?_
                refine W_nil ?_
                refine W_ret4G (H2 := H) Tryz.results56 (.nil _) (.own rfl ty56 rfl zM rfl) (.tmp rfl) (.tmp rfl) (.tmp rfl) zH ?_
                have hrf : x.refE how = 20 := by unfold Xm.refE; rw [if_neg q0, if_neg q1, if_neg (fun c => hk1 c.1), if_pos q2]
                rw [show x.put how k ws = (x, zPutt, 20) by unfold Xm.put; rw [if_neg (by omega), if_neg (by rw [hcl]; decide), hf]; dsimp only; rw [if_pos (by rw [hrf]; decide), hrf]]
                exact ⟨_, [], E, -1, -1, rfl, ⟨ads, caps, ade, cape, adc, capc, adu, capu, rfl, hS0, hSc, hE0, hEc, hC0, hCc, hU0, hUc⟩, ho, rfl, rfl, rfl, Nat.le_succ _, fun _ => rfl, rfl⟩
              · skip
                refine W_skip ?_
                refine W_sr ?_
                refine W_assign rfl rfl ?_
                refine W_nil ?_
                refine W_seq ?_
                refine W_quietsr (by kernel_rfl) (by decide +kernel) ?_
                refine WQ_x (X_loadB (vs := [.int .i64 (x.kind : Int), .int .i64 (x.entries : Int), .int .i64 (x.words : Int), .bool x.closed, .slice ads (x.L).length caps, .slice ade (E).length cape, .slice adc (x.C).length capc, .slice adu (x.used).length capu]) rfl ty56 rfl (b := b4) zM rfl rfl) rfl ?_
                refine WQ_callq (.cons rfl .nil) Tryz.call28 rfl (dxLen_q (x := x) (E := E) ⟨ads, caps, ade, cape, adc, capc, adu, capu, rfl, hS0, hSc, hE0, hEc, hC0, hCc, hU0, hUc⟩ ((show HSub _ H from zH).trans hHR)) ?_
                refine WQ_x (X_fieldAddr rfl fld56_1 (by decide)) rfl ?_
                refine WQ_x (X_load (v := .int .i64 (x.entries : Int)) rfl ty3 rfl (Cell.own (b := b4) zM rfl)) rfl ?_
                refine WQ_x (X_bin rfl rfl b_geq) rfl ?_
                refine WQ_nil ?_
                refine W_condPS (p := x.entries ≤ x.used.length) rfl (by rw [decide_eq_true_eq]; omega) (fun q3 => ?_) (fun q3 => ?_)
                · skip
                  refine W_seq ?_
                  have hfull : x.C.length = x.entries := by have h1 := hx.ulen; have h2 := hx.le; omega
                  obtain ⟨z, hz⟩ : ∃ z, x.used[0]? = some z := ⟨_, List.getElem?_eq_getElem (by have := hx.ent; omega)⟩
                  have hzh : x.used.headD 0 = z := by
                    cases hu : x.used with
                    | nil => rw [hu] at hz; cases hz
                    | cons a l => rw [hu] at hz; exact Option.some.inj hz
                  obtain ⟨qu, pu, equ, hcu⟩ := hU.at (i := 0) (v := .int .u64 z) (by rw [List.getElem?_map, hz]; rfl)
                  obtain ⟨g0, hf0⟩ : ∃ g0, fndC x.C z = some g0 := by
                    cases hq : fndC x.C z with
                    | some g0 => exact ⟨g0, rfl⟩
                    | none => exact absurd (hx.umem.1 (List.mem_of_getElem? hz)) (fndC_none.1 hq)
                  obtain ⟨i, e, hfe, he, hel, hek, heg⟩ := ho.fnd hx hf0
                  have hi := (List.getElem?_eq_some_iff.1 he).1
                  · skip
                    refine W_quiet (by kernel_rfl) (by decide +kernel) ?_
                    refine WQ_x (X_loadB (vs := [.int .i64 (x.kind : Int), .int .i64 (x.entries : Int), .int .i64 (x.words : Int), .bool x.closed, .slice ads (x.L).length caps, .slice ade (E).length cape, .slice adc (x.C).length capc, .slice adu (x.used).length capu]) rfl ty56 rfl (b := b4) zM rfl rfl) rfl ?_
                    refine WQ_x (X_fieldAddr rfl fld56_7 (by decide)) rfl ?_
                    refine WQ_x (X_load (v := .slice adu (x.used).length capu) rfl ty42 rfl (Cell.own (b := b4) zM rfl)) rfl ?_
                    refine WQ_x (X_indexAddr (b := qu) (o := pu) (j := 0) (by rw [← equ]; rfl) rfl ty42 ty22 rfl (by have := hx.ent; omega) rfl) rfl ?_
                    refine WQ_x (X_load (v := .int .u64 z) rfl ty22 rfl (by exact hcu.up zH)) rfl ?_
                    refine WQ_callq (.cons rfl (.cons rfl .nil)) Tryz.call58 rfl (dxFind_q (x := x) (E := E) (k := z) ⟨ads, caps, ade, cape, adc, capc, adu, capu, rfl, hS0, hSc, hE0, hEc, hC0, hCc, hU0, hUc⟩ ((show HSub _ H from zH).trans hHR) (by omega)) ?_
                    rw [hfe, show zI (some i) = (i : Int) from rfl]
                    refine WQ_x (X_assign rfl) rfl ?_
                    refine WQ_nil ?_
                    refine W_region ?_
                    refine W_loadB (vs := [.int .i64 (x.kind : Int), .int .i64 (x.entries : Int), .int .i64 (x.words : Int), .bool x.closed, .slice ads (x.L).length caps, .slice ade (E).length cape, .slice adc (x.C).length capc, .slice adu (x.used).length capu]) rfl ty56 rfl (b := b4) zM rfl rfl rfl ?_
                    refine W_move rfl rfl ?_
                    refine W_call (.cons rfl (.cons rfl .nil)) Tryz.call90 rfl (LCalls.hsub (dxUnlink_L (x := x) (E := E) (i := i) (e := e) ⟨ads, caps, ade, cape, adc, capc, adu, capu, rfl, hS0, hSc, hE0, hEc, hC0, hCc, hU0, hUc⟩ ((show HSub _ H from zH).trans hHR) he (by rw [hek]; exact keyL_mem hf0) hx.nd (by omega) (by omega) (by omega) (H := (b4, .cells 56 8 [.int .i64 (x.kind : Int), .int .i64 (x.entries : Int), .int .i64 (x.words : Int), .bool x.closed, .slice ads (x.L).length caps, .slice ade (E).length cape, .slice adc (x.C).length capc, .slice adu (x.used).length capu]) :: (b8, .cells 56 8 [.int .i64 0, .int .i64 0, .int .i64 0, .bool false, .slice none 0 0, .slice none 0 0, .slice none 0 0, .slice none 0 0]) :: H)) zH) ?_
                    rintro v H' ⟨cs1, X1, rfl, hD1, rfl⟩
                    have hD1o := hD1
                    obtain ⟨ad1, cap1, ad2, cap2, ad3, cap3, ad4, cap4, rfl, _⟩ := hD1o
                    refine W_storeA (l' := [.int .i64 ((x.unlink e.key).1.kind : Int), .int .i64 ((x.unlink e.key).1.entries : Int), .int .i64 ((x.unlink e.key).1.words : Int), .bool (x.unlink e.key).1.closed, .slice ad1 ((x.unlink e.key).1.L).length cap1, .slice ad2 ((E.set i { e with linked := false })).length cap2, .slice ad3 ((x.unlink e.key).1.C).length cap3, .slice ad4 ((x.unlink e.key).1.used).length cap4]) rfl rfl ty56 rfl rfl (b := b4) zM (by exact Nat.le_refl 8) rfl zU ?_
                    refine W_nil ?_
                    refine W_sr ?_
                    refine W_loadB (vs := [.int .i64 ((x.unlink e.key).1.kind : Int), .int .i64 ((x.unlink e.key).1.entries : Int), .int .i64 ((x.unlink e.key).1.words : Int), .bool (x.unlink e.key).1.closed, .slice ad1 ((x.unlink e.key).1.L).length cap1, .slice ad2 ((E.set i { e with linked := false })).length cap2, .slice ad3 ((x.unlink e.key).1.C).length cap3, .slice ad4 ((x.unlink e.key).1.used).length cap4]) rfl ty56 rfl (b := b4) zM rfl rfl rfl ?_
                    refine W_move rfl rfl ?_
                    refine W_move rfl rfl ?_
                    have hrf : x.refE how = 0 := by unfold Xm.refE; rw [if_neg q0, if_neg q1, if_neg (fun c => hk1 c.1), if_neg q2]
                    obtain ⟨i1, s1, hf1, hs1⟩ := Xm.free_slot hrf
                    have hno := fndC_none.1 hf
                    have hx1 : (x.unlink e.key).1.Ok := hx.unlink e.key
                    have ho1 := ho.unlink hx he hel
                    refine W_call (.cons rfl (.cons rfl (.cons rfl .nil))) Tryz.call55 rfl (LCalls.hsub (dxlink_L (HR := X1 ++ HR) (x := (x.unlink e.key).1) (E := (E.set i { e with linked := false })) (k := k) (ws := ws) (capw := capw) (i := i1) (s := s1) hD1 ((show HSub _ (X1 ++ H) from zH).trans (.app (.here _) hHR)) hx1.are ho1.three hf1 hs1 (keyL_unl hno) (by rw [List.length_set]; omega) (by have := hx1.le; have := hx1.ent; omega) (by have := hx1.ulen; have := hx1.le; have := hx1.ent; omega) (hrow.up zH) (H := (b4, .cells 56 8 [.int .i64 ((x.unlink e.key).1.kind : Int), .int .i64 ((x.unlink e.key).1.entries : Int), .int .i64 ((x.unlink e.key).1.words : Int), .bool (x.unlink e.key).1.closed, .slice ad1 ((x.unlink e.key).1.L).length cap1, .slice ad2 ((E.set i { e with linked := false })).length cap2, .slice ad3 ((x.unlink e.key).1.C).length cap3, .slice ad4 ((x.unlink e.key).1.used).length cap4]) :: (b8, .cells 56 8 [.int .i64 0, .int .i64 0, .int .i64 0, .bool false, .slice none 0 0, .slice none 0 0, .slice none 0 0, .slice none 0 0]) :: (X1 ++ H))) zH) ?_
                    rintro v H' ⟨cs5, X2, rfl, hD2, rfl⟩
                    have hD2o := hD2
                    obtain ⟨ad5, cap5, ad6, cap6, ad7, cap7, ad8, cap8, rfl, _⟩ := hD2o
                    refine W_move rfl rfl ?_
                    refine W_extract rfl rfl rfl ?_
                    refine W_extract rfl rfl rfl ?_
                    refine W_storeA (l' := [.int .i64 (((x.unlink e.key).1.link (Cel.mk k (W4.of ws))).1.kind : Int), .int .i64 (((x.unlink e.key).1.link (Cel.mk k (W4.of ws))).1.entries : Int), .int .i64 (((x.unlink e.key).1.link (Cel.mk k (W4.of ws))).1.words : Int), .bool ((x.unlink e.key).1.link (Cel.mk k (W4.of ws))).1.closed, .slice ad5 (((x.unlink e.key).1.link (Cel.mk k (W4.of ws))).1.L).length cap5, .slice ad6 (((E.set i { e with linked := false }) ++ [Elm.mk k (i1 : Int) s1.own.gen (W4.of ws) true])).length cap6, .slice ad7 (((x.unlink e.key).1.link (Cel.mk k (W4.of ws))).1.C).length cap7, .slice ad8 (((x.unlink e.key).1.link (Cel.mk k (W4.of ws))).1.used).length cap8]) rfl rfl ty56 rfl rfl (b := b4) zM (by exact Nat.le_refl 8) rfl zU ?_
                    refine W_assign rfl rfl ?_
                    refine W_nil ?_
                    refine W_sr ?_
                    refine W_loadB (vs := [.int .i64 (((x.unlink e.key).1.link (Cel.mk k (W4.of ws))).1.kind : Int), .int .i64 (((x.unlink e.key).1.link (Cel.mk k (W4.of ws))).1.entries : Int), .int .i64 (((x.unlink e.key).1.link (Cel.mk k (W4.of ws))).1.words : Int), .bool ((x.unlink e.key).1.link (Cel.mk k (W4.of ws))).1.closed, .slice ad5 (((x.unlink e.key).1.link (Cel.mk k (W4.of ws))).1.L).length cap5, .slice ad6 (((E.set i { e with linked := false }) ++ [Elm.mk k (i1 : Int) s1.own.gen (W4.of ws) true])).length cap6, .slice ad7 (((x.unlink e.key).1.link (Cel.mk k (W4.of ws))).1.C).length cap7, .slice ad8 (((x.unlink e.key).1.link (Cel.mk k (W4.of ws))).1.used).length cap8]) rfl ty56 rfl (b := b4) zM rfl rfl rfl ?_
                    refine W_move rfl rfl ?_
                    refine W_move rfl rfl ?_
                    refine W_storeA (l' := [.int .i64 (((x.unlink e.key).1.link (Cel.mk k (W4.of ws))).1.kind : Int), .int .i64 (((x.unlink e.key).1.link (Cel.mk k (W4.of ws))).1.entries : Int), .int .i64 (((x.unlink e.key).1.link (Cel.mk k (W4.of ws))).1.words : Int), .bool ((x.unlink e.key).1.link (Cel.mk k (W4.of ws))).1.closed, .slice ad5 (((x.unlink e.key).1.link (Cel.mk k (W4.of ws))).1.L).length cap5, .slice ad6 (((E.set i { e with linked := false }) ++ [Elm.mk k (i1 : Int) s1.own.gen (W4.of ws) true])).length cap6, .slice ad7 (((x.unlink e.key).1.link (Cel.mk k (W4.of ws))).1.C).length cap7, .slice ad8 (((x.unlink e.key).1.link (Cel.mk k (W4.of ws))).1.used).length cap8]) rfl rfl ty56 rfl rfl (b := b8) zM (by exact Nat.le_refl 8) rfl zU ?_
                    refine W_assign rfl rfl ?_
                    refine W_assign rfl rfl ?_
                    refine W_assign rfl rfl ?_
                    refine W_nil ?_
                    refine W_ret4G (H2 := X2 ++ (X1 ++ H)) Tryz.results56 (.nil _) (.own rfl ty56 rfl zM rfl) (.tmp rfl) (.tmp rfl) (.tmp rfl) zH ?_
                    obtain ⟨o1, o2, o3⟩ := hx.are.own i1 s1 hs1
                    have hN : (⟨(i1 : Int), s1.own.gen⟩ : Hd) = s1.own := by rw [← o1]
                    rw [show x.put how k ws = (((x.unlink e.key).1.link ⟨k, W4.of ws⟩).1, ⟨((x.unlink e.key).1.link ⟨k, W4.of ws⟩).2, (x.unlink e.key).2, true⟩, 0) by unfold Xm.put; rw [if_neg (by omega), if_neg (by rw [hcl]; decide), hf]; dsimp only; rw [if_neg (by rw [hrf]; exact fun c => c rfl), if_pos hfull, hzh, ← hek]]
                    have hoo := ho1.link hx1 (w := W4.of ws) hf1 hs1 (keyL_unl hno)
                    refine ⟨_, X2 ++ X1, _, (E.length : Int), (i : Int), by rw [List.length_set]; rfl, ?_, hoo, ?_, ?_, decide_nonneg, by rw [List.length_append, List.length_set]; exact Nat.le_refl _, fun c => absurd c q0, by rw [List.append_assoc]⟩
                    · rw [List.append_assoc]; exact hD2
                    · rw [Xm.link_is (x := (x.unlink e.key).1) hf1 hs1, show (E.length : Int) = ((E.set i { e with linked := false }).length : Int) by rw [List.length_set], hdE_at (by rw [List.getElem?_append_right (Nat.le_refl _), Nat.sub_self]; rfl)]
                      exact hN
                    · rw [hdE_at (e := { e with linked := false }) (by rw [List.getElem?_append_left (by rw [List.length_set]; exact hi)]; exact List.getElem?_set_self hi)]
                      show e.hd = (fndC x.C e.key).getD zHd
                      rw [hek, hf0, heg]; rfl
                · skip
                  refine W_skip ?_
                  refine W_sr ?_
                  refine W_loadB (vs := [.int .i64 (x.kind : Int), .int .i64 (x.entries : Int), .int .i64 (x.words : Int), .bool x.closed, .slice ads (x.L).length caps, .slice ade (E).length cape, .slice adc (x.C).length capc, .slice adu (x.used).length capu]) rfl ty56 rfl (b := b4) zM rfl rfl rfl ?_
                  refine W_move rfl rfl ?_
                  refine W_move rfl rfl ?_
                  have hrf : x.refE how = 0 := by unfold Xm.refE; rw [if_neg q0, if_neg q1, if_neg (fun c => hk1 c.1), if_neg q2]
                  obtain ⟨i1, s1, hf1, hs1⟩ := Xm.free_slot hrf
                  have hno := fndC_none.1 hf
                  refine W_call (.cons rfl (.cons rfl (.cons rfl .nil))) Tryz.call55 rfl (LCalls.hsub (dxlink_L (HR := HR) (x := x) (E := E) (k := k) (ws := ws) (capw := capw) (i := i1) (s := s1) ⟨ads, caps, ade, cape, adc, capc, adu, capu, rfl, hS0, hSc, hE0, hEc, hC0, hCc, hU0, hUc⟩ ((show HSub _ H from zH).trans hHR) hx.are ho.three hf1 hs1 hno (by omega) (by omega) (by omega) (hrow.up zH) (H := (b4, .cells 56 8 [.int .i64 (x.kind : Int), .int .i64 (x.entries : Int), .int .i64 (x.words : Int), .bool x.closed, .slice ads (x.L).length caps, .slice ade (E).length cape, .slice adc (x.C).length capc, .slice adu (x.used).length capu]) :: (b8, .cells 56 8 [.int .i64 0, .int .i64 0, .int .i64 0, .bool false, .slice none 0 0, .slice none 0 0, .slice none 0 0, .slice none 0 0]) :: H)) zH) ?_
                  rintro v H' ⟨cs5, X2, rfl, hD2, rfl⟩
                  have hD2o := hD2
                  obtain ⟨ad5, cap5, ad6, cap6, ad7, cap7, ad8, cap8, rfl, _⟩ := hD2o
                  refine W_move rfl rfl ?_
                  refine W_extract rfl rfl rfl ?_
                  refine W_extract rfl rfl rfl ?_
                  refine W_storeA (l' := [.int .i64 ((x.link (Cel.mk k (W4.of ws))).1.kind : Int), .int .i64 ((x.link (Cel.mk k (W4.of ws))).1.entries : Int), .int .i64 ((x.link (Cel.mk k (W4.of ws))).1.words : Int), .bool (x.link (Cel.mk k (W4.of ws))).1.closed, .slice ad5 ((x.link (Cel.mk k (W4.of ws))).1.L).length cap5, .slice ad6 ((E ++ [Elm.mk k (i1 : Int) s1.own.gen (W4.of ws) true])).length cap6, .slice ad7 ((x.link (Cel.mk k (W4.of ws))).1.C).length cap7, .slice ad8 ((x.link (Cel.mk k (W4.of ws))).1.used).length cap8]) rfl rfl ty56 rfl rfl (b := b4) zM (by exact Nat.le_refl 8) rfl zU ?_
                  refine W_assign rfl rfl ?_
                  refine W_nil ?_
                  refine W_sr ?_
                  refine W_loadB (vs := [.int .i64 ((x.link (Cel.mk k (W4.of ws))).1.kind : Int), .int .i64 ((x.link (Cel.mk k (W4.of ws))).1.entries : Int), .int .i64 ((x.link (Cel.mk k (W4.of ws))).1.words : Int), .bool (x.link (Cel.mk k (W4.of ws))).1.closed, .slice ad5 ((x.link (Cel.mk k (W4.of ws))).1.L).length cap5, .slice ad6 ((E ++ [Elm.mk k (i1 : Int) s1.own.gen (W4.of ws) true])).length cap6, .slice ad7 ((x.link (Cel.mk k (W4.of ws))).1.C).length cap7, .slice ad8 ((x.link (Cel.mk k (W4.of ws))).1.used).length cap8]) rfl ty56 rfl (b := b4) zM rfl rfl rfl ?_
                  refine W_move rfl rfl ?_
                  refine W_move rfl rfl ?_
                  refine W_storeA (l' := [.int .i64 ((x.link (Cel.mk k (W4.of ws))).1.kind : Int), .int .i64 ((x.link (Cel.mk k (W4.of ws))).1.entries : Int), .int .i64 ((x.link (Cel.mk k (W4.of ws))).1.words : Int), .bool (x.link (Cel.mk k (W4.of ws))).1.closed, .slice ad5 ((x.link (Cel.mk k (W4.of ws))).1.L).length cap5, .slice ad6 ((E ++ [Elm.mk k (i1 : Int) s1.own.gen (W4.of ws) true])).length cap6, .slice ad7 ((x.link (Cel.mk k (W4.of ws))).1.C).length cap7, .slice ad8 ((x.link (Cel.mk k (W4.of ws))).1.used).length cap8]) rfl rfl ty56 rfl rfl (b := b8) zM (by exact Nat.le_refl 8) rfl zU ?_
                  refine W_assign rfl rfl ?_
                  refine W_assign rfl rfl ?_
                  refine W_assign rfl rfl ?_
                  refine W_nil ?_
                  refine W_ret4G (H2 := X2 ++ H) Tryz.results56 (.nil _) (.own rfl ty56 rfl zM rfl) (.tmp rfl) (.tmp rfl) (.tmp rfl) zH ?_
                  obtain ⟨o1, o2, o3⟩ := hx.are.own i1 s1 hs1
                  have hN : (⟨(i1 : Int), s1.own.gen⟩ : Hd) = s1.own := by rw [← o1]
                  have hnf : ¬ x.C.length = x.entries := by have h1 := hx.ulen; omega
                  rw [show x.put how k ws = ((x.link ⟨k, W4.of ws⟩).1, ⟨(x.link ⟨k, W4.of ws⟩).2, zHd, false⟩, 0) by unfold Xm.put; rw [if_neg (by omega), if_neg (by rw [hcl]; decide), hf]; dsimp only; rw [if_neg (by rw [hrf]; exact fun c => c rfl), if_neg hnf]]
                  have hoo := ho.link hx (w := W4.of ws) hf1 hs1 hno
                  refine ⟨_, X2, _, (E.length : Int), -1, rfl, hD2, hoo, ?_, rfl, rfl, by rw [List.length_append]; exact Nat.le_refl _, fun c => absurd c q0, rfl⟩
                  rw [Xm.link_is hf1 hs1, hdE_at (by rw [List.getElem?_append_right (Nat.le_refl _), Nat.sub_self]; rfl)]
                  exact hN
      · skip
        obtain ⟨i, e, hfe, he, hel, hek, heg⟩ := ho.fnd hx hf
        rw [hfe, show zI (some i) = (i : Int) from rfl]
        have hi := (List.getElem?_eq_some_iff.1 he).1
        obtain ⟨qk, pk, eqk, hkc⟩ := Holds.row elmC_len (by decide) hE he
        refine W_assign rfl rfl ?_
        refine W_nil ?_
        refine W_seq ?_
        refine W_sr ?_
        refine W_move rfl rfl ?_
        refine W_bin rfl rfl b_geq rfl ?_
        first | rw [decide_eq_true (by omega)] | rw [decide_eq_false (by omega)]
        refine W_nil ?_
        refine W_condT rfl rfl ?_
        refine W_seq ?_
        refine W_sr ?_
        refine W_move rfl rfl ?_
        refine W_bin rfl rfl b_eql rfl ?_
        refine W_nil ?_
        refine W_condPS (p := how = 1) rfl (by simp) (fun q0 => ?_) (fun q0 => ?_)
        · skip
          refine W_sr ?_
          refine W_loadB (vs := [.int .i64 (x.kind : Int), .int .i64 (x.entries : Int), .int .i64 (x.words : Int), .bool x.closed, .slice ads (x.L).length caps, .slice ade (E).length cape, .slice adc (x.C).length capc, .slice adu (x.used).length capu]) rfl ty56 rfl (b := b4) zM rfl rfl rfl ?_
          refine W_storeA (l' := [.int .i64 (x.kind : Int), .int .i64 (x.entries : Int), .int .i64 (x.words : Int), .bool x.closed, .slice ads (x.L).length caps, .slice ade (E).length cape, .slice adc (x.C).length capc, .slice adu (x.used).length capu]) rfl rfl ty56 rfl rfl (b := b8) zM (by exact Nat.le_refl 8) rfl zU ?_
          refine W_assign rfl rfl ?_
          refine W_assign rfl rfl ?_
          refine W_assign rfl rfl ?_
          refine W_nil ?_
          refine W_ret4G (H2 := H) Tryz.results56 (.nil _) (.own rfl ty56 rfl zM rfl) (.tmp rfl) (.tmp rfl) (.tmp rfl) zH ?_
          rw [show x.put how k ws = (x, zPutt, 5) by unfold Xm.put; rw [if_neg (by omega), if_neg (by rw [hcl]; decide), hf]; dsimp only; rw [if_pos q0]]
          exact ⟨_, [], E, -1, -1, rfl, ⟨ads, caps, ade, cape, adc, capc, adu, capu, rfl, hS0, hSc, hE0, hEc, hC0, hCc, hU0, hUc⟩, ho, rfl, rfl, rfl, Nat.le_succ _, fun _ => rfl, rfl⟩
        · skip
          refine W_skip ?_
          refine W_sr ?_
          refine W_fieldAddr rfl fld56_5 (by decide) rfl ?_
          refine W_load (v := .slice ade (E).length cape) rfl ty53 rfl (Cell.own (b := b4) zM rfl) rfl ?_
          refine W_move rfl rfl ?_
          refine W_indexAddr (b := qk) (o := pk) (j := i) (by rw [← eqk]; rfl) rfl ty53 ty71 rfl (by omega) rfl rfl ?_
          refine W_loadA (vs := elmC e) rfl ty71 rfl rfl (hkc.up zH) rfl ?_
          refine W_alloc (l := [.int .u64 0, .int .i64 0, .int .i64 0, .int .u64 0, .int .u64 0, .int .u64 0, .int .u64 0, .bool false]) ty71 rfl rfl (fun b13 => ?_)
          refine W_storeA (l' := elmC e) rfl rfl ty71 rfl rfl (b := b13) zM (by exact Nat.le_refl 8) rfl zU ?_
          refine W_nil ?_
          refine W_sr ?_
          refine W_move rfl rfl ?_
          refine W_callq (.cons rfl .nil) Tryz.call87 rfl (dval_q (hrow.up zH)) ?_
          refine W_fieldAddr rfl fld71_3 (by decide) rfl ?_
          refine W_storeA (l' := elmC { e with w := W4.of ws }) rfl rfl ty69 rfl rfl (b := b13) zM (by show 3 + 4 ≤ 8; decide) rfl zU ?_
          refine W_nil ?_
          refine W_seq ?_
          refine W_anyC [(b4, .cells 56 8 [.int .i64 (x.kind : Int), .int .i64 (x.entries : Int), .int .i64 (x.words : Int), .bool x.closed, .slice ads (x.L).length caps, .slice ade (E).length cape, .slice adc (x.C).length capc, .slice adu (x.used).length capu]), (b13, .cells 71 8 (elmC { e with w := W4.of ws }))] (by kernel_rfl) ?_
          refine WC_take 0 (l' := #[true, false, false, false, false, false, false, false, false, false, false]) rfl (by decide +kernel) (by decide +kernel) (by decide +kernel) rfl (by decide +kernel) (X_loadB (vs := [.int .i64 (x.kind : Int), .int .i64 (x.entries : Int), .int .i64 (x.words : Int), .bool x.closed, .slice ads (x.L).length caps, .slice ade (E).length cape, .slice adc (x.C).length capc, .slice adu (x.used).length capu]) rfl ty56 rfl (b := b4) zM rfl rfl) rfl ?_
          refine WC_take 1 (l' := #[true, true, false, false, false, false, false, false, false, false, false]) rfl (by decide +kernel) (by decide +kernel) (by decide +kernel) rfl (by decide +kernel) (X_move rfl) rfl ?_
          refine WC_take 3 (l' := #[true, true, false, true, false, false, false, false, false, false, false]) rfl (by decide +kernel) (by decide +kernel) (by decide +kernel) rfl (by decide +kernel) (X_move rfl) rfl ?_
          refine WC_take 4 (l' := #[true, true, false, true, true, false, false, false, false, false, false]) rfl (by decide +kernel) (by decide +kernel) (by decide +kernel) rfl (by decide +kernel) (X_loadB (vs := elmC { e with w := W4.of ws }) rfl ty71 rfl (b := b13) zM rfl rfl) rfl ?_
          refine WC_take 6 (l' := #[true, true, false, true, true, false, true, false, false, false, false]) rfl (by decide +kernel) (by decide +kernel) (by decide +kernel) rfl (by decide +kernel) (X_move rfl) rfl ?_
          refine WC_one 2 (l' := #[true, true, true, true, true, false, true, false, false, false, false]) zH (by decide +kernel) rfl (by decide +kernel) ?_
          refine W_call (.cons rfl (.cons rfl .nil)) Tryz.call59 rfl (LCalls.hsub (dxUse_L (x := x) (E := E) (k := k) ⟨ads, caps, ade, cape, adc, capc, adu, capu, rfl, hS0, hSc, hE0, hEc, hC0, hCc, hU0, hUc⟩ ((show HSub _ H from zH).trans hHR) (by omega) (H := (b4, .cells 56 8 [.int .i64 (x.kind : Int), .int .i64 (x.entries : Int), .int .i64 (x.words : Int), .bool x.closed, .slice ads (x.L).length caps, .slice ade (E).length cape, .slice adc (x.C).length capc, .slice adu (x.used).length capu]) :: (b8, .cells 56 8 [.int .i64 0, .int .i64 0, .int .i64 0, .bool false, .slice none 0 0, .slice none 0 0, .slice none 0 0, .slice none 0 0]) :: (b13, .cells 71 8 (elmC { e with w := W4.of ws })) :: H)) zH) ?_
          rintro v H' ⟨cs1, X1, rfl, hD1, rfl⟩
          have hD1o := hD1
          obtain ⟨ad1, cap1, ad2, cap2, ad3, cap3, ad4, cap4, rfl, _⟩ := hD1o
          refine W_nil ?_
          refine WC_goal ?_
          refine WC_one 5 (l' := #[true, true, true, true, true, true, true, false, false, false, false]) zH (by decide +kernel) rfl (by decide +kernel) ?_
          refine W_call (.cons rfl (.cons rfl (.cons rfl .nil))) Tryz.call89 rfl (LCalls.hsub (dxset_L (HR := X1 ++ HR) (x := x.use k) (E := E) (i := i) (o := { e with w := W4.of ws }) hD1 ((show HSub _ (X1 ++ H) from zH).trans (.app (.here _) hHR)) hi (by omega) (H := (b4, .cells 56 8 [.int .i64 (x.kind : Int), .int .i64 (x.entries : Int), .int .i64 (x.words : Int), .bool x.closed, .slice ads (x.L).length caps, .slice ade (E).length cape, .slice adc (x.C).length capc, .slice adu (x.used).length capu]) :: (b8, .cells 56 8 [.int .i64 0, .int .i64 0, .int .i64 0, .bool false, .slice none 0 0, .slice none 0 0, .slice none 0 0, .slice none 0 0]) :: (b13, .cells 71 8 (elmC { e with w := W4.of ws })) :: (X1 ++ H))) zH) ?_
          rintro v H' ⟨cs5, X2, rfl, hD2, rfl⟩
          have hD2o := hD2
          obtain ⟨ad5, cap5, ad6, cap6, ad7, cap7, ad8, cap8, rfl, _⟩ := hD2o
          refine W_nil ?_
          refine WC_goal ?_
          refine WC_one 7 (l' := #[true, true, true, true, true, true, true, true, false, false, false]) zH (by decide +kernel) rfl (by decide +kernel) ?_
          refine W_storeA (l' := [.int .i64 ((x.use k).kind : Int), .int .i64 ((x.use k).entries : Int), .int .i64 ((x.use k).words : Int), .bool (x.use k).closed, .slice ad5 ((x.use k).L).length cap5, .slice ad6 ((E.set i { e with w := W4.of ws })).length cap6, .slice ad7 ((x.use k).C).length cap7, .slice ad8 ((x.use k).used).length cap8]) rfl rfl ty56 rfl rfl (b := b8) zM (by exact Nat.le_refl 8) rfl zU ?_
          refine W_nil ?_
          refine WC_goal ?_
          refine WC_take 8 (l' := #[true, true, true, true, true, true, true, true, true, false, false]) rfl (by decide +kernel) (by decide +kernel) (by decide +kernel) rfl (by decide +kernel) (X_assign rfl) rfl ?_
          refine WC_take 9 (l' := #[true, true, true, true, true, true, true, true, true, true, false]) rfl (by decide +kernel) (by decide +kernel) (by decide +kernel) rfl (by decide +kernel) (X_assign rfl) rfl ?_
          refine WC_take 10 (l' := #[true, true, true, true, true, true, true, true, true, true, true]) rfl (by decide +kernel) (by decide +kernel) (by decide +kernel) rfl (by decide +kernel) (X_assign rfl) rfl ?_
          refine WC_done zH (by decide +kernel) ?_
          refine W_ret4G (H2 := X2 ++ (X1 ++ H)) Tryz.results56 (.nil _) (.own rfl ty56 rfl zM rfl) (.tmp rfl) (.tmp rfl) (.tmp rfl) zH ?_
          rw [show x.put how k ws = ({ x.use k with L := setA x.L g (fun s => { s with cel := ⟨k, W4.of ws⟩ }) }, ⟨g, zHd, false⟩, 0) by unfold Xm.put; rw [if_neg (by omega), if_neg (by rw [hcl]; decide), hf]; dsimp only; rw [if_neg q0, hx.err0 hf]]
          have hoo := ho.words (fun q t ht => (hx.are.own q t ht).1) (hx.err0 hf) he heg (fun _ => ⟨k, W4.of ws⟩) (W4.of ws) (fun _ _ _ => ⟨hek.symm, rfl⟩)
          refine ⟨_, X2 ++ X1, _, (i : Int), -1, rfl, ?_, hoo.cong rfl rfl, by rw [hdE_at (List.getElem?_set_self hi)]; exact heg, rfl, rfl, by rw [List.length_set]; exact Nat.le_succ _, fun _ => linkK_set he rfl rfl, by rw [List.append_assoc]⟩
          rw [List.append_assoc]
          exact hD2.cong ⟨rfl, rfl, rfl, rfl⟩ (sdR_cel _ _ _) (setA_len _ _ _) rfl rfl
end Go.Proofs.YtphdlpmnidiliaaGreatDoor
namespace Go.Proofs.YtphdlpmnidiliaaGreatDoor
open Go Go.Sl
attribute [local irreducible] W
structure ClD where
  i : Nat
  C : List (Int × Hd)
  U : List Int
  F : List Elm
  zs : List Int
  XR : Heap
  XO : Heap
  vO : Value
  cs : List Value
theorem keysNodup {x : Xm} (h : x.Ok) : x.keys.Nodup := h.keysPerm.nodup_iff.2 h.nd
set_option maxHeartbeats 8000000 in
theorem dxClose_L {w0 : World} {H : Heap} {HR : Heap} {x : Xm} {E : List Elm} {cs : List Value} (hv : DxV w0 HR x E cs) (hHR : HSub H HR) (hx : x.Ok) (ho : EOk x E) (hEl : E.length ≤ 800) (hks : keysD x E = x.keys)  : LCalls Tryz.prog w0 64 #[.agg (List.toArray cs)] (H) (fun v H' => ∃ (cs1 : List Value) (X : Heap) (E' : List Elm) (zs : List Int) (vO : Value) (XO : Heap), v = .tuple #[.agg (List.toArray cs1), vO] ∧ DxV w0 (X ++ HR) (x.close.1) (E') cs1 ∧ OwnS 3 1 vO zs.length (zs.map (Value.int .i64)) XO ∧ zs.map (hdE E') = x.close.2 ∧ E'.length = E.length ∧ EOk x.close.1 E' ∧ (x.closed = true → E' = E) ∧ H' = XO ++ (X ++ H)) := by
  obtain ⟨ads, caps, ade, cape, adc, capc, adu, capu, rfl, hS0, hSc, hE0, hEc, hC0, hCc, hU0, hUc⟩ := hv
  have hS := hS0.up hHR
  have hE := hE0.up hHR
  have hC := hC0.up hHR
  have hU := hU0.up hHR
  have hCl : x.C.length ≤ 8 := Nat.le_trans hx.le hx.ent.2
  have hul : x.used.length ≤ 8 := by rw [hx.ulen]; exact hCl
  refine L_enter (l := [.agg (List.toArray [.int .i64 (x.kind : Int), .int .i64 (x.entries : Int), .int .i64 (x.words : Int), .bool x.closed, .slice ads (x.L).length caps, .slice ade (E).length cape, .slice adc (x.C).length capc, .slice adu (x.used).length capu])]) Tryz.func64 rfl Tryz.ntmps64 rfl rfl ?_
  refine W_sr ?_
  refine W_box (l := [.int .i64 (x.kind : Int), .int .i64 (x.entries : Int), .int .i64 (x.words : Int), .bool x.closed, .slice ads (x.L).length caps, .slice ade (E).length cape, .slice adc (x.C).length capc, .slice adu (x.used).length capu]) rfl rfl rfl (fun b1 => ?_)
  refine W_alloc (l := [.int .i64 0, .int .i64 0, .int .i64 0, .bool false, .slice none 0 0, .slice none 0 0, .slice none 0 0, .slice none 0 0]) ty56 rfl rfl (fun b2 => ?_)
  refine W_assign rfl rfl ?_
  refine W_nil ?_
  refine W_sr ?_
  refine W_assign rfl rfl ?_
  refine W_nil ?_
  refine W_seq ?_
  refine W_sr ?_
  refine W_fieldAddr rfl fld56_3 (by decide) rfl ?_
  rcases Bool.eq_false_or_eq_true x.closed with hcl | hcl
  · skip
    refine W_load (v := .bool true) rfl ty4 rfl (Cell.own (b := b1) zM (by show some (Value.bool x.closed) = _; rw [hcl])) rfl ?_
    refine W_nil ?_
    refine W_condT rfl rfl ?_
    refine W_sr ?_
    refine W_loadB (vs := [.int .i64 (x.kind : Int), .int .i64 (x.entries : Int), .int .i64 (x.words : Int), .bool x.closed, .slice ads (x.L).length caps, .slice ade (E).length cape, .slice adc (x.C).length capc, .slice adu (x.used).length capu]) rfl ty56 rfl (b := b1) zM rfl rfl rfl ?_
    refine W_move rfl rfl ?_
    refine W_storeA (l' := [.int .i64 (x.kind : Int), .int .i64 (x.entries : Int), .int .i64 (x.words : Int), .bool x.closed, .slice ads (x.L).length caps, .slice ade (E).length cape, .slice adc (x.C).length capc, .slice adu (x.used).length capu]) rfl rfl ty56 rfl rfl (b := b2) zM (by exact Nat.le_refl 8) rfl zU ?_
    refine W_assign rfl rfl ?_
    refine W_nil ?_
    refine W_ret2G (H2 := H) Tryz.results64 (.nil _) (.own rfl ty56 rfl zM rfl) (.tmp rfl) zH ?_
    rw [show x.close = (x, []) from if_pos hcl]
    exact ⟨_, [], E, [], _, [], rfl, ⟨ads, caps, ade, cape, adc, capc, adu, capu, rfl, hS0, hSc, hE0, hEc, hC0, hCc, hU0, hUc⟩, .nil, rfl, rfl, ho, fun _ => rfl, rfl⟩
  · skip
    refine W_load (v := .bool false) rfl ty4 rfl (Cell.own (b := b1) zM (by show some (Value.bool x.closed) = _; rw [hcl])) rfl ?_
    refine W_nil ?_
    refine W_condF rfl rfl ?_
    refine W_skip ?_
    refine W_sr ?_
    refine W_loadB (vs := [.int .i64 (x.kind : Int), .int .i64 (x.entries : Int), .int .i64 (x.words : Int), .bool x.closed, .slice ads (x.L).length caps, .slice ade (E).length cape, .slice adc (x.C).length capc, .slice adu (x.used).length capu]) rfl ty56 rfl (b := b1) zM rfl rfl rfl ?_
    refine W_call (.cons rfl .nil) Tryz.call27 rfl (LCalls.hsub (dxKeys_L (x := x) (E := E) ⟨ads, caps, ade, cape, adc, capc, adu, capu, rfl, hS0, hSc, hE0, hEc, hC0, hCc, hU0, hUc⟩ ((show HSub _ H from zH).trans hHR) (by omega) (by omega) (H := (b1, .cells 56 8 [.int .i64 (x.kind : Int), .int .i64 (x.entries : Int), .int .i64 (x.words : Int), .bool x.closed, .slice ads (x.L).length caps, .slice ade (E).length cape, .slice adc (x.C).length capc, .slice adu (x.used).length capu]) :: (b2, .cells 56 8 [.int .i64 0, .int .i64 0, .int .i64 0, .bool false, .slice none 0 0, .slice none 0 0, .slice none 0 0, .slice none 0 0]) :: H)) zH) ?_
    rintro v H' ⟨adk, capk, Xk, rfl, hKs, rfl⟩
    rw [hks] at hKs ⊢
    refine W_assign rfl rfl ?_
    refine W_nil ?_
    refine W_seq ?_
    refine W_sr ?_
    refine W_assign rfl rfl ?_
    refine W_nil ?_
    refine W_block ?_
    refine W_loopC (X := ClD) [(1, _), (2, _), (5, _)] (fun (z : ClD) => [(4, z.vO), (6, .int .i64 (z.i : Int))]) (fun _ => _) (fun (z : ClD) => z.XO ++ ((b1, .cells 56 8 z.cs) :: (b2, .cells 56 8 [.int .i64 0, .int .i64 0, .int .i64 0, .bool false, .slice none 0 0, .slice none 0 0, .slice none 0 0, .slice none 0 0]) :: (z.XR ++ (Xk ++ H)))) (fun (z : ClD) => z.i ≤ x.keys.length ∧ z.zs.length = z.i ∧ (Xm.mk x.kind x.entries x.words x.closed x.L z.C z.U).Ok ∧ EOk (Xm.mk x.kind x.entries x.words x.closed x.L z.C z.U) z.F ∧ z.F.length = E.length ∧ DxV w0 (z.XR ++ (Xk ++ HR)) (Xm.mk x.kind x.entries x.words x.closed x.L z.C z.U) z.F z.cs ∧ (∀ k ∈ x.keys.drop (z.i), k ∈ keyL z.C) ∧ unlinkL x.C x.used x.keys = ((unlinkL z.C z.U (x.keys.drop (z.i))).1, (unlinkL z.C z.U (x.keys.drop (z.i))).2.1, z.zs.map (hdE z.F) ++ (unlinkL z.C z.U (x.keys.drop (z.i))).2.2) ∧ OwnS 3 1 z.vO z.zs.length (z.zs.map (Value.int .i64)) z.XO) (fun (z : ClD) => x.keys.length - z.i) ⟨0, x.C, x.used, E, [], [], [], .slice none 0 0, [.int .i64 (x.kind : Int), .int .i64 (x.entries : Int), .int .i64 (x.words : Int), .bool x.closed, .slice ads (x.L).length caps, .slice ade (E).length cape, .slice adc (x.C).length capc, .slice adu (x.used).length capu]⟩ ⟨Nat.zero_le _, rfl, hx, ho, rfl, ⟨ads, caps, ade, cape, adc, capc, adu, capu, rfl, hS0.up (.dropS (.dropS (.refl _))), hSc, hE0.up (.dropS (.dropS (.refl _))), hEc, hC0.up (.dropS (.dropS (.refl _))), hCc, hU0.up (.dropS (.dropS (.refl _))), hUc⟩, fun k hk => hx.keysPerm.mem_iff.1 hk, rfl, .nil⟩ (sub_cons rfl (sub_cons rfl (sub_cons rfl (sub_nil _)))) (sub_cons rfl (sub_cons rfl (sub_nil _))) rfl (by show HSub _ ((b1, .cells 56 8 [.int .i64 (x.kind : Int), .int .i64 (x.entries : Int), .int .i64 (x.words : Int), .bool x.closed, .slice ads (x.L).length caps, .slice ade (E).length cape, .slice adc (x.C).length capc, .slice adu (x.used).length capu]) :: (b2, .cells 56 8 [.int .i64 0, .int .i64 0, .int .i64 0, .bool false, .slice none 0 0, .slice none 0 0, .slice none 0 0, .slice none 0 0]) :: (Xk ++ H)); first | exact hsubI | (repeat (first | with_reducible exact HSub.refl _ | refine HSub.cons zT ?_ | refine HSub.app zS ?_ | exact HSub.nil _ | exact HSub.refl _ | refine HSub.drop ?_ | refine HSub.dropS ?_))) ?_
    rintro ⟨i, C, U, F, zs, XR, XO, vO, cs⟩ ⟨hi, hzs, hy, hoy, hFl, hD, hin, hun, hO⟩
    dsimp only at hi hzs hy hoy hFl hD hin hun hO ⊢
    have hDo := hD
    obtain ⟨ad1, cap1, ad2, cap2, ad3, cap3, ad4, cap4, rfl, _⟩ := hDo
    have hklen : x.keys.length ≤ 8 := by have := hx.keysPerm.length_eq; rw [List.length_map] at this; omega
    simp only [List.cons_append, List.nil_append]
    refine W_seq ?_
    refine W_sr ?_
    refine W_move rfl rfl ?_
    refine W_move rfl rfl ?_
    refine W_len rfl ty42 rfl rfl ?_
    refine W_bin rfl rfl b_lss rfl ?_
    refine W_nil ?_
    refine W_condPS (p := (i : Int) < (x.keys.length : Int)) rfl (by simp) (fun q0 => ?_) (fun q0 => ?_)
    · skip
      refine W_skip ?_
      refine W_seq ?_
      refine W_block ?_
      refine W_seq ?_
      obtain ⟨kz, hkz⟩ : ∃ kz, x.keys[i]? = some kz := ⟨_, List.getElem?_eq_getElem (by omega)⟩
      obtain ⟨qu, pu, equ, hcu⟩ := hKs.at (i := i) (v := .int .u64 kz) (by rw [List.getElem?_map, hkz]; rfl)
      have hcu1 := hcu.up (show HSub (Xk ++ H) (Xk ++ HR) from .app (.here _) hHR)
      obtain ⟨g, hf⟩ : ∃ g, fndC C kz = some g := by
        cases hq : fndC C kz with
        | some g0 => exact ⟨g0, rfl⟩
        | none => exact absurd (hin kz (List.mem_of_getElem? (i := 0) (by rw [List.getElem?_drop]; exact hkz))) (fndC_none.1 hq)
      obtain ⟨j, e, hfe, he, hel, hek, heg⟩ := hoy.fnd hy hf
      have hj := (List.getElem?_eq_some_iff.1 he).1
      have hCy : C.length ≤ 8 := Nat.le_trans hy.le hy.ent.2
      have hUy : U.length ≤ 8 := by have := hy.ulen; dsimp only at this; omega
      · skip
        refine W_quiet (by kernel_rfl) (by decide +kernel) ?_
        refine WQ_x (X_loadB (vs := [.int .i64 (x.kind : Int), .int .i64 (x.entries : Int), .int .i64 (x.words : Int), .bool x.closed, .slice ad1 (x.L).length cap1, .slice ad2 (F).length cap2, .slice ad3 (C).length cap3, .slice ad4 (U).length cap4]) rfl ty56 rfl (b := b1) zM rfl rfl) rfl ?_
        refine WQ_x (X_move rfl) rfl ?_
        refine WQ_x (X_move rfl) rfl ?_
        refine WQ_x (X_indexAddr (b := qu) (o := pu) (j := i) (by rw [← equ]; rfl) rfl ty42 ty22 rfl (by omega) rfl) rfl ?_
        refine WQ_x (X_load (v := .int .u64 kz) rfl ty22 rfl (by rw [Nat.mul_one]; exact hcu1.up zH)) rfl ?_
        refine WQ_callq (.cons rfl (.cons rfl .nil)) Tryz.call58 rfl (dxFind_q (HR := XR ++ (Xk ++ HR)) (x := (Xm.mk x.kind x.entries x.words x.closed x.L C U)) (E := F) (k := kz) hD ((show HSub _ (XR ++ (Xk ++ H)) from zH).trans (.app (.here _) (.app (.here _) hHR))) (by omega)) ?_
        rw [hfe, show zI (some j) = (j : Int) from rfl]
        refine WQ_x (X_assign rfl) rfl ?_
        refine WQ_nil ?_
        refine W_sr ?_
        refine W_move rfl rfl ?_
        refine W_move rfl rfl ?_
        refine W_buildSlice (l := [.int .i64 (j : Int)]) ty113 ty3 (.cons rfl rfl rfl rfl rfl .nil) rfl rfl rfl rfl rfl rfl rfl (fun b28 => ?_)
        refine W_append (news := [.int .i64 (j : Int)]) (m := 1) (HB := XO) (H0 := (b28, .cells 3 1 [.int .i64 (j : Int)]) :: (b1, .cells 56 8 [.int .i64 (x.kind : Int), .int .i64 (x.entries : Int), .int .i64 (x.words : Int), .bool x.closed, .slice ad1 (x.L).length cap1, .slice ad2 (F).length cap2, .slice ad3 (C).length cap3, .slice ad4 (U).length cap4]) :: (b2, .cells 56 8 [.int .i64 0, .int .i64 0, .int .i64 0, .bool false, .slice none 0 0, .slice none 0 0, .slice none 0 0, .slice none 0 0]) :: (XR ++ (Xk ++ H))) rfl rfl ty113 ty3 rfl (by decide) hO rfl (Holds.own (b := b28) zM) rfl (by simp only [maxLen]; omega) (by omega) zH rfl (fun vO' XO' hO' => ?_)
        rw [show zs.length + 1 = (zs ++ [(j : Int)]).length by rw [List.length_append]; rfl, show (zs.map (Value.int .i64) ++ [Value.int .i64 (j : Int)] : List Value) = (zs ++ [(j : Int)]).map (Value.int .i64) by rw [List.map_append]; rfl] at hO'
        refine W_assign rfl rfl ?_
        refine W_nil ?_
        refine W_region ?_
        refine W_loadB (vs := [.int .i64 (x.kind : Int), .int .i64 (x.entries : Int), .int .i64 (x.words : Int), .bool x.closed, .slice ad1 (x.L).length cap1, .slice ad2 (F).length cap2, .slice ad3 (C).length cap3, .slice ad4 (U).length cap4]) rfl ty56 rfl (b := b1) zM rfl rfl rfl ?_
        refine W_move rfl rfl ?_
        refine W_call (.cons rfl (.cons rfl .nil)) Tryz.call90 rfl (LCalls.hsub (dxUnlink_L (HR := XR ++ (Xk ++ HR)) (x := (Xm.mk x.kind x.entries x.words x.closed x.L C U)) (E := F) (i := j) (e := e) hD ((show HSub _ (XR ++ (Xk ++ H)) from zH).trans (.app (.here _) (.app (.here _) hHR))) he (by rw [hek]; exact keyL_mem hf) hy.nd (by omega) (by show C.length ≤ 1000; omega) (by show U.length ≤ 1000; omega) (H := XO' ++ ((b1, .cells 56 8 [.int .i64 (x.kind : Int), .int .i64 (x.entries : Int), .int .i64 (x.words : Int), .bool x.closed, .slice ad1 (x.L).length cap1, .slice ad2 (F).length cap2, .slice ad3 (C).length cap3, .slice ad4 (U).length cap4]) :: (b2, .cells 56 8 [.int .i64 0, .int .i64 0, .int .i64 0, .bool false, .slice none 0 0, .slice none 0 0, .slice none 0 0, .slice none 0 0]) :: (XR ++ (Xk ++ H))))) zH) ?_
        rintro v H' ⟨cs5, X5, rfl, hD5, rfl⟩
        have hD5o := hD5
        obtain ⟨ad5, cap5, ad6, cap6, ad7, cap7, ad8, cap8, rfl, _⟩ := hD5o
        refine W_storeA (l' := [.int .i64 (x.kind : Int), .int .i64 (x.entries : Int), .int .i64 (x.words : Int), .bool x.closed, .slice ad5 (x.L).length cap5, .slice ad6 ((F.set j { e with linked := false })).length cap6, .slice ad7 ((delC C e.key)).length cap7, .slice ad8 ((drop1O U e.key)).length cap8]) rfl rfl ty56 rfl rfl (b := b1) zM (by exact Nat.le_refl 8) rfl zU ?_
        refine W_nil ?_
        refine W_blk ?_
        refine W_region ?_
        refine W_move rfl rfl ?_
        refine W_bin rfl rfl (b_add (m := ((i + 1 : Nat) : Int)) ((i64w (by omega)).trans (by omega))) rfl ?_
        refine W_assign rfl rfl ?_
        refine W_nil ?_
        refine W_again ⟨i + 1, delC C e.key, drop1O U e.key, (F.set j { e with linked := false }), zs ++ [(j : Int)], X5 ++ XR, XO', vO', [.int .i64 (x.kind : Int), .int .i64 (x.entries : Int), .int .i64 (x.words : Int), .bool x.closed, .slice ad5 (x.L).length cap5, .slice ad6 ((F.set j { e with linked := false })).length cap6, .slice ad7 ((delC C e.key)).length cap7, .slice ad8 ((drop1O U e.key)).length cap8]⟩ ⟨by show i + 1 ≤ x.keys.length; omega, by rw [List.length_append, hzs]; rfl, hy.unlink e.key, hoy.unlink hy he hel, by rw [List.length_set]; exact hFl, by rw [List.append_assoc]; exact hD5, fun k hk => by
              have h1 := hin k (List.mem_of_mem_drop (i := 1) (by rw [List.drop_drop]; exact hk))
              rw [keyL_del]
              refine List.mem_filter.2 ⟨h1, decide_eq_true ?_⟩
              rintro rfl
              have hnd := keysNodup hx
              rw [← List.take_append_drop (i + 1) x.keys] at hnd
              have := (List.nodup_append.1 hnd).2.2 e.key (by rw [takeAt' hkz, hek]; simp) e.key hk
              exact this rfl, by
              rw [hun, unlinkL_step hkz, ← hek]
              dsimp only
              have e1 : (zs ++ [(j : Int)]).map (hdE (F.set j { e with linked := false })) = zs.map (hdE F) ++ [(fndC C e.key).getD zHd] := by
                rw [List.map_append, List.map_congr_left (fun z _ => hdE_set (e' := { e with linked := false }) he rfl z)]
                congr 1
                rw [List.map_singleton, hdE_set (e' := { e with linked := false }) he rfl, hdE_at he, hek, hf, heg]
                rfl
              rw [e1, List.append_assoc]
              rfl, hO'⟩ (by show x.keys.length - (i + 1) < x.keys.length - i; omega) (sub_cons rfl (sub_cons rfl (sub_cons rfl (sub_cons rfl (sub_cons rfl (sub_nil _)))))) rfl (by rw [List.append_assoc]; first | exact hsubI | (repeat (first | with_reducible exact HSub.refl _ | refine HSub.cons zT ?_ | refine HSub.app zS ?_ | exact HSub.nil _ | exact HSub.refl _ | refine HSub.drop ?_ | refine HSub.dropS ?_)))
    · skip
      refine W_exit rfl ?_
      refine W_sr ?_
      refine W_fieldAddr rfl fld56_3 (by decide) rfl ?_
      refine W_store (l' := [.int .i64 (x.kind : Int), .int .i64 (x.entries : Int), .int .i64 (x.words : Int), .bool true, .slice ad1 (x.L).length cap1, .slice ad2 (F).length cap2, .slice ad3 (C).length cap3, .slice ad4 (U).length cap4]) rfl rfl ty4 rfl rfl (b := b1) zM rfl rfl zU ?_
      refine W_nil ?_
      refine W_sr ?_
      refine W_loadB (vs := [.int .i64 (x.kind : Int), .int .i64 (x.entries : Int), .int .i64 (x.words : Int), .bool true, .slice ad1 (x.L).length cap1, .slice ad2 (F).length cap2, .slice ad3 (C).length cap3, .slice ad4 (U).length cap4]) rfl ty56 rfl (b := b1) zM rfl rfl rfl ?_
      refine W_move rfl rfl ?_
      refine W_storeA (l' := [.int .i64 (x.kind : Int), .int .i64 (x.entries : Int), .int .i64 (x.words : Int), .bool true, .slice ad1 (x.L).length cap1, .slice ad2 (F).length cap2, .slice ad3 (C).length cap3, .slice ad4 (U).length cap4]) rfl rfl ty56 rfl rfl (b := b2) zM (by exact Nat.le_refl 8) rfl zU ?_
      refine W_assign rfl rfl ?_
      refine W_nil ?_
      refine W_ret2G (H2 := XO ++ (XR ++ (Xk ++ H))) Tryz.results64 (.nil _) (.own rfl ty56 rfl zM rfl) (.tmp rfl) zH ?_
      obtain rfl : i = x.keys.length := by omega
      rw [List.drop_length] at hun
      have hcx : x.close = (Xm.mk x.kind x.entries x.words true x.L C U, zs.map (hdE F)) := by
        unfold Xm.close
        rw [if_neg (by rw [hcl]; decide), hun]
        simp only [unlinkL, List.append_nil]
      rw [hcx]
      refine ⟨_, XR ++ Xk, F, zs, _, XO, rfl, ?_, hO, rfl, hFl, hoy.cong rfl rfl, fun c => (by rw [hcl] at c; cases c), by rw [List.append_assoc]⟩
      obtain ⟨a1, a2, a3, a4, a5, a6, a7, a8, ea, k1, k2, k3, k4, k5, k6, k7, k8⟩ := hD
      injection ea with _ ea; injection ea with _ ea; injection ea with _ ea; injection ea with _ ea
      injection ea with e1 ea; injection ea with e2 ea; injection ea with e3 ea; injection ea with e4 ea
      obtain ⟨rfl, -, rfl⟩ := Value.slice.inj e1
      obtain ⟨rfl, -, rfl⟩ := Value.slice.inj e2
      obtain ⟨rfl, -, rfl⟩ := Value.slice.inj e3
      obtain ⟨rfl, -, rfl⟩ := Value.slice.inj e4
      rw [List.append_assoc]
      exact ⟨_, _, _, _, _, _, _, _, rfl, k1, k2, k3, k4, k5, k6, k7, k8⟩
end Go.Proofs.YtphdlpmnidiliaaGreatDoor
namespace Go.Proofs.YtphdlpmnidiliaaGreatDoor
open Go Go.Sl
attribute [local irreducible] W
structure Axt where
  kind : Int
  how : Int
  pick : Int
  at_ : Int
  own : Bool
  h : Hd
  key : Int
  l : List Int
theorem hdE_hi {E : List Elm} {z : Int} (h : (E.length : Int) ≤ z) : hdE E z = zHd := by
  unfold hdE
  split
  · rfl
  · rw [List.getElem?_eq_none (by omega)]
theorem modW_is (y : Int) {N : Nat} (hN : 0 < N) : ∃ c : Nat, c < N ∧ (IntKind.u64.wrap y).tmod (N : Int) = (c : Int) := by
  have e : IntKind.u64.wrap y = y % 18446744073709551616 := by simp [IntKind.wrap, IntKind.signed, IntKind.bits]
  have h0 : 0 ≤ y % 18446744073709551616 := Int.emod_nonneg _ (by decide)
  have h1 : 0 ≤ (IntKind.u64.wrap y).tmod (N : Int) := Int.tmod_nonneg _ (by omega)
  have h2 : (IntKind.u64.wrap y).tmod (N : Int) < (N : Int) := Int.tmod_lt_of_pos _ (by omega)
  exact ⟨((IntKind.u64.wrap y).tmod (N : Int)).toNat, by omega, by omega⟩
theorem hdE_lo {E : List Elm} {z : Int} (h : z < 0) : hdE E z = zHd := if_pos h
set_option maxHeartbeats 1000000 in
theorem dxhandle_q {w0 : World} {H : Heap} {HR : Heap} {x : Xm} {E : List Elm} {cs : List Value} (hv : DxV w0 HR x E cs) (hHR : HSub H HR) {z : Int} (hEl : E.length ≤ 900)  : PureAt Tryz.prog w0 H 57 [.agg (List.toArray cs), .int .i64 z] (.agg (List.toArray (hdC (hdE E z)))) := by
  obtain ⟨ads, caps, ade, cape, adc, capc, adu, capu, rfl, hS0, hSc, hE0, hEc, hC0, hCc, hU0, hUc⟩ := hv
  have hS := hS0.up hHR
  have hE := hE0.up hHR
  have hC := hC0.up hHR
  have hU := hU0.up hHR
  refine L_enter Tryz.func57 rfl Tryz.ntmps57 rfl rfl ?_
  refine W_sr ?_
  refine W_box (l := [.int .i64 (x.kind : Int), .int .i64 (x.entries : Int), .int .i64 (x.words : Int), .bool x.closed, .slice ads (x.L).length caps, .slice ade (E).length cape, .slice adc (x.C).length capc, .slice adu (x.used).length capu]) rfl rfl rfl (fun b2 => ?_)
  refine W_alloc (l := hdC zHd) ty29 rfl rfl (fun b4 => ?_)
  refine W_nil ?_
  refine W_seq ?_
  refine W_sr ?_
  refine W_move rfl rfl ?_
  rcases (show z < 0 ∨ (¬ z < 0 ∧ (E.length : Int) ≤ z) ∨ (¬ z < 0 ∧ ¬ (E.length : Int) ≤ z) by omega) with hz | hz | hz
  · skip
    refine W_bin rfl rfl b_lss rfl ?_
    first | rw [decide_eq_true (by omega)] | rw [decide_eq_false (by omega)]
    refine W_move rfl rfl ?_
    refine W_gno rfl rfl rfl ?_
    refine W_gno rfl rfl rfl ?_
    refine W_gno rfl rfl rfl ?_
    refine W_gno rfl rfl rfl ?_
    refine W_gno rfl rfl rfl ?_
    first | refine W_pickt rfl rfl rfl ?_ | refine W_pickf rfl rfl rfl ?_
    refine W_nil ?_
    refine W_condT rfl rfl ?_
    refine W_sr ?_
    refine W_build (l := hdC zHd) ty29 pl29 .nil rfl rfl rfl ?_
    refine W_storeA (l' := hdC zHd) rfl rfl ty29 rfl rfl (b := b4) zM (by exact Nat.le_refl 2) rfl zU ?_
    refine W_nil ?_
    refine W_ret1cO (H2 := H) Tryz.results57 rfl (.nil _) ty29 rfl zM rfl zH ?_
    exact ⟨by rw [hdE_lo hz], rfl⟩
  · skip
    refine W_bin rfl rfl b_lss rfl ?_
    first | rw [decide_eq_true (by omega)] | rw [decide_eq_false (by omega)]
    refine W_move rfl rfl ?_
    refine W_gyes rfl rfl ?_
    refine W_move rfl rfl ?_
    refine W_gyes rfl rfl ?_
    refine W_fieldAddr rfl fld56_5 (by decide) rfl ?_
    refine W_gyes rfl rfl ?_
    refine W_load (v := .slice ade (E).length cape) rfl ty53 rfl (Cell.own (b := b2) zM rfl) rfl ?_
    refine W_gyes rfl rfl ?_
    refine W_len rfl ty53 rfl rfl ?_
    refine W_gyes rfl rfl ?_
    refine W_bin rfl rfl b_geq rfl ?_
    first | rw [decide_eq_true (by omega)] | rw [decide_eq_false (by omega)]
    first | refine W_pickt rfl rfl rfl ?_ | refine W_pickf rfl rfl rfl ?_
    refine W_nil ?_
    refine W_condT rfl rfl ?_
    refine W_sr ?_
    refine W_build (l := hdC zHd) ty29 pl29 .nil rfl rfl rfl ?_
    refine W_storeA (l' := hdC zHd) rfl rfl ty29 rfl rfl (b := b4) zM (by exact Nat.le_refl 2) rfl zU ?_
    refine W_nil ?_
    refine W_ret1cO (H2 := H) Tryz.results57 rfl (.nil _) ty29 rfl zM rfl zH ?_
    exact ⟨by rw [hdE_hi hz.2], rfl⟩
  · skip
    obtain ⟨i, rfl⟩ : ∃ i : Nat, z = (i : Int) := ⟨z.toNat, by omega⟩
    obtain ⟨e, he⟩ : ∃ e, E[i]? = some e := ⟨_, List.getElem?_eq_getElem (by omega)⟩
    obtain ⟨qk, pk, eqk, hkc⟩ := Holds.row elmC_len (by decide) hE he
    refine W_bin rfl rfl b_lss rfl ?_
    first | rw [decide_eq_true (by omega)] | rw [decide_eq_false (by omega)]
    refine W_move rfl rfl ?_
    refine W_gyes rfl rfl ?_
    refine W_move rfl rfl ?_
    refine W_gyes rfl rfl ?_
    refine W_fieldAddr rfl fld56_5 (by decide) rfl ?_
    refine W_gyes rfl rfl ?_
    refine W_load (v := .slice ade (E).length cape) rfl ty53 rfl (Cell.own (b := b2) zM rfl) rfl ?_
    refine W_gyes rfl rfl ?_
    refine W_len rfl ty53 rfl rfl ?_
    refine W_gyes rfl rfl ?_
    refine W_bin rfl rfl b_geq rfl ?_
    first | rw [decide_eq_true (by omega)] | rw [decide_eq_false (by omega)]
    first | refine W_pickt rfl rfl rfl ?_ | refine W_pickf rfl rfl rfl ?_
    refine W_nil ?_
    refine W_condF rfl rfl ?_
    refine W_skip ?_
    refine W_seq ?_
    refine W_anyC ((b2, .cells 56 8 [.int .i64 (x.kind : Int), .int .i64 (x.entries : Int), .int .i64 (x.words : Int), .bool x.closed, .slice ads (x.L).length caps, .slice ade (E).length cape, .slice adc (x.C).length capc, .slice adu (x.used).length capu]) :: H) (by kernel_rfl) ?_
    refine WC_take 0 (l' := #[true, false, false, false, false, false, false, false, false, false, false, false, false, false]) rfl (by decide +kernel) (by decide +kernel) (by decide +kernel) rfl (by decide +kernel) (X_fieldAddr rfl fld56_5 (by decide)) rfl ?_
    refine WC_take 1 (l' := #[true, true, false, false, false, false, false, false, false, false, false, false, false, false]) rfl (by decide +kernel) (by decide +kernel) (by decide +kernel) rfl (by decide +kernel) (X_load (v := .slice ade (E).length cape) rfl ty53 rfl (Cell.own (b := b2) zM rfl)) rfl ?_
    refine WC_take 2 (l' := #[true, true, true, false, false, false, false, false, false, false, false, false, false, false]) rfl (by decide +kernel) (by decide +kernel) (by decide +kernel) rfl (by decide +kernel) (X_move rfl) rfl ?_
    refine WC_take 3 (l' := #[true, true, true, true, false, false, false, false, false, false, false, false, false, false]) rfl (by decide +kernel) (by decide +kernel) (by decide +kernel) rfl (by decide +kernel) (X_indexAddr (b := qk) (o := pk) (j := i) (by rw [← eqk]; rfl) rfl ty53 ty71 rfl (by omega) rfl) rfl ?_
    refine WC_take 4 (l' := #[true, true, true, true, true, false, false, false, false, false, false, false, false, false]) rfl (by decide +kernel) (by decide +kernel) (by decide +kernel) rfl (by decide +kernel) (X_fieldAddr rfl fld71_1 (by decide)) rfl ?_
    refine WC_take 5 (l' := #[true, true, true, true, true, true, false, false, false, false, false, false, false, false]) rfl (by decide +kernel) (by decide +kernel) (by decide +kernel) rfl (by decide +kernel) (X_load (v := .int .i64 e.slot) rfl ty3 rfl ((hkc 1 (.int .i64 e.slot) (rfl)).up zH)) rfl ?_
    refine WC_take 6 (l' := #[true, true, true, true, true, true, true, false, false, false, false, false, false, false]) rfl (by decide +kernel) (by decide +kernel) (by decide +kernel) rfl (by decide +kernel) (X_fieldAddr rfl fld56_5 (by decide)) rfl ?_
    refine WC_take 7 (l' := #[true, true, true, true, true, true, true, true, false, false, false, false, false, false]) rfl (by decide +kernel) (by decide +kernel) (by decide +kernel) rfl (by decide +kernel) (X_load (v := .slice ade (E).length cape) rfl ty53 rfl (Cell.own (b := b2) zM rfl)) rfl ?_
    refine WC_take 8 (l' := #[true, true, true, true, true, true, true, true, true, false, false, false, false, false]) rfl (by decide +kernel) (by decide +kernel) (by decide +kernel) rfl (by decide +kernel) (X_move rfl) rfl ?_
    refine WC_take 9 (l' := #[true, true, true, true, true, true, true, true, true, true, false, false, false, false]) rfl (by decide +kernel) (by decide +kernel) (by decide +kernel) rfl (by decide +kernel) (X_indexAddr (b := qk) (o := pk) (j := i) (by rw [← eqk]; rfl) rfl ty53 ty71 rfl (by omega) rfl) rfl ?_
    refine WC_take 10 (l' := #[true, true, true, true, true, true, true, true, true, true, true, false, false, false]) rfl (by decide +kernel) (by decide +kernel) (by decide +kernel) rfl (by decide +kernel) (X_fieldAddr rfl fld71_2 (by decide)) rfl ?_
    refine WC_take 11 (l' := #[true, true, true, true, true, true, true, true, true, true, true, true, false, false]) rfl (by decide +kernel) (by decide +kernel) (by decide +kernel) rfl (by decide +kernel) (X_load (v := .int .i64 e.gen) rfl ty3 rfl ((hkc 2 (.int .i64 e.gen) (rfl)).up zH)) rfl ?_
    refine WC_take 12 (l' := #[true, true, true, true, true, true, true, true, true, true, true, true, true, false]) rfl (by decide +kernel) (by decide +kernel) (by decide +kernel) rfl (by decide +kernel) (X_build (l := hdC e.hd) ty29 pl29 (.cons rfl rfl rfl rfl rfl (.cons rfl rfl rfl rfl rfl .nil)) rfl rfl) rfl ?_
    refine WC_one 13 (l' := #[true, true, true, true, true, true, true, true, true, true, true, true, true, true]) zH (by decide +kernel) rfl (by decide +kernel) ?_
    refine W_storeA (l' := hdC e.hd) rfl rfl ty29 rfl rfl (b := b4) zM (by exact Nat.le_refl 2) rfl zU ?_
    refine W_nil ?_
    refine WC_goal ?_
    refine WC_done zH (by decide +kernel) ?_
    refine W_ret1cO (H2 := H) Tryz.results57 rfl (.nil _) ty29 rfl zM rfl zH ?_
    exact ⟨by rw [hdE_at he], rfl⟩
set_option maxHeartbeats 2000000 in
theorem dxof_L {w0 : World} {H : Heap} {HR : Heap} {x : Xm} {E : List Elm} {cs : List Value} (hv : DxV w0 HR x E cs) (hHR : HSub H HR) {a : Axt} {adl : Option Addr} {capl : Nat} (hEl : E.length ≤ 900)  : LCalls Tryz.prog w0 31 #[.agg (List.toArray cs), .agg (List.toArray [.int .i64 a.kind, .int .i64 a.how, .int .i64 a.pick, .int .i64 a.at_, .bool a.own, .int .i64 a.h.slot, .int .i64 a.h.gen, .int .u64 a.key, .slice adl a.l.length capl])] (H) (fun v H' => ∃ g : Hd, v = .agg (List.toArray (hdC g)) ∧ H' = H) := by
  obtain ⟨ads, caps, ade, cape, adc, capc, adu, capu, rfl, hS0, hSc, hE0, hEc, hC0, hCc, hU0, hUc⟩ := hv
  have hS := hS0.up hHR
  have hE := hE0.up hHR
  have hC := hC0.up hHR
  have hU := hU0.up hHR
  refine L_enter (l := [.agg (List.toArray [.int .i64 (x.kind : Int), .int .i64 (x.entries : Int), .int .i64 (x.words : Int), .bool x.closed, .slice ads (x.L).length caps, .slice ade (E).length cape, .slice adc (x.C).length capc, .slice adu (x.used).length capu]), .agg (List.toArray [.int .i64 a.kind, .int .i64 a.how, .int .i64 a.pick, .int .i64 a.at_, .bool a.own, .int .i64 a.h.slot, .int .i64 a.h.gen, .int .u64 a.key, .slice adl a.l.length capl])]) Tryz.func31 rfl Tryz.ntmps31 rfl rfl ?_
  refine W_sr ?_
  refine W_box (l := [.int .i64 (x.kind : Int), .int .i64 (x.entries : Int), .int .i64 (x.words : Int), .bool x.closed, .slice ads (x.L).length caps, .slice ade (E).length cape, .slice adc (x.C).length capc, .slice adu (x.used).length capu]) rfl rfl rfl (fun b2 => ?_)
  refine W_box (l := [.int .i64 a.kind, .int .i64 a.how, .int .i64 a.pick, .int .i64 a.at_, .bool a.own, .int .i64 a.h.slot, .int .i64 a.h.gen, .int .u64 a.key, .slice adl a.l.length capl]) rfl rfl rfl (fun b3 => ?_)
  refine W_alloc (l := hdC zHd) ty29 rfl rfl (fun b4 => ?_)
  refine W_nil ?_
  refine W_seq ?_
  refine W_sr ?_
  refine W_fieldAddr rfl fld62_4 (by decide) rfl ?_
  rcases (show a.own = true ∨ (a.own = false ∧ E.length = 0) ∨ (a.own = false ∧ 0 < E.length) by rcases Bool.eq_false_or_eq_true a.own with h | h <;> rcases Nat.eq_zero_or_pos E.length with h2 | h2 <;> simp [h, h2]) with hw | ⟨hw, hz⟩ | ⟨hw, hz⟩
  · skip
    refine W_load (v := .bool true) rfl ty4 rfl (Cell.own (b := b3) zM (by show some (Value.bool a.own) = _; rw [hw])) rfl ?_
    refine W_move rfl rfl ?_
    refine W_gno rfl rfl rfl ?_
    refine W_gno rfl rfl rfl ?_
    refine W_gno rfl rfl rfl ?_
    refine W_gno rfl rfl rfl ?_
    first | refine W_pickt rfl rfl rfl ?_ | refine W_pickf rfl rfl rfl ?_
    refine W_nil ?_
    refine W_condT rfl rfl ?_
    refine W_sr ?_
    refine W_fieldAddr rfl fld62_5 (by decide) rfl ?_
    refine W_loadB (vs := hdC a.h) rfl ty29 rfl (b := b3) zM rfl rfl rfl ?_
    refine W_storeA (l' := hdC a.h) rfl rfl ty29 rfl rfl (b := b4) zM (by exact Nat.le_refl 2) rfl zU ?_
    refine W_nil ?_
    refine W_ret1cO (H2 := H) Tryz.results31 rfl (.nil _) ty29 rfl zM rfl zH ?_
    exact ⟨_, rfl, rfl⟩
  · skip
    refine W_load (v := .bool false) rfl ty4 rfl (Cell.own (b := b3) zM (by show some (Value.bool a.own) = _; rw [hw])) rfl ?_
    refine W_move rfl rfl ?_
    refine W_gyes rfl rfl ?_
    refine W_fieldAddr rfl fld56_5 (by decide) rfl ?_
    refine W_gyes rfl rfl ?_
    refine W_load (v := .slice ade (E).length cape) rfl ty53 rfl (Cell.own (b := b2) zM rfl) rfl ?_
    refine W_gyes rfl rfl ?_
    refine W_len rfl ty53 rfl rfl ?_
    refine W_gyes rfl rfl ?_
    refine W_bin rfl rfl b_eql rfl ?_
    first | rw [decide_eq_true (by omega)] | rw [decide_eq_false (by omega)]
    first | refine W_pickt rfl rfl rfl ?_ | refine W_pickf rfl rfl rfl ?_
    refine W_nil ?_
    refine W_condT rfl rfl ?_
    refine W_sr ?_
    refine W_fieldAddr rfl fld62_5 (by decide) rfl ?_
    refine W_loadB (vs := hdC a.h) rfl ty29 rfl (b := b3) zM rfl rfl rfl ?_
    refine W_storeA (l' := hdC a.h) rfl rfl ty29 rfl rfl (b := b4) zM (by exact Nat.le_refl 2) rfl zU ?_
    refine W_nil ?_
    refine W_ret1cO (H2 := H) Tryz.results31 rfl (.nil _) ty29 rfl zM rfl zH ?_
    exact ⟨_, rfl, rfl⟩
  · skip
    refine W_load (v := .bool false) rfl ty4 rfl (Cell.own (b := b3) zM (by show some (Value.bool a.own) = _; rw [hw])) rfl ?_
    refine W_move rfl rfl ?_
    refine W_gyes rfl rfl ?_
    refine W_fieldAddr rfl fld56_5 (by decide) rfl ?_
    refine W_gyes rfl rfl ?_
    refine W_load (v := .slice ade (E).length cape) rfl ty53 rfl (Cell.own (b := b2) zM rfl) rfl ?_
    refine W_gyes rfl rfl ?_
    refine W_len rfl ty53 rfl rfl ?_
    refine W_gyes rfl rfl ?_
    refine W_bin rfl rfl b_eql rfl ?_
    first | rw [decide_eq_true (by omega)] | rw [decide_eq_false (by omega)]
    first | refine W_pickt rfl rfl rfl ?_ | refine W_pickf rfl rfl rfl ?_
    refine W_nil ?_
    refine W_condF rfl rfl ?_
    refine W_skip ?_
    refine W_seq ?_
    obtain ⟨n, hn, hrem⟩ := modW_is a.pick (N := E.length) hz
    have hle : IntKind.u64.wrap (E.length : Int) = (E.length : Int) := u64w (by omega)
    refine W_anyC [(b2, .cells 56 8 [.int .i64 (x.kind : Int), .int .i64 (x.entries : Int), .int .i64 (x.words : Int), .bool x.closed, .slice ads (x.L).length caps, .slice ade (E).length cape, .slice adc (x.C).length capc, .slice adu (x.used).length capu]), (b3, .cells 62 9 [.int .i64 a.kind, .int .i64 a.how, .int .i64 a.pick, .int .i64 a.at_, .bool a.own, .int .i64 a.h.slot, .int .i64 a.h.gen, .int .u64 a.key, .slice adl a.l.length capl])] (by kernel_rfl) ?_
    refine WC_take 0 (l' := #[true, false, false, false, false, false, false, false, false, false, false, false]) rfl (by decide +kernel) (by decide +kernel) (by decide +kernel) rfl (by decide +kernel) (X_loadB (vs := [.int .i64 (x.kind : Int), .int .i64 (x.entries : Int), .int .i64 (x.words : Int), .bool x.closed, .slice ads (x.L).length caps, .slice ade (E).length cape, .slice adc (x.C).length capc, .slice adu (x.used).length capu]) rfl ty56 rfl (b := b2) zM rfl rfl) rfl ?_
    refine WC_take 1 (l' := #[true, true, false, false, false, false, false, false, false, false, false, false]) rfl (by decide +kernel) (by decide +kernel) (by decide +kernel) rfl (by decide +kernel) (X_fieldAddr rfl fld62_2 (by decide)) rfl ?_
    refine WC_take 2 (l' := #[true, true, true, false, false, false, false, false, false, false, false, false]) rfl (by decide +kernel) (by decide +kernel) (by decide +kernel) rfl (by decide +kernel) (X_load (v := .int .i64 a.pick) rfl ty3 rfl (Cell.own (b := b3) zM rfl)) rfl ?_
    refine WC_take 3 (l' := #[true, true, true, true, false, false, false, false, false, false, false, false]) rfl (by decide +kernel) (by decide +kernel) (by decide +kernel) rfl (by decide +kernel) (X_conv rfl ty3 ty22 rfl) rfl ?_
    refine WC_take 4 (l' := #[true, true, true, true, true, false, false, false, false, false, false, false]) rfl (by decide +kernel) (by decide +kernel) (by decide +kernel) rfl (by decide +kernel) (X_fieldAddr rfl fld56_5 (by decide)) rfl ?_
    refine WC_take 5 (l' := #[true, true, true, true, true, true, false, false, false, false, false, false]) rfl (by decide +kernel) (by decide +kernel) (by decide +kernel) rfl (by decide +kernel) (X_load (v := .slice ade (E).length cape) rfl ty53 rfl (Cell.own (b := b2) zM rfl)) rfl ?_
    refine WC_take 6 (l' := #[true, true, true, true, true, true, true, false, false, false, false, false]) rfl (by decide +kernel) (by decide +kernel) (by decide +kernel) rfl (by decide +kernel) (X_len rfl ty53 rfl) rfl ?_
    refine WC_take 7 (l' := #[true, true, true, true, true, true, true, true, false, false, false, false]) rfl (by decide +kernel) (by decide +kernel) (by decide +kernel) rfl (by decide +kernel) (X_conv (m := (E.length : Int)) rfl ty3 ty22 hle) rfl ?_
    refine WC_take 8 (l' := #[true, true, true, true, true, true, true, true, true, false, false, false]) rfl (by decide +kernel) (by decide +kernel) (by decide +kernel) rfl (by decide +kernel) (X_bin rfl rfl (b_rem (by omega) (m := (n : Int)) hrem)) rfl ?_
    refine WC_take 9 (l' := #[true, true, true, true, true, true, true, true, true, true, false, false]) rfl (by decide +kernel) (by decide +kernel) (by decide +kernel) rfl (by decide +kernel) (X_conv (m := (n : Int)) rfl ty22 ty3 (i64w (by omega))) rfl ?_
    refine WC_one 10 (l' := #[true, true, true, true, true, true, true, true, true, true, true, false]) zH (by decide +kernel) rfl (by decide +kernel) ?_
    refine W_callq (.cons rfl (.cons rfl .nil)) Tryz.call57 rfl (dxhandle_q (x := x) (E := E) (z := (n : Int)) ⟨ads, caps, ade, cape, adc, capc, adu, capu, rfl, hS0, hSc, hE0, hEc, hC0, hCc, hU0, hUc⟩ ((show HSub _ H from zH).trans hHR) hEl) ?_
    refine W_nil ?_
    refine WC_goal ?_
    refine WC_one 11 (l' := #[true, true, true, true, true, true, true, true, true, true, true, true]) zH (by decide +kernel) rfl (by decide +kernel) ?_
    refine W_storeA (l' := hdC (hdE E (n : Int))) rfl rfl ty29 rfl rfl (b := b4) zM (by exact Nat.le_refl 2) rfl zU ?_
    refine W_nil ?_
    refine WC_goal ?_
    refine WC_done zH (by decide +kernel) ?_
    refine W_ret1cO (H2 := H) Tryz.results31 rfl (.nil _) ty29 rfl zM rfl zH ?_
    exact ⟨_, rfl, rfl⟩
end Go.Proofs.YtphdlpmnidiliaaGreatDoor
