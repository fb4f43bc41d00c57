/-
  Own work: contracts of functions that the statement reaches, and plain facts on what they compute; each theorem says its conditions.
-/
import Derived.Test.YtkcaakkaioingaaDoorBpT3
import Derived.Test.YtkcaakkaioingaaDoorBpS2
import Derived.Test.YtkcaakkaioingaaDoorBpS1
import Derived.Test.YtkcaakkaioingaaDoorBpA
set_option linter.all false
set_option linter.unusedSimpArgs false
set_option linter.unusedVariables false
namespace Go.Proofs.YtkcaakkaioingaaDoor
open Go Go.Sl
attribute [local irreducible] W
structure Wl where
  bw : Nat
  now : Nat
  L : List Tm
  turn : Nat
abbrev Wl.p (w : Wl) : Value := .pointer (some ⟨w.bw, 0, none⟩)
inductive BankH (bb : Nat) (Ws : List Wl) : Heap → Prop
  | mk {v : Value} {XS : Heap} {HWs : List Heap} (hv : OwnS 140 1 v Ws.length (Ws.map Wl.p) XS) (hl : HWs.length = Ws.length) (hw : ∀ (k : Nat) w HW, Ws[k]? = some w → HWs[k]? = some HW → WheelH w.bw w.now w.L w.turn HW) : BankH bb Ws ((bb, .cells 139 1 [v]) :: (XS ++ HWs.flatten))
theorem set_same {α : Type} {l : List α} {k : Nat} {x : α} (h : l[k]? = some x) : l.set k x = l := by
  apply List.ext_getElem?
  intro i
  by_cases e : k = i
  · subst e; rw [List.getElem?_set_self (List.getElem?_eq_some_iff.1 h).1, h]
  · rw [List.getElem?_set_ne e]
theorem BankH.at {bb k : Nat} {Ws : List Wl} {HB : Heap} {w : Wl} (h : BankH bb Ws HB) (hk : Ws[k]? = some w) : ∃ HW HR, WheelH w.bw w.now w.L w.turn HW ∧ (∀ H, HSub (HB ++ H) (HW ++ (HR ++ H))) ∧
    ∀ w' HW', w'.bw = w.bw → WheelH w'.bw w'.now w'.L w'.turn HW' → ∃ HB', BankH bb (Ws.set k w') HB' ∧ ∀ H, HSub (HW' ++ (HR ++ H)) (HB' ++ H) := by
  cases h with
  | @mk v XS HWs hv hl hw =>
    have hkl := (List.getElem?_eq_some_iff.1 hk).1
    obtain ⟨HW, hHW⟩ : ∃ HW, HWs[k]? = some HW := ⟨_, List.getElem?_eq_getElem (by omega)⟩
    refine ⟨HW, (bb, .cells 139 1 [v]) :: (XS ++ (HWs.set k []).flatten), hw k w HW hk hHW, fun H => ?_, fun w' HW' e hw' => ?_⟩
    · have h1 := ((flat_take hHW).append_left ((bb, .cells 139 1 [v]) :: XS)).append_right H
      refine HSub.of_perm ?_
      rw [List.append_assoc, List.append_assoc] at h1
      show (((bb, Blk.cells 139 1 [v]) :: XS) ++ HWs.flatten ++ H).Perm _
      rw [List.append_assoc]
      refine h1.trans ?_
      rw [List.append_assoc]
      refine (List.perm_append_comm_assoc _ _ _).trans ?_
      show (HW ++ (((bb, Blk.cells 139 1 [v]) :: XS) ++ _)).Perm (HW ++ ((((bb, Blk.cells 139 1 [v]) :: XS) ++ _) ++ H))
      rw [List.append_assoc]
    · refine ⟨(bb, .cells 139 1 [v]) :: (XS ++ (HWs.set k HW').flatten), .mk ?_ (by rw [List.length_set, List.length_set, hl]) ?_, fun H => ?_⟩
      · rw [List.length_set, List.map_set, set_same (by rw [List.getElem?_map, hk, show w'.p = w.p from by unfold Wl.p; rw [e]]; rfl)]; exact hv
      · intro j u HU hj hU
        by_cases c : k = j
        · subst c
          rw [List.getElem?_set_self hkl] at hj
          rw [List.getElem?_set_self (by omega)] at hU
          obtain rfl := Option.some.inj hj
          obtain rfl := Option.some.inj hU
          exact hw'
        · rw [List.getElem?_set_ne c] at hj hU
          exact hw j u HU hj hU
      · have h1 := ((flat_put (B := HW') (XS := HWs) (k := k) (by omega)).append_left ((bb, .cells 139 1 [v]) :: XS)).append_right H
        refine HSub.of_perm (List.Perm.trans ?_ h1)
        show (HW' ++ ((((bb, Blk.cells 139 1 [v]) :: XS) ++ _) ++ H)).Perm _
        rw [List.append_assoc, List.append_assoc, List.append_assoc]
        exact List.perm_append_comm_assoc _ _ _
theorem BankH.row {bb : Nat} {Ws : List Wl} {HB : Heap} (h : BankH bb Ws HB) : ∃ ad cap, (bb, Blk.cells 139 1 [.slice ad Ws.length cap]) ∈ HB ∧ Ws.length ≤ cap ∧ ∀ {w0 : World} {H : Heap}, (∀ p ∈ HB, p ∈ H) → Holds w0 H ad (Ws.map Wl.p) := by
  cases h with
  | @mk v XS HWs hv hl hw =>
    obtain ⟨ad, cap, rfl, h1, _⟩ := hv.shape
    exact ⟨ad, cap, List.mem_cons_self, h1, fun hm => OwnS.holds hv (fun p hp => hm p (List.mem_cons_of_mem _ (List.mem_append_left _ hp)))⟩
def wlAt (Ws : List Wl) (cpu : Int) : Option Wl := if 0 ≤ cpu then Ws[cpu.toNat]? else none
def ofV (Ws : List Wl) (cpu : Int) : Value := match wlAt Ws cpu with
  | some w => w.p
  | none => .pointer none
set_option maxHeartbeats 1000000 in
theorem CPUs_q {w0 : World} {H : Heap} {HB : Heap} {bb : Nat} {Ws : List Wl} (hB : BankH bb Ws HB) (hm : ∀ p ∈ HB, p ∈ H)  : PureAt Tryd.prog w0 H 25 [.pointer (some ⟨bb, 0, none⟩)] (.int .i64 (Ws.length : Int)) := by
  obtain ⟨ad, cap, hcell, hlc, hrow0⟩ := hB.row
  have hrow : Holds w0 H ad (Ws.map Wl.p) := hrow0 hm
  refine L_enter Tryd.func25 rfl Tryd.ntmps25 rfl rfl ?_
  refine W_sr ?_
  refine W_assign rfl rfl ?_
  refine W_nil ?_
  refine W_seq ?_
  refine W_sr ?_
  refine W_move rfl rfl ?_
  refine W_x (X_ptrNil rfl rfl ty59) (fun _ h => by cases h) rfl ?_
  refine W_nil ?_
  refine W_condF rfl rfl ?_
  refine W_skip ?_
  refine W_sr ?_
  refine W_move rfl rfl ?_
  refine W_nilCheck rfl rfl ?_
  refine W_fieldAddr rfl fld139_0 (by decide) rfl ?_
  refine W_load (v := .slice ad Ws.length cap) rfl ty137 rfl (Cell.own (b := bb) (hm _ hcell) rfl) rfl ?_
  refine W_len rfl ty137 rfl rfl ?_
  refine W_assign rfl rfl ?_
  refine W_nil ?_
  refine W_ret1m (H2 := H) Tryd.results25 rfl (.nil _) zH ?_
  exact ⟨rfl, rfl⟩
theorem cpu_ways (Ws : List Wl) (cpu : Int) : (cpu < 0 ∧ wlAt Ws cpu = none) ∨ (0 ≤ cpu ∧ (Ws.length : Int) ≤ cpu ∧ wlAt Ws cpu = none) ∨ (0 ≤ cpu ∧ cpu < (Ws.length : Int) ∧ wlAt Ws cpu = Ws[cpu.toNat]?) := by
  unfold wlAt
  by_cases h : 0 ≤ cpu
  · by_cases h2 : cpu < (Ws.length : Int)
    · exact .inr (.inr ⟨h, h2, if_pos h⟩)
    · exact .inr (.inl ⟨h, by omega, by rw [if_pos h, List.getElem?_eq_none (by omega)]⟩)
  · exact .inl ⟨by omega, if_neg h⟩
set_option maxHeartbeats 1000000 in
theorem of_q {w0 : World} {H : Heap} {HB : Heap} {bb : Nat} {Ws : List Wl} (hB : BankH bb Ws HB) (hm : ∀ p ∈ HB, p ∈ H) {cpu : Int}  : PureAt Tryd.prog w0 H 66 [.pointer (some ⟨bb, 0, none⟩), .int .i64 cpu] (ofV Ws cpu) := by
  obtain ⟨ad, cap, hcell, hlc, hrow0⟩ := hB.row
  have hrow : Holds w0 H ad (Ws.map Wl.p) := hrow0 hm
  refine L_enter Tryd.func66 rfl Tryd.ntmps66 rfl rfl ?_
  refine W_sr ?_
  refine W_assign rfl rfl ?_
  refine W_nil ?_
  refine W_seq ?_
  refine W_sr ?_
  rcases cpu_ways Ws cpu with ⟨h1, h2⟩ | ⟨h1, h2, h3⟩ | ⟨h1, h2, h3⟩
  · skip
    refine W_move rfl rfl ?_
    refine W_x (X_ptrNil rfl rfl ty59) (fun _ h => by cases h) rfl ?_
    refine W_move rfl rfl ?_
    refine W_gyes rfl rfl ?_
    refine W_move rfl rfl ?_
    refine W_gyes rfl rfl ?_
    refine W_bin rfl rfl b_lss rfl ?_
    rw [decide_eq_true (by omega)]
    first | refine W_pickt rfl rfl rfl ?_ | refine W_pickf rfl rfl rfl ?_
    refine W_move rfl rfl ?_
    refine W_gno rfl rfl rfl ?_
    refine W_gno rfl rfl rfl ?_
    refine W_gno rfl rfl rfl ?_
    refine W_gno rfl rfl rfl ?_
    refine W_gno rfl rfl rfl ?_
    refine W_gno rfl rfl rfl ?_
    refine W_gno rfl rfl rfl ?_
    first | refine W_pickt rfl rfl rfl ?_ | refine W_pickf rfl rfl rfl ?_
    refine W_nil ?_
    refine W_condT rfl rfl ?_
    refine W_sr ?_
    refine W_assign rfl rfl ?_
    refine W_nil ?_
    refine W_ret1m (H2 := H) Tryd.results66 rfl (.nil _) zH ?_
    exact ⟨by unfold ofV; rw [h2], rfl⟩
  · skip
    refine W_move rfl rfl ?_
    refine W_x (X_ptrNil rfl rfl ty59) (fun _ h => by cases h) rfl ?_
    refine W_move rfl rfl ?_
    refine W_gyes rfl rfl ?_
    refine W_move rfl rfl ?_
    refine W_gyes rfl rfl ?_
    refine W_bin rfl rfl b_lss rfl ?_
    rw [decide_eq_false (by omega)]
    first | refine W_pickt rfl rfl rfl ?_ | refine W_pickf rfl rfl rfl ?_
    refine W_move rfl rfl ?_
    refine W_gyes rfl rfl ?_
    refine W_move rfl rfl ?_
    refine W_gyes rfl rfl ?_
    refine W_move rfl rfl ?_
    refine W_gyes rfl rfl ?_
    refine W_nilCheck rfl rfl ?_
    refine W_gyes rfl rfl ?_
    refine W_fieldAddr rfl fld139_0 (by decide) rfl ?_
    refine W_gyes rfl rfl ?_
    refine W_load (v := .slice ad Ws.length cap) rfl ty137 rfl (Cell.own (b := bb) (hm _ hcell) rfl) rfl ?_
    refine W_gyes rfl rfl ?_
    refine W_len rfl ty137 rfl rfl ?_
    refine W_gyes rfl rfl ?_
    refine W_bin rfl rfl b_geq rfl ?_
    rw [decide_eq_true (by omega)]
    first | refine W_pickt rfl rfl rfl ?_ | refine W_pickf rfl rfl rfl ?_
    refine W_nil ?_
    refine W_condT rfl rfl ?_
    refine W_sr ?_
    refine W_assign rfl rfl ?_
    refine W_nil ?_
    refine W_ret1m (H2 := H) Tryd.results66 rfl (.nil _) zH ?_
    exact ⟨by unfold ofV; rw [h3], rfl⟩
  · skip
    refine W_move rfl rfl ?_
    refine W_x (X_ptrNil rfl rfl ty59) (fun _ h => by cases h) rfl ?_
    refine W_move rfl rfl ?_
    refine W_gyes rfl rfl ?_
    refine W_move rfl rfl ?_
    refine W_gyes rfl rfl ?_
    refine W_bin rfl rfl b_lss rfl ?_
    rw [decide_eq_false (by omega)]
    first | refine W_pickt rfl rfl rfl ?_ | refine W_pickf rfl rfl rfl ?_
    refine W_move rfl rfl ?_
    refine W_gyes rfl rfl ?_
    refine W_move rfl rfl ?_
    refine W_gyes rfl rfl ?_
    refine W_move rfl rfl ?_
    refine W_gyes rfl rfl ?_
    refine W_nilCheck rfl rfl ?_
    refine W_gyes rfl rfl ?_
    refine W_fieldAddr rfl fld139_0 (by decide) rfl ?_
    refine W_gyes rfl rfl ?_
    refine W_load (v := .slice ad Ws.length cap) rfl ty137 rfl (Cell.own (b := bb) (hm _ hcell) rfl) rfl ?_
    refine W_gyes rfl rfl ?_
    refine W_len rfl ty137 rfl rfl ?_
    refine W_gyes rfl rfl ?_
    refine W_bin rfl rfl b_geq rfl ?_
    rw [decide_eq_false (by omega)]
    first | refine W_pickt rfl rfl rfl ?_ | refine W_pickf rfl rfl rfl ?_
    refine W_nil ?_
    refine W_condF rfl rfl ?_
    refine W_skip ?_
    refine W_sr ?_
    refine W_move rfl rfl ?_
    refine W_nilCheck rfl rfl ?_
    refine W_fieldAddr rfl fld139_0 (by decide) rfl ?_
    obtain ⟨w, hw⟩ : ∃ w, Ws[cpu.toNat]? = some w := ⟨_, List.getElem?_eq_getElem (by omega)⟩
    obtain ⟨qb, qo, rfl, hc⟩ := hrow.at (i := cpu.toNat) (v := w.p) (by rw [List.getElem?_map, hw]; rfl)
    refine W_load (v := .slice (some ⟨qb, qo, none⟩) Ws.length cap) rfl ty137 rfl (Cell.own (b := bb) (hm _ hcell) rfl) rfl ?_
    refine W_move rfl rfl ?_
    refine W_indexAddr (j := cpu.toNat) rfl rfl ty137 ty140 (by omega) (by omega) rfl rfl ?_
    refine W_load (v := w.p) rfl ty140 rfl (by rw [Nat.mul_one]; exact hc) rfl ?_
    refine W_assign rfl rfl ?_
    refine W_nil ?_
    refine W_ret1m (H2 := H) Tryd.results66 rfl (.nil _) zH ?_
    exact ⟨by unfold ofV; rw [h3, hw], rfl⟩
structure NbS where
  i : Nat
  Ws : List Wl
  v : Value
  XS : Heap
  HWs : List Heap
def FreshW (now : Nat) (w : Wl) : Prop := w.now = now ∧ w.L = [] ∧ w.turn = 0
theorem all_snoc {Ws : List Wl} {HWs : List Heap} {u : Wl} {HU : Heap} (hl : HWs.length = Ws.length) (hw : ∀ (k : Nat) w HW, Ws[k]? = some w → HWs[k]? = some HW → WheelH w.bw w.now w.L w.turn HW) (hu : WheelH u.bw u.now u.L u.turn HU) : ∀ (k : Nat) w HW, (Ws ++ [u])[k]? = some w → (HWs ++ [HU])[k]? = some HW → WheelH w.bw w.now w.L w.turn HW := fun k w HW h1 h2 => by
  by_cases c : k < Ws.length
  · rw [List.getElem?_append_left c] at h1
    rw [List.getElem?_append_left (by omega)] at h2
    exact hw k w HW h1 h2
  · rw [List.getElem?_append_right (by omega)] at h1 h2
    rw [hl] at h2
    cases hk : k - Ws.length with
    | zero =>
      rw [hk] at h1 h2
      obtain rfl : u = w := by simpa using h1
      obtain rfl : HU = HW := by simpa using h2
      exact hu
    | succ j => rw [hk] at h1; simp at h1
set_option maxHeartbeats 1000000 in
theorem NewB_L {w0 : World} {H : Heap} {n now : Nat} (hn : 1 ≤ n ∧ n ≤ 64)  : LCalls Tryd.prog w0 24 #[.int .i64 (n : Int), .int .u64 ((now : Nat) : Int)] (H) (fun v H' => ∃ bb Ws HB, v = .tuple #[.pointer (some ⟨bb, 0, none⟩), .int .i64 0] ∧ BankH bb Ws HB ∧ Ws.length = n ∧ (∀ w ∈ Ws, FreshW now w) ∧ H' = HB ++ H) := by
  refine L_enter (l := [.int .i64 (n : Int), .int .u64 ((now : Nat) : Int)]) Tryd.func24 rfl Tryd.ntmps24 rfl rfl ?_
  refine W_sr ?_
  refine W_assign rfl rfl ?_
  refine W_assign rfl rfl ?_
  refine W_nil ?_
  refine W_seq ?_
  refine W_sr ?_
  refine W_move rfl rfl ?_
  refine W_bin rfl rfl b_lss rfl ?_
  rw [decide_eq_false (by omega)]
  refine W_move rfl rfl ?_
  refine W_gyes rfl rfl ?_
  refine W_move rfl rfl ?_
  refine W_gyes rfl rfl ?_
  refine W_bin rfl rfl b_gtr rfl ?_
  rw [decide_eq_false (by omega)]
  first | refine W_pickt rfl rfl rfl ?_ | refine W_pickf rfl rfl rfl ?_
  refine W_nil ?_
  refine W_condF rfl rfl ?_
  refine W_skip ?_
  refine W_sr ?_
  refine W_build (l := [.slice none 0 0]) ty139 pl139 .nil rfl rfl rfl ?_
  refine W_box (l := [.slice none 0 0]) rfl rfl rfl (fun b14 => ?_)
  refine W_assign rfl rfl ?_
  refine W_nil ?_
  refine W_seq ?_
  refine W_sr ?_
  refine W_move rfl rfl ?_
  refine W_move rfl rfl ?_
  refine W_nil ?_
  refine W_block ?_
  refine W_loopC (X := NbS) [(1, _), (6, _), (15, _)] (fun (x : NbS) => [(16, .int .i64 (x.i : Int))]) (fun _ => _) (fun (x : NbS) => (b14, .cells 139 1 [x.v]) :: (x.XS ++ (x.HWs.flatten ++ H))) (fun (x : NbS) => x.i ≤ n ∧ x.Ws.length = x.i ∧ OwnS 140 1 x.v x.Ws.length (x.Ws.map Wl.p) x.XS ∧ x.HWs.length = x.Ws.length ∧ (∀ (k : Nat) w HW, x.Ws[k]? = some w → x.HWs[k]? = some HW → WheelH w.bw w.now w.L w.turn HW) ∧ ∀ w ∈ x.Ws, FreshW now w) (fun (x : NbS) => n - x.i) ⟨0, [], .slice none 0 0, [], []⟩ ⟨Nat.zero_le _, rfl, .nil, rfl, fun k w HW h => (by cases h), fun w h => (by cases h)⟩ (sub_cons rfl (sub_cons rfl (sub_cons rfl (sub_nil _)))) (sub_cons rfl (sub_nil _)) rfl (.refl _) ?_
  rintro ⟨i, Ws, v, XS, HWs⟩ ⟨hi, hlen, hv, hl, hw, hf⟩
  dsimp only at hi hlen hv hl hw hf ⊢
  simp only [List.cons_append, List.nil_append]
  refine W_sr ?_
  refine W_bin rfl rfl b_lss rfl ?_
  refine W_nil ?_
  refine W_seq ?_
  refine W_condPS (p := (i : Int) < (n : Int)) rfl (by simp) (fun q0 => ?_) (fun q0 => ?_)
  · skip
    refine W_skip ?_
    refine W_seq ?_
    refine W_block ?_
    refine W_anyS [(b14, .cells 139 1 [v])] 11 (by kernel_rfl) ?_
    refine WS_take 0 (l' := #[true, false, false, false, false, false, false, false, false, false, false, false]) rfl rfl (by decide +kernel) (by decide +kernel) (by decide +kernel) (by decide +kernel) rfl (by decide +kernel) (X_move rfl) rfl ?_
    refine WS_take 1 (l' := #[true, true, false, false, false, false, false, false, false, false, false, false]) rfl rfl (by decide +kernel) (by decide +kernel) (by decide +kernel) (by decide +kernel) rfl (by decide +kernel) (X_move rfl) rfl ?_
    refine WS_take 2 (l' := #[true, true, true, false, false, false, false, false, false, false, false, false]) rfl rfl (by decide +kernel) (by decide +kernel) (by decide +kernel) (by decide +kernel) rfl (by decide +kernel) (X_nilCheck rfl) rfl ?_
    refine WS_take 3 (l' := #[true, true, true, true, false, false, false, false, false, false, false, false]) rfl rfl (by decide +kernel) (by decide +kernel) (by decide +kernel) (by decide +kernel) rfl (by decide +kernel) (X_fieldAddr rfl fld139_0 (by decide)) rfl ?_
    refine WS_take 4 (l' := #[true, true, true, true, true, false, false, false, false, false, false, false]) rfl rfl (by decide +kernel) (by decide +kernel) (by decide +kernel) (by decide +kernel) rfl (by decide +kernel) (X_load (v := v) rfl ty137 rfl (Cell.own (b := b14) zM rfl)) rfl ?_
    refine WS_take 5 (l' := #[true, true, true, true, true, true, false, false, false, false, false, false]) rfl rfl (by decide +kernel) (by decide +kernel) (by decide +kernel) (by decide +kernel) rfl (by decide +kernel) (X_move rfl) rfl ?_
    refine WS_one 6 (l' := #[true, true, true, true, true, true, true, false, false, false, false, false]) zH rfl (by decide +kernel) rfl (by decide +kernel) ?_
    refine W_call (.cons rfl .nil) Tryd.call63 rfl (New_W (now := now)) ?_
    rintro w2 H' ⟨bw, HW, rfl, hW, rfl⟩
    refine W_nil ?_
    refine WS_goal ?_
    refine WS_one 7 (l' := #[true, true, true, true, true, true, true, true, false, false, false, false]) zH rfl (by decide +kernel) rfl (by decide +kernel) ?_
    refine W_buildSlice (l := [.pointer (some ⟨bw, 0, none⟩)]) ty137 ty140 (.cons rfl rfl rfl rfl rfl .nil) rfl rfl rfl rfl rfl rfl rfl (fun b25 => ?_)
    refine W_nil ?_
    refine WS_goal ?_
    refine WS_one 8 (l' := #[true, true, true, true, true, true, true, true, true, false, false, false]) zH rfl (by decide +kernel) rfl (by decide +kernel) ?_
    refine W_append (news := [.pointer (some ⟨bw, 0, none⟩)]) (m := 1) (HB := XS) (H0 := (b25, .cells 140 1 [.pointer (some ⟨bw, 0, none⟩)]) :: (HW ++ ((b14, .cells 139 1 [v]) :: (HWs.flatten ++ H)))) rfl rfl ty137 ty140 rfl (by decide) hv rfl (Holds.own (b := b25) zM) rfl (by simp only [maxLen]; omega) (by omega) zH rfl (fun v' X' hv' => ?_)
    refine W_nil ?_
    refine WS_goal ?_
    refine WS_takeP 9 (l' := #[true, true, true, true, true, true, true, true, true, true, false, false]) rfl rfl (by decide +kernel) (by decide +kernel) (by decide +kernel) rfl (by decide +kernel) (X_nilCheck rfl) rfl ?_
    refine WS_take 10 (l' := #[true, true, true, true, true, true, true, true, true, true, true, false]) rfl rfl (by decide +kernel) (by decide +kernel) (by decide +kernel) (by decide +kernel) rfl (by decide +kernel) (X_fieldAddr rfl fld139_0 (by decide)) rfl ?_
    refine WS_last (l' := #[true, true, true, true, true, true, true, true, true, true, true, true]) zH (by decide +kernel) rfl (by decide +kernel) ?_
    have hv1 : v'.oneCell' = true := by obtain ⟨_, _, rfl, _⟩ := hv'.shape; rfl
    refine W_store (l' := [v']) rfl rfl ty137 hv1 rfl (b := b14) zM rfl rfl zU ?_
    refine W_nil ?_
    refine WC_goal ?_
    refine WC_done (.nil _) (by decide +kernel) ?_
    refine W_blk ?_
    refine W_region ?_
    refine W_bin rfl rfl (b_add (m := ((i + 1 : Nat) : Int)) ((i64w (by omega)).trans (by omega))) rfl ?_
    refine W_move rfl rfl ?_
    refine W_nil ?_
    refine W_again ⟨i + 1, Ws ++ [⟨bw, now, [], 0⟩], v', X', HWs ++ [HW]⟩ ⟨by show i + 1 ≤ n; omega, by show (Ws ++ [_]).length = i + 1; rw [List.length_append, hlen]; rfl, by show OwnS 140 1 v' (Ws ++ [_]).length ((Ws ++ [_]).map Wl.p) X'; rw [List.length_append, List.map_append]; exact hv', by show (HWs ++ [HW]).length = (Ws ++ [_]).length; rw [List.length_append, List.length_append, hl]; rfl, all_snoc hl hw hW, fun w h => (List.mem_append.1 h).elim (hf w) (fun h => by rw [List.mem_singleton.1 h]; exact ⟨rfl, rfl, rfl⟩)⟩ (by show n - (i + 1) < n - i; omega) (sub_cons rfl (sub_cons rfl (sub_cons rfl (sub_cons rfl (sub_nil _))))) rfl (by show HSub _ ((b14, .cells 139 1 [v']) :: (X' ++ ((HWs ++ [HW]).flatten ++ H))); rw [List.flatten_append, List.flatten_singleton, List.append_assoc]; first | exact hsubI | (repeat (first | with_reducible exact HSub.refl _ | refine HSub.cons zT ?_ | refine HSub.app zS ?_ | exact HSub.nil _ | exact HSub.refl _ | refine HSub.drop ?_ | refine HSub.dropS ?_)))
  · skip
    refine W_exit rfl ?_
    refine W_sr ?_
    refine W_move rfl rfl ?_
    refine W_assign rfl rfl ?_
    refine W_assign rfl rfl ?_
    refine W_nil ?_
    refine W_ret2m (H2 := (b14, .cells 139 1 [v]) :: (XS ++ (HWs.flatten ++ H))) Tryd.results24 rfl rfl (.nil _) zH ?_
    exact ⟨b14, Ws, (b14, .cells 139 1 [v]) :: (XS ++ HWs.flatten), rfl, .mk hv hl hw, by omega, hf, by show _ = _ :: ((XS ++ HWs.flatten) ++ H); rw [List.append_assoc]⟩
end Go.Proofs.YtkcaakkaioingaaDoor
namespace Go.Proofs.YtkcaakkaioingaaDoor
open Go Go.Sl
attribute [local irreducible] W
theorem rPut_late' {w0 : World} {H : Heap} {now cap : Nat} {L : List Tm} {ad : Option Addr} (hm : now = 18446744073709551615) (hl : L.length ≤ 1000000) (hrow : Holds w0 H ad (rowT L)) {id : Int} {a : Nat} (hid : 0 ≤ id ∧ id < 256) (ha : a ≤ 18446744073709551615) (hin : id ∉ L.map (·.id)) : PureAt Tryd.prog w0 H 64 [.agg (List.toArray [.int .u64 ((now : Nat) : Int), .slice ad L.length cap]), .int .i64 id, .int .u64 ((a : Nat) : Int)] (.tuple #[.agg (List.toArray [.int .u64 ((now : Nat) : Int), .slice ad L.length cap]), .agg zSpot.v.toArray, .int .i64 12]) := by
  subst hm
  exact rPut_late hl hrow hid ha hin
theorem placeT_ok {now a : Nat} (h : now ≠ 18446744073709551615) : placeT now a = ((placeT now a).1, 0) := by
  unfold placeT; rw [if_neg h]
set_option maxHeartbeats 1000000 in
theorem rbPut_no {w0 : World} {H : Heap} {HR : Heap} {S : St} {v : Value} (hS : StOk S) (hv : RbV w0 HR S v) (hHR : HSub H HR) (h64 : S.length ≤ 64) {tn a : Nat} {cpu id : Int} (ha : a ≤ 18446744073709551615) (hno : cpu < 0 ∨ (S.length : Int) ≤ cpu ∨ id < 0 ∨ 255 < id)  : LCalls Tryd.prog w0 27 #[v, .int .i64 cpu, .int .i64 id, .int .u64 ((a : Nat) : Int)] (H) (fun v' H' => ∃ v1 X, v' = .tuple #[v1, .agg (putS S tn cpu id a).2.1.v.toArray, .int .i64 (putS S tn cpu id a).2.2] ∧ RbV w0 (X ++ HR) (putS S tn cpu id a).1 v1 ∧ H' = X ++ H) := by
  have hv0 := hv
  obtain ⟨ad, cap, Ds, rfl, hb⟩ := hv
  obtain ⟨hrow, heach, rfl⟩ := hb
  have hlen : (Ds.map Rw.nl).length = Ds.length := List.length_map _
  rw [hlen]
  rw [hlen] at hv0 h64
  have hrowH := hrow.up hHR
  rw [hlen] at hno
  refine L_enter (l := [.slice ad Ds.length cap, .int .i64 cpu, .int .i64 id, .int .u64 ((a : Nat) : Int)]) Tryd.func27 rfl Tryd.ntmps27 rfl rfl ?_
  refine W_sr ?_
  refine W_assign rfl rfl ?_
  refine W_alloc (l := zSpot.v) ty69 rfl rfl (fun b9 => ?_)
  refine W_assign rfl rfl ?_
  refine W_nil ?_
  refine W_seq ?_
  refine W_sr ?_
  refine W_move rfl rfl ?_
  refine W_bin rfl rfl b_lss rfl ?_
  refine W_move rfl rfl ?_
  apply W_or
  iterate 4 exact rfl
  case h1 =>
    intro hg2
    refine W_gyes rfl rfl ?_
    refine W_move rfl rfl ?_
    refine W_gyes rfl rfl ?_
    refine W_move rfl rfl ?_
    refine W_gyes rfl rfl ?_
    refine W_len rfl ty62 rfl rfl ?_
    refine W_gyes rfl rfl ?_
    refine W_bin rfl rfl b_geq rfl ?_
    exact W_met rfl zR
  refine W_move rfl rfl ?_
  apply W_or
  iterate 4 exact rfl
  case h1 =>
    intro hg8
    refine W_gyes rfl rfl ?_
    refine W_move rfl rfl ?_
    refine W_gyes rfl rfl ?_
    refine W_bin rfl rfl b_lss rfl ?_
    exact W_met rfl zR
  refine W_move rfl rfl ?_
  apply W_or
  iterate 4 exact rfl
  case h1 =>
    intro hg12
    refine W_gyes rfl rfl ?_
    refine W_move rfl rfl ?_
    refine W_gyes rfl rfl ?_
    refine W_bin rfl rfl b_gtr rfl ?_
    exact W_met rfl zR
  refine W_nil ?_
  refine W_condT rfl (by simp; omega) ?_
  refine W_sr ?_
  refine W_move rfl rfl ?_
  refine W_build ty69 pl69 .nil rfl zF rfl ?_
  refine W_assign rfl rfl ?_
  refine W_storeA (l' := zSpot.v) rfl rfl ty69 rfl rfl (b := b9) zM (by exact Nat.le_refl 4) rfl zU ?_
  refine W_assign rfl rfl ?_
  refine W_nil ?_
  refine W_ret3G (H2 := H) Tryd.results27 (.nil _) (.tmp rfl) (.own rfl ty69 rfl zM rfl) (.tmp rfl) zH ?_
  have hp : putS (Ds.map Rw.nl) tn cpu id a = (Ds.map Rw.nl, zSpot, 2) := if_pos (by rw [hlen]; exact hno)
  rw [hp]
  exact ⟨_, [], rfl, hv0, rfl⟩
set_option maxHeartbeats 1000000 in
theorem rbPut_twice {w0 : World} {H : Heap} {HR : Heap} {S : St} {v : Value} (hS : StOk S) (hv : RbV w0 HR S v) (hHR : HSub H HR) (h64 : S.length ≤ 64) {tn a : Nat} {cpu id : Int} (ha : a ≤ 18446744073709551615) (hc : 0 ≤ cpu ∧ cpu < (S.length : Int)) (hid : 0 ≤ id ∧ id < 256) {k : Nat} (hf : findS S id = some k)  : LCalls Tryd.prog w0 27 #[v, .int .i64 cpu, .int .i64 id, .int .u64 ((a : Nat) : Int)] (H) (fun v' H' => ∃ v1 X, v' = .tuple #[v1, .agg (putS S tn cpu id a).2.1.v.toArray, .int .i64 (putS S tn cpu id a).2.2] ∧ RbV w0 (X ++ HR) (putS S tn cpu id a).1 v1 ∧ H' = X ++ H) := by
  have hv0 := hv
  obtain ⟨ad, cap, Ds, rfl, hb⟩ := hv
  obtain ⟨hrow, heach, rfl⟩ := hb
  have hlen : (Ds.map Rw.nl).length = Ds.length := List.length_map _
  rw [hlen]
  rw [hlen] at hv0 h64
  have hrowH := hrow.up hHR
  rw [hlen] at hc
  refine L_enter (l := [.slice ad Ds.length cap, .int .i64 cpu, .int .i64 id, .int .u64 ((a : Nat) : Int)]) Tryd.func27 rfl Tryd.ntmps27 rfl rfl ?_
  refine W_sr ?_
  refine W_assign rfl rfl ?_
  refine W_alloc (l := zSpot.v) ty69 rfl rfl (fun b9 => ?_)
  refine W_assign rfl rfl ?_
  refine W_nil ?_
  refine W_seq ?_
  refine W_sr ?_
  refine W_move rfl rfl ?_
  refine W_bin rfl rfl b_lss rfl ?_
  refine W_move rfl rfl ?_
  apply W_or
  iterate 4 exact rfl
  case h1 =>
    intro hg2
    refine W_gyes rfl rfl ?_
    refine W_move rfl rfl ?_
    refine W_gyes rfl rfl ?_
    refine W_move rfl rfl ?_
    refine W_gyes rfl rfl ?_
    refine W_len rfl ty62 rfl rfl ?_
    refine W_gyes rfl rfl ?_
    refine W_bin rfl rfl b_geq rfl ?_
    exact W_met rfl zR
  refine W_move rfl rfl ?_
  apply W_or
  iterate 4 exact rfl
  case h1 =>
    intro hg8
    refine W_gyes rfl rfl ?_
    refine W_move rfl rfl ?_
    refine W_gyes rfl rfl ?_
    refine W_bin rfl rfl b_lss rfl ?_
    exact W_met rfl zR
  refine W_move rfl rfl ?_
  apply W_or
  iterate 4 exact rfl
  case h1 =>
    intro hg12
    refine W_gyes rfl rfl ?_
    refine W_move rfl rfl ?_
    refine W_gyes rfl rfl ?_
    refine W_bin rfl rfl b_gtr rfl ?_
    exact W_met rfl zR
  refine W_nil ?_
  refine W_condF rfl (by simp; omega) ?_
  refine W_skip ?_
  refine W_seq ?_
  refine W_sr ?_
  refine W_move rfl rfl ?_
  refine W_move rfl rfl ?_
  refine W_callq (.cons rfl (.cons rfl .nil)) Tryd.call35 rfl (rbFind_q (id := id) hS (hv0.up ((show HSub _ H from zH).trans hHR)) (by rw [hlen]; omega)) ?_
  rw [show findZ (Ds.map Rw.nl) id = (k : Int) from by unfold findZ; rw [hf]]
  refine W_bin rfl rfl b_geq rfl ?_
  refine W_nil ?_
  refine W_condT rfl (decide_eq_true (by omega)) ?_
  refine W_sr ?_
  refine W_move rfl rfl ?_
  refine W_build ty69 pl69 .nil rfl zF rfl ?_
  refine W_assign rfl rfl ?_
  refine W_storeA (l' := zSpot.v) rfl rfl ty69 rfl rfl (b := b9) zM (by exact Nat.le_refl 4) rfl zU ?_
  refine W_assign rfl rfl ?_
  refine W_nil ?_
  refine W_ret3G (H2 := H) Tryd.results27 (.nil _) (.tmp rfl) (.own rfl ty69 rfl zM rfl) (.tmp rfl) zH ?_
  have hp0 : ¬ (cpu < 0 ∨ ((Ds.map Rw.nl).length : Int) ≤ cpu ∨ id < 0 ∨ 255 < id) := by rw [hlen]; omega
  have hp : putS (Ds.map Rw.nl) tn cpu id a = (Ds.map Rw.nl, zSpot, 5) := by
    unfold putS; rw [if_neg hp0, if_pos (by rw [hf]; rfl)]
  rw [hp]
  exact ⟨_, [], rfl, hv0, rfl⟩
set_option maxHeartbeats 2000000 in
theorem rbPut_late {w0 : World} {H : Heap} {HR : Heap} {S : St} {v : Value} (hS : StOk S) (hv : RbV w0 HR S v) (hHR : HSub H HR) (h64 : S.length ≤ 64) {tn a : Nat} {cpu id : Int} (ha : a ≤ 18446744073709551615) (hc : 0 ≤ cpu ∧ cpu < (S.length : Int)) (hid : 0 ≤ id ∧ id < 256) (hf : findS S id = none) (hm : ∀ x, S[cpu.toNat]? = some x → x.1 = 18446744073709551615)  : LCalls Tryd.prog w0 27 #[v, .int .i64 cpu, .int .i64 id, .int .u64 ((a : Nat) : Int)] (H) (fun v' H' => ∃ v1 X, v' = .tuple #[v1, .agg (putS S tn cpu id a).2.1.v.toArray, .int .i64 (putS S tn cpu id a).2.2] ∧ RbV w0 (X ++ HR) (putS S tn cpu id a).1 v1 ∧ H' = X ++ H) := by
  have hv0 := hv
  obtain ⟨ad, cap, Ds, rfl, hb⟩ := hv
  obtain ⟨hrow, heach, rfl⟩ := hb
  have hlen : (Ds.map Rw.nl).length = Ds.length := List.length_map _
  rw [hlen]
  rw [hlen] at hv0 h64
  have hrowH := hrow.up hHR
  rw [hlen] at hc
  obtain ⟨k, rfl⟩ : ∃ k : Nat, cpu = (k : Int) := ⟨cpu.toNat, by omega⟩
  have hk2 : (k : Int).toNat = k := by omega
  refine L_enter (l := [.slice ad Ds.length cap, .int .i64 (k : Int), .int .i64 id, .int .u64 ((a : Nat) : Int)]) Tryd.func27 rfl Tryd.ntmps27 rfl rfl ?_
  refine W_sr ?_
  refine W_assign rfl rfl ?_
  refine W_alloc (l := zSpot.v) ty69 rfl rfl (fun b9 => ?_)
  refine W_assign rfl rfl ?_
  refine W_nil ?_
  refine W_seq ?_
  refine W_sr ?_
  refine W_move rfl rfl ?_
  refine W_bin rfl rfl b_lss rfl ?_
  refine W_move rfl rfl ?_
  apply W_or
  iterate 4 exact rfl
  case h1 =>
    intro hg2
    refine W_gyes rfl rfl ?_
    refine W_move rfl rfl ?_
    refine W_gyes rfl rfl ?_
    refine W_move rfl rfl ?_
    refine W_gyes rfl rfl ?_
    refine W_len rfl ty62 rfl rfl ?_
    refine W_gyes rfl rfl ?_
    refine W_bin rfl rfl b_geq rfl ?_
    exact W_met rfl zR
  refine W_move rfl rfl ?_
  apply W_or
  iterate 4 exact rfl
  case h1 =>
    intro hg8
    refine W_gyes rfl rfl ?_
    refine W_move rfl rfl ?_
    refine W_gyes rfl rfl ?_
    refine W_bin rfl rfl b_lss rfl ?_
    exact W_met rfl zR
  refine W_move rfl rfl ?_
  apply W_or
  iterate 4 exact rfl
  case h1 =>
    intro hg12
    refine W_gyes rfl rfl ?_
    refine W_move rfl rfl ?_
    refine W_gyes rfl rfl ?_
    refine W_bin rfl rfl b_gtr rfl ?_
    exact W_met rfl zR
  refine W_nil ?_
  refine W_condF rfl (by simp; omega) ?_
  refine W_skip ?_
  refine W_seq ?_
  refine W_sr ?_
  refine W_move rfl rfl ?_
  refine W_move rfl rfl ?_
  refine W_callq (.cons rfl (.cons rfl .nil)) Tryd.call35 rfl (rbFind_q (id := id) hS (hv0.up ((show HSub _ H from zH).trans hHR)) (by rw [hlen]; omega)) ?_
  rw [show findZ (Ds.map Rw.nl) id = -1 from by unfold findZ; rw [hf]]
  refine W_bin rfl rfl b_geq rfl ?_
  refine W_nil ?_
  refine W_condF rfl rfl ?_
  refine W_skip ?_
  refine W_sr ?_
  obtain ⟨d, hd⟩ : ∃ d, Ds[k]? = some d := ⟨_, List.getElem?_eq_getElem (by omega)⟩
  have hdm := List.mem_of_getElem? hd
  obtain ⟨q0, p0, rfl, hcx⟩ := Holds.row rwC_len (by decide) hrowH hd
  have hw := hS.of hdm
  have hwl := hw.len
  have hwn := hw.now
  dsimp only at hwl hwn
  have hni : id ∉ d.L.map (·.id) := findS_no hf (x := (d.now, d.L)) (List.mem_map_of_mem (f := Rw.nl) hdm)
  refine W_move rfl rfl ?_
  refine W_move rfl rfl ?_
  refine W_indexAddr (j := k) rfl rfl ty62 ty90 rfl (by omega) rfl rfl ?_
  refine W_loadA (vs := [.int .u64 ((d.now : Nat) : Int), .slice d.ad d.L.length d.cap]) rfl ty90 rfl rfl (hcx.up zH) rfl ?_
  refine W_move rfl rfl ?_
  refine W_move rfl rfl ?_
  have hm := hm _ (by rw [hk2, List.getElem?_map, hd]; rfl)
  refine W_callq (.cons rfl (.cons rfl (.cons rfl .nil))) Tryd.call64 rfl (rPut_late' (now := d.now) (cap := d.cap) hm (by omega) ((heach d hdm).1.up ((show HSub _ (H) from zH).trans hHR)) hid ha hni) ?_
  refine W_move rfl rfl ?_
  refine W_extract rfl rfl rfl ?_
  refine W_extract rfl rfl rfl ?_
  refine W_extract rfl rfl rfl ?_
  refine W_alloc (l := [.int .u64 0, .slice none 0 0]) ty90 rfl rfl (fun b11 => ?_)
  refine W_alloc (l := zSpot.v) ty69 rfl rfl (fun b12 => ?_)
  refine W_storeA (l' := [.int .u64 ((d.now : Nat) : Int), .slice d.ad d.L.length d.cap]) rfl rfl ty90 rfl rfl (b := b11) zM (by exact Nat.le_refl 2) rfl zU ?_
  refine W_storeA (l' := (zSpot).v) rfl rfl ty69 rfl rfl (b := b12) zM (by exact Nat.le_refl 4) rfl zU ?_
  refine W_assign rfl rfl ?_
  refine W_nil ?_
  refine W_seq ?_
  refine W_anyC [(b11, .cells 90 2 [.int .u64 ((d.now : Nat) : Int), .slice d.ad d.L.length d.cap]), (b12, .cells 69 4 (zSpot).v)] (by kernel_rfl) ?_
  refine WC_take 0 (l' := #[true, false, false, false, false, false, false, false, false]) rfl (by decide +kernel) (by decide +kernel) (by decide +kernel) rfl (by decide +kernel) (X_move rfl) rfl ?_
  refine WC_take 1 (l' := #[true, true, false, false, false, false, false, false, false]) rfl (by decide +kernel) (by decide +kernel) (by decide +kernel) rfl (by decide +kernel) (X_move rfl) rfl ?_
  refine WC_take 2 (l' := #[true, true, true, false, false, false, false, false, false]) rfl (by decide +kernel) (by decide +kernel) (by decide +kernel) rfl (by decide +kernel) (X_loadB (vs := [.int .u64 ((d.now : Nat) : Int), .slice d.ad d.L.length d.cap]) rfl ty90 rfl (b := b11) zM rfl rfl) rfl ?_
  refine WC_take 4 (l' := #[true, true, true, false, true, false, false, false, false]) rfl (by decide +kernel) (by decide +kernel) (by decide +kernel) rfl (by decide +kernel) (X_loadB (vs := (zSpot).v) rfl ty69 rfl (b := b12) zM rfl rfl) rfl ?_
  refine WC_take 5 (l' := #[true, true, true, false, true, true, false, false, false]) rfl (by decide +kernel) (by decide +kernel) (by decide +kernel) rfl (by decide +kernel) (X_move rfl) rfl ?_
  refine WC_one 3 (l' := #[true, true, true, true, true, true, false, false, false]) zH (by decide +kernel) rfl (by decide +kernel) ?_
  refine W_call (.cons rfl (.cons rfl (.cons rfl .nil))) Tryd.call65 rfl (rbSet_L (HR := HR) (d := d) (k := k) (hv0.up (.refl _)) ((show HSub _ (H) from zH).trans hHR) (by rw [hlen]; omega) (by rw [hlen]; omega) (heach d hdm).1 (heach d hdm).2) ?_
  rintro v H' ⟨X2, hX2, rfl⟩
  refine W_nil ?_
  refine WC_goal ?_
  refine WC_take 6 (l' := #[true, true, true, true, true, true, true, false, false]) rfl (by decide +kernel) (by decide +kernel) (by decide +kernel) rfl (by decide +kernel) (X_assign rfl) rfl ?_
  refine WC_one 7 (l' := #[true, true, true, true, true, true, true, true, false]) zH (by decide +kernel) rfl (by decide +kernel) ?_
  refine W_storeA (l' := (zSpot).v) rfl rfl ty69 rfl rfl (b := b9) zM (by exact Nat.le_refl 4) rfl zU ?_
  refine W_nil ?_
  refine WC_goal ?_
  refine WC_take 8 (l' := #[true, true, true, true, true, true, true, true, true]) rfl (by decide +kernel) (by decide +kernel) (by decide +kernel) rfl (by decide +kernel) (X_assign rfl) rfl ?_
  refine WC_done zH (by decide +kernel) ?_
  refine W_ret3G (H2 := X2 ++ H) Tryd.results27 (.nil _) (.tmp rfl) (.own rfl ty69 rfl zM rfl) (.tmp rfl) zH ?_
  have hp0 : ¬ ((k : Int) < 0 ∨ ((Ds.map Rw.nl).length : Int) ≤ (k : Int) ∨ id < 0 ∨ 255 < id) := by rw [hlen]; omega
  have hx : (Ds.map Rw.nl)[(k : Int).toNat]? = some (d.now, d.L) := by rw [hk2, List.getElem?_map, hd]; rfl
  have hp : putS (Ds.map Rw.nl) tn (k : Int) id a = (Ds.map Rw.nl, zSpot, 12) := by
    unfold putS; rw [if_neg hp0, if_neg (by rw [hf]; decide), hx]
    exact if_pos hm
  rw [hp]
  rw [set_same (by rw [List.getElem?_map, hd]; rfl)] at hX2
  exact ⟨_, X2, rfl, hX2, rfl⟩
set_option maxHeartbeats 2000000 in
theorem rbPut_ok {w0 : World} {H : Heap} {HR : Heap} {S : St} {v : Value} (hS : StOk S) (hv : RbV w0 HR S v) (hHR : HSub H HR) (h64 : S.length ≤ 64) {tn a : Nat} {cpu id : Int} (ha : a ≤ 18446744073709551615) (hc : 0 ≤ cpu ∧ cpu < (S.length : Int)) (hid : 0 ≤ id ∧ id < 256) (hf : findS S id = none) (hm : ∀ x, S[cpu.toNat]? = some x → x.1 ≠ 18446744073709551615)  : LCalls Tryd.prog w0 27 #[v, .int .i64 cpu, .int .i64 id, .int .u64 ((a : Nat) : Int)] (H) (fun v' H' => ∃ v1 X, v' = .tuple #[v1, .agg (putS S tn cpu id a).2.1.v.toArray, .int .i64 (putS S tn cpu id a).2.2] ∧ RbV w0 (X ++ HR) (putS S tn cpu id a).1 v1 ∧ H' = X ++ H) := by
  have hv0 := hv
  obtain ⟨ad, cap, Ds, rfl, hb⟩ := hv
  obtain ⟨hrow, heach, rfl⟩ := hb
  have hlen : (Ds.map Rw.nl).length = Ds.length := List.length_map _
  rw [hlen]
  rw [hlen] at hv0 h64
  have hrowH := hrow.up hHR
  rw [hlen] at hc
  obtain ⟨k, rfl⟩ : ∃ k : Nat, cpu = (k : Int) := ⟨cpu.toNat, by omega⟩
  have hk2 : (k : Int).toNat = k := by omega
  refine L_enter (l := [.slice ad Ds.length cap, .int .i64 (k : Int), .int .i64 id, .int .u64 ((a : Nat) : Int)]) Tryd.func27 rfl Tryd.ntmps27 rfl rfl ?_
  refine W_sr ?_
  refine W_assign rfl rfl ?_
  refine W_alloc (l := zSpot.v) ty69 rfl rfl (fun b9 => ?_)
  refine W_assign rfl rfl ?_
  refine W_nil ?_
  refine W_seq ?_
  refine W_sr ?_
  refine W_move rfl rfl ?_
  refine W_bin rfl rfl b_lss rfl ?_
  refine W_move rfl rfl ?_
  apply W_or
  iterate 4 exact rfl
  case h1 =>
    intro hg2
    refine W_gyes rfl rfl ?_
    refine W_move rfl rfl ?_
    refine W_gyes rfl rfl ?_
    refine W_move rfl rfl ?_
    refine W_gyes rfl rfl ?_
    refine W_len rfl ty62 rfl rfl ?_
    refine W_gyes rfl rfl ?_
    refine W_bin rfl rfl b_geq rfl ?_
    exact W_met rfl zR
  refine W_move rfl rfl ?_
  apply W_or
  iterate 4 exact rfl
  case h1 =>
    intro hg8
    refine W_gyes rfl rfl ?_
    refine W_move rfl rfl ?_
    refine W_gyes rfl rfl ?_
    refine W_bin rfl rfl b_lss rfl ?_
    exact W_met rfl zR
  refine W_move rfl rfl ?_
  apply W_or
  iterate 4 exact rfl
  case h1 =>
    intro hg12
    refine W_gyes rfl rfl ?_
    refine W_move rfl rfl ?_
    refine W_gyes rfl rfl ?_
    refine W_bin rfl rfl b_gtr rfl ?_
    exact W_met rfl zR
  refine W_nil ?_
  refine W_condF rfl (by simp; omega) ?_
  refine W_skip ?_
  refine W_seq ?_
  refine W_sr ?_
  refine W_move rfl rfl ?_
  refine W_move rfl rfl ?_
  refine W_callq (.cons rfl (.cons rfl .nil)) Tryd.call35 rfl (rbFind_q (id := id) hS (hv0.up ((show HSub _ H from zH).trans hHR)) (by rw [hlen]; omega)) ?_
  rw [show findZ (Ds.map Rw.nl) id = -1 from by unfold findZ; rw [hf]]
  refine W_bin rfl rfl b_geq rfl ?_
  refine W_nil ?_
  refine W_condF rfl rfl ?_
  refine W_skip ?_
  refine W_sr ?_
  obtain ⟨d, hd⟩ : ∃ d, Ds[k]? = some d := ⟨_, List.getElem?_eq_getElem (by omega)⟩
  have hdm := List.mem_of_getElem? hd
  obtain ⟨q0, p0, rfl, hcx⟩ := Holds.row rwC_len (by decide) hrowH hd
  have hw := hS.of hdm
  have hwl := hw.len
  have hwn := hw.now
  dsimp only at hwl hwn
  have hni : id ∉ d.L.map (·.id) := findS_no hf (x := (d.now, d.L)) (List.mem_map_of_mem (f := Rw.nl) hdm)
  refine W_move rfl rfl ?_
  refine W_move rfl rfl ?_
  refine W_indexAddr (j := k) rfl rfl ty62 ty90 rfl (by omega) rfl rfl ?_
  refine W_loadA (vs := [.int .u64 ((d.now : Nat) : Int), .slice d.ad d.L.length d.cap]) rfl ty90 rfl rfl (hcx.up zH) rfl ?_
  refine W_move rfl rfl ?_
  refine W_move rfl rfl ?_
  have hm := hm _ (by rw [hk2, List.getElem?_map, hd]; rfl)
  refine W_call (.cons rfl (.cons rfl (.cons rfl .nil))) Tryd.call64 rfl (rPut_ok (now := d.now) (cap := d.cap) (tn := tn + 1) (e := (placeT d.now a).1) (by omega) ((heach d hdm).1.up ((show HSub _ (H) from zH).trans hHR)) hid hwn ha hni (placeT_ok hm)) ?_
  rintro v H' ⟨sv, XB, rfl, hO, rfl⟩
  obtain ⟨ad2, cap2, rfl, hc2, _⟩ := hO.shape
  refine W_move rfl rfl ?_
  refine W_extract rfl rfl rfl ?_
  refine W_extract rfl rfl rfl ?_
  refine W_extract rfl rfl rfl ?_
  refine W_alloc (l := [.int .u64 0, .slice none 0 0]) ty90 rfl rfl (fun b11 => ?_)
  refine W_alloc (l := zSpot.v) ty69 rfl rfl (fun b12 => ?_)
  refine W_storeA (l' := [.int .u64 ((d.now : Nat) : Int), .slice ad2 (d.L ++ [tmOf d.now a tn id]).length cap2]) rfl rfl ty90 rfl rfl (b := b11) zM (by exact Nat.le_refl 2) rfl zU ?_
  refine W_storeA (l' := ((placeT d.now a).1).v) rfl rfl ty69 rfl rfl (b := b12) zM (by exact Nat.le_refl 4) rfl zU ?_
  refine W_assign rfl rfl ?_
  refine W_nil ?_
  refine W_seq ?_
  refine W_anyC [(b11, .cells 90 2 [.int .u64 ((d.now : Nat) : Int), .slice ad2 (d.L ++ [tmOf d.now a tn id]).length cap2]), (b12, .cells 69 4 ((placeT d.now a).1).v)] (by kernel_rfl) ?_
  refine WC_take 0 (l' := #[true, false, false, false, false, false, false, false, false]) rfl (by decide +kernel) (by decide +kernel) (by decide +kernel) rfl (by decide +kernel) (X_move rfl) rfl ?_
  refine WC_take 1 (l' := #[true, true, false, false, false, false, false, false, false]) rfl (by decide +kernel) (by decide +kernel) (by decide +kernel) rfl (by decide +kernel) (X_move rfl) rfl ?_
  refine WC_take 2 (l' := #[true, true, true, false, false, false, false, false, false]) rfl (by decide +kernel) (by decide +kernel) (by decide +kernel) rfl (by decide +kernel) (X_loadB (vs := [.int .u64 ((d.now : Nat) : Int), .slice ad2 (d.L ++ [tmOf d.now a tn id]).length cap2]) rfl ty90 rfl (b := b11) zM rfl rfl) rfl ?_
  refine WC_take 4 (l' := #[true, true, true, false, true, false, false, false, false]) rfl (by decide +kernel) (by decide +kernel) (by decide +kernel) rfl (by decide +kernel) (X_loadB (vs := ((placeT d.now a).1).v) rfl ty69 rfl (b := b12) zM rfl rfl) rfl ?_
  refine WC_take 5 (l' := #[true, true, true, false, true, true, false, false, false]) rfl (by decide +kernel) (by decide +kernel) (by decide +kernel) rfl (by decide +kernel) (X_move rfl) rfl ?_
  refine WC_one 3 (l' := #[true, true, true, true, true, true, false, false, false]) zH (by decide +kernel) rfl (by decide +kernel) ?_
  refine W_call (.cons rfl (.cons rfl (.cons rfl .nil))) Tryd.call65 rfl (rbSet_L (HR := (XB ++ HR)) (d := (⟨d.now, d.L ++ [tmOf d.now a tn id], ad2, cap2⟩ : Rw)) (k := k) (hv0.up (.dropS (.refl _))) ((show HSub _ (XB ++ H) from zH).trans (HSub.app (TakeS.here _) hHR)) (by rw [hlen]; omega) (by rw [hlen]; omega) (OwnS.holds hO (fun p hp => List.mem_append_left _ hp)) hc2) ?_
  rintro v H' ⟨X2, hX2, rfl⟩
  refine W_nil ?_
  refine WC_goal ?_
  refine WC_take 6 (l' := #[true, true, true, true, true, true, true, false, false]) rfl (by decide +kernel) (by decide +kernel) (by decide +kernel) rfl (by decide +kernel) (X_assign rfl) rfl ?_
  refine WC_one 7 (l' := #[true, true, true, true, true, true, true, true, false]) zH (by decide +kernel) rfl (by decide +kernel) ?_
  refine W_storeA (l' := ((placeT d.now a).1).v) rfl rfl ty69 rfl rfl (b := b9) zM (by exact Nat.le_refl 4) rfl zU ?_
  refine W_nil ?_
  refine WC_goal ?_
  refine WC_take 8 (l' := #[true, true, true, true, true, true, true, true, true]) rfl (by decide +kernel) (by decide +kernel) (by decide +kernel) rfl (by decide +kernel) (X_assign rfl) rfl ?_
  refine WC_done zH (by decide +kernel) ?_
  refine W_ret3G (H2 := X2 ++ (XB ++ H)) Tryd.results27 (.nil _) (.tmp rfl) (.own rfl ty69 rfl zM rfl) (.tmp rfl) zH ?_
  have hp0 : ¬ ((k : Int) < 0 ∨ ((Ds.map Rw.nl).length : Int) ≤ (k : Int) ∨ id < 0 ∨ 255 < id) := by rw [hlen]; omega
  have hx : (Ds.map Rw.nl)[(k : Int).toNat]? = some (d.now, d.L) := by rw [hk2, List.getElem?_map, hd]; rfl
  have hp : putS (Ds.map Rw.nl) tn (k : Int) id a = ((Ds.map Rw.nl).set k (d.now, d.L ++ [tmOf d.now a tn id]), (placeT d.now a).1, 0) := by
    unfold putS; rw [if_neg hp0, if_neg (by rw [hf]; decide), hx, hk2]
    exact if_neg hm
  rw [hp]
  exact ⟨_, X2 ++ XB, rfl, by rw [List.append_assoc]; exact hX2, by rw [List.append_assoc]⟩
theorem rbPut_L {w0 : World} {H : Heap} {HR : Heap} {S : St} {v : Value} (hS : StOk S) (hv : RbV w0 HR S v) (hHR : HSub H HR) (h64 : S.length ≤ 64) {tn a : Nat} {cpu id : Int} (ha : a ≤ 18446744073709551615) : LCalls Tryd.prog w0 27 #[v, .int .i64 cpu, .int .i64 id, .int .u64 ((a : Nat) : Int)] H (fun v' H' => ∃ v1 X, v' = .tuple #[v1, .agg (putS S tn cpu id a).2.1.v.toArray, .int .i64 (putS S tn cpu id a).2.2] ∧ RbV w0 (X ++ HR) (putS S tn cpu id a).1 v1 ∧ H' = X ++ H) := by
  by_cases hc : cpu < 0 ∨ (S.length : Int) ≤ cpu ∨ id < 0 ∨ 255 < id
  · exact rbPut_no hS hv hHR h64 ha hc
  · have h1 : 0 ≤ cpu ∧ cpu < (S.length : Int) := by omega
    have h2 : 0 ≤ id ∧ id < 256 := by omega
    cases hf : findS S id with
    | some k => exact rbPut_twice hS hv hHR h64 ha h1 h2 hf
    | none =>
      obtain ⟨x, hx⟩ : ∃ x, S[cpu.toNat]? = some x := ⟨_, List.getElem?_eq_getElem (by omega)⟩
      by_cases hm : x.1 = 18446744073709551615
      · exact rbPut_late hS hv hHR h64 ha h1 h2 hf (fun y hy => by rw [hx] at hy; obtain rfl := Option.some.inj hy; exact hm)
      · exact rbPut_ok hS hv hHR h64 ha h1 h2 hf (fun y hy => by rw [hx] at hy; obtain rfl := Option.some.inj hy; exact hm)
end Go.Proofs.YtkcaakkaioingaaDoor
namespace Go.Proofs.YtkcaakkaioingaaDoor
open Go Go.Sl
attribute [local irreducible] W
set_option maxHeartbeats 1000000 in
theorem rbDel_miss {w0 : World} {H : Heap} {HR : Heap} {S : St} {v : Value} (hS : StOk S) (hv : RbV w0 HR S v) (hHR : HSub H HR) (h64 : S.length ≤ 64) {id : Int} (hf : findS S id = none)  : LCalls Tryd.prog w0 30 #[v, .int .i64 id] (H) (fun v' H' => ∃ v1 X, v' = .tuple #[v1, .bool (findS S id).isSome] ∧ RbV w0 (X ++ HR) (delOne S id) v1 ∧ H' = X ++ H) := by
  have hv0 := hv
  obtain ⟨ad, cap, Ds, rfl, hb⟩ := hv
  obtain ⟨hrow, heach, rfl⟩ := hb
  have hlen : (Ds.map Rw.nl).length = Ds.length := List.length_map _
  rw [hlen]
  rw [hlen] at hv0 h64
  have hrowH := hrow.up hHR
  refine L_enter (l := [.slice ad Ds.length cap, .int .i64 id]) Tryd.func30 rfl Tryd.ntmps30 rfl rfl ?_
  refine W_sr ?_
  refine W_assign rfl rfl ?_
  refine W_assign rfl rfl ?_
  refine W_nil ?_
  refine W_sr ?_
  refine W_move rfl rfl ?_
  refine W_move rfl rfl ?_
  refine W_callq (.cons rfl (.cons rfl .nil)) Tryd.call35 rfl (rbFind_q (id := id) hS (hv0.up ((show HSub _ H from zH).trans hHR)) (by rw [hlen]; omega)) ?_
  rw [show findZ (Ds.map Rw.nl) id = -1 from by unfold findZ; rw [hf]]
  refine W_assign rfl rfl ?_
  refine W_nil ?_
  refine W_seq ?_
  refine W_sr ?_
  refine W_move rfl rfl ?_
  refine W_bin rfl rfl b_lss rfl ?_
  refine W_nil ?_
  refine W_condT rfl rfl ?_
  refine W_sr ?_
  refine W_move rfl rfl ?_
  refine W_assign rfl rfl ?_
  refine W_assign rfl rfl ?_
  refine W_nil ?_
  refine W_ret2m (H2 := H) Tryd.results30 rfl rfl (.nil _) zH ?_
  have hp : delOne (Ds.map Rw.nl) id = Ds.map Rw.nl := by unfold delOne; rw [hf]
  rw [hp, hf]
  exact ⟨_, [], rfl, hv0, rfl⟩
set_option maxHeartbeats 2000000 in
theorem rbDel_hit {w0 : World} {H : Heap} {HR : Heap} {S : St} {v : Value} (hS : StOk S) (hv : RbV w0 HR S v) (hHR : HSub H HR) (h64 : S.length ≤ 64) {id : Int} {k : Nat} (hf : findS S id = some k)  : LCalls Tryd.prog w0 30 #[v, .int .i64 id] (H) (fun v' H' => ∃ v1 X, v' = .tuple #[v1, .bool (findS S id).isSome] ∧ RbV w0 (X ++ HR) (delOne S id) v1 ∧ H' = X ++ H) := by
  have hv0 := hv
  obtain ⟨ad, cap, Ds, rfl, hb⟩ := hv
  obtain ⟨hrow, heach, rfl⟩ := hb
  have hlen : (Ds.map Rw.nl).length = Ds.length := List.length_map _
  rw [hlen]
  rw [hlen] at hv0 h64
  have hrowH := hrow.up hHR
  have hkl : k < Ds.length := by
    obtain ⟨x, hx, _⟩ := findS_at hf
    have := (List.getElem?_eq_some_iff.1 hx).1
    rwa [hlen] at this
  refine L_enter (l := [.slice ad Ds.length cap, .int .i64 id]) Tryd.func30 rfl Tryd.ntmps30 rfl rfl ?_
  refine W_sr ?_
  refine W_assign rfl rfl ?_
  refine W_assign rfl rfl ?_
  refine W_nil ?_
  refine W_sr ?_
  refine W_move rfl rfl ?_
  refine W_move rfl rfl ?_
  refine W_callq (.cons rfl (.cons rfl .nil)) Tryd.call35 rfl (rbFind_q (id := id) hS (hv0.up ((show HSub _ H from zH).trans hHR)) (by rw [hlen]; omega)) ?_
  rw [show findZ (Ds.map Rw.nl) id = (k : Int) from by unfold findZ; rw [hf]]
  refine W_assign rfl rfl ?_
  refine W_nil ?_
  refine W_seq ?_
  refine W_sr ?_
  refine W_move rfl rfl ?_
  refine W_bin rfl rfl b_lss rfl ?_
  refine W_nil ?_
  refine W_condF rfl (decide_eq_false (by omega)) ?_
  refine W_skip ?_
  refine W_sr ?_
  obtain ⟨d, hd⟩ : ∃ d, Ds[k]? = some d := ⟨_, List.getElem?_eq_getElem (by omega)⟩
  have hdm := List.mem_of_getElem? hd
  obtain ⟨q0, p0, rfl, hcx⟩ := Holds.row rwC_len (by decide) hrowH hd
  have hxk : (Ds.map Rw.nl)[k]? = some (d.now, d.L) := by rw [List.getElem?_map, hd]; rfl
  have hw := hS.of hdm
  have hwl := hw.len
  dsimp only at hwl
  obtain ⟨x, hx1, hx2⟩ := findS_at hf
  obtain rfl := Option.some.inj (hx1.symm.trans hxk)
  obtain ⟨t, ht, rfl⟩ := List.mem_map.1 (heldB_iff.1 hx2)
  refine W_move rfl rfl ?_
  refine W_move rfl rfl ?_
  refine W_indexAddr (j := k) rfl rfl ty62 ty90 rfl (by omega) rfl rfl ?_
  refine W_loadA (vs := [.int .u64 ((d.now : Nat) : Int), .slice d.ad d.L.length d.cap]) rfl ty90 rfl rfl (hcx.up zH) rfl ?_
  refine W_move rfl rfl ?_
  refine W_call (.cons rfl (.cons rfl .nil)) Tryd.call68 rfl (rDel_hit (now := d.now) (cap := d.cap) (t := t) (by omega) ((heach d hdm).1.up ((show HSub _ H from zH).trans hHR)) (heach d hdm).2 hw.ids ht) ?_
  rintro v H' ⟨sv, XB, rfl, hO, rfl⟩
  obtain ⟨ad2, cap2, rfl, hc2, _⟩ := hO.shape
  refine W_move rfl rfl ?_
  refine W_extract rfl rfl rfl ?_
  refine W_extract rfl rfl rfl ?_
  refine W_alloc (l := [.int .u64 0, .slice none 0 0]) ty90 rfl rfl (fun b7 => ?_)
  refine W_storeA (l' := [.int .u64 ((d.now : Nat) : Int), .slice ad2 (delT d.L t.id).length cap2]) rfl rfl ty90 rfl rfl (b := b7) zM (by exact Nat.le_refl 2) rfl zU ?_
  refine W_assign rfl rfl ?_
  refine W_nil ?_
  refine W_sr ?_
  refine W_move rfl rfl ?_
  refine W_move rfl rfl ?_
  refine W_loadB (vs := [.int .u64 ((d.now : Nat) : Int), .slice ad2 (delT d.L t.id).length cap2]) rfl ty90 rfl (b := b7) zM rfl rfl rfl ?_
  refine W_call (.cons rfl (.cons rfl (.cons rfl .nil))) Tryd.call65 rfl (rbSet_L (HR := XB ++ HR) (d := (⟨d.now, delT d.L t.id, ad2, cap2⟩ : Rw)) (k := k) (hv0.up (.dropS (.refl _))) ((show HSub _ (XB ++ H) from zH).trans (HSub.app (TakeS.here _) hHR)) (by rw [hlen]; omega) (by rw [hlen]; omega) (OwnS.holds hO (fun p hp => List.mem_append_left _ hp)) hc2) ?_
  rintro v H' ⟨X2, hX2, rfl⟩
  refine W_assign rfl rfl ?_
  refine W_assign rfl rfl ?_
  refine W_nil ?_
  refine W_ret2m (H2 := X2 ++ (XB ++ H)) Tryd.results30 rfl rfl (.nil _) zH ?_
  have hp : delOne (Ds.map Rw.nl) t.id = (Ds.map Rw.nl).set k (d.now, delT d.L t.id) := by unfold delOne; rw [hf]; dsimp only; rw [hxk]
  rw [hp, hf]
  exact ⟨_, X2 ++ XB, rfl, by rw [List.append_assoc]; exact hX2, by rw [List.append_assoc]⟩
theorem rbDel_L {w0 : World} {H : Heap} {HR : Heap} {S : St} {v : Value} (hS : StOk S) (hv : RbV w0 HR S v) (hHR : HSub H HR) (h64 : S.length ≤ 64) {id : Int} : LCalls Tryd.prog w0 30 #[v, .int .i64 id] H (fun v' H' => ∃ v1 X, v' = .tuple #[v1, .bool (findS S id).isSome] ∧ RbV w0 (X ++ HR) (delOne S id) v1 ∧ H' = X ++ H) := by
  cases hf : findS S id with
  | none => rw [← hf]; exact rbDel_miss hS hv hHR h64 hf
  | some k => rw [← hf]; exact rbDel_hit hS hv hHR h64 hf
set_option maxHeartbeats 1000000 in
theorem rbCatch_no {w0 : World} {H : Heap} {HR : Heap} {S : St} {v : Value} (hS : StOk S) (hv : RbV w0 HR S v) (hHR : HSub H HR) (h64 : S.length ≤ 64) {cpu : Int} {a : Nat} (hno : cpu < 0 ∨ (S.length : Int) ≤ cpu)  : LCalls Tryd.prog w0 32 #[v, .int .i64 cpu, .int .u64 ((a : Nat) : Int)] (H) (fun v' H' => ∃ (v1 ov : Value) (X : Heap) (S' : St) (O : List Tm) (XO : Heap), v' = .tuple #[v1, ov] ∧ RbV w0 (X ++ HR) S' v1 ∧ OwnS 3 1 ov O.length ((O.map (·.id)).map (Value.int .i64)) XO ∧ CatchS S cpu a S' O ∧ H' = XO ++ (X ++ H)) := by
  have hv0 := hv
  obtain ⟨ad, cap, Ds, rfl, hb⟩ := hv
  obtain ⟨hrow, heach, rfl⟩ := hb
  have hlen : (Ds.map Rw.nl).length = Ds.length := List.length_map _
  rw [hlen]
  rw [hlen] at hv0 h64
  have hrowH := hrow.up hHR
  rw [hlen] at hno
  refine L_enter (l := [.slice ad Ds.length cap, .int .i64 cpu, .int .u64 ((a : Nat) : Int)]) Tryd.func32 rfl Tryd.ntmps32 rfl rfl ?_
  refine W_sr ?_
  refine W_assign rfl rfl ?_
  refine W_assign rfl rfl ?_
  refine W_nil ?_
  refine W_seq ?_
  refine W_sr ?_
  refine W_move rfl rfl ?_
  refine W_bin rfl rfl b_lss rfl ?_
  refine W_move rfl rfl ?_
  apply W_or
  iterate 4 exact rfl
  case h1 =>
    intro hg2
    refine W_gyes rfl rfl ?_
    refine W_move rfl rfl ?_
    refine W_gyes rfl rfl ?_
    refine W_move rfl rfl ?_
    refine W_gyes rfl rfl ?_
    refine W_len rfl ty62 rfl rfl ?_
    refine W_gyes rfl rfl ?_
    refine W_bin rfl rfl b_geq rfl ?_
    exact W_met rfl zR
  refine W_nil ?_
  refine W_condT rfl (by simp; omega) ?_
  refine W_sr ?_
  refine W_move rfl rfl ?_
  refine W_assign rfl rfl ?_
  refine W_assign rfl rfl ?_
  refine W_nil ?_
  refine W_ret2m (H2 := H) Tryd.results32 rfl rfl (.nil _) zH ?_
  exact ⟨_, _, [], _, [], [], rfl, hv0, .nil, .inl ⟨by rw [hlen]; exact hno, rfl, rfl⟩, rfl⟩
set_option maxHeartbeats 2000000 in
theorem rbCatch_go {w0 : World} {H : Heap} {HR : Heap} {S : St} {v : Value} (hS : StOk S) (hv : RbV w0 HR S v) (hHR : HSub H HR) (h64 : S.length ≤ 64) {cpu : Int} {a : Nat} (hc : 0 ≤ cpu ∧ cpu < (S.length : Int)) (hg : ∀ x, S[cpu.toNat]? = some x → x.1 < a)  : LCalls Tryd.prog w0 32 #[v, .int .i64 cpu, .int .u64 ((a : Nat) : Int)] (H) (fun v' H' => ∃ (v1 ov : Value) (X : Heap) (S' : St) (O : List Tm) (XO : Heap), v' = .tuple #[v1, ov] ∧ RbV w0 (X ++ HR) S' v1 ∧ OwnS 3 1 ov O.length ((O.map (·.id)).map (Value.int .i64)) XO ∧ CatchS S cpu a S' O ∧ H' = XO ++ (X ++ H)) := by
  have hv0 := hv
  obtain ⟨ad, cap, Ds, rfl, hb⟩ := hv
  obtain ⟨hrow, heach, rfl⟩ := hb
  have hlen : (Ds.map Rw.nl).length = Ds.length := List.length_map _
  rw [hlen]
  rw [hlen] at hv0 h64
  have hrowH := hrow.up hHR
  rw [hlen] at hc
  obtain ⟨k, rfl⟩ : ∃ k : Nat, cpu = (k : Int) := ⟨cpu.toNat, by omega⟩
  refine L_enter (l := [.slice ad Ds.length cap, .int .i64 (k : Int), .int .u64 ((a : Nat) : Int)]) Tryd.func32 rfl Tryd.ntmps32 rfl rfl ?_
  refine W_sr ?_
  refine W_assign rfl rfl ?_
  refine W_assign rfl rfl ?_
  refine W_nil ?_
  refine W_seq ?_
  refine W_sr ?_
  refine W_move rfl rfl ?_
  refine W_bin rfl rfl b_lss rfl ?_
  refine W_move rfl rfl ?_
  apply W_or
  iterate 4 exact rfl
  case h1 =>
    intro hg2
    refine W_gyes rfl rfl ?_
    refine W_move rfl rfl ?_
    refine W_gyes rfl rfl ?_
    refine W_move rfl rfl ?_
    refine W_gyes rfl rfl ?_
    refine W_len rfl ty62 rfl rfl ?_
    refine W_gyes rfl rfl ?_
    refine W_bin rfl rfl b_geq rfl ?_
    exact W_met rfl zR
  refine W_nil ?_
  refine W_condF rfl (by simp; omega) ?_
  refine W_skip ?_
  refine W_sr ?_
  obtain ⟨d, hd⟩ : ∃ d, Ds[k]? = some d := ⟨_, List.getElem?_eq_getElem (by omega)⟩
  have hdm := List.mem_of_getElem? hd
  obtain ⟨q0, p0, rfl, hcx⟩ := Holds.row rwC_len (by decide) hrowH hd
  have hxk : (Ds.map Rw.nl)[k]? = some (d.now, d.L) := by rw [List.getElem?_map, hd]; rfl
  have hw := hS.of hdm
  have hwl := hw.len
  dsimp only at hwl
  refine W_move rfl rfl ?_
  refine W_move rfl rfl ?_
  refine W_indexAddr (j := k) rfl rfl ty62 ty90 rfl (by omega) rfl rfl ?_
  refine W_loadA (vs := [.int .u64 ((d.now : Nat) : Int), .slice d.ad d.L.length d.cap]) rfl ty90 rfl rfl (hcx.up zH) rfl ?_
  refine W_move rfl rfl ?_
  have hg := hg _ (by rw [show (k : Int).toNat = k by omega, hxk])
  dsimp only at hg
  refine W_call (.cons rfl (.cons rfl .nil)) Tryd.call72 rfl (rTo_go (HR := HR) (now := d.now) (cap := d.cap) (a := a) (by omega) (heach d hdm).1 ((show HSub _ H from zH).trans hHR) (heach d hdm).2 hg hw.ids hw.asc) ?_
  rintro v H' ⟨Li, O, ov, ad2, cap2, XB, XO, rfl, hG, hc2, hR2, hO, rfl⟩
  obtain ⟨ado, capo, rfl, _, _⟩ := hO.shape
  refine W_move rfl rfl ?_
  refine W_extract rfl rfl rfl ?_
  refine W_extract rfl rfl rfl ?_
  refine W_alloc (l := [.int .u64 0, .slice none 0 0]) ty90 rfl rfl (fun b8 => ?_)
  refine W_storeA (l' := [.int .u64 ((a : Nat) : Int), .slice ad2 Li.length cap2]) rfl rfl ty90 rfl rfl (b := b8) zM (by exact Nat.le_refl 2) rfl zU ?_
  refine W_assign rfl rfl ?_
  refine W_nil ?_
  refine W_sr ?_
  refine W_move rfl rfl ?_
  refine W_move rfl rfl ?_
  refine W_loadB (vs := [.int .u64 ((a : Nat) : Int), .slice ad2 Li.length cap2]) rfl ty90 rfl (b := b8) zM rfl rfl rfl ?_
  refine W_call (.cons rfl (.cons rfl (.cons rfl .nil))) Tryd.call65 rfl (rbSet_L (HR := (XB ++ HR)) (d := (⟨a, Li, ad2, cap2⟩ : Rw)) (k := k) (hv0.up (.dropS (.refl _))) ((show HSub _ (XB ++ H) from zH).trans (HSub.app (TakeS.here _) hHR)) (by rw [hlen]; omega) (by rw [hlen]; omega) hR2 hc2) ?_
  rintro v H' ⟨X2, hX2, rfl⟩
  refine W_move rfl rfl ?_
  refine W_assign rfl rfl ?_
  refine W_assign rfl rfl ?_
  refine W_nil ?_
  refine W_ret2m (H2 := XO ++ (X2 ++ (XB ++ H))) Tryd.results32 rfl rfl (.nil _) zH ?_
  have hm : max d.now a = a := by omega
  exact ⟨_, _, X2 ++ XB, _, O, XO, rfl, by rw [List.append_assoc]; exact hX2, hO, .inr ⟨k, d.now, d.L, Li, rfl, hxk, by rw [hm]; exact hG, by rw [hm]; rfl⟩, by simp only [List.append_assoc]⟩
set_option maxHeartbeats 2000000 in
theorem rbCatch_stay {w0 : World} {H : Heap} {HR : Heap} {S : St} {v : Value} (hS : StOk S) (hv : RbV w0 HR S v) (hHR : HSub H HR) (h64 : S.length ≤ 64) {cpu : Int} {a : Nat} (hc : 0 ≤ cpu ∧ cpu < (S.length : Int)) (hg : ∀ x, S[cpu.toNat]? = some x → a ≤ x.1)  : LCalls Tryd.prog w0 32 #[v, .int .i64 cpu, .int .u64 ((a : Nat) : Int)] (H) (fun v' H' => ∃ (v1 ov : Value) (X : Heap) (S' : St) (O : List Tm) (XO : Heap), v' = .tuple #[v1, ov] ∧ RbV w0 (X ++ HR) S' v1 ∧ OwnS 3 1 ov O.length ((O.map (·.id)).map (Value.int .i64)) XO ∧ CatchS S cpu a S' O ∧ H' = XO ++ (X ++ H)) := by
  have hv0 := hv
  obtain ⟨ad, cap, Ds, rfl, hb⟩ := hv
  obtain ⟨hrow, heach, rfl⟩ := hb
  have hlen : (Ds.map Rw.nl).length = Ds.length := List.length_map _
  rw [hlen]
  rw [hlen] at hv0 h64
  have hrowH := hrow.up hHR
  rw [hlen] at hc
  obtain ⟨k, rfl⟩ : ∃ k : Nat, cpu = (k : Int) := ⟨cpu.toNat, by omega⟩
  refine L_enter (l := [.slice ad Ds.length cap, .int .i64 (k : Int), .int .u64 ((a : Nat) : Int)]) Tryd.func32 rfl Tryd.ntmps32 rfl rfl ?_
  refine W_sr ?_
  refine W_assign rfl rfl ?_
  refine W_assign rfl rfl ?_
  refine W_nil ?_
  refine W_seq ?_
  refine W_sr ?_
  refine W_move rfl rfl ?_
  refine W_bin rfl rfl b_lss rfl ?_
  refine W_move rfl rfl ?_
  apply W_or
  iterate 4 exact rfl
  case h1 =>
    intro hg2
    refine W_gyes rfl rfl ?_
    refine W_move rfl rfl ?_
    refine W_gyes rfl rfl ?_
    refine W_move rfl rfl ?_
    refine W_gyes rfl rfl ?_
    refine W_len rfl ty62 rfl rfl ?_
    refine W_gyes rfl rfl ?_
    refine W_bin rfl rfl b_geq rfl ?_
    exact W_met rfl zR
  refine W_nil ?_
  refine W_condF rfl (by simp; omega) ?_
  refine W_skip ?_
  refine W_sr ?_
  obtain ⟨d, hd⟩ : ∃ d, Ds[k]? = some d := ⟨_, List.getElem?_eq_getElem (by omega)⟩
  have hdm := List.mem_of_getElem? hd
  obtain ⟨q0, p0, rfl, hcx⟩ := Holds.row rwC_len (by decide) hrowH hd
  have hxk : (Ds.map Rw.nl)[k]? = some (d.now, d.L) := by rw [List.getElem?_map, hd]; rfl
  have hw := hS.of hdm
  have hwl := hw.len
  dsimp only at hwl
  refine W_move rfl rfl ?_
  refine W_move rfl rfl ?_
  refine W_indexAddr (j := k) rfl rfl ty62 ty90 rfl (by omega) rfl rfl ?_
  refine W_loadA (vs := [.int .u64 ((d.now : Nat) : Int), .slice d.ad d.L.length d.cap]) rfl ty90 rfl rfl (hcx.up zH) rfl ?_
  refine W_move rfl rfl ?_
  have hg := hg _ (by rw [show (k : Int).toNat = k by omega, hxk])
  dsimp only at hg
  refine W_callq (.cons rfl (.cons rfl .nil)) Tryd.call72 rfl (rTo_stay (now := d.now) (cap := d.cap) (a := a) (by omega) ((heach d hdm).1.up ((show HSub _ H from zH).trans hHR)) hg) ?_
  refine W_move rfl rfl ?_
  refine W_extract rfl rfl rfl ?_
  refine W_extract rfl rfl rfl ?_
  refine W_alloc (l := [.int .u64 0, .slice none 0 0]) ty90 rfl rfl (fun b8 => ?_)
  refine W_storeA (l' := [.int .u64 ((d.now : Nat) : Int), .slice d.ad d.L.length d.cap]) rfl rfl ty90 rfl rfl (b := b8) zM (by exact Nat.le_refl 2) rfl zU ?_
  refine W_assign rfl rfl ?_
  refine W_nil ?_
  refine W_sr ?_
  refine W_move rfl rfl ?_
  refine W_move rfl rfl ?_
  refine W_loadB (vs := [.int .u64 ((d.now : Nat) : Int), .slice d.ad d.L.length d.cap]) rfl ty90 rfl (b := b8) zM rfl rfl rfl ?_
  refine W_call (.cons rfl (.cons rfl (.cons rfl .nil))) Tryd.call65 rfl (rbSet_L (HR := HR) (d := d) (k := k) hv0 ((show HSub _ H from zH).trans hHR) (by rw [hlen]; omega) (by rw [hlen]; omega) (heach d hdm).1 (heach d hdm).2) ?_
  rintro v H' ⟨X2, hX2, rfl⟩
  refine W_move rfl rfl ?_
  refine W_assign rfl rfl ?_
  refine W_assign rfl rfl ?_
  refine W_nil ?_
  refine W_ret2m (H2 := X2 ++ H) Tryd.results32 rfl rfl (.nil _) zH ?_
  have hm : max d.now a = d.now := by omega
  exact ⟨_, _, X2, _, [], [], rfl, hX2, .nil, .inr ⟨k, d.now, d.L, d.L, rfl, hxk, by rw [hm]; exact Gone.start hw.later, by rw [hm]; rfl⟩, rfl⟩
theorem rbCatch_L {w0 : World} {H : Heap} {HR : Heap} {S : St} {v : Value} (hS : StOk S) (hv : RbV w0 HR S v) (hHR : HSub H HR) (h64 : S.length ≤ 64) {cpu : Int} {a : Nat} : LCalls Tryd.prog w0 32 #[v, .int .i64 cpu, .int .u64 ((a : Nat) : Int)] H (fun v' H' => ∃ (v1 ov : Value) (X : Heap) (S' : St) (O : List Tm) (XO : Heap), v' = .tuple #[v1, ov] ∧ RbV w0 (X ++ HR) S' v1 ∧ OwnS 3 1 ov O.length ((O.map (·.id)).map (Value.int .i64)) XO ∧ CatchS S cpu a S' O ∧ H' = XO ++ (X ++ H)) := by
  by_cases hc : cpu < 0 ∨ (S.length : Int) ≤ cpu
  · exact rbCatch_no hS hv hHR h64 hc
  · have h1 : 0 ≤ cpu ∧ cpu < (S.length : Int) := by omega
    obtain ⟨x, hx⟩ : ∃ x, S[cpu.toNat]? = some x := ⟨_, List.getElem?_eq_getElem (by omega)⟩
    rcases Nat.lt_or_ge x.1 a with hg | hg
    · exact rbCatch_go hS hv hHR h64 h1 (fun y hy => by rw [hx] at hy; obtain rfl := Option.some.inj hy; exact hg)
    · exact rbCatch_stay hS hv hHR h64 h1 (fun y hy => by rw [hx] at hy; obtain rfl := Option.some.inj hy; exact hg)
end Go.Proofs.YtkcaakkaioingaaDoor
namespace Go.Proofs.YtkcaakkaioingaaDoor
open Go Go.Sl
attribute [local irreducible] W
theorem PureAt.via {P : Program} {w0 : World} {H H' : Heap} {f : FuncId} {args : List Value} {v : Value} (h : PureAt P w0 H' f args v) (h1 : HSub H H') (h2 : HSub H' H) : PureAt P w0 H f args v :=
  LCalls.sub (LCalls.hsub h h1) fun v' H2 ⟨e1, e2⟩ => ⟨H, by rw [e2]; exact h2, e1, rfl⟩
theorem BankH.same {bb k : Nat} {Ws : List Wl} {HB : Heap} {w : Wl} (h : BankH bb Ws HB) (hk : Ws[k]? = some w) : ∃ HW HR, WheelH w.bw w.now w.L w.turn HW ∧ (∀ H, HSub (HB ++ H) (HW ++ (HR ++ H))) ∧ ∀ H, HSub (HW ++ (HR ++ H)) (HB ++ H) := by
  cases h with
  | @mk v XS HWs hv hl hw =>
    have hkl := (List.getElem?_eq_some_iff.1 hk).1
    obtain ⟨HW, hHW⟩ : ∃ HW, HWs[k]? = some HW := ⟨_, List.getElem?_eq_getElem (by omega)⟩
    have hp : ∀ H, ((((bb, Blk.cells 139 1 [v]) :: XS) ++ HWs.flatten) ++ H).Perm (HW ++ ((((bb, Blk.cells 139 1 [v]) :: XS) ++ (HWs.set k []).flatten) ++ H)) := fun H => by
      have h1 := ((flat_take hHW).append_left ((bb, .cells 139 1 [v]) :: XS)).append_right H
      refine h1.trans ?_
      rw [List.append_assoc, List.append_assoc, List.append_assoc]
      exact List.perm_append_comm_assoc _ _ _
    exact ⟨HW, ((bb, .cells 139 1 [v]) :: XS) ++ (HWs.set k []).flatten, hw k w HW hk hHW, fun H => HSub.of_perm (hp H), fun H => HSub.of_perm (hp H).symm⟩
set_option maxHeartbeats 1000000 in
theorem such_L {w0 : World} {H : Heap} {b f : Value} (hb : b.cells.toList = [b]) (hf : f.cells.toList = [f]) : LCalls Tryd.prog w0 69 #[b, f] (H) (fun v H' => ∃ b2 b3, v = .func (.func 108) #[] #[.pointer (some ⟨b2, 0, none⟩), .pointer (some ⟨b3, 0, none⟩)] ∧ H' = (b3, .cells 152 1 [f]) :: (b2, .cells 59 1 [b]) :: H) := by
  refine L_enter (l := [b, f]) Tryd.func69 rfl Tryd.ntmps69 rfl rfl ?_
  refine W_sr ?_
  refine W_box (l := [b]) rfl hb rfl (fun b2 => ?_)
  refine W_box (l := [f]) rfl hf rfl (fun b3 => ?_)
  refine W_assign rfl rfl ?_
  refine W_nil ?_
  refine W_sr ?_
  refine W_makeFunc .nil (.cons rfl (.cons rfl .nil)) rfl ?_
  refine W_assign rfl rfl ?_
  refine W_nil ?_
  refine W_ret1m Tryd.results69 rfl (.nil _) (.refl _) ?_
  exact ⟨b2, b3, rfl, rfl⟩
set_option maxHeartbeats 2000000 in
theorem such_iter {w0 : World} {H HB0 : Heap} {lp b2 b3 bb n fi : Nat} {ca : List Value} {Ws0 : List Wl} (J : Nat → List Wl → Heap → Prop) (S : List Wl → Heap → Prop) (sel : Nat → Wl → Bool) (hfi : ∀ (args : Array Value) (w : World), (callFunc fi args).run Tryd.prog w = .ok (.enter fi args) w)
    (hn64 : n ≤ 64) (hlen : ∀ k Ws Hr, J k Ws Hr → Ws.length = n)
    (hcl : ∀ k Ws HB Hr w, k < n → Ws[k]? = some w → BankH bb Ws HB → J k Ws Hr → PureAt Tryd.prog w0 ((b2, .cells 59 1 [.pointer (some ⟨bb, 0, none⟩)]) :: (b3, .cells 152 1 [(Value.func (.func fi) #[] ca.toArray)]) :: (HB ++ Hr)) fi ([.int .i64 (k : Int), w.p] ++ ca) (.bool (sel k w)))
    (hskip : ∀ k Ws Hr w, k < n → Ws[k]? = some w → J k Ws Hr → sel k w = false → J (k + 1) Ws Hr)
    (hround : ∀ k Ws HB Hr w, k < n → Ws[k]? = some w → BankH bb Ws HB → J k Ws Hr → sel k w = true → RoundC Tryd.prog w0 lp #[.int .i64 (k : Int), w.p] ((b2, .cells 59 1 [.pointer (some ⟨bb, 0, none⟩)]) :: (b3, .cells 152 1 [(Value.func (.func fi) #[] ca.toArray)]) :: (HB ++ Hr)) (fun v H' => ∃ Ws' HB' Hr', BankH bb Ws' HB' ∧ HSub H' ((b2, .cells 59 1 [.pointer (some ⟨bb, 0, none⟩)]) :: (b3, .cells 152 1 [(Value.func (.func fi) #[] ca.toArray)]) :: (HB' ++ Hr')) ∧ ((v = .bool true ∧ J (k + 1) Ws' Hr') ∨ (v = .bool false ∧ S Ws' Hr'))))
    (hB0 : BankH bb Ws0 HB0) (hJ0 : J 0 Ws0 H) :
    LCalls Tryd.prog w0 108 #[.func (.yield lp) #[] #[], .pointer (some ⟨b2, 0, none⟩), .pointer (some ⟨b3, 0, none⟩)] ((b2, .cells 59 1 [.pointer (some ⟨bb, 0, none⟩)]) :: (b3, .cells 152 1 [(Value.func (.func fi) #[] ca.toArray)]) :: (HB0 ++ H)) (fun _ H' => ∃ Ws' HB' Hr', BankH bb Ws' HB' ∧ HSub H' ((b2, .cells 59 1 [.pointer (some ⟨bb, 0, none⟩)]) :: (b3, .cells 152 1 [(Value.func (.func fi) #[] ca.toArray)]) :: (HB' ++ Hr')) ∧ (J n Ws' Hr' ∨ S Ws' Hr')) := by
  refine L_enter (l := [.func (.yield lp) #[] #[], .pointer (some ⟨b2, 0, none⟩), .pointer (some ⟨b3, 0, none⟩)]) Tryd.func108 rfl Tryd.ntmps108 rfl rfl ?_
  refine W_sr ?_
  refine W_load (v := .pointer (some ⟨bb, 0, none⟩)) rfl ty59 rfl (Cell.own (b := b2) zM rfl) rfl ?_
  have hm0 : ∀ p ∈ HB0, p ∈ (b2, .cells 59 1 [.pointer (some ⟨bb, 0, none⟩)]) :: (b3, .cells 152 1 [(Value.func (.func fi) #[] ca.toArray)]) :: (HB0 ++ H) := fun p hp => List.mem_cons_of_mem _ (List.mem_cons_of_mem _ (List.mem_append_left _ hp))
  have hcq := CPUs_q (w0 := w0) (bb := bb) (Ws := Ws0) hB0 hm0
  rw [hlen 0 Ws0 H hJ0] at hcq
  refine W_callq (.cons rfl .nil) Tryd.call25 rfl hcq ?_
  refine W_move rfl rfl ?_
  refine W_nil ?_
  refine W_block ?_
  refine W_loopC (X := (Nat × List Wl × Heap × Heap)) [(0, _), (1, _), (2, _), (7, _)] (fun (x : (Nat × List Wl × Heap × Heap)) => [(8, .int .i64 (x.1 : Int))]) (fun _ => _) (fun (x : (Nat × List Wl × Heap × Heap)) => (b2, .cells 59 1 [.pointer (some ⟨bb, 0, none⟩)]) :: (b3, .cells 152 1 [(Value.func (.func fi) #[] ca.toArray)]) :: (x.2.2.1 ++ x.2.2.2)) (fun (x : (Nat × List Wl × Heap × Heap)) => x.1 ≤ n ∧ BankH bb x.2.1 x.2.2.1 ∧ J x.1 x.2.1 x.2.2.2) (fun (x : (Nat × List Wl × Heap × Heap)) => n - x.1) (0, Ws0, HB0, H) ⟨Nat.zero_le _, hB0, hJ0⟩ (sub_cons rfl (sub_cons rfl (sub_cons rfl (sub_cons rfl (sub_nil _))))) (sub_cons rfl (sub_nil _)) rfl (.refl _) ?_
  rintro ⟨k, Ws, HB, Hr⟩ ⟨hk, hB, hJk⟩
  dsimp only at hk hB hJk ⊢
  simp only [List.cons_append, List.nil_append]
  refine W_sr ?_
  refine W_bin rfl rfl b_lss rfl ?_
  refine W_nil ?_
  refine W_seq ?_
  refine W_condPS (p := (k : Int) < (n : Int)) rfl (by simp) (fun q0 => ?_) (fun q0 => ?_)
  · skip
    refine W_skip ?_
    refine W_seq ?_
    refine W_block ?_
    refine W_sr ?_
    refine W_move rfl rfl ?_
    refine W_assign rfl rfl ?_
    refine W_nil ?_
    refine W_sr ?_
    obtain ⟨w, hw⟩ : ∃ w, Ws[k]? = some w := ⟨_, List.getElem?_eq_getElem (by rw [hlen k Ws Hr hJk]; omega)⟩
    have hkn : k < n := by omega
    obtain ⟨ad, cap, hcell, hlc, hrow0⟩ := hB.row
    have hmem : ∀ p ∈ HB, p ∈ (b2, .cells 59 1 [.pointer (some ⟨bb, 0, none⟩)]) :: (b3, .cells 152 1 [(Value.func (.func fi) #[] ca.toArray)]) :: (HB ++ Hr) := fun p hp => List.mem_cons_of_mem _ (List.mem_cons_of_mem _ (List.mem_append_left _ hp))
    obtain ⟨qb, qo, rfl, hc⟩ := (hrow0 (w0 := w0) hmem).at (i := k) (v := w.p) (by rw [List.getElem?_map, hw]; rfl)
    refine W_load (v := .pointer (some ⟨bb, 0, none⟩)) rfl ty59 rfl (Cell.own (b := b2) zM rfl) rfl ?_
    refine W_nilCheck rfl rfl ?_
    refine W_fieldAddr rfl fld139_0 (by decide) rfl ?_
    refine W_load (v := .slice (some ⟨qb, qo, none⟩) Ws.length cap) rfl ty137 rfl (Cell.own (b := bb) (hmem _ hcell) rfl) rfl ?_
    refine W_move rfl rfl ?_
    refine W_indexAddr (j := k) rfl rfl ty137 ty140 rfl (by rw [hlen k Ws Hr hJk]; omega) rfl rfl ?_
    refine W_load (v := w.p) rfl ty140 rfl (by rw [Nat.mul_one]; exact hc) rfl ?_
    refine W_assign rfl rfl ?_
    refine W_nil ?_
    refine W_sr ?_
    refine W_load (v := (Value.func (.func fi) #[] ca.toArray)) rfl ty152 rfl (Cell.own (b := b3) zM rfl) rfl ?_
    refine W_move rfl rfl ?_
    refine W_move rfl rfl ?_
    refine W_callqv (fa := []) (ca := ca) rfl (.cons rfl (.cons rfl .nil)) rfl hfi rfl (hcl k Ws HB Hr w hkn hw hB hJk) ?_
    rcases hs : sel k w with _ | _
    · skip
      refine W_move rfl rfl ?_
      refine W_gno rfl rfl rfl ?_
      refine W_gno rfl rfl rfl ?_
      refine W_gno rfl rfl rfl ?_
      refine W_gno rfl rfl rfl ?_
      refine W_gno rfl rfl rfl ?_
      first | refine W_pickt rfl rfl rfl ?_ | refine W_pickf rfl rfl rfl ?_
      refine W_nil ?_
      refine W_condF rfl rfl ?_
      refine W_skip ?_
      refine W_blk ?_
      refine W_region ?_
      refine W_bin rfl rfl (b_add (m := ((k + 1 : Nat) : Int)) ((i64w (by omega)).trans (by omega))) rfl ?_
      refine W_move rfl rfl ?_
      refine W_nil ?_
      refine W_again (k + 1, Ws, HB, Hr) ⟨by show k + 1 ≤ n; omega, hB, hskip k Ws Hr w hkn hw hJk hs⟩ (by show n - (k + 1) < n - k; omega) (sub_cons rfl (sub_cons rfl (sub_cons rfl (sub_cons rfl (sub_cons rfl (sub_nil _)))))) rfl (.refl _)
    · skip
      refine W_move rfl rfl ?_
      refine W_gyes rfl rfl ?_
      refine W_move rfl rfl ?_
      refine W_gyes rfl rfl ?_
      refine W_move rfl rfl ?_
      refine W_gyes rfl rfl ?_
      refine W_move rfl rfl ?_
      refine W_gyes rfl rfl ?_
      refine W_yield rfl (.cons rfl (.cons rfl .nil)) rfl (hround k Ws HB Hr w hkn hw hB hJk hs) ?_
      rintro v H' ⟨Ws', HB', Hr', hB', hsub, ⟨rfl, hJ'⟩ | ⟨rfl, hS'⟩⟩
      · skip
        refine W_hsub hsub ?_
        refine W_gyes rfl rfl ?_
        refine W_not rfl rfl ?_
        first | refine W_pickt rfl rfl rfl ?_ | refine W_pickf rfl rfl rfl ?_
        refine W_nil ?_
        refine W_condF rfl rfl ?_
        refine W_skip ?_
        refine W_blk ?_
        refine W_region ?_
        refine W_bin rfl rfl (b_add (m := ((k + 1 : Nat) : Int)) ((i64w (by omega)).trans (by omega))) rfl ?_
        refine W_move rfl rfl ?_
        refine W_nil ?_
        refine W_again (k + 1, Ws', HB', Hr') ⟨by show k + 1 ≤ n; omega, hB', hJ'⟩ (by show n - (k + 1) < n - k; omega) (sub_cons rfl (sub_cons rfl (sub_cons rfl (sub_cons rfl (sub_cons rfl (sub_nil _)))))) rfl (.refl _)
      · skip
        refine W_hsub hsub ?_
        refine W_gyes rfl rfl ?_
        refine W_not rfl rfl ?_
        first | refine W_pickt rfl rfl rfl ?_ | refine W_pickf rfl rfl rfl ?_
        refine W_nil ?_
        refine W_condT rfl rfl ?_
        refine W_ret0m Tryd.results108 (.nil _) (.refl _) ?_
        exact ⟨Ws', HB', Hr', hB', .refl _, .inr hS'⟩
  · skip
    refine W_exit rfl ?_
    refine W_end0m Tryd.results108 (.nil _) (.refl _) ?_
    obtain rfl : k = n := by omega
    exact ⟨Ws, HB, Hr, hB, .refl _, .inl hJk⟩
end Go.Proofs.YtkcaakkaioingaaDoor
namespace Go.Proofs.YtkcaakkaioingaaDoor
open Go Go.Sl
attribute [local irreducible] W
theorem BankH.wheel {bb k : Nat} {Ws : List Wl} {HB : Heap} {w : Wl} (h : BankH bb Ws HB) (hk : Ws[k]? = some w) : ∃ HW, WheelH w.bw w.now w.L w.turn HW ∧ ∀ p ∈ HW, p ∈ HB := by
  cases h with
  | @mk v XS HWs hv hl hw =>
    have hkl := (List.getElem?_eq_some_iff.1 hk).1
    obtain ⟨HW, hHW⟩ : ∃ HW, HWs[k]? = some HW := ⟨_, List.getElem?_eq_getElem (by omega)⟩
    exact ⟨HW, hw k w HW hk hHW, fun p hp => List.mem_cons_of_mem _ (List.mem_append_right _ (List.mem_flatten.2 ⟨HW, List.mem_of_getElem? hHW, hp⟩))⟩
theorem find_q2 {w0 : World} {H HW : Heap} {bw now turn : Nat} {L : List Tm} {id : Int} (hW : WheelH bw now L turn HW) (hm : ∀ p ∈ HW, p ∈ H) : PureAt Tryd.prog w0 H 75 [.pointer (some ⟨bw, 0, none⟩), .int .i64 id] (.tuple #[.agg (spotOf L id).v.toArray, .bool (heldB L id)]) := by
  cases hW with
  | @mk bm c sl XS bs l h =>
    have h1 := hm _ List.mem_cons_self
    have h2 := hm _ (List.mem_cons_of_mem _ List.mem_cons_self)
    by_cases hin : id ∈ L.map (·.id)
    · obtain ⟨t, ht, rfl⟩ := List.mem_map.1 hin
      obtain ⟨hv, hh⟩ := h.hit ht
      rw [spotOf_in h.nodup ht, heldB_iff.2 hin]
      exact Find_q (now := now) (turn := turn) (c := c) (l := l) h.row h1 h2 hv hh
    · obtain ⟨hv, hh⟩ := h.miss hin
      rw [spotOf_out hin, show heldB L id = false by (cases hb : heldB L id with | false => rfl | true => exact absurd (heldB_iff.1 hb) hin)]
      exact Find_q (tn := 0) (e := zSpot) (now := now) (turn := turn) (c := c) (l := l) h.row h1 h2 hv hh
set_option maxHeartbeats 1000000 in
theorem findc_q {w0 : World} {H : Heap} {bi k : Nat} {id : Int} {w : Wl} {HW : Heap} (hW : WheelH w.bw w.now w.L w.turn HW) (hm : ∀ p ∈ HW, p ∈ H) (hb : (bi, .cells 3 1 [.int .i64 id]) ∈ H)  : PureAt Tryd.prog w0 H 74 [.int .i64 (k : Int), w.p, .pointer (some ⟨bi, 0, none⟩)] (.bool (heldB w.L id)) := by
  refine L_enter Tryd.func74 rfl Tryd.ntmps74 rfl rfl ?_
  refine W_sr ?_
  refine W_assign rfl rfl ?_
  refine W_nil ?_
  refine W_sr ?_
  refine W_move rfl rfl ?_
  refine W_load (v := .int .i64 id) rfl ty3 rfl (Cell.own hb rfl) rfl ?_
  refine W_callq (.cons rfl (.cons rfl .nil)) Tryd.call75 rfl (find_q2 (id := id) hW hm) ?_
  refine W_move rfl rfl ?_
  refine W_extract rfl rfl rfl ?_
  refine W_extract rfl rfl rfl ?_
  refine W_alloc (l := zSpot.v) ty72 rfl rfl (fun b6 => ?_)
  refine W_storeA (l' := (spotOf w.L id).v) rfl rfl ty72 rfl rfl (b := b6) zM (by exact Nat.le_refl 4) rfl zU ?_
  refine W_assign rfl rfl ?_
  refine W_nil ?_
  refine W_sr ?_
  refine W_move rfl rfl ?_
  refine W_assign rfl rfl ?_
  refine W_nil ?_
  refine W_ret1m (H2 := H) Tryd.results74 rfl (.nil _) zH ?_
  exact ⟨rfl, rfl⟩
def findK (Ws : List Wl) (id : Int) : Option Nat := Ws.findIdx? (fun w => heldB w.L id)
theorem findK_some {Ws : List Wl} {id : Int} {k : Nat} {w : Wl} (hw : Ws[k]? = some w) (hh : heldB w.L id = true) (hf : ∀ (j : Nat) u, j < k → Ws[j]? = some u → heldB u.L id = false) : findK Ws id = some k := by
  unfold findK
  have hk := (List.getElem?_eq_some_iff.1 hw)
  have hk1 := hk.1
  refine List.findIdx?_eq_some_iff_getElem.2 ⟨hk.1, by rw [hk.2]; exact hh, fun j hj => ?_⟩
  rw [hf j _ hj (List.getElem?_eq_getElem (by omega))]; simp
theorem findK_none {Ws : List Wl} {id : Int} (hf : ∀ (j : Nat) u, j < Ws.length → Ws[j]? = some u → heldB u.L id = false) : findK Ws id = none := by
  unfold findK
  rw [List.findIdx?_eq_none_iff]
  intro w hw
  obtain ⟨j, hj, e⟩ := List.getElem_of_mem hw
  exact hf j w hj (by rw [List.getElem?_eq_getElem hj, e])
def findV (Ws : List Wl) (id : Int) : Value := match findK Ws id with
  | some k => match Ws[k]? with
    | some w => .tuple #[.int .i64 (k : Int), .agg (spotOf w.L id).v.toArray, .bool true]
    | none => .tuple #[.int .i64 0, .agg zSpot.v.toArray, .bool false]
  | none => .tuple #[.int .i64 0, .agg zSpot.v.toArray, .bool false]
theorem snoc_all {Ws : List Wl} {p : Wl → Bool} {k : Nat} {w : Wl} (h : ∀ (j : Nat) u, j < k → Ws[j]? = some u → p u = false) (hw : Ws[k]? = some w) (hs : p w = false) : ∀ (j : Nat) u, j < k + 1 → Ws[j]? = some u → p u = false := fun j u hj hu => by
  by_cases e : j = k
  · subst e
    obtain rfl := Option.some.inj (hu.symm.trans hw)
    exact hs
  · exact h j u (by omega) hu
set_option maxHeartbeats 4000000 in
theorem FindB_L {w0 : World} {H : Heap} {HB : Heap} {bb : Nat} {Ws : List Wl} {id : Int} (hB : BankH bb Ws HB) (hn64 : Ws.length ≤ 64)  : LCalls Tryd.prog w0 36 #[.pointer (some ⟨bb, 0, none⟩), .int .i64 id] (HB ++ H) (fun v H' => ∃ HB', BankH bb Ws HB' ∧ v = findV Ws id ∧ H' = HB' ++ H) := by
  refine L_enter (l := [.pointer (some ⟨bb, 0, none⟩), .int .i64 id]) Tryd.func36 rfl Tryd.ntmps36 rfl rfl ?_
  refine W_sr ?_
  refine W_box (l := [.int .i64 id]) rfl rfl rfl (fun b3 => ?_)
  refine W_alloc (l := [.int .i64 0]) ty3 rfl rfl (fun b4 => ?_)
  refine W_alloc (l := zSpot.v) ty72 rfl rfl (fun b5 => ?_)
  refine W_alloc (l := [.bool false]) ty4 rfl rfl (fun b6 => ?_)
  refine W_nil ?_
  refine W_sr ?_
  refine W_makeFunc .nil (.cons rfl .nil) rfl ?_
  refine W_assign rfl rfl ?_
  refine W_nil ?_
  refine W_seq ?_
  refine W_sr ?_
  refine W_move rfl rfl ?_
  refine W_move rfl rfl ?_
  refine W_call (.cons rfl (.cons rfl .nil)) Tryd.call69 rfl (such_L (b := .pointer (some ⟨bb, 0, none⟩)) (f := .func (.func 74) #[] #[.pointer (some ⟨b3, 0, none⟩)]) rfl rfl) ?_
  rintro v H' ⟨b2_, b3_, rfl, rfl⟩
  refine W_nil ?_
  refine W_block ?_
  refine W_rangeFunc rfl Tryd.call108 ?_
  intro lp D r hst hpd hps hasg hbody hA
  have hr := loop_ready hst hpd
  show LCalls _ _ _ #[_, _, _] _ _
  refine ((such_iter (b2 := b2_) (b3 := b3_) (bb := bb) (n := Ws.length) (fi := 74) (ca := [.pointer (some ⟨b3, 0, none⟩)]) (Ws0 := Ws) (HB0 := HB) (H := (lp, .obj (.loop r)) :: (D, .obj (.deferred (some []))) :: (b6, .cells 4 1 [.bool false]) :: (b5, .cells 72 4 zSpot.v) :: (b4, .cells 3 1 [.int .i64 0]) :: (b3, .cells 3 1 [.int .i64 id]) :: H) (fun k Ws2 Hr => Ws2 = Ws ∧ (∀ (j : Nat) u, j < k → Ws[j]? = some u → heldB u.L id = false) ∧ Hr = (lp, .obj (.loop r)) :: (D, .obj (.deferred (some []))) :: (b6, .cells 4 1 [.bool false]) :: (b5, .cells 72 4 zSpot.v) :: (b4, .cells 3 1 [.int .i64 0]) :: (b3, .cells 3 1 [.int .i64 id]) :: H) (fun Ws2 Hr => Ws2 = Ws ∧ ∃ (k : Nat) (w : Wl), Ws[k]? = some w ∧ findK Ws id = some k ∧ Hr = (lp, .obj (.loop (Loop.at r .done (some .ret)))) :: (D, .obj (.deferred (some []))) :: (b6, .cells 4 1 [.bool true]) :: (b5, .cells 72 4 (spotOf w.L id).v) :: (b4, .cells 3 1 [.int .i64 (k : Int)]) :: (b3, .cells 3 1 [.int .i64 id]) :: H) (fun _ w => heldB w.L id) Tryd.call74 hn64 (fun k Ws' Hr hJ => by rw [hJ.1]) (fun k Ws2 HB2 Hr w hk hw hB2 hJ => by obtain ⟨rfl, _, rfl⟩ := hJ; obtain ⟨HW, hW, hmw⟩ := hB2.wheel hw; exact findc_q (bi := b3) hW (fun p hp => List.mem_cons_of_mem _ (List.mem_cons_of_mem _ (List.mem_append_left _ (hmw p hp)))) zM) (fun k Ws2 Hr w hk hw hJ hs => by obtain ⟨rfl, h1, h2⟩ := hJ; exact ⟨rfl, snoc_all h1 hw hs, h2⟩) ?_ hB ⟨rfl, fun j u hj => by omega, rfl⟩).hsub zH).mono ?_
  · intro k Ws2 HB2 Hr w hk hw hB2 hJ hs
    obtain ⟨rfl, hJ1, rfl⟩ := hJ
    obtain ⟨HW, hW, hmw⟩ := hB2.wheel hw
    refine round_intro hst hpd hA hps rfl hasg rfl rfl rfl zT ?_
    refine W_sr ?_
    refine W_assign rfl rfl ?_
    refine W_nil ?_
    refine W_region ?_
    refine W_assign rfl rfl ?_
    refine W_nil ?_
    refine W_begin hst hpd zT hbody ?_
    refine W_block ?_
    refine W_sr ?_
    refine W_move rfl rfl ?_
    refine W_load (v := .int .i64 id) rfl ty3 rfl (Cell.own (b := b3) zM rfl) rfl ?_
    refine W_callq (.cons rfl (.cons rfl .nil)) Tryd.call75 rfl (find_q2 (id := id) hW (fun p hp => (by repeat (first | exact List.mem_append_left _ (hmw p hp) | exact List.mem_cons_self | apply List.mem_cons_of_mem | apply List.mem_append_right)))) ?_
    refine W_move rfl rfl ?_
    refine W_extract rfl rfl rfl ?_
    refine W_extract rfl rfl rfl ?_
    refine W_alloc (l := zSpot.v) ty72 rfl rfl (fun b10 => ?_)
    refine W_storeA (l' := (spotOf w.L id).v) rfl rfl ty72 rfl rfl (b := b10) zM (by exact Nat.le_refl 4) rfl zU ?_
    refine W_assign rfl rfl ?_
    refine W_nil ?_
    refine W_seq ?_
    refine Rd.W_anyC [(b10, .cells 72 4 (spotOf w.L id).v)] (by kernel_rfl) ?_
    refine Rd.WC_take 0 (l' := #[true, false, false, false, false]) rfl (by decide +kernel) (by decide +kernel) (by decide +kernel) (by decide +kernel) rfl (by decide +kernel) (X_move rfl) rfl ?_
    refine Rd.WC_take 1 (l' := #[true, true, false, false, false]) rfl (by decide +kernel) (by decide +kernel) (by decide +kernel) (by decide +kernel) rfl (by decide +kernel) (X_loadB (vs := (spotOf w.L id).v) rfl ty72 rfl (b := b10) zM rfl rfl) rfl ?_
    refine Rd.WC_one 2 (l' := #[true, true, true, false, false]) zH (by decide +kernel) rfl (by decide +kernel) ?_
    refine W_store (l' := [.int .i64 (k : Int)]) rfl rfl ty3 rfl rfl (b := b4) zM rfl rfl zU ?_
    refine W_nil ?_
    refine Rd.WC_goal ?_
    refine Rd.WC_one 3 (l' := #[true, true, true, true, false]) zH (by decide +kernel) rfl (by decide +kernel) ?_
    refine W_storeA (l' := (spotOf w.L id).v) rfl rfl ty72 rfl rfl (b := b5) zM (by exact Nat.le_refl 4) rfl zU ?_
    refine W_nil ?_
    refine Rd.WC_goal ?_
    refine Rd.WC_one 4 (l' := #[true, true, true, true, true]) zH (by decide +kernel) rfl (by decide +kernel) ?_
    refine W_store (l' := [.bool true]) rfl rfl ty4 rfl rfl (b := b6) zM rfl rfl zU ?_
    refine W_nil ?_
    refine Rd.WC_goal ?_
    refine Rd.WC_done zH (by decide +kernel) ?_
    refine W_retround zT ?_
    exact ⟨Ws2, HB2, (lp, .obj (.loop (Loop.at r .done (some .ret)))) :: (D, .obj (.deferred (some []))) :: (b6, .cells 4 1 [.bool true]) :: (b5, .cells 72 4 (spotOf w.L id).v) :: (b4, .cells 3 1 [.int .i64 (k : Int)]) :: (b3, .cells 3 1 [.int .i64 id]) :: H, hB2, zH, .inr ⟨rfl, rfl, k, w, hw, findK_some hw hs hJ1, rfl⟩⟩
    skip
  · intro _ H' hp
    obtain ⟨Ws2, HB2, Hr, hB2, hs, hJS⟩ := hp
    rcases hJS with ⟨rfl, hJ1, rfl⟩ | ⟨rfl, k, w, hw, hfk, rfl⟩
    case inr =>
      refine ⟨.done, some .ret, (b2_, .cells 59 1 [.pointer (some ⟨bb, 0, none⟩)]) :: (b3_, .cells 152 1 [.func (.func 74) #[] #[.pointer (some ⟨b3, 0, none⟩)]]) :: (HB2 ++ ((D, .obj (.deferred (some []))) :: (b6, .cells 4 1 [.bool true]) :: (b5, .cells 72 4 (spotOf w.L id).v) :: (b4, .cells 3 1 [.int .i64 (k : Int)]) :: (b3, .cells 3 1 [.int .i64 id]) :: H)), hs.trans zH, by decide, ?_⟩
      show W _ _ _ _ _ _ _ _ _
      refine W_ret3G (H2 := HB2 ++ H) Tryd.results36 (.cons zT (.nil _)) (.one rfl ty3 rfl (Cell.own (b := b4) zM rfl)) (.own rfl ty72 rfl (b := b5) zM rfl) (.one rfl ty4 rfl (Cell.own (b := b6) zM rfl)) zH ?_
      exact ⟨HB2, hB2, by unfold findV; rw [hfk]; dsimp only; rw [hw], rfl⟩
    refine ⟨.ready, none, (b2_, .cells 59 1 [.pointer (some ⟨bb, 0, none⟩)]) :: (b3_, .cells 152 1 [.func (.func 74) #[] #[.pointer (some ⟨b3, 0, none⟩)]]) :: (HB2 ++ ((D, .obj (.deferred (some []))) :: (b6, .cells 4 1 [.bool false]) :: (b5, .cells 72 4 zSpot.v) :: (b4, .cells 3 1 [.int .i64 0]) :: (b3, .cells 3 1 [.int .i64 id]) :: H)), by rw [hr]; exact hs.trans zH, by decide, ?_⟩
    show W _ _ _ _ _ _ _ _ _
    refine W_blk ?_
    refine W_sr ?_
    refine W_build ty72 pl72 .nil rfl zF rfl ?_
    refine W_store (l' := [.int .i64 0]) rfl rfl ty3 rfl rfl (b := b4) zM rfl rfl zU ?_
    refine W_storeA (l' := zSpot.v) rfl rfl ty72 rfl rfl (b := b5) zM (by exact Nat.le_refl 4) rfl zU ?_
    refine W_store (l' := [.bool false]) rfl rfl ty4 rfl rfl (b := b6) zM rfl rfl zU ?_
    refine W_nil ?_
    refine W_ret3G (H2 := HB2 ++ H) Tryd.results36 (.cons zT (.nil _)) (.one rfl ty3 rfl (Cell.own (b := b4) zM rfl)) (.own rfl ty72 rfl (b := b5) zM rfl) (.one rfl ty4 rfl (Cell.own (b := b6) zM rfl)) zH ?_
    exact ⟨HB2, hB2, by unfold findV; rw [findK_none hJ1], rfl⟩
end Go.Proofs.YtkcaakkaioingaaDoor
namespace Go.Proofs.YtkcaakkaioingaaDoor
open Go Go.Sl
attribute [local irreducible] W
def CatchIs (Ws : List Wl) (cpu : Int) (a : Nat) (Ws' : List Wl) (O : List Tm) : Prop :=
  (wlAt Ws cpu = none ∧ Ws' = Ws ∧ O = []) ∨ ∃ (k : Nat) (w : Wl) (Li : List Tm), cpu = (k : Int) ∧ Ws[k]? = some w ∧ Gone w.now (max w.now a) w.L Li O ∧ Ws' = Ws.set k ⟨w.bw, max w.now a, Li, w.turn⟩
theorem wlAt_at {Ws : List Wl} {cpu : Int} {w : Wl} (h : wlAt Ws cpu = some w) : ∃ k : Nat, cpu = (k : Int) ∧ Ws[k]? = some w := by
  unfold wlAt at h
  by_cases c : 0 ≤ cpu
  · rw [if_pos c] at h
    exact ⟨cpu.toNat, by omega, h⟩
  · rw [if_neg c] at h; cases h
theorem ofV_none {Ws : List Wl} {cpu : Int} (h : wlAt Ws cpu = none) : ofV Ws cpu = .pointer none := by unfold ofV; rw [h]
theorem ofV_some {Ws : List Wl} {cpu : Int} {w : Wl} (h : wlAt Ws cpu = some w) : ofV Ws cpu = w.p := by unfold ofV; rw [h]
inductive PutIs (Ws : List Wl) (cpu id : Int) (a : Nat) : List Wl → Spot → Int → Prop
  | cpu (h : wlAt Ws cpu = none) : PutIs Ws cpu id a Ws zSpot 2
  | twice {w : Wl} {k : Nat} (h : wlAt Ws cpu = some w) (hf : findK Ws id = some k) : PutIs Ws cpu id a Ws zSpot 5
  | range {w : Wl} (h : wlAt Ws cpu = some w) (hf : findK Ws id = none) (hr : ¬ (0 ≤ id ∧ id < 256)) : PutIs Ws cpu id a Ws zSpot 2
  | late {w : Wl} (h : wlAt Ws cpu = some w) (hf : findK Ws id = none) (hr : 0 ≤ id ∧ id < 256) (hm : w.now = 18446744073709551615) : PutIs Ws cpu id a Ws zSpot 12
  | ok {k : Nat} {w : Wl} (hc : cpu = (k : Int)) (hk : Ws[k]? = some w) (hf : findK Ws id = none) (hr : 0 ≤ id ∧ id < 256) (hm : w.now < 18446744073709551615) : PutIs Ws cpu id a (Ws.set k ⟨w.bw, w.now, w.L ++ [tmOf w.now a w.turn id], w.turn + 1⟩) (placeT w.now a).1 0
theorem findK_no {Ws : List Wl} {id : Int} (h : findK Ws id = none) {w : Wl} (hw : w ∈ Ws) : id ∉ w.L.map (·.id) := fun hin => by
  unfold findK at h
  rw [List.findIdx?_eq_none_iff] at h
  have := h w hw
  rw [heldB_iff.2 hin] at this; cases this
set_option maxHeartbeats 1000000 in
theorem CatchB_L {w0 : World} {H : Heap} {HB : Heap} {bb : Nat} {Ws : List Wl} (hB : BankH bb Ws HB) {cpu : Int} {a : Nat} (ha : a ≤ 18446744073709551615) (hd : ∀ w ∈ Ws, ∀ t ∈ w.L, w.now < t.s.due) (hT : Tab w0) : LCalls Tryd.prog w0 34 #[.pointer (some ⟨bb, 0, none⟩), .int .i64 cpu, .int .u64 ((a : Nat) : Int)] (HB ++ H) (fun v H' => ∃ (Ws' : List Wl) (HB' : Heap) (O : List Tm) (XO : Heap), BankH bb Ws' HB' ∧ OwnS 3 1 v O.length ((O.map (·.id)).map (Value.int .i64)) XO ∧ CatchIs Ws cpu a Ws' O ∧ H' = XO ++ (HB' ++ H)) := by
  refine L_enter (l := [.pointer (some ⟨bb, 0, none⟩), .int .i64 cpu, .int .u64 ((a : Nat) : Int)]) Tryd.func34 rfl Tryd.ntmps34 rfl rfl ?_
  refine W_sr ?_
  refine W_assign rfl rfl ?_
  refine W_nil ?_
  refine W_sr ?_
  refine W_move rfl rfl ?_
  refine W_move rfl rfl ?_
  refine W_callq (.cons rfl (.cons rfl .nil)) Tryd.call66 rfl (of_q (cpu := cpu) hB (fun p hp => List.mem_append_left _ hp)) ?_
  rcases hwl : wlAt Ws cpu with _ | w
  · skip
    rw [ofV_none hwl]
    refine W_move rfl rfl ?_
    refine W_callp (.cons rfl (.cons rfl .nil)) Tryd.call73 rfl (T := fun _ => True) trivial To_nilp ?_
    refine W_assign rfl rfl ?_
    refine W_nil ?_
    refine W_ret1m Tryd.results34 rfl (.nil _) (.refl _) ?_
    exact ⟨Ws, HB, [], [], hB, .nil, .inl ⟨hwl, rfl, rfl⟩, rfl⟩
  · skip
    rw [ofV_some hwl]
    obtain ⟨k, hck, hwk⟩ := wlAt_at hwl
    obtain ⟨HW, HR, hW, hs1, hs2⟩ := hB.at hwk
    refine W_move rfl rfl ?_
    refine W_hsub (hs1 H) ?_
    refine W_call (.cons rfl (.cons rfl .nil)) Tryd.call73 rfl (To_any (a := a) hT hW (hd w (List.mem_of_getElem? hwk)) ha (H := HR ++ H)) ?_
    rintro v H' ⟨O, Li, HW', XO, hW', hG, hO, rfl⟩
    obtain ⟨HB', hB', hs3⟩ := hs2 ⟨w.bw, max w.now a, Li, w.turn⟩ HW' rfl hW'
    refine W_hsub (HSub.app (TakeS.here _) (hs3 H)) ?_
    refine W_assign rfl rfl ?_
    refine W_nil ?_
    refine W_ret1m Tryd.results34 rfl (.nil _) (.refl _) ?_
    exact ⟨_, HB', O, XO, hB', hO, .inr ⟨k, w, Li, hck, hwk, hG, rfl⟩, rfl⟩
def nowK (Ws : List Wl) (cpu : Int) : Nat := match wlAt Ws cpu with
  | some w => w.now
  | none => 0
theorem now_q3 {w0 : World} {H HW : Heap} {bw now turn : Nat} {L : List Tm} (hW : WheelH bw now L turn HW) (hm : ∀ p ∈ HW, p ∈ H) : PureAt Tryd.prog w0 H 77 [.pointer (some ⟨bw, 0, none⟩)] (.int .u64 ((now : Nat) : Int)) := by
  cases hW with
  | @mk bm c sl XS bs l h => exact Now_q (sl := sl) (bs := bs) (bm := bm) (turn := turn) (hm _ List.mem_cons_self)
set_option maxHeartbeats 1000000 in
theorem NowB_q {w0 : World} {H : Heap} {HB : Heap} {bb : Nat} {Ws : List Wl} (hB : BankH bb Ws HB) (hm : ∀ p ∈ HB, p ∈ H) {cpu : Int}  : PureAt Tryd.prog w0 H 39 [.pointer (some ⟨bb, 0, none⟩), .int .i64 cpu] (.int .u64 ((nowK Ws cpu : Nat) : Int)) := by
  refine L_enter Tryd.func39 rfl Tryd.ntmps39 rfl rfl ?_
  refine W_sr ?_
  refine W_assign rfl rfl ?_
  refine W_nil ?_
  refine W_sr ?_
  refine W_move rfl rfl ?_
  refine W_move rfl rfl ?_
  refine W_callq (.cons rfl (.cons rfl .nil)) Tryd.call66 rfl (of_q (cpu := cpu) hB hm) ?_
  rcases hwl : wlAt Ws cpu with _ | w
  · skip
    rw [ofV_none hwl]
    refine W_callp (.cons rfl .nil) Tryd.call77 rfl (T := fun _ => True) trivial Now_nil ?_
    refine W_assign rfl rfl ?_
    refine W_nil ?_
    refine W_ret1m (H2 := H) Tryd.results39 rfl (.nil _) zH ?_
    exact ⟨by unfold nowK; rw [hwl]; rfl, rfl⟩
  · skip
    rw [ofV_some hwl]
    obtain ⟨k, hck, hwk⟩ := wlAt_at hwl
    obtain ⟨HW, hW, hmw⟩ := hB.wheel hwk
    refine W_callq (.cons rfl .nil) Tryd.call77 rfl (now_q3 hW (fun p hp => hm p (hmw p hp))) ?_
    refine W_assign rfl rfl ?_
    refine W_nil ?_
    refine W_ret1m (H2 := H) Tryd.results39 rfl (.nil _) zH ?_
    exact ⟨by unfold nowK; rw [hwl], rfl⟩
theorem findK_at {Ws : List Wl} {id : Int} {k : Nat} (h : findK Ws id = some k) : ∃ w, Ws[k]? = some w ∧ heldB w.L id = true := by
  unfold findK at h
  obtain ⟨h1, h2, _⟩ := List.findIdx?_eq_some_iff_getElem.1 h
  exact ⟨Ws[k], List.getElem?_eq_getElem h1, h2⟩
theorem wheel_now {bw now turn : Nat} {L : List Tm} {HW : Heap} (h : WheelH bw now L turn HW) : True := trivial
theorem put_ways3 (nw : Nat) (hn : nw ≤ 18446744073709551615) (id : Int) : ¬ (0 ≤ id ∧ id < 256) ∨ ((0 ≤ id ∧ id < 256) ∧ nw = 18446744073709551615) ∨ ((0 ≤ id ∧ id < 256) ∧ nw < 18446744073709551615) := by
  by_cases h1 : 0 ≤ id ∧ id < 256
  · rcases Nat.lt_or_eq_of_le hn with h3 | h3
    · exact .inr (.inr ⟨h1, h3⟩)
    · exact .inr (.inl ⟨h1, h3⟩)
  · exact .inl h1
theorem Put_late' {w0 : World} {H HW : Heap} {bw turn a nw : Nat} {L : List Tm} {id : Int} (hW : WheelH bw nw L turn HW) (hid : 0 ≤ id ∧ id < 256) (ha : a ≤ 18446744073709551615) (hnew : id ∉ L.map (·.id)) (hm : nw = 18446744073709551615) :
    LCalls Tryd.prog w0 67 #[.pointer (some ⟨bw, 0, none⟩), .int .i64 id, .int .u64 ((a : Nat) : Int)] (HW ++ H) (fun v H' => v = .tuple #[.agg zSpot.v.toArray, .int .i64 12] ∧ H' = HW ++ H) := by
  subst hm; exact Put_late hW hid ha hnew
set_option maxHeartbeats 4000000 in
theorem PutB_L {w0 : World} {H : Heap} {HB : Heap} {bb : Nat} {Ws : List Wl} (hB : BankH bb Ws HB) (hn64 : Ws.length ≤ 64) {cpu id : Int} {a : Nat} (ha : a ≤ 18446744073709551615) (hnow : ∀ w ∈ Ws, w.now ≤ 18446744073709551615) (htn : ∀ w ∈ Ws, w.turn ≤ 4611686018427387904)  : LCalls Tryd.prog w0 28 #[.pointer (some ⟨bb, 0, none⟩), .int .i64 cpu, .int .i64 id, .int .u64 ((a : Nat) : Int)] (HB ++ H) (fun v H' => ∃ (Ws' : List Wl) (HB' : Heap) (s : Spot) (e : Int), BankH bb Ws' HB' ∧ v = .tuple #[.agg s.v.toArray, .int .i64 e] ∧ PutIs Ws cpu id a Ws' s e ∧ H' = HB' ++ H) := by
  refine L_enter (l := [.pointer (some ⟨bb, 0, none⟩), .int .i64 cpu, .int .i64 id, .int .u64 ((a : Nat) : Int)]) Tryd.func28 rfl Tryd.ntmps28 rfl rfl ?_
  refine W_sr ?_
  refine W_alloc (l := zSpot.v) ty72 rfl rfl (fun b8 => ?_)
  refine W_assign rfl rfl ?_
  refine W_nil ?_
  refine W_sr ?_
  refine W_move rfl rfl ?_
  refine W_move rfl rfl ?_
  refine W_callq (.cons rfl (.cons rfl .nil)) Tryd.call66 rfl (of_q (cpu := cpu) hB (fun p hp => List.mem_cons_of_mem _ (List.mem_append_left _ hp))) ?_
  rcases hwl : wlAt Ws cpu with _ | w
  · skip
    rw [ofV_none hwl]
    refine W_assign rfl rfl ?_
    refine W_nil ?_
    refine W_seq ?_
    refine W_block ?_
    refine W_sr ?_
    refine W_move rfl rfl ?_
    refine W_x (X_ptrNil rfl rfl ty59) (fun _ h => by cases h) rfl ?_
    refine W_assign rfl rfl ?_
    refine W_nil ?_
    refine W_condF rfl rfl ?_
    refine W_sr ?_
    refine W_move rfl rfl ?_
    refine W_x (X_ptrNil rfl rfl ty140) (fun _ h => by cases h) rfl ?_
    refine W_assign rfl rfl ?_
    refine W_nil ?_
    refine W_condT rfl rfl ?_
    refine W_sr ?_
    refine W_build ty72 pl72 .nil rfl zF rfl ?_
    refine W_storeA (l' := zSpot.v) rfl rfl ty72 rfl rfl (b := b8) zM (by exact Nat.le_refl 4) rfl zU ?_
    refine W_assign rfl rfl ?_
    refine W_nil ?_
    refine W_ret2G (H2 := HB ++ H) Tryd.results28 (.nil _) (.own rfl ty72 rfl zM rfl) (.tmp rfl) zH ?_
    exact ⟨Ws, HB, zSpot, 2, hB, rfl, .cpu hwl, rfl⟩
  · skip
    rw [ofV_some hwl]
    obtain ⟨k, hck, hwk⟩ := wlAt_at hwl
    refine W_assign rfl rfl ?_
    refine W_nil ?_
    refine W_seq ?_
    refine W_block ?_
    refine W_sr ?_
    refine W_move rfl rfl ?_
    refine W_x (X_ptrNil rfl rfl ty59) (fun _ h => by cases h) rfl ?_
    refine W_assign rfl rfl ?_
    refine W_nil ?_
    refine W_condF rfl rfl ?_
    refine W_sr ?_
    refine W_move rfl rfl ?_
    refine W_x (X_ptrNil rfl rfl ty140) (fun _ h => by cases h) rfl ?_
    refine W_assign rfl rfl ?_
    refine W_nil ?_
    refine W_condF rfl rfl ?_
    refine W_skip ?_
    refine W_blk ?_
    refine W_seq ?_
    refine W_sr ?_
    refine W_move rfl rfl ?_
    refine W_move rfl rfl ?_
    refine W_call (.cons rfl (.cons rfl .nil)) Tryd.call36 rfl (LCalls.hsub (FindB_L (id := id) hB hn64 (H := (b8, .cells 72 4 zSpot.v) :: H)) zH) ?_
    rintro v H' ⟨HB1, hB1, rfl, rfl⟩
    rcases hfk : findK Ws id with _ | kf
    · skip
      rw [show findV Ws id = .tuple #[.int .i64 0, .agg zSpot.v.toArray, .bool false] from by unfold findV; rw [hfk]]
      obtain ⟨HW1, HR1, hW1, hs3, hs4⟩ := hB1.at hwk
      have hno := findK_no hfk (List.mem_of_getElem? hwk)
      have hnm := wheel_now hW1
      refine W_move rfl rfl ?_
      refine W_extract rfl rfl rfl ?_
      refine W_extract rfl rfl rfl ?_
      refine W_extract rfl rfl rfl ?_
      refine W_alloc (l := zSpot.v) ty72 rfl rfl (fun b12 => ?_)
      refine W_assign rfl rfl ?_
      refine W_storeA (l' := zSpot.v) rfl rfl ty72 rfl rfl (b := b12) zM (by exact Nat.le_refl 4) rfl zU ?_
      refine W_assign rfl rfl ?_
      refine W_nil ?_
      refine W_sr ?_
      refine W_move rfl rfl ?_
      refine W_nil ?_
      refine W_condF rfl rfl ?_
      refine W_skip ?_
      refine W_sr ?_
      refine W_hsub (H' := HB1 ++ ((b8, .cells 72 4 zSpot.v) :: H)) zH ?_
      rcases put_ways3 w.now (hnow w (List.mem_of_getElem? hwk)) id with hr | ⟨hr, hnm2⟩ | ⟨hr, hlt⟩
      · skip
        refine W_move rfl rfl ?_
        refine W_move rfl rfl ?_
        refine W_move rfl rfl ?_
        refine W_callp (.cons rfl (.cons rfl (.cons rfl .nil))) Tryd.call67 rfl (T := fun _ => True) trivial (Put_range (bw := w.bw) (id := id) (z := (a : Int)) (by omega)) ?_
        refine W_extract rfl rfl rfl ?_
        refine W_extract rfl rfl rfl ?_
        refine W_storeA (l' := zSpot.v) rfl rfl ty72 rfl rfl (b := b8) zM (by exact Nat.le_refl 4) rfl zU ?_
        refine W_assign rfl rfl ?_
        refine W_nil ?_
        refine W_ret2G (H2 := HB1 ++ H) Tryd.results28 (.nil _) (.own rfl ty72 rfl zM rfl) (.tmp rfl) zH ?_
        exact ⟨Ws, HB1, zSpot, 2, hB1, rfl, .range hwl hfk hr, rfl⟩
      · skip
        refine W_move rfl rfl ?_
        refine W_move rfl rfl ?_
        refine W_move rfl rfl ?_
        refine W_hsub (H' := HW1 ++ ((b8, .cells 72 4 zSpot.v) :: (HR1 ++ H))) ((hs3 ((b8, .cells 72 4 zSpot.v) :: H)).trans zH) ?_
        refine W_call (.cons rfl (.cons rfl (.cons rfl .nil))) Tryd.call67 rfl (Put_late' (a := a) hW1 hr ha hno hnm2 (H := (b8, .cells 72 4 zSpot.v) :: (HR1 ++ H))) ?_
        rintro v H' ⟨rfl, rfl⟩
        obtain ⟨HB2, hB2, hs5⟩ := hs4 w HW1 rfl hW1
        rw [set_same hwk] at hB2
        refine W_hsub (H' := (b8, .cells 72 4 zSpot.v) :: (HB2 ++ H)) ((show HSub _ ((b8, .cells 72 4 zSpot.v) :: (HW1 ++ (HR1 ++ H))) from zH).trans (.cons (.here _) (hs5 H))) ?_
        refine W_extract rfl rfl rfl ?_
        refine W_extract rfl rfl rfl ?_
        refine W_storeA (l' := zSpot.v) rfl rfl ty72 rfl rfl (b := b8) zM (by exact Nat.le_refl 4) rfl zU ?_
        refine W_assign rfl rfl ?_
        refine W_nil ?_
        refine W_ret2G (H2 := HB2 ++ H) Tryd.results28 (.nil _) (.own rfl ty72 rfl zM rfl) (.tmp rfl) zH ?_
        exact ⟨Ws, HB2, zSpot, 12, hB2, rfl, .late hwl hfk hr hnm2, rfl⟩
      · skip
        refine W_move rfl rfl ?_
        refine W_move rfl rfl ?_
        refine W_move rfl rfl ?_
        refine W_hsub (H' := HW1 ++ ((b8, .cells 72 4 zSpot.v) :: (HR1 ++ H))) ((hs3 ((b8, .cells 72 4 zSpot.v) :: H)).trans zH) ?_
        refine W_call (.cons rfl (.cons rfl (.cons rfl .nil))) Tryd.call67 rfl (Put_L (a := a) hW1 hlt ha hr hno (htn w (List.mem_of_getElem? hwk)) (H := (b8, .cells 72 4 zSpot.v) :: (HR1 ++ H))) ?_
        rintro v H' ⟨HW2, hW2, rfl, rfl⟩
        obtain ⟨HB2, hB2, hs5⟩ := hs4 ⟨w.bw, w.now, w.L ++ [tmOf w.now a w.turn id], w.turn + 1⟩ HW2 rfl hW2
        refine W_hsub (H' := (b8, .cells 72 4 zSpot.v) :: (HB2 ++ H)) ((show HSub _ ((b8, .cells 72 4 zSpot.v) :: (HW2 ++ (HR1 ++ H))) from zH).trans (.cons (.here _) (hs5 H))) ?_
        refine W_extract rfl rfl rfl ?_
        refine W_extract rfl rfl rfl ?_
        refine W_storeA (l' := (placeT w.now a).1.v) rfl rfl ty72 rfl rfl (b := b8) zM (by exact Nat.le_refl 4) rfl zU ?_
        refine W_assign rfl rfl ?_
        refine W_nil ?_
        refine W_ret2G (H2 := HB2 ++ H) Tryd.results28 (.nil _) (.own rfl ty72 rfl zM rfl) (.tmp rfl) zH ?_
        exact ⟨_, HB2, _, 0, hB2, rfl, .ok hck hwk hfk hr hlt, rfl⟩
    · skip
      obtain ⟨wf, hwf, hfh⟩ := findK_at hfk
      rw [show findV Ws id = .tuple #[.int .i64 (kf : Int), .agg (spotOf wf.L id).v.toArray, .bool true] from by unfold findV; rw [hfk]; dsimp only; rw [hwf]]
      refine W_move rfl rfl ?_
      refine W_extract rfl rfl rfl ?_
      refine W_extract rfl rfl rfl ?_
      refine W_extract rfl rfl rfl ?_
      refine W_alloc (l := zSpot.v) ty72 rfl rfl (fun b12 => ?_)
      refine W_assign rfl rfl ?_
      refine W_storeA (l' := (spotOf wf.L id).v) rfl rfl ty72 rfl rfl (b := b12) zM (by exact Nat.le_refl 4) rfl zU ?_
      refine W_assign rfl rfl ?_
      refine W_nil ?_
      refine W_sr ?_
      refine W_move rfl rfl ?_
      refine W_nil ?_
      refine W_condT rfl rfl ?_
      refine W_sr ?_
      refine W_build ty72 pl72 .nil rfl zF rfl ?_
      refine W_storeA (l' := zSpot.v) rfl rfl ty72 rfl rfl (b := b8) zM (by exact Nat.le_refl 4) rfl zU ?_
      refine W_assign rfl rfl ?_
      refine W_nil ?_
      refine W_ret2G (H2 := HB1 ++ H) Tryd.results28 (.nil _) (.own rfl ty72 rfl zM rfl) (.tmp rfl) zH ?_
      exact ⟨Ws, HB1, zSpot, 5, hB1, rfl, .twice hwl hfk, rfl⟩
end Go.Proofs.YtkcaakkaioingaaDoor
namespace Go.Proofs.YtkcaakkaioingaaDoor
open Go Go.Sl
attribute [local irreducible] W
set_option maxHeartbeats 1000000 in
theorem lenc_pure {x y : Value} : Pure Tryd.prog (fun _ => True) 81 [x, y] (.bool true) := by
  intro w0 H hT
  refine L_enter Tryd.func81 rfl Tryd.ntmps81 rfl rfl ?_
  refine W_sr ?_
  refine W_assign rfl rfl ?_
  refine W_nil ?_
  refine W_sr ?_
  refine W_assign rfl rfl ?_
  refine W_nil ?_
  refine W_ret1m (H2 := H) Tryd.results81 rfl (.nil _) zH ?_
  exact ⟨rfl, rfl⟩
set_option maxHeartbeats 1000000 in
theorem delc_pure {x y : Value} : Pure Tryd.prog (fun _ => True) 70 [x, y] (.bool true) := by
  intro w0 H hT
  refine L_enter Tryd.func70 rfl Tryd.ntmps70 rfl rfl ?_
  refine W_sr ?_
  refine W_assign rfl rfl ?_
  refine W_nil ?_
  refine W_sr ?_
  refine W_assign rfl rfl ?_
  refine W_nil ?_
  refine W_ret1m (H2 := H) Tryd.results70 rfl (.nil _) zH ?_
  exact ⟨rfl, rfl⟩
theorem len_q2 {w0 : World} {H HW : Heap} {bw now turn : Nat} {L : List Tm} (hW : WheelH bw now L turn HW) (hm : ∀ p ∈ HW, p ∈ H) : PureAt Tryd.prog w0 H 82 [.pointer (some ⟨bw, 0, none⟩)] (.int .i64 (L.length : Int)) := by
  cases hW with
  | @mk bm c sl XS bs l h =>
    have := Len_q (w0 := w0) (H := H) (now := now) (turn := turn) (c := c) (l := l) h.row (hm _ List.mem_cons_self) (hm _ (List.mem_cons_of_mem _ List.mem_cons_self))
    have e : l.length = L.length := by have := h.keys.length_eq; rwa [List.length_map, List.length_map] at this
    rw [e] at this
    exact this
def lenK (Ws : List Wl) : Nat → Nat
  | 0 => 0
  | k + 1 => lenK Ws k + match Ws[k]? with
    | some w => w.L.length
    | none => 0
theorem lenK_at {Ws : List Wl} {k : Nat} {w : Wl} (h : Ws[k]? = some w) : lenK Ws (k + 1) = lenK Ws k + w.L.length := by
  show lenK Ws k + (match Ws[k]? with | some w => w.L.length | none => 0) = _
  rw [h]
theorem lenK_le {Ws : List Wl} (h : ∀ w ∈ Ws, w.L.length ≤ 256) : ∀ k, lenK Ws k ≤ k * 256
  | 0 => Nat.zero_le _
  | k + 1 => by
    have ih := lenK_le h k
    rw [Nat.add_mul]
    show lenK Ws k + (match Ws[k]? with | some w => w.L.length | none => 0) ≤ _
    refine Nat.add_le_add ih ?_
    cases hk : Ws[k]? with
    | none => exact Nat.zero_le _
    | some w => exact Nat.le_trans (h w (List.mem_of_getElem? hk)) (Nat.le_of_eq (Nat.one_mul 256).symm)
theorem BankH.lens {bb : Nat} {Ws : List Wl} {HB : Heap} (h : BankH bb Ws HB) : ∀ w ∈ Ws, w.L.length ≤ 256 := fun w hw => by
  obtain ⟨k, hk, e⟩ := List.getElem_of_mem hw
  obtain ⟨HW, hW, _⟩ := h.wheel (k := k) (w := w) (by rw [List.getElem?_eq_getElem hk, e])
  exact hW.ids.2.2.2
set_option maxHeartbeats 4000000 in
theorem LenB_L {w0 : World} {H : Heap} {HB : Heap} {bb : Nat} {Ws : List Wl} (hB : BankH bb Ws HB) (hn64 : Ws.length ≤ 64)  : LCalls Tryd.prog w0 41 #[.pointer (some ⟨bb, 0, none⟩)] (HB ++ H) (fun v H' => ∃ HB', BankH bb Ws HB' ∧ v = .int .i64 (lenK Ws Ws.length : Nat) ∧ H' = HB' ++ H) := by
  refine L_enter (l := [.pointer (some ⟨bb, 0, none⟩)]) Tryd.func41 rfl Tryd.ntmps41 rfl rfl ?_
  refine W_sr ?_
  refine W_assign rfl rfl ?_
  refine W_nil ?_
  refine W_sr ?_
  refine W_alloc (l := [.int .i64 0]) ty3 rfl rfl (fun b3 => ?_)
  refine W_store (l' := [.int .i64 0]) rfl rfl ty3 rfl rfl (b := b3) zM rfl rfl zU ?_
  refine W_nil ?_
  refine W_seq ?_
  refine W_sr ?_
  refine W_move rfl rfl ?_
  refine W_call (.cons rfl (.cons rfl .nil)) Tryd.call69 rfl (such_L (b := .pointer (some ⟨bb, 0, none⟩)) (f := (Value.func (.func 81) #[] #[])) rfl rfl) ?_
  rintro v H' ⟨b2_, b3_, rfl, rfl⟩
  refine W_nil ?_
  refine W_block ?_
  refine W_rangeFunc rfl Tryd.call108 ?_
  intro lp D r hst hpd hps hasg hbody hA
  have hr := loop_ready hst hpd
  show LCalls _ _ _ #[_, _, _] _ _
  refine ((such_iter (b2 := b2_) (b3 := b3_) (bb := bb) (n := Ws.length) (fi := 81) (ca := []) (Ws0 := Ws) (HB0 := HB) (H := (lp, .obj (.loop r)) :: (D, .obj (.deferred (some []))) :: (b3, .cells 3 1 [.int .i64 (0 : Int)]) :: H) (fun k Ws2 Hr => Ws2 = Ws ∧ Hr = (lp, .obj (.loop r)) :: (D, .obj (.deferred (some []))) :: (b3, .cells 3 1 [.int .i64 ((lenK Ws k : Nat) : Int)]) :: H) (fun _ _ => False) (fun _ _ => true) Tryd.call81 hn64 (fun k Ws' Hr hJ => by rw [hJ.1]) (fun k Ws2 HB2 Hr w hk hw hB2 hJ => lenc_pure.at trivial) (fun k Ws2 Hr w hk hw hJ hs => by cases hs) ?_ hB ⟨rfl, rfl⟩).hsub zH).mono ?_
  · intro k Ws2 HB2 Hr w hk hw hB2 hJ hs
    obtain ⟨rfl, rfl⟩ := hJ
    obtain ⟨HW, hW, hmw⟩ := hB2.wheel hw
    have hl1 := lenK_le hB2.lens k
    have hl2 := hB2.lens w (List.mem_of_getElem? hw)
    have hl3 := lenK_at hw
    refine round_intro hst hpd hA hps rfl hasg rfl rfl rfl zT ?_
    refine W_region ?_
    refine W_assign rfl rfl ?_
    refine W_nil ?_
    refine W_begin hst hpd zT hbody ?_
    refine W_block ?_
    refine Rd.W_anyS [(b3, .cells 3 1 [.int .i64 ((lenK Ws2 k : Nat) : Int)])] 4 (by kernel_rfl) ?_
    refine Rd.WS_take 0 (l' := #[true, false, false, false, false]) rfl rfl (by decide +kernel) (by decide +kernel) (by decide +kernel) (by decide +kernel) (by decide +kernel) rfl (by decide +kernel) (X_load (v := .int .i64 (lenK Ws2 k : Nat)) rfl ty3 rfl (Cell.own (b := b3) zM rfl)) rfl ?_
    refine Rd.WS_take 1 (l' := #[true, true, false, false, false]) rfl rfl (by decide +kernel) (by decide +kernel) (by decide +kernel) (by decide +kernel) (by decide +kernel) rfl (by decide +kernel) (X_move rfl) rfl ?_
    refine Rd.WS_one 2 (l' := #[true, true, true, false, false]) zH rfl (by decide +kernel) rfl (by decide +kernel) ?_
    refine W_callq (.cons rfl .nil) Tryd.call82 rfl (len_q2 hW (fun p hp => (by repeat (first | exact List.mem_append_left _ (hmw p hp) | exact List.mem_cons_self | apply List.mem_cons_of_mem | apply List.mem_append_right)))) ?_
    refine W_nil ?_
    refine Rd.WS_goal ?_
    refine Rd.WS_take 3 (l' := #[true, true, true, true, false]) rfl rfl (by decide +kernel) (by decide +kernel) (by decide +kernel) (by decide +kernel) (by decide +kernel) rfl (by decide +kernel) (X_bin rfl rfl (b_add (m := ((lenK Ws2 (k + 1) : Nat) : Int)) (by rw [i64w (by omega)]; omega))) rfl ?_
    refine Rd.WS_last (l' := #[true, true, true, true, true]) zH (by decide +kernel) rfl (by decide +kernel) ?_
    refine W_store (l' := [.int .i64 (lenK Ws2 (k + 1) : Nat)]) rfl rfl ty3 rfl rfl (b := b3) zM rfl rfl zU ?_
    refine W_nil ?_
    refine Rd.WC_goal ?_
    refine Rd.WC_done (.nil _) (by decide +kernel) ?_
    refine W_blk ?_
    refine W_endround zT ?_
    rw [hr]
    exact ⟨Ws2, HB2, (lp, .obj (.loop r)) :: (D, .obj (.deferred (some []))) :: (b3, .cells 3 1 [.int .i64 ((lenK Ws2 (k + 1) : Nat) : Int)]) :: H, hB2, zH, .inl ⟨rfl, rfl, rfl⟩⟩
  · intro _ H' hp
    obtain ⟨Ws2, HB2, Hr, hB2, hs, hJS⟩ := hp
    obtain ⟨rfl, rfl⟩ := hJS.resolve_right (fun h => h)
    refine ⟨.ready, none, (b2_, .cells 59 1 [.pointer (some ⟨bb, 0, none⟩)]) :: (b3_, .cells 152 1 [(Value.func (.func 81) #[] #[])]) :: (HB2 ++ ((D, .obj (.deferred (some []))) :: (b3, .cells 3 1 [.int .i64 ((lenK Ws2 Ws2.length : Nat) : Int)]) :: H)), by rw [hr]; exact hs.trans zH, by decide, ?_⟩
    show W _ _ _ _ _ _ _ _ _
    refine W_blk ?_
    refine W_sr ?_
    refine W_load (v := .int .i64 (lenK Ws2 Ws2.length : Nat)) rfl ty3 rfl (Cell.own (b := b3) zM rfl) rfl ?_
    refine W_assign rfl rfl ?_
    refine W_nil ?_
    refine W_ret1m (H2 := HB2 ++ H) Tryd.results41 rfl (.cons zT (.nil _)) zH ?_
    exact ⟨HB2, hB2, rfl, rfl⟩
def delW (l : List Int) (w : Wl) : Wl := ⟨w.bw, w.now, (delsT w.L l).1, w.turn⟩
def delK (Ws : List Wl) (l : List Int) (k : Nat) : List Wl := (Ws.take k).map (delW l) ++ Ws.drop k
theorem delK_len (Ws : List Wl) (l : List Int) (k : Nat) : (delK Ws l k).length = Ws.length := by
  unfold delK
  rw [List.length_append, List.length_map, List.length_take, List.length_drop]; omega
theorem delK_at {Ws : List Wl} {l : List Int} {k : Nat} {w : Wl} (h : Ws[k]? = some w) : (delK Ws l k)[k]? = some w := by
  have hk := (List.getElem?_eq_some_iff.1 h).1
  unfold delK
  rw [List.getElem?_append_right (by rw [List.length_map, List.length_take]; omega), List.length_map, List.length_take, Nat.min_eq_left (by omega), Nat.sub_self, List.getElem?_drop, Nat.add_zero, h]
theorem delK_set {Ws : List Wl} {l : List Int} {k : Nat} {w : Wl} (h : Ws[k]? = some w) : (delK Ws l k).set k (delW l w) = delK Ws l (k + 1) := by
  have hk := (List.getElem?_eq_some_iff.1 h).1
  have e : Ws.drop k = w :: Ws.drop (k + 1) := by
    rw [List.drop_eq_getElem_cons hk, (List.getElem?_eq_some_iff.1 h).2]
  unfold delK
  rw [takeAt h, List.map_append, e, List.set_append_right _ _ (by rw [List.length_map, List.length_take]; omega), List.length_map, List.length_take, Nat.min_eq_left (by omega), Nat.sub_self]
  simp
theorem delK_all (Ws : List Wl) (l : List Int) : delK Ws l Ws.length = Ws.map (delW l) := by
  unfold delK
  rw [List.take_length, List.drop_length, List.append_nil]
def cntK (Ws : List Wl) (l : List Int) : Nat → Nat
  | 0 => 0
  | k + 1 => cntK Ws l k + match Ws[k]? with
    | some w => (delsT w.L l).2
    | none => 0
theorem cntK_at {Ws : List Wl} {l : List Int} {k : Nat} {w : Wl} (h : Ws[k]? = some w) : cntK Ws l (k + 1) = cntK Ws l k + (delsT w.L l).2 := by
  show cntK Ws l k + (match Ws[k]? with | some w => (delsT w.L l).2 | none => 0) = _
  rw [h]
theorem delsT_le2 (L : List Tm) (l : List Int) : (delsT L l).2 ≤ l.length := by
  have := delsT_le L l l.length (Nat.le_refl _)
  rwa [List.take_length] at this
theorem cntK_le (Ws : List Wl) (l : List Int) : ∀ k, cntK Ws l k ≤ k * l.length
  | 0 => Nat.zero_le _
  | k + 1 => by
    have ih := cntK_le Ws l k
    rw [Nat.add_mul]
    show cntK Ws l k + (match Ws[k]? with | some w => (delsT w.L l).2 | none => 0) ≤ _
    refine Nat.add_le_add ih ?_
    cases hk : Ws[k]? with
    | none => exact Nat.zero_le _
    | some w => exact Nat.le_trans (delsT_le2 w.L l) (Nat.le_of_eq (Nat.one_mul _).symm)
set_option maxHeartbeats 4000000 in
theorem DelB_L {w0 : World} {H : Heap} {HB : Heap} {bb : Nat} {Ws : List Wl} (hB : BankH bb Ws HB) (hn64 : Ws.length ≤ 64) {l : List Int} {ad : Option Addr} {cap : Nat} (hl : l.length ≤ 4611686018427387904) (hl2 : l.length ≤ 1000000) (hrow : Holds w0 H ad (l.map (Value.int .i64)))  : LCalls Tryd.prog w0 31 #[.pointer (some ⟨bb, 0, none⟩), .slice ad l.length cap] (HB ++ H) (fun v H' => ∃ HB', BankH bb (Ws.map (delW l)) HB' ∧ v = .int .i64 (cntK Ws l Ws.length : Nat) ∧ H' = HB' ++ H) := by
  refine L_enter (l := [.pointer (some ⟨bb, 0, none⟩), .slice ad l.length cap]) Tryd.func31 rfl Tryd.ntmps31 rfl rfl ?_
  refine W_sr ?_
  refine W_box (l := [.slice ad l.length cap]) rfl rfl rfl (fun b3 => ?_)
  refine W_assign rfl rfl ?_
  refine W_nil ?_
  refine W_sr ?_
  refine W_alloc (l := [.int .i64 0]) ty3 rfl rfl (fun b5 => ?_)
  refine W_store (l' := [.int .i64 0]) rfl rfl ty3 rfl rfl (b := b5) zM rfl rfl zU ?_
  refine W_nil ?_
  refine W_seq ?_
  refine W_sr ?_
  refine W_move rfl rfl ?_
  refine W_call (.cons rfl (.cons rfl .nil)) Tryd.call69 rfl (such_L (b := .pointer (some ⟨bb, 0, none⟩)) (f := (Value.func (.func 70) #[] #[])) rfl rfl) ?_
  rintro v H' ⟨b2_, b3_, rfl, rfl⟩
  refine W_nil ?_
  refine W_block ?_
  refine W_rangeFunc rfl Tryd.call108 ?_
  intro lp D r hst hpd hps hasg hbody hA
  have hr := loop_ready hst hpd
  show LCalls _ _ _ #[_, _, _] _ _
  refine ((such_iter (b2 := b2_) (b3 := b3_) (bb := bb) (n := Ws.length) (fi := 70) (ca := []) (Ws0 := Ws) (HB0 := HB) (H := (lp, .obj (.loop r)) :: (D, .obj (.deferred (some []))) :: (b5, .cells 3 1 [.int .i64 (0 : Int)]) :: (b3, .cells 58 1 [.slice ad l.length cap]) :: H) (fun k Ws2 Hr => Ws2 = delK Ws l k ∧ Hr = (lp, .obj (.loop r)) :: (D, .obj (.deferred (some []))) :: (b5, .cells 3 1 [.int .i64 ((cntK Ws l k : Nat) : Int)]) :: (b3, .cells 58 1 [.slice ad l.length cap]) :: H) (fun _ _ => False) (fun _ _ => true) Tryd.call70 hn64 (fun k Ws' Hr hJ => by rw [hJ.1, delK_len]) (fun k Ws2 HB2 Hr w hk hw hB2 hJ => delc_pure.at trivial) (fun k Ws2 Hr w hk hw hJ hs => by cases hs) ?_ hB ⟨by unfold delK; rw [List.take_zero, List.drop_zero]; rfl, rfl⟩).hsub zH).mono ?_
  · intro k Ws2 HB2 Hr w hk hw hB2 hJ hs
    obtain ⟨rfl, rfl⟩ := hJ
    obtain ⟨w2, hw2⟩ : ∃ w2, Ws[k]? = some w2 := ⟨_, List.getElem?_eq_getElem hk⟩
    obtain rfl : w = w2 := Option.some.inj (hw.symm.trans (delK_at hw2))
    obtain ⟨HW, HR, hW, hs1, hs2⟩ := hB2.at hw
    have hc1 := cntK_le Ws l k
    have hc2 := delsT_le2 w.L l
    have hc3 := cntK_at (l := l) hw2
    have hc4 : k * l.length ≤ 64 * l.length := Nat.mul_le_mul_right _ (by omega)
    refine round_intro hst hpd hA hps rfl hasg rfl rfl rfl zT ?_
    refine W_region ?_
    refine W_assign rfl rfl ?_
    refine W_nil ?_
    refine W_begin hst hpd zT hbody ?_
    refine W_block ?_
    refine Rd.W_anyS [(b5, .cells 3 1 [.int .i64 ((cntK Ws l k : Nat) : Int)]), (b3, .cells 58 1 [.slice ad l.length cap])] 5 (by kernel_rfl) ?_
    refine Rd.WS_take 0 (l' := #[true, false, false, false, false, false]) rfl rfl (by decide +kernel) (by decide +kernel) (by decide +kernel) (by decide +kernel) (by decide +kernel) rfl (by decide +kernel) (X_load (v := .int .i64 (cntK Ws l k : Nat)) rfl ty3 rfl (Cell.own (b := b5) zM rfl)) rfl ?_
    refine Rd.WS_take 1 (l' := #[true, true, false, false, false, false]) rfl rfl (by decide +kernel) (by decide +kernel) (by decide +kernel) (by decide +kernel) (by decide +kernel) rfl (by decide +kernel) (X_move rfl) rfl ?_
    refine Rd.WS_take 2 (l' := #[true, true, true, false, false, false]) rfl rfl (by decide +kernel) (by decide +kernel) (by decide +kernel) (by decide +kernel) (by decide +kernel) rfl (by decide +kernel) (X_load (v := .slice ad l.length cap) rfl ty58 rfl (Cell.own (b := b3) zM rfl)) rfl ?_
    refine Rd.WS_one 3 (l' := #[true, true, true, true, false, false]) zH rfl (by decide +kernel) rfl (by decide +kernel) ?_
    refine W_hsub (H' := HW ++ (HR ++ ((lp, .obj (.loop (Loop.at r .busy none))) :: (b2_, .cells 59 1 [.pointer (some ⟨bb, 0, none⟩)]) :: (b3_, .cells 152 1 [(Value.func (.func 70) #[] #[])]) :: (D, .obj (.deferred (some []))) :: (b5, .cells 3 1 [.int .i64 ((cntK Ws l k : Nat) : Int)]) :: (b3, .cells 58 1 [.slice ad l.length cap]) :: H))) ((show HSub _ (HB2 ++ ((lp, .obj (.loop (Loop.at r .busy none))) :: (b2_, .cells 59 1 [.pointer (some ⟨bb, 0, none⟩)]) :: (b3_, .cells 152 1 [(Value.func (.func 70) #[] #[])]) :: (D, .obj (.deferred (some []))) :: (b5, .cells 3 1 [.int .i64 ((cntK Ws l k : Nat) : Int)]) :: (b3, .cells 58 1 [.slice ad l.length cap]) :: H)) from zH).trans (hs1 _)) ?_
    refine W_call (.cons rfl (.cons rfl .nil)) Tryd.call71 rfl (Del_L (l := l) hW hl (H := HR ++ ((lp, .obj (.loop (Loop.at r .busy none))) :: (b2_, .cells 59 1 [.pointer (some ⟨bb, 0, none⟩)]) :: (b3_, .cells 152 1 [(Value.func (.func 70) #[] #[])]) :: (D, .obj (.deferred (some []))) :: (b5, .cells 3 1 [.int .i64 ((cntK Ws l k : Nat) : Int)]) :: (b3, .cells 58 1 [.slice ad l.length cap]) :: H)) (hrow.up zH)) ?_
    rintro v H' ⟨HW', hW', rfl, rfl⟩
    obtain ⟨HB3, hB3, hs3⟩ := hs2 (delW l w) HW' rfl hW'
    rw [delK_set hw2] at hB3
    refine W_hsub (hs3 _) ?_
    refine W_nil ?_
    refine Rd.WS_goal ?_
    refine Rd.WS_take 4 (l' := #[true, true, true, true, true, false]) rfl rfl (by decide +kernel) (by decide +kernel) (by decide +kernel) (by decide +kernel) (by decide +kernel) rfl (by decide +kernel) (X_bin rfl rfl (b_add (m := ((cntK Ws l (k + 1) : Nat) : Int)) (by rw [i64w (by omega)]; omega))) rfl ?_
    refine Rd.WS_last (l' := #[true, true, true, true, true, true]) zH (by decide +kernel) rfl (by decide +kernel) ?_
    refine W_store (l' := [.int .i64 (cntK Ws l (k + 1) : Nat)]) rfl rfl ty3 rfl rfl (b := b5) zM rfl rfl zU ?_
    refine W_nil ?_
    refine Rd.WC_goal ?_
    refine Rd.WC_done (.nil _) (by decide +kernel) ?_
    refine W_blk ?_
    refine W_endround zT ?_
    rw [hr]
    exact ⟨delK Ws l (k + 1), HB3, (lp, .obj (.loop r)) :: (D, .obj (.deferred (some []))) :: (b5, .cells 3 1 [.int .i64 ((cntK Ws l (k + 1) : Nat) : Int)]) :: (b3, .cells 58 1 [.slice ad l.length cap]) :: H, hB3, zH, .inl ⟨rfl, rfl, rfl⟩⟩
  · intro _ H' hp
    obtain ⟨Ws2, HB2, Hr, hB2, hs, hJS⟩ := hp
    obtain ⟨rfl, rfl⟩ := hJS.resolve_right (fun h => h)
    rw [delK_all] at hB2
    refine ⟨.ready, none, (b2_, .cells 59 1 [.pointer (some ⟨bb, 0, none⟩)]) :: (b3_, .cells 152 1 [(Value.func (.func 70) #[] #[])]) :: (HB2 ++ ((D, .obj (.deferred (some []))) :: (b5, .cells 3 1 [.int .i64 ((cntK Ws l Ws.length : Nat) : Int)]) :: (b3, .cells 58 1 [.slice ad l.length cap]) :: H)), by rw [hr]; exact hs.trans zH, by decide, ?_⟩
    show W _ _ _ _ _ _ _ _ _
    refine W_blk ?_
    refine W_sr ?_
    refine W_load (v := .int .i64 (cntK Ws l Ws.length : Nat)) rfl ty3 rfl (Cell.own (b := b5) zM rfl) rfl ?_
    refine W_assign rfl rfl ?_
    refine W_nil ?_
    refine W_ret1m (H2 := HB2 ++ H) Tryd.results31 rfl (.cons zT (.nil _)) zH ?_
    exact ⟨HB2, hB2, rfl, rfl⟩
end Go.Proofs.YtkcaakkaioingaaDoor
