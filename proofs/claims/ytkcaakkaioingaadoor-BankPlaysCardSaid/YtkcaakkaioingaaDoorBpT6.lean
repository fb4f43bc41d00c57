/-
  Own work: contracts of functions that the statement reaches, and plain facts on what they compute; each theorem says its conditions.
-/
import Derived.Test.YtkcaakkaioingaaDoorBpT5
import Derived.Test.YtkcaakkaioingaaDoorBpS2
import Derived.Test.YtkcaakkaioingaaDoorBpS1
import Derived.Lib.LaidTab
import Derived.Lib.LaidIn
import Derived.Stop.LaidErr
import Derived.Test.YtkcaakkaioingaaDoorCards
import Derived.Test.YtkcaakkaioingaaDoorTie
import Derived.Test.YtkcaakkaioingaaDoorBpA
set_option linter.all false
set_option linter.unusedSimpArgs false
set_option linter.unusedVariables false
namespace Go.Proofs.YtkcaakkaioingaaDoor
open Go Go.Sl
attribute [local irreducible] W
theorem lenD_le {bb : Nat} {Ws : List Wl} {HB : Heap} (h : BankH bb Ws HB) (k : Nat) : lenD (Ws.drop k) ≤ Ws.length * 256 := by
  have h1 : ∀ l : List Wl, (∀ w ∈ l, w.L.length ≤ 256) → lenD l ≤ l.length * 256 := fun l => by
    induction l with
    | nil => intro _; exact Nat.le_refl _
    | cons w l ih =>
      intro hl
      have h2 := ih (fun u hu => hl u (List.mem_cons_of_mem _ hu))
      have h3 := hl w List.mem_cons_self
      have e : lenD (w :: l) = w.L.length + lenD l := by simp [lenD]
      rw [e, List.length_cons]; omega
  refine Nat.le_trans (h1 _ (fun w hw => h.lens w (List.mem_of_mem_drop hw))) ?_
  rw [List.length_drop]
  exact Nat.mul_le_mul_right _ (Nat.sub_le _ _)
theorem lateD_le {a : Nat} {Ws : List Wl} {k : Nat} (h : Ws.length ≤ 63) : lateD a (Ws.drop k) < 9223372036854775808 := by
  have h1 := lateD_lt a (Ws.drop k)
  have h2 : 2 ^ (Ws.drop k).length ≤ 2 ^ 63 := Nat.pow_le_pow_right (by decide) (by rw [List.length_drop]; omega)
  have h3 : (2 : Nat) ^ 63 = 9223372036854775808 := by decide
  omega
theorem stays_sel {o x : Option Nat} {s : Bool} (h : ¬ (s = true ∧ o.isSome = true ∧ (x.isSome = false ∨ o.getD 0 < x.getD 0))) : (if s = true then minO x o else x) = x := by
  cases s with
  | false => rfl
  | true => exact staysO (fun c => h ⟨rfl, c⟩)
theorem sel_snoc {b : Bool} {q z : Int} {l : List Int} : (b || decide (q ∈ l ++ [z])) = ((b || decide (q ∈ l)) || decide (z = q)) := by
  rw [Bool.or_assoc]
  congr 1
  rw [← Bool.decide_or]
  refine decide_eq_decide.2 ?_
  rw [List.mem_append, List.mem_singleton]
  exact or_congr Iff.rfl eq_comm
set_option maxHeartbeats 8000000 in
theorem bankPlays_pure {z : Int} {now : Nat} {acts : List Bct} {ada ad : Option Addr} {capa cap : Nat} {l : List Int} (hnow : now ≤ 18446744073709551615) (hok : ∀ a ∈ acts, a.In) (hacap : acts.length ≤ 9223372036854775807) (hlcap : l.length ≤ 9223372036854775807) (hcap : l.length ≤ cap) : Pure Tryd.prog (fun w => Tab w ∧ InRow w ada (bcRow acts) ∧ InRow w ad (l.map (Value.int .i64))) 5 [.int .i64 z, .int .u64 ((now : Nat) : Int), .slice ada acts.length capa, .slice ad l.length cap] (.bool true) := by
  intro w0 H hT
  have hacts : Holds w0 H ada (bcRow acts) := Holds.old hT.2.1
  have hrow : Holds w0 H ad (l.map (Value.int .i64)) := Holds.old hT.2.2
  replace hT := hT.1
  refine L_enter Tryd.func5 rfl Tryd.ntmps5 rfl rfl ?_
  refine W_sr ?_
  refine W_assign rfl rfl ?_
  refine W_nil ?_
  refine W_sr ?_
  refine W_move rfl rfl ?_
  refine W_conv rfl ty3 ty28 rfl rfl ?_
  obtain ⟨c, hc_, hce⟩ := modC_is z (N := 6) (by decide)
  obtain ⟨n, hN⟩ : ∃ n, n = 1 + c := ⟨_, rfl⟩
  refine W_bin rfl rfl (b_rem (by decide) (m := (c : Int)) hce) rfl ?_
  refine W_conv rfl ty28 ty3 (i64w (by omega)) rfl ?_
  refine W_bin rfl rfl (b_add (m := (n : Int)) (by rw [i64w (by omega)]; omega)) rfl ?_
  refine W_assign rfl rfl ?_
  refine W_nil ?_
  refine W_sr ?_
  refine W_move rfl rfl ?_
  refine W_move rfl rfl ?_
  refine W_call (.cons rfl (.cons rfl .nil)) Tryd.call24 rfl (NewB_L (n := n) (now := now) ⟨by omega, by omega⟩) ?_
  rintro v H' ⟨bb, Ws0, HB0, rfl, hB0, hWl, hfr, rfl⟩
  refine W_move rfl rfl ?_
  refine W_extract rfl rfl rfl ?_
  refine W_extract rfl rfl rfl ?_
  refine W_assign rfl rfl ?_
  refine W_assign rfl rfl ?_
  refine W_nil ?_
  refine W_seq ?_
  refine W_sr ?_
  refine W_move rfl rfl ?_
  refine W_bin rfl rfl b_neq rfl ?_
  refine W_move rfl rfl ?_
  refine W_gyes rfl rfl ?_
  refine W_move rfl rfl ?_
  refine W_gyes rfl rfl ?_
  refine W_callq (.cons rfl .nil) Tryd.call25 rfl (CPUs_q hB0 (fun p hp => List.mem_append_left _ hp)) ?_
  rw [hWl]
  refine W_gyes rfl rfl ?_
  refine W_move rfl rfl ?_
  refine W_gyes rfl rfl ?_
  refine W_bin rfl rfl b_neq rfl ?_
  rw [decide_eq_false (fun h => h rfl)]
  first | refine W_pickt rfl rfl rfl ?_ | refine W_pickf rfl rfl rfl ?_
  refine W_nil ?_
  refine W_condF rfl rfl ?_
  refine W_skip ?_
  refine W_sr ?_
  refine W_move rfl rfl ?_
  refine W_move rfl rfl ?_
  refine W_len rfl ty58 rfl rfl ?_
  obtain ⟨ask, hask⟩ : ∃ ask, ask = l.take 10 := ⟨_, rfl⟩
  have hal : ask.length = min l.length 10 := by rw [hask, List.length_take]; omega
  have haskr : Holds w0 H ad (ask.map (Value.int .i64)) := by rw [hask, List.map_take]; exact hrow.take 10
  refine W_min2 rfl rfl (m := ((ask.length : Nat) : Int)) (by split <;> omega) rfl ?_
  refine W_slice0 (hh := ask.length) rfl ty58 ty3 rfl ⟨_, rfl⟩ (by omega) rfl ?_
  refine W_assign rfl rfl ?_
  refine W_nil ?_
  refine W_sr ?_
  refine W_move rfl rfl ?_
  refine W_move rfl rfl ?_
  refine W_call (.cons rfl (.cons rfl .nil)) Tryd.call26 rfl ((rbNew_L (n := n) (now := now) (by omega) (H := HB0 ++ H)).hsub (.refl _)) ?_
  rintro v H' ⟨X0, hX0, rfl⟩
  rw [← fresh_st hWl hfr] at hX0
  refine W_assign rfl rfl ?_
  refine W_nil ?_
  refine W_seq ?_
  refine W_sr ?_
  refine W_assign rfl rfl ?_
  refine W_nil ?_
  refine W_block ?_
  refine W_loopC (X := BkS) [(0, _), (2, _), (3, _), (9, _)] (fun (x : BkS) => [(11, x.v), (12, .int .i64 (x.i : Int))]) (fun _ => _) (fun (x : BkS) => x.HB ++ (x.XR ++ H)) (fun (x : BkS) => x.i ≤ acts.length ∧ x.i ≤ 60 ∧ BkIs w0 H n bb x) (fun (x : BkS) => acts.length - x.i) ⟨0, Ws0, HB0, v, X0⟩ ⟨Nat.zero_le _, Nat.zero_le _, ⟨hB0, BOk.start hnow hfr, hWl, hX0.up hsub_pre⟩⟩ (sub_cons rfl (sub_cons rfl (sub_cons rfl (sub_cons rfl (sub_nil _))))) (sub_cons rfl (sub_cons rfl (sub_nil _))) rfl zH ?_
  rintro x ⟨hi, hi60, hx⟩
  simp only [List.cons_append, List.nil_append]
  refine W_seq ?_
  refine W_sr ?_
  refine W_move rfl rfl ?_
  refine W_move rfl rfl ?_
  refine W_len rfl ty57 rfl rfl ?_
  refine W_bin rfl rfl b_lss rfl ?_
  refine W_move rfl rfl ?_
  apply W_and
  iterate 4 exact rfl
  case h1 =>
    intro hg4
    refine W_gyes rfl rfl ?_
    refine W_move rfl rfl ?_
    refine W_gyes rfl rfl ?_
    refine W_bin rfl rfl b_lss rfl ?_
    exact W_met rfl zR
  refine W_nil ?_
  refine W_condPS (p := (x.i : Int) < (acts.length : Int) ∧ (x.i : Int) < 60) rfl (by first | exact Iff.rfl | simp) (fun q0 => ?_) (fun q0 => ?_)
  · skip
    refine W_skip ?_
    refine W_seq ?_
    refine W_block ?_
    refine W_sr ?_
    obtain ⟨a, hac⟩ : ∃ a, acts[x.i]? = some a := ⟨_, List.getElem?_eq_getElem (by omega)⟩
    obtain ⟨qx, px, rfl, hcx0⟩ := hacts.row bcC_len (by decide) hac
    obtain ⟨ha1, ha2, ha3, ha4⟩ := hok a (List.mem_of_getElem? hac)
    obtain ⟨at_, hat⟩ : ∃ at_ : Nat, a.at_ = (at_ : Int) := ⟨a.at_.toNat, by omega⟩
    have hatm : at_ ≤ 18446744073709551615 := by omega
    have hcx : Cells w0 H qx (px + x.i * 4) (.int .i64 a.cpu :: [.int .i64 a.kind, .int .i64 a.id, .int .u64 ((at_ : Nat) : Int)]) := by have h := hcx0; unfold bcC at h; rw [hat] at h; exact h
    have h64 : (stW x.Ws).length ≤ 64 := by rw [List.length_map, hx.len]; omega
    have hn64 : x.Ws.length ≤ 64 := by rw [hx.len]; omega
    have hrng := hx.bank.rng
    have hst := hx.bank.stOk hx.ok.now hx.ok.later
    refine W_move rfl rfl ?_
    refine W_move rfl rfl ?_
    refine W_indexAddr (j := x.i) rfl rfl ty57 ty67 (by first | rfl | omega) (by first | decide | omega | simp) rfl rfl ?_
    refine W_fieldAddr rfl fld67_1 (by decide) rfl ?_
    refine W_loadA (vs := [.int .i64 a.kind, .int .i64 a.id, .int .u64 ((at_ : Nat) : Int)]) rfl ty65 rfl rfl ((Cells.tail hcx).up zH) rfl ?_
    refine W_alloc (l := [.int .i64 0, .int .i64 0, .int .u64 0]) ty65 rfl rfl (fun b13 => ?_)
    refine W_storeA (l' := [.int .i64 a.kind, .int .i64 a.id, .int .u64 ((at_ : Nat) : Int)]) rfl rfl ty65 rfl rfl (b := b13) zM (by exact Nat.le_refl 3) rfl zU ?_
    refine W_nil ?_
    refine W_sr ?_
    refine W_move rfl rfl ?_
    refine W_move rfl rfl ?_
    refine W_indexAddr (j := x.i) rfl rfl ty57 ty67 (by first | rfl | omega) (by first | decide | omega | simp) rfl rfl ?_
    refine W_fieldAddr rfl fld67_0 (by decide) rfl ?_
    refine W_load (v := .int .i64 a.cpu) rfl ty3 rfl ((hcx 0 (.int .i64 a.cpu) rfl).up zH) rfl ?_
    refine W_assign rfl rfl ?_
    refine W_nil ?_
    refine W_seq ?_
    refine W_sr ?_
    refine W_fieldAddr rfl fld65_0 (by decide) rfl ?_
    refine W_load (v := .int .i64 a.kind) rfl ty3 rfl (Cell.own (b := b13) zM rfl) rfl ?_
    refine W_conv rfl ty3 ty28 rfl rfl ?_
    refine W_bin rfl rfl (b_rem (by decide) (m := kindOf a.kind) (kindOf_is _)) rfl ?_
    refine W_nil ?_
    refine W_cutX (X := BkS) (fun y => [(0, .int .i64 (n : Int)), (2, .slice (some ⟨qx, px, none⟩) acts.length capa), (3, .slice ad ask.length cap), (9, .pointer (some ⟨bb, 0, none⟩)), (11, y.v), (12, .int .i64 (x.i : Int)), (13, .pointer (some ⟨b13, 0, none⟩)), (14, .int .i64 a.cpu)]) (fun y => (b13, .cells 65 3 [.int .i64 a.kind, .int .i64 a.id, .int .u64 ((at_ : Nat) : Int)]) :: (y.HB ++ (y.XR ++ H))) (fun y => BkIs w0 H n bb y ∧ y.i = x.i + 1) ?_ ?_
    · skip
      refine W_block ?_
      refine W_seq ?_
      refine W_sr ?_
      refine W_bin rfl rfl b_eql rfl ?_
      refine W_assign rfl rfl ?_
      refine W_nil ?_
      refine W_condPS (p := kindOf a.kind = 0) rfl (by simp) (fun q1 => ?_) (fun q1 => ?_)
      · skip
        refine W_skip ?_
        refine W_condT rfl rfl ?_
        refine W_sr ?_
        refine W_move rfl rfl ?_
        refine W_move rfl rfl ?_
        refine W_fieldAddr rfl fld65_1 (by decide) rfl ?_
        refine W_load (v := .int .i64 a.id) rfl ty3 rfl (Cell.own (b := b13) zM rfl) rfl ?_
        refine W_fieldAddr rfl fld65_2 (by decide) rfl ?_
        refine W_load (v := .int .u64 ((at_ : Nat) : Int)) rfl ty28 rfl (Cell.own (b := b13) zM rfl) rfl ?_
        refine W_call (.cons rfl (.cons rfl (.cons rfl (.cons rfl .nil)))) Tryd.call27 rfl (rbPut_L (HR := x.XR ++ H) (tn := turnOf x.Ws a.cpu) (cpu := a.cpu) (id := a.id) (a := at_) hst hx.doc (show HSub _ (x.XR ++ H) from zH) h64 hatm) ?_
        rintro v H' ⟨v1, X1, rfl, hv1, rfl⟩
        obtain ⟨S1, s1, e1, hp1⟩ : ∃ S1 s1 e1, putS (stW x.Ws) (turnOf x.Ws a.cpu) a.cpu a.id at_ = (S1, s1, e1) := ⟨_, _, _, rfl⟩
        rw [hp1] at hv1 ⊢
        dsimp only at hv1 ⊢
        refine W_move rfl rfl ?_
        refine W_extract rfl rfl rfl ?_
        refine W_extract rfl rfl rfl ?_
        refine W_extract rfl rfl rfl ?_
        refine W_alloc (l := zSpot.v) ty69 rfl rfl (fun b16 => ?_)
        refine W_assign rfl rfl ?_
        refine W_storeA (l' := s1.v) rfl rfl ty69 rfl rfl (b := b16) zM (by exact Nat.le_refl 4) rfl zU ?_
        refine W_assign rfl rfl ?_
        refine W_nil ?_
        refine W_sr ?_
        refine W_move rfl rfl ?_
        refine W_move rfl rfl ?_
        refine W_fieldAddr rfl fld65_1 (by decide) rfl ?_
        refine W_load (v := .int .i64 a.id) rfl ty3 rfl (Cell.own (b := b13) zM rfl) rfl ?_
        refine W_fieldAddr rfl fld65_2 (by decide) rfl ?_
        refine W_load (v := .int .u64 ((at_ : Nat) : Int)) rfl ty28 rfl (Cell.own (b := b13) zM rfl) rfl ?_
        refine W_call (.cons rfl (.cons rfl (.cons rfl (.cons rfl .nil)))) Tryd.call28 rfl (LCalls.hsub (PutB_L (cpu := a.cpu) (id := a.id) (a := at_) hx.bank hn64 hatm hx.ok.now (fun w hw => Nat.le_trans (hx.ok.turn w hw) (by omega)) (H := (b16, .cells 69 4 s1.v) :: (X1 ++ ((b13, .cells 65 3 [.int .i64 a.kind, .int .i64 a.id, .int .u64 ((at_ : Nat) : Int)]) :: (x.XR ++ H))))) zH) ?_
        rintro v H' ⟨Ws2, HB2, s2, e2, hB2, rfl, hP, rfl⟩
        have hfn := hP.fn hrng
        rw [hp1] at hfn
        obtain ⟨rfl, hfn2⟩ := Prod.mk.inj hfn
        obtain ⟨rfl, rfl⟩ := Prod.mk.inj hfn2
        have hokn := hx.ok.put hrng hP hB2
        refine W_move rfl rfl ?_
        refine W_extract rfl rfl rfl ?_
        refine W_extract rfl rfl rfl ?_
        refine W_alloc (l := zSpot.v) ty72 rfl rfl (fun b18 => ?_)
        refine W_storeA (l' := s1.v) rfl rfl ty72 rfl rfl (b := b18) zM (by exact Nat.le_refl 4) rfl zU ?_
        refine W_assign rfl rfl ?_
        refine W_nil ?_
        refine W_seq ?_
        refine W_quietsr (by kernel_rfl) (by decide +kernel) ?_
        refine WQ_x (X_loadB (vs := s1.v) rfl ty72 rfl (b := b18) zM rfl rfl) rfl ?_
        refine WQ_callp (.cons rfl .nil) Tryd.call29 rfl (T := fun _ => True) trivial rOfS_pure ?_
        refine WQ_x (X_loadB (vs := s1.v) rfl ty69 rfl (b := b16) zM rfl rfl) rfl ?_
        refine WQ_x (X_neA rfl rfl ty69 (by kernel_rfl) (by kernel_rfl) (.cons (by decide) ty3 rfl rfl rfl (eqv_int ty3) (.cons (by decide) ty3 rfl rfl rfl (eqv_int ty3) (.cons (by decide) ty28 rfl rfl rfl (eqv_int ty28) (.cons (by decide) ty28 rfl rfl rfl (eqv_int ty28) .nil))))) rfl ?_
        try simp only [eq_self, decide_true, Bool.and_true, Bool.not_true]
        refine WQ_x (X_move rfl) rfl ?_
        refine WQ_gyes rfl rfl ?_
        refine WQ_x (X_move rfl) rfl ?_
        refine WQ_gyes rfl rfl ?_
        refine WQ_x (X_move rfl) rfl ?_
        refine WQ_gyes rfl rfl ?_
        refine WQ_x (X_bin rfl rfl b_neq) rfl ?_
        rw [decide_eq_false (fun h => h rfl)]
        first | refine WQ_x (X_pickt rfl rfl) rfl ?_ | refine WQ_x (X_pickf rfl rfl) rfl ?_
        refine WQ_nil ?_
        refine W_condF rfl rfl ?_
        refine W_skip ?_
        refine W_region ?_
        refine W_move rfl rfl ?_
        refine W_assign rfl rfl ?_
        refine W_nil ?_
        refine W_blk ?_
        refine W_joinX ⟨x.i + 1, Ws2, HB2, v1, X1 ++ x.XR⟩ ⟨⟨hB2, hokn, by show Ws2.length = n; rw [hP.len, hx.len], by rw [List.append_assoc]; exact hv1⟩, rfl⟩ (sub_cons rfl (sub_cons rfl (sub_cons rfl (sub_cons rfl (sub_cons rfl (sub_cons rfl (sub_cons rfl (sub_cons rfl (sub_nil _))))))))) (by show HSub _ ((b13, .cells 65 3 [.int .i64 a.kind, .int .i64 a.id, .int .u64 ((at_ : Nat) : Int)]) :: (HB2 ++ ((X1 ++ x.XR) ++ H))); rw [List.append_assoc]; first | exact hsubI | (repeat (first | with_reducible exact HSub.refl _ | refine HSub.cons zT ?_ | refine HSub.app zS ?_ | exact HSub.nil _ | exact HSub.refl _ | refine HSub.drop ?_ | refine HSub.dropS ?_)))
      · skip
        refine W_region ?_
        refine W_bin rfl rfl b_eql rfl ?_
        refine W_assign rfl rfl ?_
        refine W_nil ?_
        refine W_condPS (p := kindOf a.kind = 1) rfl (by simp) (fun q2 => ?_) (fun q2 => ?_)
        · skip
          refine W_sr ?_
          refine W_move rfl rfl ?_
          refine W_move rfl rfl ?_
          refine W_fieldAddr rfl fld65_1 (by decide) rfl ?_
          refine W_load (v := .int .i64 a.id) rfl ty3 rfl (Cell.own (b := b13) zM rfl) rfl ?_
          refine W_fieldAddr rfl fld65_2 (by decide) rfl ?_
          refine W_load (v := .int .u64 ((at_ : Nat) : Int)) rfl ty28 rfl (Cell.own (b := b13) zM rfl) rfl ?_
          refine W_call (.cons rfl (.cons rfl (.cons rfl (.cons rfl .nil)))) Tryd.call27 rfl (rbPut_L (HR := x.XR ++ H) (tn := turnOf x.Ws a.cpu) (cpu := a.cpu) (id := a.id) (a := at_) hst hx.doc (show HSub _ (x.XR ++ H) from zH) h64 hatm) ?_
          rintro v H' ⟨v1, X1, rfl, hv1, rfl⟩
          obtain ⟨S1, s1, e1, hp1⟩ : ∃ S1 s1 e1, putS (stW x.Ws) (turnOf x.Ws a.cpu) a.cpu a.id at_ = (S1, s1, e1) := ⟨_, _, _, rfl⟩
          rw [hp1] at hv1 ⊢
          dsimp only at hv1 ⊢
          refine W_move rfl rfl ?_
          refine W_extract rfl rfl rfl ?_
          refine W_extract rfl rfl rfl ?_
          refine W_extract rfl rfl rfl ?_
          refine W_alloc (l := zSpot.v) ty69 rfl rfl (fun b16 => ?_)
          refine W_assign rfl rfl ?_
          refine W_storeA (l' := s1.v) rfl rfl ty69 rfl rfl (b := b16) zM (by exact Nat.le_refl 4) rfl zU ?_
          refine W_assign rfl rfl ?_
          refine W_nil ?_
          refine W_sr ?_
          refine W_move rfl rfl ?_
          refine W_move rfl rfl ?_
          refine W_fieldAddr rfl fld65_1 (by decide) rfl ?_
          refine W_load (v := .int .i64 a.id) rfl ty3 rfl (Cell.own (b := b13) zM rfl) rfl ?_
          refine W_fieldAddr rfl fld65_2 (by decide) rfl ?_
          refine W_load (v := .int .u64 ((at_ : Nat) : Int)) rfl ty28 rfl (Cell.own (b := b13) zM rfl) rfl ?_
          refine W_call (.cons rfl (.cons rfl (.cons rfl (.cons rfl .nil)))) Tryd.call28 rfl (LCalls.hsub (PutB_L (cpu := a.cpu) (id := a.id) (a := at_) hx.bank hn64 hatm hx.ok.now (fun w hw => Nat.le_trans (hx.ok.turn w hw) (by omega)) (H := (b16, .cells 69 4 s1.v) :: (X1 ++ ((b13, .cells 65 3 [.int .i64 a.kind, .int .i64 a.id, .int .u64 ((at_ : Nat) : Int)]) :: (x.XR ++ H))))) zH) ?_
          rintro v H' ⟨Ws2, HB2, s2, e2, hB2, rfl, hP, rfl⟩
          have hfn := hP.fn hrng
          rw [hp1] at hfn
          obtain ⟨rfl, hfn2⟩ := Prod.mk.inj hfn
          obtain ⟨rfl, rfl⟩ := Prod.mk.inj hfn2
          have hokn := hx.ok.put hrng hP hB2
          refine W_move rfl rfl ?_
          refine W_extract rfl rfl rfl ?_
          refine W_extract rfl rfl rfl ?_
          refine W_alloc (l := zSpot.v) ty72 rfl rfl (fun b18 => ?_)
          refine W_storeA (l' := s1.v) rfl rfl ty72 rfl rfl (b := b18) zM (by exact Nat.le_refl 4) rfl zU ?_
          refine W_assign rfl rfl ?_
          refine W_nil ?_
          refine W_seq ?_
          refine W_quietsr (by kernel_rfl) (by decide +kernel) ?_
          refine WQ_x (X_loadB (vs := s1.v) rfl ty72 rfl (b := b18) zM rfl rfl) rfl ?_
          refine WQ_callp (.cons rfl .nil) Tryd.call29 rfl (T := fun _ => True) trivial rOfS_pure ?_
          refine WQ_x (X_loadB (vs := s1.v) rfl ty69 rfl (b := b16) zM rfl rfl) rfl ?_
          refine WQ_x (X_neA rfl rfl ty69 (by kernel_rfl) (by kernel_rfl) (.cons (by decide) ty3 rfl rfl rfl (eqv_int ty3) (.cons (by decide) ty3 rfl rfl rfl (eqv_int ty3) (.cons (by decide) ty28 rfl rfl rfl (eqv_int ty28) (.cons (by decide) ty28 rfl rfl rfl (eqv_int ty28) .nil))))) rfl ?_
          try simp only [eq_self, decide_true, Bool.and_true, Bool.not_true]
          refine WQ_x (X_move rfl) rfl ?_
          refine WQ_gyes rfl rfl ?_
          refine WQ_x (X_move rfl) rfl ?_
          refine WQ_gyes rfl rfl ?_
          refine WQ_x (X_move rfl) rfl ?_
          refine WQ_gyes rfl rfl ?_
          refine WQ_x (X_bin rfl rfl b_neq) rfl ?_
          rw [decide_eq_false (fun h => h rfl)]
          first | refine WQ_x (X_pickt rfl rfl) rfl ?_ | refine WQ_x (X_pickf rfl rfl) rfl ?_
          refine WQ_nil ?_
          refine W_condF rfl rfl ?_
          refine W_skip ?_
          refine W_region ?_
          refine W_move rfl rfl ?_
          refine W_assign rfl rfl ?_
          refine W_nil ?_
          refine W_blk ?_
          refine W_joinX ⟨x.i + 1, Ws2, HB2, v1, X1 ++ x.XR⟩ ⟨⟨hB2, hokn, by show Ws2.length = n; rw [hP.len, hx.len], by rw [List.append_assoc]; exact hv1⟩, rfl⟩ (sub_cons rfl (sub_cons rfl (sub_cons rfl (sub_cons rfl (sub_cons rfl (sub_cons rfl (sub_cons rfl (sub_cons rfl (sub_nil _))))))))) (by show HSub _ ((b13, .cells 65 3 [.int .i64 a.kind, .int .i64 a.id, .int .u64 ((at_ : Nat) : Int)]) :: (HB2 ++ ((X1 ++ x.XR) ++ H))); rw [List.append_assoc]; first | exact hsubI | (repeat (first | with_reducible exact HSub.refl _ | refine HSub.cons zT ?_ | refine HSub.app zS ?_ | exact HSub.nil _ | exact HSub.refl _ | refine HSub.drop ?_ | refine HSub.dropS ?_)))
        · skip
          refine W_sr ?_
          refine W_bin rfl rfl b_eql rfl ?_
          refine W_assign rfl rfl ?_
          refine W_nil ?_
          refine W_condPS (p := kindOf a.kind = 2) rfl (by simp) (fun q3 => ?_) (fun q3 => ?_)
          · skip
            refine W_sr ?_
            refine W_move rfl rfl ?_
            refine W_fieldAddr rfl fld65_1 (by decide) rfl ?_
            refine W_load (v := .int .i64 a.id) rfl ty3 rfl (Cell.own (b := b13) zM rfl) rfl ?_
            refine W_call (.cons rfl (.cons rfl .nil)) Tryd.call30 rfl (rbDel_L (HR := x.XR ++ H) (id := a.id) hst hx.doc (show HSub _ (x.XR ++ H) from zH) h64) ?_
            rintro v H' ⟨v1, X1, rfl, hv1, rfl⟩
            rw [delOne_is hx.ok.uni] at hv1
            obtain ⟨fb, hfb⟩ : ∃ fb, fb = (findS (stW x.Ws) a.id).isSome := ⟨_, rfl⟩
            rw [← hfb]
            cases fb
            · skip
              refine W_move rfl rfl ?_
              refine W_extract rfl rfl rfl ?_
              refine W_extract rfl rfl rfl ?_
              refine W_assign rfl rfl ?_
              refine W_assign rfl rfl ?_
              refine W_nil ?_
              refine W_sr ?_
              refine W_move rfl rfl ?_
              refine W_fieldAddr rfl fld65_1 (by decide) rfl ?_
              refine W_load (v := .int .i64 a.id) rfl ty3 rfl (Cell.own (b := b13) zM rfl) rfl ?_
              refine W_buildSlice (l := [.int .i64 a.id]) ty58 ty3 (.cons rfl rfl rfl rfl rfl .nil) rfl rfl rfl rfl rfl rfl rfl (fun b158 => ?_)
              refine W_call (.cons rfl (.cons rfl .nil)) Tryd.call31 rfl (LCalls.hsub (DelB_L (l := [a.id]) hx.bank hn64 (show 1 ≤ 4611686018427387904 by decide) (show 1 ≤ 1000000 by decide) (H := (b158, .cells 3 1 [.int .i64 a.id]) :: (X1 ++ ((b13, .cells 65 3 [.int .i64 a.kind, .int .i64 a.id, .int .u64 ((at_ : Nat) : Int)]) :: (x.XR ++ H)))) (Holds.own (b := b158) zM)) zH) ?_
              rintro v H' ⟨HB2, hB2, rfl, rfl⟩
              rw [cnt_find hx.ok.uni, ← hfb]
              have hokn := (hx.ok.del a.id).up (Nat.le_succ _)
              refine W_assign rfl rfl ?_
              refine W_nil ?_
              refine W_seq ?_
              refine W_sr ?_
              refine W_move rfl rfl ?_
              refine W_move rfl rfl ?_
              refine W_gno rfl rfl rfl ?_
              refine W_gno rfl rfl rfl ?_
              first | refine W_pickt rfl rfl rfl ?_ | refine W_pickf rfl rfl rfl ?_
              refine W_move rfl rfl ?_
              refine W_gyes rfl rfl ?_
              refine W_move rfl rfl ?_
              refine W_gyes rfl rfl ?_
              refine W_not rfl rfl ?_
              refine W_gyes rfl rfl ?_
              refine W_move rfl rfl ?_
              refine W_gyes rfl rfl ?_
              refine W_move rfl rfl ?_
              refine W_gyes rfl rfl ?_
              refine W_bin rfl rfl b_neq rfl ?_
              rw [decide_eq_false (fun h => h rfl)]
              refine W_gyes rfl rfl ?_
              first | refine W_pickt rfl rfl rfl ?_ | refine W_pickf rfl rfl rfl ?_
              first | refine W_pickt rfl rfl rfl ?_ | refine W_pickf rfl rfl rfl ?_
              refine W_nil ?_
              refine W_condF rfl rfl ?_
              refine W_skip ?_
              refine W_region ?_
              refine W_move rfl rfl ?_
              refine W_assign rfl rfl ?_
              refine W_nil ?_
              refine W_blk ?_
              refine W_joinX ⟨x.i + 1, x.Ws.map (delW [a.id]), HB2, v1, X1 ++ x.XR⟩ ⟨⟨hB2, hokn, by show (x.Ws.map _).length = n; rw [List.length_map, hx.len], by show RbV w0 _ (stW (x.Ws.map (delW [a.id]))) v1; rw [delW_one]; exact (by rw [List.append_assoc]; exact hv1)⟩, rfl⟩ (sub_cons rfl (sub_cons rfl (sub_cons rfl (sub_cons rfl (sub_cons rfl (sub_cons rfl (sub_cons rfl (sub_cons rfl (sub_nil _))))))))) (by show HSub _ ((b13, .cells 65 3 [.int .i64 a.kind, .int .i64 a.id, .int .u64 ((at_ : Nat) : Int)]) :: (HB2 ++ ((X1 ++ x.XR) ++ H))); rw [List.append_assoc]; first | exact hsubI | (repeat (first | with_reducible exact HSub.refl _ | refine HSub.cons zT ?_ | refine HSub.app zS ?_ | exact HSub.nil _ | exact HSub.refl _ | refine HSub.drop ?_ | refine HSub.dropS ?_)))
            · skip
              refine W_move rfl rfl ?_
              refine W_extract rfl rfl rfl ?_
              refine W_extract rfl rfl rfl ?_
              refine W_assign rfl rfl ?_
              refine W_assign rfl rfl ?_
              refine W_nil ?_
              refine W_sr ?_
              refine W_move rfl rfl ?_
              refine W_fieldAddr rfl fld65_1 (by decide) rfl ?_
              refine W_load (v := .int .i64 a.id) rfl ty3 rfl (Cell.own (b := b13) zM rfl) rfl ?_
              refine W_buildSlice (l := [.int .i64 a.id]) ty58 ty3 (.cons rfl rfl rfl rfl rfl .nil) rfl rfl rfl rfl rfl rfl rfl (fun b158 => ?_)
              refine W_call (.cons rfl (.cons rfl .nil)) Tryd.call31 rfl (LCalls.hsub (DelB_L (l := [a.id]) hx.bank hn64 (show 1 ≤ 4611686018427387904 by decide) (show 1 ≤ 1000000 by decide) (H := (b158, .cells 3 1 [.int .i64 a.id]) :: (X1 ++ ((b13, .cells 65 3 [.int .i64 a.kind, .int .i64 a.id, .int .u64 ((at_ : Nat) : Int)]) :: (x.XR ++ H)))) (Holds.own (b := b158) zM)) zH) ?_
              rintro v H' ⟨HB2, hB2, rfl, rfl⟩
              rw [cnt_find hx.ok.uni, ← hfb]
              have hokn := (hx.ok.del a.id).up (Nat.le_succ _)
              refine W_assign rfl rfl ?_
              refine W_nil ?_
              refine W_seq ?_
              refine W_sr ?_
              refine W_move rfl rfl ?_
              refine W_move rfl rfl ?_
              refine W_gyes rfl rfl ?_
              refine W_move rfl rfl ?_
              refine W_gyes rfl rfl ?_
              refine W_bin rfl rfl b_neq rfl ?_
              rw [decide_eq_false (fun h => h rfl)]
              first | refine W_pickt rfl rfl rfl ?_ | refine W_pickf rfl rfl rfl ?_
              refine W_move rfl rfl ?_
              refine W_gyes rfl rfl ?_
              refine W_move rfl rfl ?_
              refine W_gyes rfl rfl ?_
              refine W_not rfl rfl ?_
              refine W_gyes rfl rfl ?_
              refine W_move rfl rfl ?_
              refine W_gno rfl rfl rfl ?_
              refine W_gno rfl rfl rfl ?_
              refine W_gyes rfl rfl ?_
              first | refine W_pickt rfl rfl rfl ?_ | refine W_pickf rfl rfl rfl ?_
              first | refine W_pickt rfl rfl rfl ?_ | refine W_pickf rfl rfl rfl ?_
              refine W_nil ?_
              refine W_condF rfl rfl ?_
              refine W_skip ?_
              refine W_region ?_
              refine W_move rfl rfl ?_
              refine W_assign rfl rfl ?_
              refine W_nil ?_
              refine W_blk ?_
              refine W_joinX ⟨x.i + 1, x.Ws.map (delW [a.id]), HB2, v1, X1 ++ x.XR⟩ ⟨⟨hB2, hokn, by show (x.Ws.map _).length = n; rw [List.length_map, hx.len], by show RbV w0 _ (stW (x.Ws.map (delW [a.id]))) v1; rw [delW_one]; exact (by rw [List.append_assoc]; exact hv1)⟩, rfl⟩ (sub_cons rfl (sub_cons rfl (sub_cons rfl (sub_cons rfl (sub_cons rfl (sub_cons rfl (sub_cons rfl (sub_cons rfl (sub_nil _))))))))) (by show HSub _ ((b13, .cells 65 3 [.int .i64 a.kind, .int .i64 a.id, .int .u64 ((at_ : Nat) : Int)]) :: (HB2 ++ ((X1 ++ x.XR) ++ H))); rw [List.append_assoc]; first | exact hsubI | (repeat (first | with_reducible exact HSub.refl _ | refine HSub.cons zT ?_ | refine HSub.app zS ?_ | exact HSub.nil _ | exact HSub.refl _ | refine HSub.drop ?_ | refine HSub.dropS ?_)))
          · skip
            refine W_sr ?_
            refine W_move rfl rfl ?_
            refine W_move rfl rfl ?_
            refine W_fieldAddr rfl fld65_2 (by decide) rfl ?_
            refine W_load (v := .int .u64 ((at_ : Nat) : Int)) rfl ty28 rfl (Cell.own (b := b13) zM rfl) rfl ?_
            refine W_call (.cons rfl (.cons rfl (.cons rfl .nil))) Tryd.call32 rfl (rbCatch_L (HR := x.XR ++ H) (cpu := a.cpu) (a := at_) hst hx.doc (show HSub _ (x.XR ++ H) from zH) h64) ?_
            rintro v H' ⟨v1, ov, X1, S1, O1, XO1, rfl, hv1, hO1, hC1, rfl⟩
            obtain ⟨ado, capo, rfl, _, _⟩ := hO1.shape
            refine W_move rfl rfl ?_
            refine W_extract rfl rfl rfl ?_
            refine W_extract rfl rfl rfl ?_
            refine W_assign rfl rfl ?_
            refine W_assign rfl rfl ?_
            refine W_nil ?_
            refine W_seq ?_
            refine W_sr ?_
            refine W_move rfl rfl ?_
            refine W_move rfl rfl ?_
            refine W_fieldAddr rfl fld65_2 (by decide) rfl ?_
            refine W_load (v := .int .u64 ((at_ : Nat) : Int)) rfl ty28 rfl (Cell.own (b := b13) zM rfl) rfl ?_
            refine W_call (.cons rfl (.cons rfl (.cons rfl .nil))) Tryd.call34 rfl (LCalls.hsub (CatchB_L (cpu := a.cpu) (a := at_) hx.bank hatm hx.ok.later hT (H := XO1 ++ (X1 ++ ((b13, .cells 65 3 [.int .i64 a.kind, .int .i64 a.id, .int .u64 ((at_ : Nat) : Int)]) :: (x.XR ++ H))))) zH) ?_
            rintro v H' ⟨Ws2, HB2, O2, XO2, hB2, hO2, hC2, rfl⟩
            obtain ⟨rfl, rfl⟩ := hC1.same hC2.fn
            obtain ⟨adp, capp, rfl, _, _⟩ := hO2.shape
            have hol := hC2.out hx.bank.lens
            have hokn := (hx.ok.catch hatm hC2).up (Nat.le_succ _)
            refine W_move rfl rfl ?_
            have hsl : ((O1.map (·.id)).length : Nat) = O1.length := List.length_map _
            have hh1 : Holds w0 (XO2 ++ (HB2 ++ (XO1 ++ (X1 ++ ((b13, .cells 65 3 [.int .i64 a.kind, .int .i64 a.id, .int .u64 ((at_ : Nat) : Int)]) :: (x.XR ++ H)))))) adp ((O1.map (·.id)).map (Value.int .i64)) := OwnS.holds hO2 (fun p hp => List.mem_append_left _ hp)
            have hh2 : Holds w0 (XO2 ++ (HB2 ++ (XO1 ++ (X1 ++ ((b13, .cells 65 3 [.int .i64 a.kind, .int .i64 a.id, .int .u64 ((at_ : Nat) : Int)]) :: (x.XR ++ H)))))) ado ((O1.map (·.id)).map (Value.int .i64)) := OwnS.holds hO1 (fun p hp => List.mem_append_right _ (List.mem_append_right _ (List.mem_append_left _ hp)))
            have hsm := same_q (c1 := capp) (c2 := capo) hh1 hh2 (by rw [hsl]; omega)
            rw [hsl] at hsm
            refine W_callq (.cons rfl (.cons rfl .nil)) Tryd.call33 rfl hsm ?_
            rw [decide_eq_true rfl]
            refine W_not rfl rfl ?_
            refine W_nil ?_
            refine W_condF rfl rfl ?_
            refine W_skip ?_
            refine W_region ?_
            refine W_move rfl rfl ?_
            refine W_assign rfl rfl ?_
            refine W_nil ?_
            refine W_blk ?_
            refine W_joinX ⟨x.i + 1, Ws2, HB2, v1, X1 ++ x.XR⟩ ⟨⟨hB2, hokn, by show Ws2.length = n; rw [hC2.len, hx.len], by rw [List.append_assoc]; exact hv1⟩, rfl⟩ (sub_cons rfl (sub_cons rfl (sub_cons rfl (sub_cons rfl (sub_cons rfl (sub_cons rfl (sub_cons rfl (sub_cons rfl (sub_nil _))))))))) (by show HSub _ ((b13, .cells 65 3 [.int .i64 a.kind, .int .i64 a.id, .int .u64 ((at_ : Nat) : Int)]) :: (HB2 ++ ((X1 ++ x.XR) ++ H))); rw [List.append_assoc]; first | exact hsubI | (repeat (first | with_reducible exact HSub.refl _ | refine HSub.cons zT ?_ | refine HSub.app zS ?_ | exact HSub.nil _ | exact HSub.refl _ | refine HSub.drop ?_ | refine HSub.dropS ?_)))
    rintro y ⟨hy, hyi⟩
    refine W_sr ?_
    have h64y : (stW y.Ws).length ≤ 64 := by rw [List.length_map, hy.len]; omega
    have hn64y : y.Ws.length ≤ 64 := by rw [hy.len]; omega
    have hn63 : y.Ws.length ≤ 63 := by rw [hy.len]; omega
    have hsty := hy.bank.stOk hy.ok.now hy.ok.later
    obtain ⟨adm, capm, Ds, hve, hdb⟩ := hy.doc
    have hyl : (stW y.Ws).length = n := by rw [List.length_map, hy.len]
    rw [hyl] at hve
    have hdoc : RbV w0 (y.XR ++ H) (stW y.Ws) (.slice adm n capm) := by rw [← hve]; exact hy.doc
    have hdl : Ds.length = n := by have := congrArg List.length hdb.st; rw [List.length_map, hyl] at this; exact this
    have hdw : ∀ (k : Nat) w, y.Ws[k]? = some w → ∃ d, Ds[k]? = some d ∧ d.now = w.now ∧ d.L = w.L := fun k w hw => by
      have hk := (List.getElem?_eq_some_iff.1 hw).1
      obtain ⟨d, hd⟩ : ∃ d, Ds[k]? = some d := ⟨_, List.getElem?_eq_getElem (by rw [hdl, ← hy.len]; exact hk)⟩
      have e : (Ds.map Rw.nl)[k]? = (stW y.Ws)[k]? := by rw [hdb.st]
      rw [List.getElem?_map, List.getElem?_map, hd, hw] at e
      obtain ⟨e1, e2⟩ := Prod.mk.inj (Option.some.inj e)
      exact ⟨d, hd, e1, e2⟩
    rw [hve]
    refine W_move rfl rfl ?_
    refine W_fieldAddr rfl fld65_1 (by decide) rfl ?_
    refine W_load (v := .int .i64 a.id) rfl ty3 rfl (Cell.own (b := b13) zM rfl) rfl ?_
    refine W_callq (.cons rfl (.cons rfl .nil)) Tryd.call35 rfl (rbFind_q (id := a.id) hsty (hdoc.up (show HSub _ (y.XR ++ H) from zH)) h64y) ?_
    refine W_assign rfl rfl ?_
    refine W_nil ?_
    refine W_sr ?_
    refine W_move rfl rfl ?_
    refine W_fieldAddr rfl fld65_1 (by decide) rfl ?_
    refine W_load (v := .int .i64 a.id) rfl ty3 rfl (Cell.own (b := b13) zM rfl) rfl ?_
    refine W_call (.cons rfl (.cons rfl .nil)) Tryd.call36 rfl (LCalls.hsub (FindB_L (id := a.id) hy.bank hn64y (H := (b13, .cells 65 3 [.int .i64 a.kind, .int .i64 a.id, .int .u64 ((at_ : Nat) : Int)]) :: (y.XR ++ H))) zH) ?_
    rintro v H' ⟨HBf, hBf, rfl, rfl⟩
    rcases hfk : findK y.Ws a.id with _ | k
    · skip
      rw [show findZ (stW y.Ws) a.id = -1 from by unfold findZ; rw [findS_stW, hfk]]
      rw [show findV y.Ws a.id = .tuple #[.int .i64 0, .agg zSpot.v.toArray, .bool false] from by unfold findV; rw [hfk]]
      refine W_move rfl rfl ?_
      refine W_extract rfl rfl rfl ?_
      refine W_extract rfl rfl rfl ?_
      refine W_extract rfl rfl rfl ?_
      refine W_alloc (l := zSpot.v) ty72 rfl rfl (fun b27 => ?_)
      refine W_assign rfl rfl ?_
      refine W_storeA (l' := zSpot.v) rfl rfl ty72 rfl rfl (b := b27) zM (by exact Nat.le_refl 4) rfl zU ?_
      refine W_assign rfl rfl ?_
      refine W_nil ?_
      refine W_seq ?_
      refine W_quietsr (by kernel_rfl) (by decide +kernel) ?_
      refine WQ_x (X_move rfl) rfl ?_
      refine WQ_x (X_move rfl) rfl ?_
      refine WQ_x (X_bin rfl rfl b_geq) rfl ?_
      first | rw [decide_eq_true (by omega)] | rw [decide_eq_false (by omega)]
      refine WQ_x (X_bne rfl rfl ty4) rfl ?_
      refine WQ_x (X_move rfl) rfl ?_
      refine WQ_gyes rfl rfl ?_
      refine WQ_x (X_move rfl) rfl ?_
      refine WQ_gyes rfl rfl ?_
      refine WQ_x (X_move rfl) rfl ?_
      refine WQ_gno rfl rfl rfl rfl ?_
      refine WQ_gno rfl rfl rfl rfl ?_
      refine WQ_gno rfl rfl rfl rfl ?_
      refine WQ_gno rfl rfl rfl rfl ?_
      refine WQ_gnou rfl rfl rfl ?_
      refine WQ_gnou rfl rfl rfl ?_
      refine WQ_gnou rfl rfl rfl ?_
      refine WQ_gnou rfl rfl rfl ?_
      refine WQ_gnou rfl rfl rfl ?_
      refine WQ_gnou rfl rfl rfl ?_
      refine WQ_gnou rfl rfl rfl ?_
      refine WQ_gnou rfl rfl rfl ?_
      refine WQ_gnou rfl rfl rfl ?_
      refine WQ_gnou rfl rfl rfl ?_
      refine WQ_gnou rfl rfl rfl ?_
      refine WQ_gnou rfl rfl rfl ?_
      refine WQ_gnou rfl rfl rfl ?_
      refine WQ_gnou rfl rfl rfl ?_
      refine WQ_gnou rfl rfl rfl ?_
      refine WQ_gnou rfl rfl rfl ?_
      refine WQ_gnou rfl rfl rfl ?_
      refine WQ_gnou rfl rfl rfl ?_
      refine WQ_gno rfl rfl rfl rfl ?_
      refine WQ_gyes rfl rfl ?_
      first | refine WQ_x (X_pickt rfl rfl) rfl ?_ | refine WQ_x (X_pickf rfl rfl) rfl ?_
      first | refine WQ_x (X_pickt rfl rfl) rfl ?_ | refine WQ_x (X_pickf rfl rfl) rfl ?_
      refine WQ_x (X_move rfl) rfl ?_
      refine WQ_gyes rfl rfl ?_
      refine WQ_x (X_move rfl) rfl ?_
      refine WQ_gyes rfl rfl ?_
      refine WQ_x (X_not rfl) rfl ?_
      refine WQ_gyes rfl rfl ?_
      refine WQ_x (X_move rfl) rfl ?_
      refine WQ_gyes rfl rfl ?_
      refine WQ_x (X_move rfl) rfl ?_
      refine WQ_gyes rfl rfl ?_
      refine WQ_x (X_bin rfl rfl b_neq) rfl ?_
      rw [decide_eq_false (fun h => h rfl)]
      refine WQ_gyes rfl rfl ?_
      first | refine WQ_x (X_pickt rfl rfl) rfl ?_ | refine WQ_x (X_pickf rfl rfl) rfl ?_
      first | refine WQ_x (X_pickt rfl rfl) rfl ?_ | refine WQ_x (X_pickf rfl rfl) rfl ?_
      refine WQ_nil ?_
      refine W_condF rfl rfl ?_
      refine W_skip ?_
      refine W_sr ?_
      refine W_assign rfl rfl ?_
      refine W_nil ?_
      refine W_sr ?_
      refine W_assign rfl rfl ?_
      refine W_nil ?_
      refine W_sr ?_
      refine W_assign rfl rfl ?_
      refine W_assign rfl rfl ?_
      refine W_nil ?_
      refine W_sr ?_
      refine W_assign rfl rfl ?_
      refine W_assign rfl rfl ?_
      refine W_nil ?_
      refine W_seq ?_
      refine W_sr ?_
      refine W_move rfl rfl ?_
      refine W_bin rfl rfl (b_sub (m := (n : Int) - 1) (by rw [i64w (by omega)])) rfl ?_
      refine W_assign rfl rfl ?_
      refine W_nil ?_
      refine W_block ?_
      have hdr0 : y.Ws.drop n = [] := by rw [← hy.len, List.drop_length]
      refine W_loopC (X := Nat) [(0, _), (2, _), (3, _), (9, _), (11, _), (12, _), (13, _)] (fun (q : Nat) => [(29, .int .i64 ((lenD (y.Ws.drop q) : Nat) : Int)), (30, .int .u64 ((lateD at_ (y.Ws.drop q) : Nat) : Int)), (31, .int .u64 ((((nxD (fun _ => true) q (y.Ws.drop q)).getD 0) : Nat) : Int)), (32, .bool (nxD (fun _ => true) q (y.Ws.drop q)).isSome), (33, .int .u64 ((((nxD (selD ask) q (y.Ws.drop q)).getD 0) : Nat) : Int)), (34, .bool (nxD (selD ask) q (y.Ws.drop q)).isSome), (35, .int .i64 ((q : Int) - 1))]) (fun _ => _) (fun (q : Nat) => (b13, .cells 65 3 [.int .i64 a.kind, .int .i64 a.id, .int .u64 ((at_ : Nat) : Int)]) :: (HBf ++ (y.XR ++ H))) (fun (q : Nat) => q ≤ n) (fun (q : Nat) => q) n (Nat.le_refl _) (sub_cons rfl (sub_cons rfl (sub_cons rfl (sub_cons rfl (sub_cons rfl (sub_cons rfl (sub_cons rfl (sub_nil _)))))))) (sub_cons (by rw [hdr0]; rfl) (sub_cons (by rw [hdr0]; rfl) (sub_cons (by rw [hdr0]; rfl) (sub_cons (by rw [hdr0]; rfl) (sub_cons (by rw [hdr0]; rfl) (sub_cons (by rw [hdr0]; rfl) (sub_cons rfl (sub_nil _)))))))) rfl zH ?_
      intro q hq
      have hll := lenD_le hy.bank q
      have hlt := lateD_le (a := at_) (Ws := y.Ws) (k := q) hn63
      simp only [List.cons_append, List.nil_append]
      refine W_seq ?_
      refine W_sr ?_
      refine W_move rfl rfl ?_
      refine W_bin rfl rfl b_geq rfl ?_
      refine W_nil ?_
      refine W_condPS (p := 0 < q) rfl (by rw [decide_eq_true_eq]; omega) (fun q1 => ?_) (fun q1 => ?_)
      · skip
        refine W_skip ?_
        refine W_seq ?_
        refine W_block ?_
        refine W_sr ?_
        obtain ⟨q', rfl⟩ : ∃ q', q = q' + 1 := ⟨q - 1, by omega⟩
        obtain ⟨w, hw⟩ : ∃ w, y.Ws[q']? = some w := ⟨_, List.getElem?_eq_getElem (by rw [hy.len]; omega)⟩
        have hwm := List.mem_of_getElem? hw
        have hwl := (hsty (w.now, w.L) (List.mem_map_of_mem (f := Wl.nl) hwm)).len
        dsimp only at hwl
        obtain ⟨d, hd, hdn, hdL⟩ := hdw q' w hw
        have hdm := List.mem_of_getElem? hd
        obtain ⟨qd, pd, hade, hcd⟩ := Holds.row rwC_len (by decide) hdb.row hd
        obtain ⟨x0, hx0⟩ : ∃ x0, x0 = nxD (fun _ => true) (q' + 1) (y.Ws.drop (q' + 1)) := ⟨_, rfl⟩
        obtain ⟨x1, hx1⟩ : ∃ x1, x1 = nxD (selD ask) (q' + 1) (y.Ws.drop (q' + 1)) := ⟨_, rfl⟩
        rw [← hx0, ← hx1]
        obtain ⟨o, ho⟩ : ∃ o, o = leastT w.L := ⟨_, rfl⟩
        have hlt2 := lateD_le (a := at_) (Ws := y.Ws) (k := q') hn63
        have hll2 := lenD_le hy.bank q'
        rw [lateD_drop hw] at hlt2
        rw [lenD_drop hw] at hll2
        have hq1 : (((q' + 1 : Nat) : Int) - 1) = (q' : Int) := by omega
        rw [hq1]
        refine W_move rfl rfl ?_
        refine W_move rfl rfl ?_
        refine W_move rfl rfl ?_
        refine W_indexAddr (b := qd) (o := pd) (j := q') (by rw [← hade]; rfl) rfl ty62 ty90 rfl (by omega) rfl rfl ?_
        refine W_fieldAddr rfl fld90_1 (by decide) rfl ?_
        refine W_load (v := .slice d.ad d.L.length d.cap) rfl ty88 rfl ((hcd 1 (.slice d.ad d.L.length d.cap) rfl).up (show HSub _ (y.XR ++ H) from zH)) rfl ?_
        refine W_len rfl ty88 rfl rfl ?_
        refine W_bin rfl rfl (b_add (m := ((lenD (y.Ws.drop q') : Nat) : Int)) (by rw [i64w (by rw [hdL]; omega), hdL, lenD_drop hw]; omega)) rfl ?_
        refine W_assign rfl rfl ?_
        refine W_nil ?_
        refine W_sr ?_
        refine W_move rfl rfl ?_
        refine W_move rfl rfl ?_
        refine W_indexAddr (b := qd) (o := pd) (j := q') (by rw [← hade]; rfl) rfl ty62 ty90 rfl (by omega) rfl rfl ?_
        refine W_loadA (vs := [.int .u64 ((d.now : Nat) : Int), .slice d.ad d.L.length d.cap]) rfl ty90 rfl rfl (hcd.up (show HSub _ (y.XR ++ H) from zH)) rfl ?_
        refine W_callq (.cons rfl .nil) Tryd.call38 rfl (rbNext_q (by rw [hdL]; exact hwl) ((hdb.each d hdm).1.up (show HSub _ (y.XR ++ H) from zH))) ?_
        rw [hdL, ← ho]
        refine W_move rfl rfl ?_
        refine W_extract rfl rfl rfl ?_
        refine W_extract rfl rfl rfl ?_
        refine W_assign rfl rfl ?_
        refine W_assign rfl rfl ?_
        refine W_nil ?_
        refine W_sr ?_
        refine W_move rfl rfl ?_
        refine W_bin rfl rfl (b_mul (m := ((2 * lateD at_ (y.Ws.drop (q' + 1)) : Nat) : Int)) (by rw [u64w (by omega)]; omega)) rfl ?_
        refine W_assign rfl rfl ?_
        refine W_nil ?_
        refine W_seq ?_
        refine W_sr ?_
        refine W_move rfl rfl ?_
        refine W_move rfl rfl ?_
        apply W_and
        iterate 4 exact rfl
        case h1 =>
          intro hg1
          refine W_gyes rfl rfl ?_
          refine W_move rfl rfl ?_
          refine W_gyes rfl rfl ?_
          refine W_fieldAddr rfl fld65_2 (by decide) rfl ?_
          refine W_gyes rfl rfl ?_
          refine W_load (v := .int .u64 ((at_ : Nat) : Int)) rfl ty28 rfl (Cell.own (b := b13) zM rfl) rfl ?_
          refine W_gyes rfl rfl ?_
          refine W_bin rfl rfl b_leq rfl ?_
          exact W_met rfl zR
        refine W_nil ?_
        refine W_condJ (p := lateB at_ w = true) [(0, .int .i64 (n : Int)), (2, .slice (some ⟨qx, px, none⟩) acts.length capa), (3, .slice ad ask.length cap), (9, .pointer (some ⟨bb, 0, none⟩)), (11, .slice adm n capm), (12, .int .i64 (x.i : Int)), (13, .pointer (some ⟨b13, 0, none⟩)), (29, .int .i64 ((lenD (y.Ws.drop q') : Nat) : Int)), (30, .int .u64 ((lateD at_ (y.Ws.drop q') : Nat) : Int)), (31, .int .u64 (((x0.getD 0) : Nat) : Int)), (32, .bool x0.isSome), (33, .int .u64 (((x1.getD 0) : Nat) : Int)), (34, .bool x1.isSome), (35, .int .i64 (q' : Int)), (36, .int .u64 (((o.getD 0) : Nat) : Int)), (37, .bool o.isSome)] ((b13, .cells 65 3 [.int .i64 a.kind, .int .i64 a.id, .int .u64 ((at_ : Nat) : Int)]) :: (HBf ++ (y.XR ++ H))) rfl (by rw [lateB_opt, ← ho, Bool.and_eq_true, decide_eq_true_eq]; exact and_congr Iff.rfl Int.ofNat_le) (fun q2 => ?_) (fun q2 => ?_) ?_
        · skip
          refine W_region ?_
          refine W_move rfl rfl ?_
          refine W_bin rfl rfl (b_add (m := ((2 * lateD at_ (y.Ws.drop (q' + 1)) + 1 : Nat) : Int)) (by rw [u64w (by omega)]; omega)) rfl ?_
          refine W_assign rfl rfl ?_
          refine W_nil ?_
          refine W_joined (sub_cons rfl (sub_cons rfl (sub_cons rfl (sub_cons rfl (sub_cons rfl (sub_cons rfl (sub_cons rfl (sub_cons rfl (sub_cons (by rw [lateD_drop hw, if_pos q2]; rfl) (sub_cons rfl (sub_cons rfl (sub_cons rfl (sub_cons rfl (sub_cons rfl (sub_cons rfl (sub_cons rfl (sub_nil _))))))))))))))))) zH
        · skip
          refine W_skip ?_
          refine W_joined (sub_cons rfl (sub_cons rfl (sub_cons rfl (sub_cons rfl (sub_cons rfl (sub_cons rfl (sub_cons rfl (sub_cons rfl (sub_cons (by rw [lateD_drop hw, if_neg q2]; rfl) (sub_cons rfl (sub_cons rfl (sub_cons rfl (sub_cons rfl (sub_cons rfl (sub_cons rfl (sub_cons rfl (sub_nil _))))))))))))))))) zH
        skip
        refine W_seq ?_
        refine W_sr ?_
        refine W_move rfl rfl ?_
        refine W_move rfl rfl ?_
        apply W_and
        iterate 4 exact rfl
        case h1 =>
          intro hg1
          refine W_gyes rfl rfl ?_
          refine W_move rfl rfl ?_
          refine W_gyes rfl rfl ?_
          refine W_not rfl rfl ?_
          refine W_gyes rfl rfl ?_
          refine W_move rfl rfl ?_
          apply W_or
          iterate 4 exact rfl
          case h1 =>
            intro hg4
            refine W_gyes rfl rfl ?_
            refine W_move rfl rfl ?_
            refine W_gyes rfl rfl ?_
            refine W_move rfl rfl ?_
            refine W_gyes rfl rfl ?_
            refine W_bin rfl rfl b_lss rfl ?_
            exact W_met rfl zR
          exact W_met rfl zR
        refine W_nil ?_
        refine W_condJ (p := o.isSome = true ∧ (x0.isSome = false ∨ o.getD 0 < x0.getD 0)) [(0, .int .i64 (n : Int)), (2, .slice (some ⟨qx, px, none⟩) acts.length capa), (3, .slice ad ask.length cap), (9, .pointer (some ⟨bb, 0, none⟩)), (11, .slice adm n capm), (12, .int .i64 (x.i : Int)), (13, .pointer (some ⟨b13, 0, none⟩)), (29, .int .i64 ((lenD (y.Ws.drop q') : Nat) : Int)), (30, .int .u64 ((lateD at_ (y.Ws.drop q') : Nat) : Int)), (31, .int .u64 ((((minO x0 o).getD 0) : Nat) : Int)), (32, .bool (minO x0 o).isSome), (33, .int .u64 (((x1.getD 0) : Nat) : Int)), (34, .bool x1.isSome), (35, .int .i64 (q' : Int)), (36, .int .u64 (((o.getD 0) : Nat) : Int)), (37, .bool o.isSome)] ((b13, .cells 65 3 [.int .i64 a.kind, .int .i64 a.id, .int .u64 ((at_ : Nat) : Int)]) :: (HBf ++ (y.XR ++ H))) rfl (by rw [Bool.and_eq_true, Bool.or_eq_true, decide_eq_true_eq, Bool.not_eq_true']; exact and_congr Iff.rfl (or_congr Iff.rfl Int.ofNat_lt)) (fun q3 => ?_) (fun q3 => ?_) ?_
        · skip
          refine W_region ?_
          refine W_move rfl rfl ?_
          refine W_assign rfl rfl ?_
          refine W_assign rfl rfl ?_
          refine W_nil ?_
          refine W_joined (sub_cons rfl (sub_cons rfl (sub_cons rfl (sub_cons rfl (sub_cons rfl (sub_cons rfl (sub_cons rfl (sub_cons rfl (sub_cons rfl (sub_cons (by rw [takesO q3]; rfl) (sub_cons (by rw [takesO q3, q3.1]; rfl) (sub_cons rfl (sub_cons rfl (sub_cons rfl (sub_cons rfl (sub_cons rfl (sub_nil _))))))))))))))))) zH
        · skip
          refine W_skip ?_
          refine W_joined (sub_cons rfl (sub_cons rfl (sub_cons rfl (sub_cons rfl (sub_cons rfl (sub_cons rfl (sub_cons rfl (sub_cons rfl (sub_cons rfl (sub_cons (by rw [staysO q3]; rfl) (sub_cons (by rw [staysO q3]; rfl) (sub_cons rfl (sub_cons rfl (sub_cons rfl (sub_cons rfl (sub_cons rfl (sub_nil _))))))))))))))))) zH
        skip
        refine W_sr ?_
        refine W_move rfl rfl ?_
        refine W_len rfl ty58 rfl rfl ?_
        refine W_bin rfl rfl b_eql rfl ?_
        rw [show decide ((ask.length : Int) = 0) = decide (ask.length = 0) from decide_eq_decide.2 (by omega)]
        refine W_assign rfl rfl ?_
        refine W_nil ?_
        refine W_seq ?_
        refine W_sr ?_
        refine W_assign rfl rfl ?_
        refine W_nil ?_
        refine W_block ?_
        refine W_loopC (X := Nat) [(0, _), (2, _), (3, _), (9, _), (11, _), (12, _), (13, _), (29, _), (30, _), (31, _), (32, _), (33, _), (34, _), (35, _), (36, _), (37, _)] (fun (j : Nat) => [(38, .bool (decide (ask.length = 0) || decide ((q' : Int) ∈ ask.take j))), (39, .int .i64 (j : Int))]) (fun _ => _) (fun (j : Nat) => (b13, .cells 65 3 [.int .i64 a.kind, .int .i64 a.id, .int .u64 ((at_ : Nat) : Int)]) :: (HBf ++ (y.XR ++ H))) (fun (j : Nat) => j ≤ ask.length) (fun (j : Nat) => ask.length - j) 0 (Nat.zero_le _) (sub_cons rfl (sub_cons rfl (sub_cons rfl (sub_cons rfl (sub_cons rfl (sub_cons rfl (sub_cons rfl (sub_cons rfl (sub_cons rfl (sub_cons rfl (sub_cons rfl (sub_cons rfl (sub_cons rfl (sub_cons rfl (sub_cons rfl (sub_cons rfl (sub_nil _))))))))))))))))) (sub_cons (by rw [List.take_zero, show decide ((q' : Int) ∈ ([] : List Int)) = false from decide_eq_false (by simp), Bool.or_false]; rfl) (sub_cons rfl (sub_nil _))) rfl zH ?_
        intro j hj
        simp only [List.cons_append, List.nil_append]
        refine W_seq ?_
        refine W_sr ?_
        refine W_move rfl rfl ?_
        refine W_move rfl rfl ?_
        refine W_len rfl ty58 rfl rfl ?_
        refine W_bin rfl rfl b_lss rfl ?_
        refine W_nil ?_
        refine W_condPS (p := (j : Int) < (ask.length : Int)) rfl (by simp) (fun q4 => ?_) (fun q4 => ?_)
        · skip
          refine W_skip ?_
          refine W_seq ?_
          refine W_block ?_
          refine W_region ?_
          obtain ⟨zj, hzj⟩ : ∃ zj, ask[j]? = some zj := ⟨_, List.getElem?_eq_getElem (by omega)⟩
          obtain ⟨qa, pa, hada, hca⟩ := haskr.at (i := j) (v := .int .i64 zj) (by rw [List.getElem?_map, hzj]; rfl)
          refine W_move rfl rfl ?_
          refine W_move rfl rfl ?_
          apply W_or
          iterate 4 exact rfl
          case h1 =>
            intro hg1
            refine W_gyes rfl rfl ?_
            refine W_move rfl rfl ?_
            refine W_gyes rfl rfl ?_
            refine W_move rfl rfl ?_
            refine W_gyes rfl rfl ?_
            refine W_indexAddr (b := qa) (o := pa) (j := j) (by rw [← hada]; rfl) rfl ty58 ty3 rfl (by omega) rfl rfl ?_
            refine W_gyes rfl rfl ?_
            refine W_load (v := .int .i64 zj) rfl ty3 rfl (by rw [Nat.mul_one]; exact hca.up zH) rfl ?_
            refine W_gyes rfl rfl ?_
            refine W_move rfl rfl ?_
            refine W_gyes rfl rfl ?_
            refine W_bin rfl rfl b_eql rfl ?_
            exact W_met rfl zR
          refine W_assign rfl rfl ?_
          refine W_nil ?_
          refine W_blk ?_
          refine W_region ?_
          refine W_move rfl rfl ?_
          refine W_bin rfl rfl (b_add (m := ((j + 1 : Nat) : Int)) ((i64w (by omega)).trans (by omega))) rfl ?_
          refine W_assign rfl rfl ?_
          refine W_nil ?_
          refine W_again (j + 1) (by omega) (by omega) (sub_cons (by rw [takeAt hzj, sel_snoc]; rfl) (sub_cons rfl (sub_cons rfl (sub_cons rfl (sub_cons rfl (sub_cons rfl (sub_cons rfl (sub_cons rfl (sub_cons rfl (sub_cons rfl (sub_cons rfl (sub_cons rfl (sub_cons rfl (sub_cons rfl (sub_cons rfl (sub_cons rfl (sub_cons rfl (sub_cons rfl (sub_nil _))))))))))))))))))) rfl zH
        · skip
          refine W_exit rfl ?_
          refine W_seq ?_
          refine W_sr ?_
          obtain rfl : j = ask.length := by omega
          rw [List.take_length, show (decide (ask.length = 0) || decide ((q' : Int) ∈ ask)) = selD ask q' from rfl]
          refine W_move rfl rfl ?_
          refine W_move rfl rfl ?_
          apply W_and
          iterate 4 exact rfl
          case h1 =>
            intro hg1
            refine W_gyes rfl rfl ?_
            refine W_move rfl rfl ?_
            exact W_met rfl zR
          refine W_move rfl rfl ?_
          apply W_and
          iterate 4 exact rfl
          case h1 =>
            intro hg4
            refine W_gyes rfl rfl ?_
            refine W_move rfl rfl ?_
            refine W_gyes rfl rfl ?_
            refine W_not rfl rfl ?_
            refine W_gyes rfl rfl ?_
            refine W_move rfl rfl ?_
            apply W_or
            iterate 4 exact rfl
            case h1 =>
              intro hg7
              refine W_gyes rfl rfl ?_
              refine W_move rfl rfl ?_
              refine W_gyes rfl rfl ?_
              refine W_move rfl rfl ?_
              refine W_gyes rfl rfl ?_
              refine W_bin rfl rfl b_lss rfl ?_
              exact W_met rfl zR
            exact W_met rfl zR
          refine W_nil ?_
          refine W_condJ (p := selD ask q' = true ∧ o.isSome = true ∧ (x1.isSome = false ∨ o.getD 0 < x1.getD 0)) [(0, .int .i64 (n : Int)), (2, .slice (some ⟨qx, px, none⟩) acts.length capa), (3, .slice ad ask.length cap), (9, .pointer (some ⟨bb, 0, none⟩)), (11, .slice adm n capm), (12, .int .i64 (x.i : Int)), (13, .pointer (some ⟨b13, 0, none⟩)), (29, .int .i64 ((lenD (y.Ws.drop q') : Nat) : Int)), (30, .int .u64 ((lateD at_ (y.Ws.drop q') : Nat) : Int)), (31, .int .u64 ((((minO x0 o).getD 0) : Nat) : Int)), (32, .bool (minO x0 o).isSome), (33, .int .u64 ((((if selD ask q' = true then minO x1 o else x1).getD 0) : Nat) : Int)), (34, .bool (if selD ask q' = true then minO x1 o else x1).isSome), (35, .int .i64 (q' : Int)), (36, .int .u64 (((o.getD 0) : Nat) : Int)), (37, .bool o.isSome)] ((b13, .cells 65 3 [.int .i64 a.kind, .int .i64 a.id, .int .u64 ((at_ : Nat) : Int)]) :: (HBf ++ (y.XR ++ H))) rfl (by rw [Bool.and_eq_true, Bool.and_eq_true, Bool.or_eq_true, decide_eq_true_eq, Bool.not_eq_true', and_assoc]; exact and_congr Iff.rfl (and_congr Iff.rfl (or_congr Iff.rfl Int.ofNat_lt))) (fun q5 => ?_) (fun q5 => ?_) ?_
          · skip
            refine W_region ?_
            refine W_move rfl rfl ?_
            refine W_assign rfl rfl ?_
            refine W_assign rfl rfl ?_
            refine W_nil ?_
            refine W_joined (sub_cons rfl (sub_cons rfl (sub_cons rfl (sub_cons rfl (sub_cons rfl (sub_cons rfl (sub_cons rfl (sub_cons rfl (sub_cons rfl (sub_cons rfl (sub_cons rfl (sub_cons (by rw [if_pos q5.1, takesO q5.2]; rfl) (sub_cons (by rw [if_pos q5.1, takesO q5.2, q5.2.1]; rfl) (sub_cons rfl (sub_cons rfl (sub_cons rfl (sub_nil _))))))))))))))))) zH
          · skip
            refine W_skip ?_
            refine W_joined (sub_cons rfl (sub_cons rfl (sub_cons rfl (sub_cons rfl (sub_cons rfl (sub_cons rfl (sub_cons rfl (sub_cons rfl (sub_cons rfl (sub_cons rfl (sub_cons rfl (sub_cons (by rw [stays_sel q5]; rfl) (sub_cons (by rw [stays_sel q5]; rfl) (sub_cons rfl (sub_cons rfl (sub_cons rfl (sub_nil _))))))))))))))))) zH
          skip
          refine W_quietsr (by kernel_rfl) (by decide +kernel) ?_
          refine WQ_x (X_move rfl) rfl ?_
          refine WQ_x (X_move rfl) rfl ?_
          refine WQ_callq (.cons rfl (.cons rfl .nil)) Tryd.call39 rfl (NowB_q hBf (fun p hp => List.mem_cons_of_mem _ (List.mem_append_left _ hp))) ?_
          rw [nowK_at hw, ← hdn]
          refine WQ_x (X_move rfl) rfl ?_
          refine WQ_x (X_move rfl) rfl ?_
          refine WQ_x (X_indexAddr (b := qd) (o := pd) (j := q') (by rw [← hade]; rfl) rfl ty62 ty90 rfl (by omega) rfl) rfl ?_
          refine WQ_x (X_fieldAddr rfl fld90_0 (by decide)) rfl ?_
          refine WQ_x (X_load (v := .int .u64 ((d.now : Nat) : Int)) rfl ty28 rfl ((hcd 0 (.int .u64 ((d.now : Nat) : Int)) rfl).up (show HSub _ (y.XR ++ H) from zH))) rfl ?_
          refine WQ_x (X_bin rfl rfl b_neq) rfl ?_
          rw [decide_eq_false (fun h => h rfl)]
          refine WQ_nil ?_
          refine W_condF rfl rfl ?_
          refine W_skip ?_
          refine W_blk ?_
          refine W_region ?_
          refine W_move rfl rfl ?_
          refine W_bin rfl rfl (b_sub (m := ((q' : Int) - 1)) (by rw [i64w (by omega)])) rfl ?_
          refine W_assign rfl rfl ?_
          refine W_nil ?_
          have e0 : nxD (fun _ => true) q' (y.Ws.drop q') = minO x0 o := by rw [nxD_drop hw, ← hx0, ← ho, if_pos rfl]
          have e1 : nxD (selD ask) q' (y.Ws.drop q') = if selD ask q' = true then minO x1 o else x1 := by rw [nxD_drop hw, ← hx1, ← ho]
          refine W_again q' (by omega) (by omega) (sub_cons rfl (sub_cons rfl (sub_cons (by rw [e0]; rfl) (sub_cons (by rw [e0]; rfl) (sub_cons (by rw [e1]; rfl) (sub_cons (by rw [e1]; rfl) (sub_cons rfl (sub_cons rfl (sub_cons rfl (sub_cons rfl (sub_cons rfl (sub_cons rfl (sub_cons rfl (sub_cons rfl (sub_nil _))))))))))))))) rfl zH
      · skip
        refine W_exit rfl ?_
        refine W_sr ?_
        refine W_move rfl rfl ?_
        obtain rfl : q = 0 := by omega
        rw [List.drop_zero]
        refine W_call (.cons rfl (.cons rfl .nil)) Tryd.call40 rfl (LCalls.hsub (NextB_L (l := []) (ad := none) (cap := 0) hBf hn64y hy.ok.now (show 0 ≤ 4611686018427387904 by decide) Holds.nil hT (H := (b13, .cells 65 3 [.int .i64 a.kind, .int .i64 a.id, .int .u64 ((at_ : Nat) : Int)]) :: (y.XR ++ H))) zH) ?_
        rintro v H' ⟨HB5, hB5, rfl, rfl⟩
        rw [nx_ask [] hn64y, nxD_nil 0]
        refine W_move rfl rfl ?_
        refine W_extract rfl rfl rfl ?_
        refine W_extract rfl rfl rfl ?_
        refine W_assign rfl rfl ?_
        refine W_assign rfl rfl ?_
        refine W_nil ?_
        refine W_sr ?_
        refine W_move rfl rfl ?_
        refine W_move rfl rfl ?_
        refine W_call (.cons rfl (.cons rfl .nil)) Tryd.call40 rfl (LCalls.hsub (NextB_L (l := ask) (ad := ad) (cap := cap) hB5 hn64y hy.ok.now (by omega) (haskr.up zH) hT (H := (b13, .cells 65 3 [.int .i64 a.kind, .int .i64 a.id, .int .u64 ((at_ : Nat) : Int)]) :: (y.XR ++ H))) zH) ?_
        rintro v H' ⟨HB6, hB6, rfl, rfl⟩
        rw [nx_ask ask hn64y]
        refine W_move rfl rfl ?_
        refine W_extract rfl rfl rfl ?_
        refine W_extract rfl rfl rfl ?_
        refine W_assign rfl rfl ?_
        refine W_assign rfl rfl ?_
        refine W_nil ?_
        refine W_sr ?_
        refine W_move rfl rfl ?_
        refine W_call (.cons rfl .nil) Tryd.call41 rfl (LCalls.hsub (LenB_L hB6 hn64y (H := (b13, .cells 65 3 [.int .i64 a.kind, .int .i64 a.id, .int .u64 ((at_ : Nat) : Int)]) :: (y.XR ++ H))) zH) ?_
        rintro v H' ⟨HB7, hB7, rfl, rfl⟩
        rw [lenK_all]
        refine W_move rfl rfl ?_
        refine W_bin rfl rfl b_neq rfl ?_
        rw [decide_eq_false (fun h => h rfl)]
        refine W_move rfl rfl ?_
        refine W_gyes rfl rfl ?_
        refine W_move rfl rfl ?_
        refine W_gyes rfl rfl ?_
        refine W_fieldAddr rfl fld65_2 (by decide) rfl ?_
        refine W_gyes rfl rfl ?_
        refine W_load (v := .int .u64 ((at_ : Nat) : Int)) rfl ty28 rfl (Cell.own (b := b13) zM rfl) rfl ?_
        refine W_gyes rfl rfl ?_
        refine W_call (.cons rfl (.cons rfl .nil)) Tryd.call42 rfl (LCalls.hsub (LateB_L (a := at_) hB7 hn64y hy.ok.now hT (H := (b13, .cells 65 3 [.int .i64 a.kind, .int .i64 a.id, .int .u64 ((at_ : Nat) : Int)]) :: (y.XR ++ H))) zH) ?_
        rintro v H' ⟨HB8, hB8, rfl, rfl⟩
        rw [late_all at_ hn64y]
        refine W_gyes rfl rfl ?_
        refine W_move rfl rfl ?_
        refine W_gyes rfl rfl ?_
        refine W_bin rfl rfl b_neq rfl ?_
        rw [decide_eq_false (fun h => h rfl)]
        first | refine W_pickt rfl rfl rfl ?_ | refine W_pickf rfl rfl rfl ?_
        refine W_move rfl rfl ?_
        refine W_gyes rfl rfl ?_
        refine W_move rfl rfl ?_
        refine W_gyes rfl rfl ?_
        refine W_move rfl rfl ?_
        refine W_gyes rfl rfl ?_
        refine W_bin rfl rfl b_neq rfl ?_
        rw [decide_eq_false (fun h => h rfl)]
        first | refine W_pickt rfl rfl rfl ?_ | refine W_pickf rfl rfl rfl ?_
        refine W_move rfl rfl ?_
        refine W_gyes rfl rfl ?_
        refine W_move rfl rfl ?_
        refine W_gyes rfl rfl ?_
        refine W_move rfl rfl ?_
        refine W_gyes rfl rfl ?_
        refine W_bne rfl rfl ty4 rfl ?_
        simp only [beq_self_eq_true, Bool.not_true]
        first | refine W_pickt rfl rfl rfl ?_ | refine W_pickf rfl rfl rfl ?_
        refine W_move rfl rfl ?_
        refine W_gyes rfl rfl ?_
        refine W_move rfl rfl ?_
        refine W_gyes rfl rfl ?_
        refine W_move rfl rfl ?_
        refine W_gyes rfl rfl ?_
        refine W_bin rfl rfl b_neq rfl ?_
        rw [decide_eq_false (fun h => h rfl)]
        first | refine W_pickt rfl rfl rfl ?_ | refine W_pickf rfl rfl rfl ?_
        refine W_move rfl rfl ?_
        refine W_gyes rfl rfl ?_
        refine W_move rfl rfl ?_
        refine W_gyes rfl rfl ?_
        refine W_move rfl rfl ?_
        refine W_gyes rfl rfl ?_
        refine W_bne rfl rfl ty4 rfl ?_
        simp only [beq_self_eq_true, Bool.not_true]
        first | refine W_pickt rfl rfl rfl ?_ | refine W_pickf rfl rfl rfl ?_
        refine W_nil ?_
        refine W_condF rfl rfl ?_
        refine W_skip ?_
        refine W_blk ?_
        refine W_region ?_
        refine W_move rfl rfl ?_
        refine W_bin rfl rfl (b_add (m := ((x.i + 1 : Nat) : Int)) ((i64w (by omega)).trans (by omega))) rfl ?_
        refine W_assign rfl rfl ?_
        refine W_nil ?_
        refine W_again ⟨x.i + 1, y.Ws, HB8, .slice adm n capm, y.XR⟩ ⟨by show x.i + 1 ≤ _; omega, by show x.i + 1 ≤ _; omega, ⟨hB8, by show BOk (x.i + 1) y.Ws; rw [← hyi]; exact hy.ok, hy.len, hdoc⟩⟩ (by show acts.length - (x.i + 1) < acts.length - x.i; omega) (sub_cons rfl (sub_cons rfl (sub_cons rfl (sub_cons rfl (sub_cons rfl (sub_cons rfl (sub_nil _))))))) rfl zH
    · skip
      obtain ⟨w, hw, hh⟩ := findK_at hfk
      have hwm := List.mem_of_getElem? hw
      have hkn := (List.getElem?_eq_some_iff.1 hw).1
      rw [hy.len] at hkn
      have hids := (hsty (w.now, w.L) (List.mem_map_of_mem (f := Wl.nl) hwm)).ids
      have hwl := (hsty (w.now, w.L) (List.mem_map_of_mem (f := Wl.nl) hwm)).len
      dsimp only at hids hwl
      obtain ⟨j, t, hz, hj, hspot⟩ := atZ_held hh hids
      obtain ⟨d, hd, hdn, hdL⟩ := hdw k w hw
      have hdm := List.mem_of_getElem? hd
      obtain ⟨qd, pd, hade, hcd⟩ := Holds.row rwC_len (by decide) hdb.row hd
      rw [← hdL] at hz hj
      have hjl := (List.getElem?_eq_some_iff.1 hj).1
      obtain ⟨qt, pt, hadt, hct⟩ := Holds.row tmC_len (by decide) (hdb.each d hdm).1 hj
      rw [show findZ (stW y.Ws) a.id = (k : Int) from by unfold findZ; rw [findS_stW, hfk]]
      rw [show findV y.Ws a.id = .tuple #[.int .i64 (k : Int), .agg t.s.v.toArray, .bool true] from by unfold findV; rw [hfk]; dsimp only; rw [hw]; dsimp only; rw [hspot]]
      refine W_move rfl rfl ?_
      refine W_extract rfl rfl rfl ?_
      refine W_extract rfl rfl rfl ?_
      refine W_extract rfl rfl rfl ?_
      refine W_alloc (l := zSpot.v) ty72 rfl rfl (fun b27 => ?_)
      refine W_assign rfl rfl ?_
      refine W_storeA (l' := t.s.v) rfl rfl ty72 rfl rfl (b := b27) zM (by exact Nat.le_refl 4) rfl zU ?_
      refine W_assign rfl rfl ?_
      refine W_nil ?_
      refine W_seq ?_
      refine W_quietsr (by kernel_rfl) (by decide +kernel) ?_
      refine WQ_x (X_move rfl) rfl ?_
      refine WQ_x (X_move rfl) rfl ?_
      refine WQ_x (X_bin rfl rfl b_geq) rfl ?_
      first | rw [decide_eq_true (by omega)] | rw [decide_eq_false (by omega)]
      refine WQ_x (X_bne rfl rfl ty4) rfl ?_
      refine WQ_x (X_move rfl) rfl ?_
      refine WQ_gyes rfl rfl ?_
      refine WQ_x (X_move rfl) rfl ?_
      refine WQ_gyes rfl rfl ?_
      refine WQ_x (X_move rfl) rfl ?_
      refine WQ_gyes rfl rfl ?_
      refine WQ_x (X_move rfl) rfl ?_
      refine WQ_gyes rfl rfl ?_
      refine WQ_x (X_move rfl) rfl ?_
      refine WQ_gyes rfl rfl ?_
      refine WQ_x (X_bin rfl rfl b_neq) rfl ?_
      rw [decide_eq_false (fun h => h rfl)]
      refine WQ_gyes rfl rfl ?_
      refine WQ_x (X_move rfl) rfl ?_
      refine WQ_gyes rfl rfl ?_
      refine WQ_x (X_loadB (vs := t.s.v) rfl ty72 rfl (b := b27) zM rfl rfl) rfl ?_
      refine WQ_gyes rfl rfl ?_
      refine WQ_callp (.cons rfl .nil) Tryd.call29 rfl (T := fun _ => True) trivial rOfS_pure ?_
      refine WQ_gyes rfl rfl ?_
      refine WQ_x (X_move rfl) rfl ?_
      refine WQ_gyes rfl rfl ?_
      refine WQ_x (X_move rfl) rfl ?_
      refine WQ_gyes rfl rfl ?_
      refine WQ_x (X_indexAddr (b := qd) (o := pd) (j := k) (by rw [← hade]; rfl) rfl ty62 ty90 rfl (by omega) rfl) rfl ?_
      refine WQ_gyes rfl rfl ?_
      refine WQ_x (X_fieldAddr rfl fld90_1 (by decide)) rfl ?_
      refine WQ_gyes rfl rfl ?_
      refine WQ_x (X_load (v := .slice d.ad d.L.length d.cap) rfl ty88 rfl ((hcd 1 (.slice d.ad d.L.length d.cap) rfl).up (show HSub _ (y.XR ++ H) from zH))) rfl ?_
      refine WQ_gyes rfl rfl ?_
      refine WQ_x (X_move rfl) rfl ?_
      refine WQ_gyes rfl rfl ?_
      refine WQ_x (X_move rfl) rfl ?_
      refine WQ_gyes rfl rfl ?_
      refine WQ_x (X_indexAddr (b := qd) (o := pd) (j := k) (by rw [← hade]; rfl) rfl ty62 ty90 rfl (by omega) rfl) rfl ?_
      refine WQ_gyes rfl rfl ?_
      refine WQ_x (X_loadA (vs := [.int .u64 ((d.now : Nat) : Int), .slice d.ad d.L.length d.cap]) rfl ty90 rfl rfl (hcd.up (show HSub _ (y.XR ++ H) from zH))) rfl ?_
      refine WQ_gyes rfl rfl ?_
      refine WQ_x (X_fieldAddr rfl fld65_1 (by decide)) rfl ?_
      refine WQ_gyes rfl rfl ?_
      refine WQ_x (X_load (v := .int .i64 a.id) rfl ty3 rfl (Cell.own (b := b13) zM rfl)) rfl ?_
      refine WQ_gyes rfl rfl ?_
      refine WQ_callq (.cons rfl (.cons rfl .nil)) Tryd.call37 rfl (rFind_q (now := d.now) (cap := d.cap) (by rw [hdL]; omega) (by rw [hdL]; exact hids) ((hdb.each d hdm).1.up (show HSub _ (y.XR ++ H) from zH))) ?_
      rw [hz]
      refine WQ_gyes rfl rfl ?_
      refine WQ_x (X_indexAddr (b := qt) (o := pt) (j := j) (by rw [← hadt]; rfl) rfl ty88 ty87 rfl (by omega) rfl) rfl ?_
      refine WQ_gyes rfl rfl ?_
      refine WQ_x (X_fieldAddr rfl fld87_1 (by decide)) rfl ?_
      refine WQ_gyes rfl rfl ?_
      refine WQ_x (X_loadA (vs := t.s.v) rfl ty69 rfl rfl ((Cells.tail hct).up (show HSub _ (y.XR ++ H) from zH))) rfl ?_
      refine WQ_gyes rfl rfl ?_
      refine WQ_x (X_neA rfl rfl ty69 (by kernel_rfl) (by kernel_rfl) (.cons (by decide) ty3 rfl rfl rfl (eqv_int ty3) (.cons (by decide) ty3 rfl rfl rfl (eqv_int ty3) (.cons (by decide) ty28 rfl rfl rfl (eqv_int ty28) (.cons (by decide) ty28 rfl rfl rfl (eqv_int ty28) .nil))))) rfl ?_
      try simp only [eq_self, decide_true, Bool.and_true, Bool.not_true]
      refine WQ_gyes rfl rfl ?_
      first | refine WQ_x (X_pickt rfl rfl) rfl ?_ | refine WQ_x (X_pickf rfl rfl) rfl ?_
      refine WQ_gyes rfl rfl ?_
      first | refine WQ_x (X_pickt rfl rfl) rfl ?_ | refine WQ_x (X_pickf rfl rfl) rfl ?_
      first | refine WQ_x (X_pickt rfl rfl) rfl ?_ | refine WQ_x (X_pickf rfl rfl) rfl ?_
      refine WQ_x (X_move rfl) rfl ?_
      refine WQ_gyes rfl rfl ?_
      refine WQ_x (X_move rfl) rfl ?_
      refine WQ_gyes rfl rfl ?_
      refine WQ_x (X_not rfl) rfl ?_
      refine WQ_gyes rfl rfl ?_
      refine WQ_x (X_move rfl) rfl ?_
      refine WQ_gno rfl rfl rfl rfl ?_
      refine WQ_gno rfl rfl rfl rfl ?_
      refine WQ_gyes rfl rfl ?_
      first | refine WQ_x (X_pickt rfl rfl) rfl ?_ | refine WQ_x (X_pickf rfl rfl) rfl ?_
      first | refine WQ_x (X_pickt rfl rfl) rfl ?_ | refine WQ_x (X_pickf rfl rfl) rfl ?_
      refine WQ_nil ?_
      refine W_condF rfl rfl ?_
      refine W_skip ?_
      refine W_sr ?_
      refine W_assign rfl rfl ?_
      refine W_nil ?_
      refine W_sr ?_
      refine W_assign rfl rfl ?_
      refine W_nil ?_
      refine W_sr ?_
      refine W_assign rfl rfl ?_
      refine W_assign rfl rfl ?_
      refine W_nil ?_
      refine W_sr ?_
      refine W_assign rfl rfl ?_
      refine W_assign rfl rfl ?_
      refine W_nil ?_
      refine W_seq ?_
      refine W_sr ?_
      refine W_move rfl rfl ?_
      refine W_bin rfl rfl (b_sub (m := (n : Int) - 1) (by rw [i64w (by omega)])) rfl ?_
      refine W_assign rfl rfl ?_
      refine W_nil ?_
      refine W_block ?_
      have hdr0 : y.Ws.drop n = [] := by rw [← hy.len, List.drop_length]
      refine W_loopC (X := Nat) [(0, _), (2, _), (3, _), (9, _), (11, _), (12, _), (13, _)] (fun (q : Nat) => [(29, .int .i64 ((lenD (y.Ws.drop q) : Nat) : Int)), (30, .int .u64 ((lateD at_ (y.Ws.drop q) : Nat) : Int)), (31, .int .u64 ((((nxD (fun _ => true) q (y.Ws.drop q)).getD 0) : Nat) : Int)), (32, .bool (nxD (fun _ => true) q (y.Ws.drop q)).isSome), (33, .int .u64 ((((nxD (selD ask) q (y.Ws.drop q)).getD 0) : Nat) : Int)), (34, .bool (nxD (selD ask) q (y.Ws.drop q)).isSome), (35, .int .i64 ((q : Int) - 1))]) (fun _ => _) (fun (q : Nat) => (b13, .cells 65 3 [.int .i64 a.kind, .int .i64 a.id, .int .u64 ((at_ : Nat) : Int)]) :: (HBf ++ (y.XR ++ H))) (fun (q : Nat) => q ≤ n) (fun (q : Nat) => q) n (Nat.le_refl _) (sub_cons rfl (sub_cons rfl (sub_cons rfl (sub_cons rfl (sub_cons rfl (sub_cons rfl (sub_cons rfl (sub_nil _)))))))) (sub_cons (by rw [hdr0]; rfl) (sub_cons (by rw [hdr0]; rfl) (sub_cons (by rw [hdr0]; rfl) (sub_cons (by rw [hdr0]; rfl) (sub_cons (by rw [hdr0]; rfl) (sub_cons (by rw [hdr0]; rfl) (sub_cons rfl (sub_nil _)))))))) rfl zH ?_
      intro q hq
      have hll := lenD_le hy.bank q
      have hlt := lateD_le (a := at_) (Ws := y.Ws) (k := q) hn63
      simp only [List.cons_append, List.nil_append]
      refine W_seq ?_
      refine W_sr ?_
      refine W_move rfl rfl ?_
      refine W_bin rfl rfl b_geq rfl ?_
      refine W_nil ?_
      refine W_condPS (p := 0 < q) rfl (by rw [decide_eq_true_eq]; omega) (fun q1 => ?_) (fun q1 => ?_)
      · skip
        refine W_skip ?_
        refine W_seq ?_
        refine W_block ?_
        refine W_sr ?_
        obtain ⟨q', rfl⟩ : ∃ q', q = q' + 1 := ⟨q - 1, by omega⟩
        obtain ⟨w, hw⟩ : ∃ w, y.Ws[q']? = some w := ⟨_, List.getElem?_eq_getElem (by rw [hy.len]; omega)⟩
        have hwm := List.mem_of_getElem? hw
        have hwl := (hsty (w.now, w.L) (List.mem_map_of_mem (f := Wl.nl) hwm)).len
        dsimp only at hwl
        obtain ⟨d, hd, hdn, hdL⟩ := hdw q' w hw
        have hdm := List.mem_of_getElem? hd
        obtain ⟨qd, pd, hade, hcd⟩ := Holds.row rwC_len (by decide) hdb.row hd
        obtain ⟨x0, hx0⟩ : ∃ x0, x0 = nxD (fun _ => true) (q' + 1) (y.Ws.drop (q' + 1)) := ⟨_, rfl⟩
        obtain ⟨x1, hx1⟩ : ∃ x1, x1 = nxD (selD ask) (q' + 1) (y.Ws.drop (q' + 1)) := ⟨_, rfl⟩
        rw [← hx0, ← hx1]
        obtain ⟨o, ho⟩ : ∃ o, o = leastT w.L := ⟨_, rfl⟩
        have hlt2 := lateD_le (a := at_) (Ws := y.Ws) (k := q') hn63
        have hll2 := lenD_le hy.bank q'
        rw [lateD_drop hw] at hlt2
        rw [lenD_drop hw] at hll2
        have hq1 : (((q' + 1 : Nat) : Int) - 1) = (q' : Int) := by omega
        rw [hq1]
        refine W_move rfl rfl ?_
        refine W_move rfl rfl ?_
        refine W_move rfl rfl ?_
        refine W_indexAddr (b := qd) (o := pd) (j := q') (by rw [← hade]; rfl) rfl ty62 ty90 rfl (by omega) rfl rfl ?_
        refine W_fieldAddr rfl fld90_1 (by decide) rfl ?_
        refine W_load (v := .slice d.ad d.L.length d.cap) rfl ty88 rfl ((hcd 1 (.slice d.ad d.L.length d.cap) rfl).up (show HSub _ (y.XR ++ H) from zH)) rfl ?_
        refine W_len rfl ty88 rfl rfl ?_
        refine W_bin rfl rfl (b_add (m := ((lenD (y.Ws.drop q') : Nat) : Int)) (by rw [i64w (by rw [hdL]; omega), hdL, lenD_drop hw]; omega)) rfl ?_
        refine W_assign rfl rfl ?_
        refine W_nil ?_
        refine W_sr ?_
        refine W_move rfl rfl ?_
        refine W_move rfl rfl ?_
        refine W_indexAddr (b := qd) (o := pd) (j := q') (by rw [← hade]; rfl) rfl ty62 ty90 rfl (by omega) rfl rfl ?_
        refine W_loadA (vs := [.int .u64 ((d.now : Nat) : Int), .slice d.ad d.L.length d.cap]) rfl ty90 rfl rfl (hcd.up (show HSub _ (y.XR ++ H) from zH)) rfl ?_
        refine W_callq (.cons rfl .nil) Tryd.call38 rfl (rbNext_q (by rw [hdL]; exact hwl) ((hdb.each d hdm).1.up (show HSub _ (y.XR ++ H) from zH))) ?_
        rw [hdL, ← ho]
        refine W_move rfl rfl ?_
        refine W_extract rfl rfl rfl ?_
        refine W_extract rfl rfl rfl ?_
        refine W_assign rfl rfl ?_
        refine W_assign rfl rfl ?_
        refine W_nil ?_
        refine W_sr ?_
        refine W_move rfl rfl ?_
        refine W_bin rfl rfl (b_mul (m := ((2 * lateD at_ (y.Ws.drop (q' + 1)) : Nat) : Int)) (by rw [u64w (by omega)]; omega)) rfl ?_
        refine W_assign rfl rfl ?_
        refine W_nil ?_
        refine W_seq ?_
        refine W_sr ?_
        refine W_move rfl rfl ?_
        refine W_move rfl rfl ?_
        apply W_and
        iterate 4 exact rfl
        case h1 =>
          intro hg1
          refine W_gyes rfl rfl ?_
          refine W_move rfl rfl ?_
          refine W_gyes rfl rfl ?_
          refine W_fieldAddr rfl fld65_2 (by decide) rfl ?_
          refine W_gyes rfl rfl ?_
          refine W_load (v := .int .u64 ((at_ : Nat) : Int)) rfl ty28 rfl (Cell.own (b := b13) zM rfl) rfl ?_
          refine W_gyes rfl rfl ?_
          refine W_bin rfl rfl b_leq rfl ?_
          exact W_met rfl zR
        refine W_nil ?_
        refine W_condJ (p := lateB at_ w = true) [(0, .int .i64 (n : Int)), (2, .slice (some ⟨qx, px, none⟩) acts.length capa), (3, .slice ad ask.length cap), (9, .pointer (some ⟨bb, 0, none⟩)), (11, .slice adm n capm), (12, .int .i64 (x.i : Int)), (13, .pointer (some ⟨b13, 0, none⟩)), (29, .int .i64 ((lenD (y.Ws.drop q') : Nat) : Int)), (30, .int .u64 ((lateD at_ (y.Ws.drop q') : Nat) : Int)), (31, .int .u64 (((x0.getD 0) : Nat) : Int)), (32, .bool x0.isSome), (33, .int .u64 (((x1.getD 0) : Nat) : Int)), (34, .bool x1.isSome), (35, .int .i64 (q' : Int)), (36, .int .u64 (((o.getD 0) : Nat) : Int)), (37, .bool o.isSome)] ((b13, .cells 65 3 [.int .i64 a.kind, .int .i64 a.id, .int .u64 ((at_ : Nat) : Int)]) :: (HBf ++ (y.XR ++ H))) rfl (by rw [lateB_opt, ← ho, Bool.and_eq_true, decide_eq_true_eq]; exact and_congr Iff.rfl Int.ofNat_le) (fun q2 => ?_) (fun q2 => ?_) ?_
        · skip
          refine W_region ?_
          refine W_move rfl rfl ?_
          refine W_bin rfl rfl (b_add (m := ((2 * lateD at_ (y.Ws.drop (q' + 1)) + 1 : Nat) : Int)) (by rw [u64w (by omega)]; omega)) rfl ?_
          refine W_assign rfl rfl ?_
          refine W_nil ?_
          refine W_joined (sub_cons rfl (sub_cons rfl (sub_cons rfl (sub_cons rfl (sub_cons rfl (sub_cons rfl (sub_cons rfl (sub_cons rfl (sub_cons (by rw [lateD_drop hw, if_pos q2]; rfl) (sub_cons rfl (sub_cons rfl (sub_cons rfl (sub_cons rfl (sub_cons rfl (sub_cons rfl (sub_cons rfl (sub_nil _))))))))))))))))) zH
        · skip
          refine W_skip ?_
          refine W_joined (sub_cons rfl (sub_cons rfl (sub_cons rfl (sub_cons rfl (sub_cons rfl (sub_cons rfl (sub_cons rfl (sub_cons rfl (sub_cons (by rw [lateD_drop hw, if_neg q2]; rfl) (sub_cons rfl (sub_cons rfl (sub_cons rfl (sub_cons rfl (sub_cons rfl (sub_cons rfl (sub_cons rfl (sub_nil _))))))))))))))))) zH
        skip
        refine W_seq ?_
        refine W_sr ?_
        refine W_move rfl rfl ?_
        refine W_move rfl rfl ?_
        apply W_and
        iterate 4 exact rfl
        case h1 =>
          intro hg1
          refine W_gyes rfl rfl ?_
          refine W_move rfl rfl ?_
          refine W_gyes rfl rfl ?_
          refine W_not rfl rfl ?_
          refine W_gyes rfl rfl ?_
          refine W_move rfl rfl ?_
          apply W_or
          iterate 4 exact rfl
          case h1 =>
            intro hg4
            refine W_gyes rfl rfl ?_
            refine W_move rfl rfl ?_
            refine W_gyes rfl rfl ?_
            refine W_move rfl rfl ?_
            refine W_gyes rfl rfl ?_
            refine W_bin rfl rfl b_lss rfl ?_
            exact W_met rfl zR
          exact W_met rfl zR
        refine W_nil ?_
        refine W_condJ (p := o.isSome = true ∧ (x0.isSome = false ∨ o.getD 0 < x0.getD 0)) [(0, .int .i64 (n : Int)), (2, .slice (some ⟨qx, px, none⟩) acts.length capa), (3, .slice ad ask.length cap), (9, .pointer (some ⟨bb, 0, none⟩)), (11, .slice adm n capm), (12, .int .i64 (x.i : Int)), (13, .pointer (some ⟨b13, 0, none⟩)), (29, .int .i64 ((lenD (y.Ws.drop q') : Nat) : Int)), (30, .int .u64 ((lateD at_ (y.Ws.drop q') : Nat) : Int)), (31, .int .u64 ((((minO x0 o).getD 0) : Nat) : Int)), (32, .bool (minO x0 o).isSome), (33, .int .u64 (((x1.getD 0) : Nat) : Int)), (34, .bool x1.isSome), (35, .int .i64 (q' : Int)), (36, .int .u64 (((o.getD 0) : Nat) : Int)), (37, .bool o.isSome)] ((b13, .cells 65 3 [.int .i64 a.kind, .int .i64 a.id, .int .u64 ((at_ : Nat) : Int)]) :: (HBf ++ (y.XR ++ H))) rfl (by rw [Bool.and_eq_true, Bool.or_eq_true, decide_eq_true_eq, Bool.not_eq_true']; exact and_congr Iff.rfl (or_congr Iff.rfl Int.ofNat_lt)) (fun q3 => ?_) (fun q3 => ?_) ?_
        · skip
          refine W_region ?_
          refine W_move rfl rfl ?_
          refine W_assign rfl rfl ?_
          refine W_assign rfl rfl ?_
          refine W_nil ?_
          refine W_joined (sub_cons rfl (sub_cons rfl (sub_cons rfl (sub_cons rfl (sub_cons rfl (sub_cons rfl (sub_cons rfl (sub_cons rfl (sub_cons rfl (sub_cons (by rw [takesO q3]; rfl) (sub_cons (by rw [takesO q3, q3.1]; rfl) (sub_cons rfl (sub_cons rfl (sub_cons rfl (sub_cons rfl (sub_cons rfl (sub_nil _))))))))))))))))) zH
        · skip
          refine W_skip ?_
          refine W_joined (sub_cons rfl (sub_cons rfl (sub_cons rfl (sub_cons rfl (sub_cons rfl (sub_cons rfl (sub_cons rfl (sub_cons rfl (sub_cons rfl (sub_cons (by rw [staysO q3]; rfl) (sub_cons (by rw [staysO q3]; rfl) (sub_cons rfl (sub_cons rfl (sub_cons rfl (sub_cons rfl (sub_cons rfl (sub_nil _))))))))))))))))) zH
        skip
        refine W_sr ?_
        refine W_move rfl rfl ?_
        refine W_len rfl ty58 rfl rfl ?_
        refine W_bin rfl rfl b_eql rfl ?_
        rw [show decide ((ask.length : Int) = 0) = decide (ask.length = 0) from decide_eq_decide.2 (by omega)]
        refine W_assign rfl rfl ?_
        refine W_nil ?_
        refine W_seq ?_
        refine W_sr ?_
        refine W_assign rfl rfl ?_
        refine W_nil ?_
        refine W_block ?_
        refine W_loopC (X := Nat) [(0, _), (2, _), (3, _), (9, _), (11, _), (12, _), (13, _), (29, _), (30, _), (31, _), (32, _), (33, _), (34, _), (35, _), (36, _), (37, _)] (fun (j : Nat) => [(38, .bool (decide (ask.length = 0) || decide ((q' : Int) ∈ ask.take j))), (39, .int .i64 (j : Int))]) (fun _ => _) (fun (j : Nat) => (b13, .cells 65 3 [.int .i64 a.kind, .int .i64 a.id, .int .u64 ((at_ : Nat) : Int)]) :: (HBf ++ (y.XR ++ H))) (fun (j : Nat) => j ≤ ask.length) (fun (j : Nat) => ask.length - j) 0 (Nat.zero_le _) (sub_cons rfl (sub_cons rfl (sub_cons rfl (sub_cons rfl (sub_cons rfl (sub_cons rfl (sub_cons rfl (sub_cons rfl (sub_cons rfl (sub_cons rfl (sub_cons rfl (sub_cons rfl (sub_cons rfl (sub_cons rfl (sub_cons rfl (sub_cons rfl (sub_nil _))))))))))))))))) (sub_cons (by rw [List.take_zero, show decide ((q' : Int) ∈ ([] : List Int)) = false from decide_eq_false (by simp), Bool.or_false]; rfl) (sub_cons rfl (sub_nil _))) rfl zH ?_
        intro j hj
        simp only [List.cons_append, List.nil_append]
        refine W_seq ?_
        refine W_sr ?_
        refine W_move rfl rfl ?_
        refine W_move rfl rfl ?_
        refine W_len rfl ty58 rfl rfl ?_
        refine W_bin rfl rfl b_lss rfl ?_
        refine W_nil ?_
        refine W_condPS (p := (j : Int) < (ask.length : Int)) rfl (by simp) (fun q4 => ?_) (fun q4 => ?_)
        · skip
          refine W_skip ?_
          refine W_seq ?_
          refine W_block ?_
          refine W_region ?_
          obtain ⟨zj, hzj⟩ : ∃ zj, ask[j]? = some zj := ⟨_, List.getElem?_eq_getElem (by omega)⟩
          obtain ⟨qa, pa, hada, hca⟩ := haskr.at (i := j) (v := .int .i64 zj) (by rw [List.getElem?_map, hzj]; rfl)
          refine W_move rfl rfl ?_
          refine W_move rfl rfl ?_
          apply W_or
          iterate 4 exact rfl
          case h1 =>
            intro hg1
            refine W_gyes rfl rfl ?_
            refine W_move rfl rfl ?_
            refine W_gyes rfl rfl ?_
            refine W_move rfl rfl ?_
            refine W_gyes rfl rfl ?_
            refine W_indexAddr (b := qa) (o := pa) (j := j) (by rw [← hada]; rfl) rfl ty58 ty3 rfl (by omega) rfl rfl ?_
            refine W_gyes rfl rfl ?_
            refine W_load (v := .int .i64 zj) rfl ty3 rfl (by rw [Nat.mul_one]; exact hca.up zH) rfl ?_
            refine W_gyes rfl rfl ?_
            refine W_move rfl rfl ?_
            refine W_gyes rfl rfl ?_
            refine W_bin rfl rfl b_eql rfl ?_
            exact W_met rfl zR
          refine W_assign rfl rfl ?_
          refine W_nil ?_
          refine W_blk ?_
          refine W_region ?_
          refine W_move rfl rfl ?_
          refine W_bin rfl rfl (b_add (m := ((j + 1 : Nat) : Int)) ((i64w (by omega)).trans (by omega))) rfl ?_
          refine W_assign rfl rfl ?_
          refine W_nil ?_
          refine W_again (j + 1) (by omega) (by omega) (sub_cons (by rw [takeAt hzj, sel_snoc]; rfl) (sub_cons rfl (sub_cons rfl (sub_cons rfl (sub_cons rfl (sub_cons rfl (sub_cons rfl (sub_cons rfl (sub_cons rfl (sub_cons rfl (sub_cons rfl (sub_cons rfl (sub_cons rfl (sub_cons rfl (sub_cons rfl (sub_cons rfl (sub_cons rfl (sub_cons rfl (sub_nil _))))))))))))))))))) rfl zH
        · skip
          refine W_exit rfl ?_
          refine W_seq ?_
          refine W_sr ?_
          obtain rfl : j = ask.length := by omega
          rw [List.take_length, show (decide (ask.length = 0) || decide ((q' : Int) ∈ ask)) = selD ask q' from rfl]
          refine W_move rfl rfl ?_
          refine W_move rfl rfl ?_
          apply W_and
          iterate 4 exact rfl
          case h1 =>
            intro hg1
            refine W_gyes rfl rfl ?_
            refine W_move rfl rfl ?_
            exact W_met rfl zR
          refine W_move rfl rfl ?_
          apply W_and
          iterate 4 exact rfl
          case h1 =>
            intro hg4
            refine W_gyes rfl rfl ?_
            refine W_move rfl rfl ?_
            refine W_gyes rfl rfl ?_
            refine W_not rfl rfl ?_
            refine W_gyes rfl rfl ?_
            refine W_move rfl rfl ?_
            apply W_or
            iterate 4 exact rfl
            case h1 =>
              intro hg7
              refine W_gyes rfl rfl ?_
              refine W_move rfl rfl ?_
              refine W_gyes rfl rfl ?_
              refine W_move rfl rfl ?_
              refine W_gyes rfl rfl ?_
              refine W_bin rfl rfl b_lss rfl ?_
              exact W_met rfl zR
            exact W_met rfl zR
          refine W_nil ?_
          refine W_condJ (p := selD ask q' = true ∧ o.isSome = true ∧ (x1.isSome = false ∨ o.getD 0 < x1.getD 0)) [(0, .int .i64 (n : Int)), (2, .slice (some ⟨qx, px, none⟩) acts.length capa), (3, .slice ad ask.length cap), (9, .pointer (some ⟨bb, 0, none⟩)), (11, .slice adm n capm), (12, .int .i64 (x.i : Int)), (13, .pointer (some ⟨b13, 0, none⟩)), (29, .int .i64 ((lenD (y.Ws.drop q') : Nat) : Int)), (30, .int .u64 ((lateD at_ (y.Ws.drop q') : Nat) : Int)), (31, .int .u64 ((((minO x0 o).getD 0) : Nat) : Int)), (32, .bool (minO x0 o).isSome), (33, .int .u64 ((((if selD ask q' = true then minO x1 o else x1).getD 0) : Nat) : Int)), (34, .bool (if selD ask q' = true then minO x1 o else x1).isSome), (35, .int .i64 (q' : Int)), (36, .int .u64 (((o.getD 0) : Nat) : Int)), (37, .bool o.isSome)] ((b13, .cells 65 3 [.int .i64 a.kind, .int .i64 a.id, .int .u64 ((at_ : Nat) : Int)]) :: (HBf ++ (y.XR ++ H))) rfl (by rw [Bool.and_eq_true, Bool.and_eq_true, Bool.or_eq_true, decide_eq_true_eq, Bool.not_eq_true', and_assoc]; exact and_congr Iff.rfl (and_congr Iff.rfl (or_congr Iff.rfl Int.ofNat_lt))) (fun q5 => ?_) (fun q5 => ?_) ?_
          · skip
            refine W_region ?_
            refine W_move rfl rfl ?_
            refine W_assign rfl rfl ?_
            refine W_assign rfl rfl ?_
            refine W_nil ?_
            refine W_joined (sub_cons rfl (sub_cons rfl (sub_cons rfl (sub_cons rfl (sub_cons rfl (sub_cons rfl (sub_cons rfl (sub_cons rfl (sub_cons rfl (sub_cons rfl (sub_cons rfl (sub_cons (by rw [if_pos q5.1, takesO q5.2]; rfl) (sub_cons (by rw [if_pos q5.1, takesO q5.2, q5.2.1]; rfl) (sub_cons rfl (sub_cons rfl (sub_cons rfl (sub_nil _))))))))))))))))) zH
          · skip
            refine W_skip ?_
            refine W_joined (sub_cons rfl (sub_cons rfl (sub_cons rfl (sub_cons rfl (sub_cons rfl (sub_cons rfl (sub_cons rfl (sub_cons rfl (sub_cons rfl (sub_cons rfl (sub_cons rfl (sub_cons (by rw [stays_sel q5]; rfl) (sub_cons (by rw [stays_sel q5]; rfl) (sub_cons rfl (sub_cons rfl (sub_cons rfl (sub_nil _))))))))))))))))) zH
          skip
          refine W_quietsr (by kernel_rfl) (by decide +kernel) ?_
          refine WQ_x (X_move rfl) rfl ?_
          refine WQ_x (X_move rfl) rfl ?_
          refine WQ_callq (.cons rfl (.cons rfl .nil)) Tryd.call39 rfl (NowB_q hBf (fun p hp => List.mem_cons_of_mem _ (List.mem_append_left _ hp))) ?_
          rw [nowK_at hw, ← hdn]
          refine WQ_x (X_move rfl) rfl ?_
          refine WQ_x (X_move rfl) rfl ?_
          refine WQ_x (X_indexAddr (b := qd) (o := pd) (j := q') (by rw [← hade]; rfl) rfl ty62 ty90 rfl (by omega) rfl) rfl ?_
          refine WQ_x (X_fieldAddr rfl fld90_0 (by decide)) rfl ?_
          refine WQ_x (X_load (v := .int .u64 ((d.now : Nat) : Int)) rfl ty28 rfl ((hcd 0 (.int .u64 ((d.now : Nat) : Int)) rfl).up (show HSub _ (y.XR ++ H) from zH))) rfl ?_
          refine WQ_x (X_bin rfl rfl b_neq) rfl ?_
          rw [decide_eq_false (fun h => h rfl)]
          refine WQ_nil ?_
          refine W_condF rfl rfl ?_
          refine W_skip ?_
          refine W_blk ?_
          refine W_region ?_
          refine W_move rfl rfl ?_
          refine W_bin rfl rfl (b_sub (m := ((q' : Int) - 1)) (by rw [i64w (by omega)])) rfl ?_
          refine W_assign rfl rfl ?_
          refine W_nil ?_
          have e0 : nxD (fun _ => true) q' (y.Ws.drop q') = minO x0 o := by rw [nxD_drop hw, ← hx0, ← ho, if_pos rfl]
          have e1 : nxD (selD ask) q' (y.Ws.drop q') = if selD ask q' = true then minO x1 o else x1 := by rw [nxD_drop hw, ← hx1, ← ho]
          refine W_again q' (by omega) (by omega) (sub_cons rfl (sub_cons rfl (sub_cons (by rw [e0]; rfl) (sub_cons (by rw [e0]; rfl) (sub_cons (by rw [e1]; rfl) (sub_cons (by rw [e1]; rfl) (sub_cons rfl (sub_cons rfl (sub_cons rfl (sub_cons rfl (sub_cons rfl (sub_cons rfl (sub_cons rfl (sub_cons rfl (sub_nil _))))))))))))))) rfl zH
      · skip
        refine W_exit rfl ?_
        refine W_sr ?_
        refine W_move rfl rfl ?_
        obtain rfl : q = 0 := by omega
        rw [List.drop_zero]
        refine W_call (.cons rfl (.cons rfl .nil)) Tryd.call40 rfl (LCalls.hsub (NextB_L (l := []) (ad := none) (cap := 0) hBf hn64y hy.ok.now (show 0 ≤ 4611686018427387904 by decide) Holds.nil hT (H := (b13, .cells 65 3 [.int .i64 a.kind, .int .i64 a.id, .int .u64 ((at_ : Nat) : Int)]) :: (y.XR ++ H))) zH) ?_
        rintro v H' ⟨HB5, hB5, rfl, rfl⟩
        rw [nx_ask [] hn64y, nxD_nil 0]
        refine W_move rfl rfl ?_
        refine W_extract rfl rfl rfl ?_
        refine W_extract rfl rfl rfl ?_
        refine W_assign rfl rfl ?_
        refine W_assign rfl rfl ?_
        refine W_nil ?_
        refine W_sr ?_
        refine W_move rfl rfl ?_
        refine W_move rfl rfl ?_
        refine W_call (.cons rfl (.cons rfl .nil)) Tryd.call40 rfl (LCalls.hsub (NextB_L (l := ask) (ad := ad) (cap := cap) hB5 hn64y hy.ok.now (by omega) (haskr.up zH) hT (H := (b13, .cells 65 3 [.int .i64 a.kind, .int .i64 a.id, .int .u64 ((at_ : Nat) : Int)]) :: (y.XR ++ H))) zH) ?_
        rintro v H' ⟨HB6, hB6, rfl, rfl⟩
        rw [nx_ask ask hn64y]
        refine W_move rfl rfl ?_
        refine W_extract rfl rfl rfl ?_
        refine W_extract rfl rfl rfl ?_
        refine W_assign rfl rfl ?_
        refine W_assign rfl rfl ?_
        refine W_nil ?_
        refine W_sr ?_
        refine W_move rfl rfl ?_
        refine W_call (.cons rfl .nil) Tryd.call41 rfl (LCalls.hsub (LenB_L hB6 hn64y (H := (b13, .cells 65 3 [.int .i64 a.kind, .int .i64 a.id, .int .u64 ((at_ : Nat) : Int)]) :: (y.XR ++ H))) zH) ?_
        rintro v H' ⟨HB7, hB7, rfl, rfl⟩
        rw [lenK_all]
        refine W_move rfl rfl ?_
        refine W_bin rfl rfl b_neq rfl ?_
        rw [decide_eq_false (fun h => h rfl)]
        refine W_move rfl rfl ?_
        refine W_gyes rfl rfl ?_
        refine W_move rfl rfl ?_
        refine W_gyes rfl rfl ?_
        refine W_fieldAddr rfl fld65_2 (by decide) rfl ?_
        refine W_gyes rfl rfl ?_
        refine W_load (v := .int .u64 ((at_ : Nat) : Int)) rfl ty28 rfl (Cell.own (b := b13) zM rfl) rfl ?_
        refine W_gyes rfl rfl ?_
        refine W_call (.cons rfl (.cons rfl .nil)) Tryd.call42 rfl (LCalls.hsub (LateB_L (a := at_) hB7 hn64y hy.ok.now hT (H := (b13, .cells 65 3 [.int .i64 a.kind, .int .i64 a.id, .int .u64 ((at_ : Nat) : Int)]) :: (y.XR ++ H))) zH) ?_
        rintro v H' ⟨HB8, hB8, rfl, rfl⟩
        rw [late_all at_ hn64y]
        refine W_gyes rfl rfl ?_
        refine W_move rfl rfl ?_
        refine W_gyes rfl rfl ?_
        refine W_bin rfl rfl b_neq rfl ?_
        rw [decide_eq_false (fun h => h rfl)]
        first | refine W_pickt rfl rfl rfl ?_ | refine W_pickf rfl rfl rfl ?_
        refine W_move rfl rfl ?_
        refine W_gyes rfl rfl ?_
        refine W_move rfl rfl ?_
        refine W_gyes rfl rfl ?_
        refine W_move rfl rfl ?_
        refine W_gyes rfl rfl ?_
        refine W_bin rfl rfl b_neq rfl ?_
        rw [decide_eq_false (fun h => h rfl)]
        first | refine W_pickt rfl rfl rfl ?_ | refine W_pickf rfl rfl rfl ?_
        refine W_move rfl rfl ?_
        refine W_gyes rfl rfl ?_
        refine W_move rfl rfl ?_
        refine W_gyes rfl rfl ?_
        refine W_move rfl rfl ?_
        refine W_gyes rfl rfl ?_
        refine W_bne rfl rfl ty4 rfl ?_
        simp only [beq_self_eq_true, Bool.not_true]
        first | refine W_pickt rfl rfl rfl ?_ | refine W_pickf rfl rfl rfl ?_
        refine W_move rfl rfl ?_
        refine W_gyes rfl rfl ?_
        refine W_move rfl rfl ?_
        refine W_gyes rfl rfl ?_
        refine W_move rfl rfl ?_
        refine W_gyes rfl rfl ?_
        refine W_bin rfl rfl b_neq rfl ?_
        rw [decide_eq_false (fun h => h rfl)]
        first | refine W_pickt rfl rfl rfl ?_ | refine W_pickf rfl rfl rfl ?_
        refine W_move rfl rfl ?_
        refine W_gyes rfl rfl ?_
        refine W_move rfl rfl ?_
        refine W_gyes rfl rfl ?_
        refine W_move rfl rfl ?_
        refine W_gyes rfl rfl ?_
        refine W_bne rfl rfl ty4 rfl ?_
        simp only [beq_self_eq_true, Bool.not_true]
        first | refine W_pickt rfl rfl rfl ?_ | refine W_pickf rfl rfl rfl ?_
        refine W_nil ?_
        refine W_condF rfl rfl ?_
        refine W_skip ?_
        refine W_blk ?_
        refine W_region ?_
        refine W_move rfl rfl ?_
        refine W_bin rfl rfl (b_add (m := ((x.i + 1 : Nat) : Int)) ((i64w (by omega)).trans (by omega))) rfl ?_
        refine W_assign rfl rfl ?_
        refine W_nil ?_
        refine W_again ⟨x.i + 1, y.Ws, HB8, .slice adm n capm, y.XR⟩ ⟨by show x.i + 1 ≤ _; omega, by show x.i + 1 ≤ _; omega, ⟨hB8, by show BOk (x.i + 1) y.Ws; rw [← hyi]; exact hy.ok, hy.len, hdoc⟩⟩ (by show acts.length - (x.i + 1) < acts.length - x.i; omega) (sub_cons rfl (sub_cons rfl (sub_cons rfl (sub_cons rfl (sub_cons rfl (sub_cons rfl (sub_nil _))))))) rfl zH
  · skip
    refine W_exit rfl ?_
    refine W_sr ?_
    refine W_callp .nil Tryd.call43 rfl hT knownB_pure ?_
    refine W_assign rfl rfl ?_
    refine W_nil ?_
    refine W_ret1m (H2 := H) Tryd.results5 rfl (.nil _) zH ?_
    exact ⟨rfl, rfl⟩
end Go.Proofs.YtkcaakkaioingaaDoor
namespace Go.Proofs.YtkcaakkaioingaaDoor
open Go Go.Sl Go.ChangeShapes Go.WideShapes Go.ChangeAt Go.RowKit
set_option maxRecDepth 100000
theorem own : ownKnob Tryd.prog.godebug = none := by kernel_rfl
theorem kids : Kids Tryd.prog (· < Tryd.prog.types.size) := kids_rows (by kernel_rfl) (by kernel_rfl)
theorem full : ∀ t e, t < Tryd.prog.types.size → Tryd.prog.underlying t = some (.slice e) → 0 < Tryd.prog.cellsOf e := slices_full_of Tryd.prog (by kernel_rfl)
theorem u4 : Tryd.prog.underlying 4 = some .bool := by kernel_rfl
theorem u3 : Tryd.prog.underlying 3 = some (.int .i64) := by kernel_rfl
theorem k3 : Tryd.prog.cellsOf 3 = 1 := by kernel_rfl
theorem u28 : Tryd.prog.underlying 28 = some (.int .u64) := by kernel_rfl
theorem u58 : Tryd.prog.underlying 58 = some (.slice 3) := by kernel_rfl
theorem u275 : Tryd.prog.underlying 275 = some (.array 64 5) := by kernel_rfl
theorem u5 : Tryd.prog.underlying 5 = some (.int .u8) := by kernel_rfl
theorem gDz : Tryd.prog.globalNamed "math/bits.deBruijn64tab" = some 2 := by kernel_rfl
theorem tDz : (Tryd.prog.globals[2]?).map (·.type) = some 275 := by kernel_rfl
abbrev laidL : List (String × DataW Unit) := [("math/bits.deBruijn64tab", Rows.laid_math_bits_deBruijn64tab)]
theorem tab_laid {W : World} (h : laidMetH Tryd.prog laidL W) : Tab W := fun j hj => by
  have h1 : Lib.TabIs Tryd.prog W "math/bits.deBruijn64tab" .u8 (Lib.deBruijn64tab.map fun z : Nat => (z : Int)) := Lib.tabIs_of_head (rest := []) gDz tDz u275 u5 (by kernel_rfl) (by kernel_rfl) (show laidMet Tryd.prog laidL W from h)
  have h2 := h1.cell gDz j (by rw [List.length_map]; exact hj)
  rw [h2]
  rw [List.getD_eq_getElem?_getD, List.getD_eq_getElem?_getD, List.getElem?_map]
  cases Lib.deBruijn64tab[j]? <;> rfl
noncomputable def laidWorld (os : Os) : World :=
  let w0 := World.holding Tryd.prog os ⟨#[], #[], []⟩
  let put (h : Array Obj) (g : Nat) (cs : Array Value) : Array Obj := h.modify g fun
    | .cells _ t frozen => .cells cs t frozen
    | o => o
  { w0 with heap := put w0.heap 2 (Lib.deBruijn64tab.map fun z : Nat => Value.int .u8 (z : Int)).toArray }
theorem laid_met (os : Os) (args : Array Value) : laidMet Tryd.prog laidL ((laidWorld os).forCall (fun _ _ => 0) ⟨#[], args, []⟩).memory :=
  laidMet_of_run' 8 (by kernel_rfl) (by kernel_rfl)
end Go.Proofs.YtkcaakkaioingaaDoor
