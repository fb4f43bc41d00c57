/-
  Own work: contracts of functions that the statement reaches, and plain facts on what they compute; each theorem says its conditions.
-/
import Derived.Test.YtphdlpmnidiliaaGreatDoorXpT9
import Derived.Test.YtphdlpmnidiliaaGreatDoorXpS1
import Derived.Test.YtphdlpmnidiliaaGreatDoorXpS3
import Derived.Test.YtphdlpmnidiliaaGreatDoorXpS2
import Derived.Test.YtphdlpmnidiliaaGreatDoorXpA
set_option linter.all false
set_option linter.unusedSimpArgs false
set_option linter.unusedVariables false
namespace Go.Proofs.YtphdlpmnidiliaaGreatDoor
open Go Go.Sl
attribute [local irreducible] W
structure Axa where
  a : Axt
  ad : Option Addr
  cap : Nat
def axC (p : Axa) : List Value := [.int .i64 p.a.kind, .int .i64 p.a.how, .int .i64 p.a.pick, .int .i64 p.a.at_, .bool p.a.own, .int .i64 p.a.h.slot, .int .i64 p.a.h.gen, .int .u64 p.a.key, .slice p.ad p.a.l.length p.cap]
theorem axC_len (p : Axa) : (axC p).length = 9 := rfl
structure PlX where
  i : Nat
  x : Xm
  E : List Elm
  HB : Heap
  XR : Heap
  cs : List Value
theorem arrE_asc (k : Nat) : (linkK (arrE k)).Pairwise (· < ·) := by
  unfold linkK arrE
  rw [List.filter_eq_self.2 (fun e he => by obtain ⟨i, _, rfl⟩ := List.mem_map.1 he; rfl), List.map_map]
  refine List.Pairwise.map _ (R := (· < ·)) (fun a b (h : a < b) => by show (a : Int) < (b : Int); omega) ?_
  exact List.pairwise_lt_range
theorem new_asc {kd en wo : Nat} : (Xm.new kd en wo).kind = 0 → (linkK (arrE (if kd = 0 then en else 0))).Pairwise (· < ·) := fun _ => arrE_asc _
theorem celA_err {L : List Slt} {g : Hd} (h : errA L g ≠ 0) : celA L g = zCel := by
  unfold celA
  split
  · rw [if_neg h]
  · rfl
set_option maxHeartbeats 16000000 in
theorem xmapPlays_pure {kind entries words : Int} {acts : List Axa} {ada : Option Addr} {capa : Nat} (hokA : ∀ p ∈ acts, (0 ≤ p.a.key ∧ p.a.key ≤ 18446744073709551615) ∧ p.a.l.length ≤ p.cap ∧ p.a.l.length ≤ 9223372036854775807) (hal : acts.length ≤ 9223372036854775807) : Pure Tryz.prog (fun w => Tab w ∧ InRow w ada (acts.flatMap axC) ∧ ∀ p ∈ acts, InRow w p.ad (p.a.l.map (Value.int .u64))) 6 [.int .i64 kind, .int .i64 entries, .int .i64 words, .slice ada acts.length capa] (.bool true) := by
  intro w0 H hT
  have hacts : Holds w0 H ada (acts.flatMap axC) := Holds.old hT.2.1
  have hrl : ∀ p ∈ acts, Holds w0 H p.ad (p.a.l.map (Value.int .u64)) := fun p hp => Holds.old (hT.2.2 p hp)
  replace hT := hT.1
  refine L_enter Tryz.func6 rfl Tryz.ntmps6 rfl rfl ?_
  refine W_sr ?_
  refine W_assign rfl rfl ?_
  refine W_nil ?_
  refine W_sr ?_
  refine W_move rfl rfl ?_
  rcases (show (kind < 0 ∨ 2 < kind) ∨ ((0 ≤ kind ∧ kind ≤ 2) ∧ ¬ ((1 ≤ entries ∧ entries ≤ 8) ∧ 1 ≤ words ∧ words ≤ 4)) ∨ ((0 ≤ kind ∧ kind ≤ 2) ∧ ((1 ≤ entries ∧ entries ≤ 8) ∧ 1 ≤ words ∧ words ≤ 4)) by omega) with hb | ⟨hb, hb2⟩ | ⟨hb, hb2⟩
  · skip
    refine W_move rfl rfl ?_
    refine W_move rfl rfl ?_
    refine W_call (.cons rfl (.cons rfl (.cons rfl .nil))) Tryz.call22 rfl (((dxNew_kind hb (H := H))).hsub (.refl _)) ?_
    rintro v H' ⟨rfl, eH⟩
    obtain rfl := eH.symm
    refine W_move rfl rfl ?_
    refine W_extract rfl rfl rfl ?_
    refine W_extract rfl rfl rfl ?_
    refine W_alloc (l := [.int .i64 0, .int .i64 0, .int .i64 0, .bool false, .slice none 0 0, .slice none 0 0, .slice none 0 0, .slice none 0 0]) ty56 rfl rfl (fun b9 => ?_)
    refine W_storeA (l' := [.int .i64 0, .int .i64 0, .int .i64 0, .bool false, .slice none 0 0, .slice none 0 0, .slice none 0 0, .slice none 0 0]) rfl rfl ty56 rfl rfl (b := b9) zM (by exact Nat.le_refl 8) rfl zU ?_
    refine W_assign rfl rfl ?_
    refine W_nil ?_
    refine W_sr ?_
    refine W_move rfl rfl ?_
    refine W_move rfl rfl ?_
    refine W_move rfl rfl ?_
    refine W_callp (.cons rfl (.cons rfl (.cons rfl .nil))) Tryz.call8 rfl (T := fun _ => True) trivial (New_kind hb) ?_
    refine W_move rfl rfl ?_
    refine W_extract rfl rfl rfl ?_
    refine W_extract rfl rfl rfl ?_
    refine W_assign rfl rfl ?_
    refine W_assign rfl rfl ?_
    refine W_nil ?_
    refine W_seq ?_
    refine W_sr ?_
    refine W_move rfl rfl ?_
    refine W_move rfl rfl ?_
    refine W_bin rfl rfl b_neq rfl ?_
    refine W_nil ?_
    refine W_condF rfl rfl ?_
    refine W_skip ?_
    refine W_seq ?_
    refine W_sr ?_
    refine W_move rfl rfl ?_
    refine W_bin rfl rfl b_neq rfl ?_
    refine W_nil ?_
    refine W_condT rfl rfl ?_
    refine W_sr ?_
    refine W_callp .nil Tryz.call16 rfl hT xknown_pure ?_
    refine W_move rfl rfl ?_
    refine W_gyes rfl rfl ?_
    refine W_move rfl rfl ?_
    refine W_gyes rfl rfl ?_
    refine W_x (X_ptrNil rfl rfl ty23) (fun _ h => by cases h) rfl ?_
    first | refine W_pickt rfl rfl rfl ?_ | refine W_pickf rfl rfl rfl ?_
    refine W_assign rfl rfl ?_
    refine W_nil ?_
    refine W_ret1m (H2 := H) Tryz.results6 rfl (.nil _) zH ?_
    exact ⟨rfl, rfl⟩
  · skip
    refine W_move rfl rfl ?_
    refine W_move rfl rfl ?_
    refine W_call (.cons rfl (.cons rfl (.cons rfl .nil))) Tryz.call22 rfl (((dxNew_args hb hb2 (H := H))).hsub (.refl _)) ?_
    rintro v H' ⟨rfl, eH⟩
    obtain rfl := eH.symm
    refine W_move rfl rfl ?_
    refine W_extract rfl rfl rfl ?_
    refine W_extract rfl rfl rfl ?_
    refine W_alloc (l := [.int .i64 0, .int .i64 0, .int .i64 0, .bool false, .slice none 0 0, .slice none 0 0, .slice none 0 0, .slice none 0 0]) ty56 rfl rfl (fun b9 => ?_)
    refine W_storeA (l' := [.int .i64 0, .int .i64 0, .int .i64 0, .bool false, .slice none 0 0, .slice none 0 0, .slice none 0 0, .slice none 0 0]) rfl rfl ty56 rfl rfl (b := b9) zM (by exact Nat.le_refl 8) rfl zU ?_
    refine W_assign rfl rfl ?_
    refine W_nil ?_
    refine W_sr ?_
    refine W_move rfl rfl ?_
    refine W_move rfl rfl ?_
    refine W_move rfl rfl ?_
    refine W_callp (.cons rfl (.cons rfl (.cons rfl .nil))) Tryz.call8 rfl (T := fun _ => True) trivial (New_range hb (by omega)) ?_
    refine W_move rfl rfl ?_
    refine W_extract rfl rfl rfl ?_
    refine W_extract rfl rfl rfl ?_
    refine W_assign rfl rfl ?_
    refine W_assign rfl rfl ?_
    refine W_nil ?_
    refine W_seq ?_
    refine W_sr ?_
    refine W_move rfl rfl ?_
    refine W_move rfl rfl ?_
    refine W_bin rfl rfl b_neq rfl ?_
    refine W_nil ?_
    refine W_condF rfl rfl ?_
    refine W_skip ?_
    refine W_seq ?_
    refine W_sr ?_
    refine W_move rfl rfl ?_
    refine W_bin rfl rfl b_neq rfl ?_
    refine W_nil ?_
    refine W_condT rfl rfl ?_
    refine W_sr ?_
    refine W_callp .nil Tryz.call16 rfl hT xknown_pure ?_
    refine W_move rfl rfl ?_
    refine W_gyes rfl rfl ?_
    refine W_move rfl rfl ?_
    refine W_gyes rfl rfl ?_
    refine W_x (X_ptrNil rfl rfl ty23) (fun _ h => by cases h) rfl ?_
    first | refine W_pickt rfl rfl rfl ?_ | refine W_pickf rfl rfl rfl ?_
    refine W_assign rfl rfl ?_
    refine W_nil ?_
    refine W_ret1m (H2 := H) Tryz.results6 rfl (.nil _) zH ?_
    exact ⟨rfl, rfl⟩
  · skip
    obtain ⟨kd, rfl⟩ : ∃ n : Nat, kind = (n : Int) := ⟨kind.toNat, by omega⟩
    obtain ⟨en, rfl⟩ : ∃ n : Nat, entries = (n : Int) := ⟨entries.toNat, by omega⟩
    obtain ⟨wo, rfl⟩ : ∃ n : Nat, words = (n : Int) := ⟨words.toNat, by omega⟩
    have hk2 : kd ≤ 2 := by omega
    have hen : 1 ≤ en ∧ en ≤ 8 := by omega
    have hwo : 1 ≤ wo ∧ wo ≤ 4 := by omega
    refine W_move rfl rfl ?_
    refine W_move rfl rfl ?_
    refine W_call (.cons rfl (.cons rfl (.cons rfl .nil))) Tryz.call22 rfl (((dxNew_L hk2 hen hwo (H := H))).hsub (.refl _)) ?_
    rintro v H' ⟨cs0, X0, rfl, hD0, rfl⟩
    have hD0o := hD0
    obtain ⟨ad61, cap61, ad62, cap62, ad63, cap63, ad64, cap64, rfl, _⟩ := hD0o
    refine W_move rfl rfl ?_
    refine W_extract rfl rfl rfl ?_
    refine W_extract rfl rfl rfl ?_
    refine W_alloc (l := [.int .i64 0, .int .i64 0, .int .i64 0, .bool false, .slice none 0 0, .slice none 0 0, .slice none 0 0, .slice none 0 0]) ty56 rfl rfl (fun b9 => ?_)
    refine W_storeA (l' := [.int .i64 ((Xm.new kd en wo).kind : Int), .int .i64 ((Xm.new kd en wo).entries : Int), .int .i64 ((Xm.new kd en wo).words : Int), .bool (Xm.new kd en wo).closed, .slice ad61 ((Xm.new kd en wo).L).length cap61, .slice ad62 ((arrE (if kd = 0 then en else 0))).length cap62, .slice ad63 ((Xm.new kd en wo).C).length cap63, .slice ad64 ((Xm.new kd en wo).used).length cap64]) rfl rfl ty56 rfl rfl (b := b9) zM (by exact Nat.le_refl 8) rfl zU ?_
    refine W_assign rfl rfl ?_
    refine W_nil ?_
    refine W_sr ?_
    refine W_move rfl rfl ?_
    refine W_move rfl rfl ?_
    refine W_move rfl rfl ?_
    refine W_call (.cons rfl (.cons rfl (.cons rfl .nil))) Tryz.call8 rfl ((XmH.new hT hk2 hen hwo (H := (b9, .cells 56 8 [.int .i64 ((Xm.new kd en wo).kind : Int), .int .i64 ((Xm.new kd en wo).entries : Int), .int .i64 ((Xm.new kd en wo).words : Int), .bool (Xm.new kd en wo).closed, .slice ad61 ((Xm.new kd en wo).L).length cap61, .slice ad62 ((arrE (if kd = 0 then en else 0))).length cap62, .slice ad63 ((Xm.new kd en wo).C).length cap63, .slice ad64 ((Xm.new kd en wo).used).length cap64]) :: (X0 ++ H))).hsub zH) ?_
    rintro v H' ⟨mb, HB0, hX0, rfl, rfl⟩
    refine W_move rfl rfl ?_
    refine W_extract rfl rfl rfl ?_
    refine W_extract rfl rfl rfl ?_
    refine W_assign rfl rfl ?_
    refine W_assign rfl rfl ?_
    refine W_nil ?_
    refine W_seq ?_
    refine W_sr ?_
    refine W_move rfl rfl ?_
    refine W_move rfl rfl ?_
    refine W_bin rfl rfl b_neq rfl ?_
    refine W_nil ?_
    refine W_condF rfl rfl ?_
    refine W_skip ?_
    refine W_seq ?_
    refine W_sr ?_
    refine W_move rfl rfl ?_
    refine W_bin rfl rfl b_neq rfl ?_
    refine W_nil ?_
    refine W_condF rfl rfl ?_
    refine W_skip ?_
    refine W_seq ?_
    refine W_sr ?_
    refine W_assign rfl rfl ?_
    refine W_nil ?_
    refine W_block ?_
    refine W_loopC (X := PlX) [(0, _), (2, _), (3, _), (9, _), (11, _)] (fun (z : PlX) => [(13, .int .i64 (z.i : Int))]) (fun _ => _) (fun (z : PlX) => z.HB ++ ((b9, .cells 56 8 z.cs) :: (z.XR ++ H))) (fun (z : PlX) => z.i ≤ acts.length ∧ z.i ≤ 60 ∧ XmH mb (8 + 3 * z.i) z.x z.HB ∧ EOk z.x z.E ∧ (z.x.kind = 0 → (linkK z.E).Pairwise (· < ·)) ∧ DxV w0 (z.XR ++ H) z.x z.E z.cs ∧ z.E.length ≤ 8 + z.i ∧ z.x.kind = kd ∧ z.x.words = wo) (fun (z : PlX) => acts.length - z.i) ⟨0, Xm.new kd en wo, (arrE (if kd = 0 then en else 0)), HB0, X0, [.int .i64 ((Xm.new kd en wo).kind : Int), .int .i64 ((Xm.new kd en wo).entries : Int), .int .i64 ((Xm.new kd en wo).words : Int), .bool (Xm.new kd en wo).closed, .slice ad61 ((Xm.new kd en wo).L).length cap61, .slice ad62 ((arrE (if kd = 0 then en else 0))).length cap62, .slice ad63 ((Xm.new kd en wo).C).length cap63, .slice ad64 ((Xm.new kd en wo).used).length cap64]⟩ ⟨Nat.zero_le _, Nat.zero_le _, hX0, new_eok hk2 hen hwo, new_asc, hD0, by rw [arrE_len]; split <;> omega, rfl, rfl⟩ (sub_cons rfl (sub_cons rfl (sub_cons rfl (sub_cons rfl (sub_cons rfl (sub_nil _)))))) (sub_cons rfl (sub_nil _)) rfl zH ?_
    rintro ⟨i, x, E, HB, XR, cs⟩ ⟨hi, hi60, hX, ho, has, hD, hEl, hxk, hxw⟩
    dsimp only at hi hi60 hX ho has hD hEl hxk hxw ⊢
    have hDo := hD
    obtain ⟨ad1, cap1, ad2, cap2, ad3, cap3, ad4, cap4, rfl, _⟩ := hDo
    simp only [List.cons_append, List.nil_append]
    refine W_seq ?_
    refine W_sr ?_
    refine W_move rfl rfl ?_
    refine W_move rfl rfl ?_
    refine W_len rfl ty51 rfl rfl ?_
    refine W_bin rfl rfl b_lss rfl ?_
    refine W_move rfl rfl ?_
    apply W_and
    iterate 4 exact rfl
    case h1 =>
      intro hg4
      refine W_gyes rfl rfl ?_
      refine W_move rfl rfl ?_
      refine W_gyes rfl rfl ?_
      refine W_bin rfl rfl b_lss rfl ?_
      exact W_met rfl zR
    refine W_nil ?_
    refine W_condPS (p := (i : Int) < (acts.length : Int) ∧ (i : Int) < 60) rfl (by first | exact Iff.rfl | simp) (fun q0 => ?_) (fun q0 => ?_)
    · skip
      refine W_skip ?_
      refine W_seq ?_
      refine W_block ?_
      refine W_sr ?_
      obtain ⟨p, hp⟩ : ∃ p, acts[i]? = some p := ⟨_, List.getElem?_eq_getElem (by omega)⟩
      obtain ⟨qa, pa, eqa, hca⟩ := hacts.row axC_len (by decide) hp
      obtain ⟨hokk, hcapl, hmaxl⟩ := hokA p (List.mem_of_getElem? hp)
      have hrowl := hrl p (List.mem_of_getElem? hp)
      refine W_assign rfl rfl ?_
      refine W_nil ?_
      refine W_seq ?_
      refine W_anyS ((b9, .cells 56 8 [.int .i64 (x.kind : Int), .int .i64 (x.entries : Int), .int .i64 (x.words : Int), .bool x.closed, .slice ad1 (x.L).length cap1, .slice ad2 (E).length cap2, .slice ad3 (x.C).length cap3, .slice ad4 (x.used).length cap4]) :: H) 10 (by kernel_rfl) ?_
      refine WS_take 0 (l' := #[true, false, false, false, false, false, false, false, false, false, false, false]) rfl rfl (by decide +kernel) (by decide +kernel) (by decide +kernel) (by decide +kernel) rfl (by decide +kernel) (X_move rfl) rfl ?_
      refine WS_take 1 (l' := #[true, true, false, false, false, false, false, false, false, false, false, false]) rfl rfl (by decide +kernel) (by decide +kernel) (by decide +kernel) (by decide +kernel) rfl (by decide +kernel) (X_loadB (vs := [.int .i64 (x.kind : Int), .int .i64 (x.entries : Int), .int .i64 (x.words : Int), .bool x.closed, .slice ad1 (x.L).length cap1, .slice ad2 (E).length cap2, .slice ad3 (x.C).length cap3, .slice ad4 (x.used).length cap4]) rfl ty56 rfl (b := b9) zM rfl rfl) rfl ?_
      refine WS_take 2 (l' := #[true, true, true, false, false, false, false, false, false, false, false, false]) rfl rfl (by decide +kernel) (by decide +kernel) (by decide +kernel) (by decide +kernel) rfl (by decide +kernel) (X_move rfl) rfl ?_
      refine WS_take 3 (l' := #[true, true, true, true, false, false, false, false, false, false, false, false]) rfl rfl (by decide +kernel) (by decide +kernel) (by decide +kernel) (by decide +kernel) rfl (by decide +kernel) (X_move rfl) rfl ?_
      refine WS_take 4 (l' := #[true, true, true, true, true, false, false, false, false, false, false, false]) rfl rfl (by decide +kernel) (by decide +kernel) (by decide +kernel) (by decide +kernel) rfl (by decide +kernel) (X_indexAddr (b := qa) (o := pa) (j := i) (by rw [← eqa]; rfl) rfl ty51 ty62 rfl (by omega) rfl) rfl ?_
      refine WS_take 5 (l' := #[true, true, true, true, true, true, false, false, false, false, false, false]) rfl rfl (by decide +kernel) (by decide +kernel) (by decide +kernel) (by decide +kernel) rfl (by decide +kernel) (X_loadA (vs := axC p) rfl ty62 rfl rfl (hca.up zH)) rfl ?_
      refine WS_one 6 (l' := #[true, true, true, true, true, true, true, false, false, false, false, false]) zH rfl (by decide +kernel) rfl (by decide +kernel) ?_
      refine W_call (.cons rfl (.cons rfl (.cons rfl .nil))) Tryz.call23 rfl (LCalls.hsub (doX_L (HR := XR ++ H) (a := p.a) (adl := p.ad) (capl := p.cap) (T := 8 + 3 * i) hX hT (by omega) hD (show HSub ((b9, .cells 56 8 [.int .i64 (x.kind : Int), .int .i64 (x.entries : Int), .int .i64 (x.words : Int), .bool x.closed, .slice ad1 (x.L).length cap1, .slice ad2 (E).length cap2, .slice ad3 (x.C).length cap3, .slice ad4 (x.used).length cap4]) :: (XR ++ H)) (XR ++ H) from zH) ho has (by omega) (by omega) (hrowl.up zH) hcapl hmaxl (H := (b9, .cells 56 8 [.int .i64 (x.kind : Int), .int .i64 (x.entries : Int), .int .i64 (x.words : Int), .bool x.closed, .slice ad1 (x.L).length cap1, .slice ad2 (E).length cap2, .slice ad3 (x.C).length cap3, .slice ad4 (x.used).length cap4]) :: (XR ++ H))) zH) ?_
      rintro v H' ⟨x5, E5, HB5, X5, cs5, hX5, ho5, has5, hD5, hEl5, hkw5, rfl, rfl⟩
      have hx5 := hX5.ok
      have hD5o := hD5
      obtain ⟨ad11, cap11, ad12, cap12, ad13, cap13, ad14, cap14, rfl, hS5, hS5c, hE5, hE5c, hC5, hC5c, hU5, hU5c⟩ := hD5o
      refine W_nil ?_
      refine WS_goal ?_
      refine WS_take 7 (l' := #[true, true, true, true, true, true, true, true, false, false, false, false]) rfl rfl (by decide +kernel) (by decide +kernel) (by decide +kernel) (by decide +kernel) rfl (by decide +kernel) (X_move rfl) rfl ?_
      refine WS_take 8 (l' := #[true, true, true, true, true, true, true, true, true, false, false, false]) rfl rfl (by decide +kernel) (by decide +kernel) (by decide +kernel) (by decide +kernel) rfl (by decide +kernel) (X_extract rfl rfl) rfl ?_
      refine WS_takeP 9 (l' := #[true, true, true, true, true, true, true, true, true, true, false, false]) rfl rfl (by decide +kernel) (by decide +kernel) (by decide +kernel) rfl (by decide +kernel) (X_extract rfl rfl) rfl ?_
      refine WS_last (l' := #[true, true, true, true, true, true, true, true, true, true, true, false]) zH (by decide +kernel) rfl (by decide +kernel) ?_
      refine W_storeA (l' := [.int .i64 (x5.kind : Int), .int .i64 (x5.entries : Int), .int .i64 (x5.words : Int), .bool x5.closed, .slice ad11 (x5.L).length cap11, .slice ad12 (E5).length cap12, .slice ad13 (x5.C).length cap13, .slice ad14 (x5.used).length cap14]) rfl rfl ty56 rfl rfl (b := b9) zM (by exact Nat.le_refl 8) rfl zU ?_
      refine W_nil ?_
      refine WC_goal ?_
      refine WC_take 11 (l' := #[true, true, true, true, true, true, true, true, true, true, true, true]) rfl (by decide +kernel) (by decide +kernel) (by decide +kernel) rfl (by decide +kernel) (X_assign rfl) rfl ?_
      refine WC_done (.nil _) (by decide +kernel) ?_
      refine W_seq ?_
      refine W_sr ?_
      refine W_move rfl rfl ?_
      refine W_not rfl rfl ?_
      refine W_nil ?_
      refine W_condF rfl rfl ?_
      refine W_skip ?_
      refine W_sr ?_
      refine W_fieldAddr rfl fld56_4 (by decide) rfl ?_
      refine W_load (v := .slice ad11 x5.L.length cap11) rfl ty52 rfl (Cell.own (b := b9) zM rfl) rfl ?_
      refine W_callq (.cons rfl .nil) Tryz.call24 rfl (dsCount_q hx5.are ho5.three (hS5.up (show HSub _ (X5 ++ (XR ++ H)) from zH))) ?_
      refine W_move rfl rfl ?_
      refine W_extract rfl rfl rfl ?_
      refine W_extract rfl rfl rfl ?_
      refine W_assign rfl rfl ?_
      refine W_assign rfl rfl ?_
      refine W_nil ?_
      refine W_seq ?_
      refine W_seq ?_
      refine W_anyC [(b9, .cells 56 8 [.int .i64 (x5.kind : Int), .int .i64 (x5.entries : Int), .int .i64 (x5.words : Int), .bool x5.closed, .slice ad11 (x5.L).length cap11, .slice ad12 (E5).length cap12, .slice ad13 (x5.C).length cap13, .slice ad14 (x5.used).length cap14])] (by kernel_rfl) ?_
      refine WC_take 0 (l' := #[true, false, false, false, false, false, false, false, false, false, false, false, false, false, false, false, false, false, false, false, false, false, false, false, false, false, false, false, false, false, false]) rfl (by decide +kernel) (by decide +kernel) (by decide +kernel) rfl (by decide +kernel) (X_move rfl) rfl ?_
      refine WC_take 2 (l' := #[true, false, true, false, false, false, false, false, false, false, false, false, false, false, false, false, false, false, false, false, false, false, false, false, false, false, false, false, false, false, false]) rfl (by decide +kernel) (by decide +kernel) (by decide +kernel) rfl (by decide +kernel) (X_loadB (vs := [.int .i64 (x5.kind : Int), .int .i64 (x5.entries : Int), .int .i64 (x5.words : Int), .bool x5.closed, .slice ad11 (x5.L).length cap11, .slice ad12 (E5).length cap12, .slice ad13 (x5.C).length cap13, .slice ad14 (x5.used).length cap14]) rfl ty56 rfl (b := b9) zM rfl rfl) rfl ?_
      refine WC_one 1 (l' := #[true, true, true, false, false, false, false, false, false, false, false, false, false, false, false, false, false, false, false, false, false, false, false, false, false, false, false, false, false, false, false]) zH (by decide +kernel) rfl (by decide +kernel) ?_
      refine W_call (.cons rfl .nil) Tryz.call26 rfl ((hX5.keys (H := (b9, .cells 56 8 [.int .i64 (x5.kind : Int), .int .i64 (x5.entries : Int), .int .i64 (x5.words : Int), .bool x5.closed, .slice ad11 (x5.L).length cap11, .slice ad12 (E5).length cap12, .slice ad13 (x5.C).length cap13, .slice ad14 (x5.used).length cap14]) :: (X5 ++ (XR ++ H)))).hsub zH) ?_
      rintro v H' ⟨XK1, hK1, rfl⟩
      obtain ⟨adk1, capk1, rfl, _, _⟩ := hK1.shape
      refine W_nil ?_
      refine WC_goal ?_
      refine WC_one 3 (l' := #[true, true, true, true, false, false, false, false, false, false, false, false, false, false, false, false, false, false, false, false, false, false, false, false, false, false, false, false, false, false, false]) zH (by decide +kernel) rfl (by decide +kernel) ?_
      refine W_call (.cons rfl .nil) Tryz.call27 rfl (LCalls.hsub (dxKeys_L (HR := X5 ++ (XR ++ H)) (x := x5) (E := E5) hD5 (show HSub (XK1 ++ (HB5 ++ ((b9, .cells 56 8 [.int .i64 (x5.kind : Int), .int .i64 (x5.entries : Int), .int .i64 (x5.words : Int), .bool x5.closed, .slice ad11 (x5.L).length cap11, .slice ad12 (E5).length cap12, .slice ad13 (x5.C).length cap13, .slice ad14 (x5.used).length cap14]) :: (X5 ++ (XR ++ H))))) (X5 ++ (XR ++ H)) from zH) (by omega) (by have := hx5.le; have := hx5.ent; omega) (H := XK1 ++ (HB5 ++ ((b9, .cells 56 8 [.int .i64 (x5.kind : Int), .int .i64 (x5.entries : Int), .int .i64 (x5.words : Int), .bool x5.closed, .slice ad11 (x5.L).length cap11, .slice ad12 (E5).length cap12, .slice ad13 (x5.C).length cap13, .slice ad14 (x5.used).length cap14]) :: (X5 ++ (XR ++ H)))))) zH) ?_
      rintro v H' ⟨adk2, capk2, XK2, rfl, hK2, rfl⟩
      rw [keysD_is ho5 hx5 has5] at hK2 ⊢
      refine W_nil ?_
      refine WC_goal ?_
      refine WC_one 4 (l' := #[true, true, true, true, true, false, false, false, false, false, false, false, false, false, false, false, false, false, false, false, false, false, false, false, false, false, false, false, false, false, false]) zH (by decide +kernel) rfl (by decide +kernel) ?_
      refine W_callq (.cons rfl (.cons rfl .nil)) Tryz.call25 rfl (sameU_q (l := x5.keys) (r := x5.keys) (hK1.toHolds (fun p hp => by repeat (first | exact List.mem_append_left _ hp | apply List.mem_append_right | apply List.mem_cons_of_mem))) (hK2.up zH) (by have := hx5.keysPerm.length_eq; rw [List.length_map] at this; have := hx5.le; have := hx5.ent; omega)) ?_
      rw [decide_eq_true rfl]
      refine W_nil ?_
      refine WC_goal ?_
      refine WC_take 5 (l' := #[true, true, true, true, true, true, false, false, false, false, false, false, false, false, false, false, false, false, false, false, false, false, false, false, false, false, false, false, false, false, false]) rfl (by decide +kernel) (by decide +kernel) (by decide +kernel) rfl (by decide +kernel) (X_not rfl) rfl ?_
      refine WC_take 6 (l' := #[true, true, true, true, true, true, true, false, false, false, false, false, false, false, false, false, false, false, false, false, false, false, false, false, false, false, false, false, false, false, false]) rfl (by decide +kernel) (by decide +kernel) (by decide +kernel) rfl (by decide +kernel) (X_move rfl) rfl ?_
      refine WC_gyes 7 (l' := #[true, true, true, true, true, true, true, true, false, false, false, false, false, false, false, false, false, false, false, false, false, false, false, false, false, false, false, false, false, false, false]) rfl (by decide +kernel) (by decide +kernel) (by decide +kernel) rfl (by decide +kernel) rfl rfl (X_move rfl) rfl ?_
      refine WC_gyes 9 (l' := #[true, true, true, true, true, true, true, true, false, true, false, false, false, false, false, false, false, false, false, false, false, false, false, false, false, false, false, false, false, false, false]) rfl (by decide +kernel) (by decide +kernel) (by decide +kernel) rfl (by decide +kernel) rfl rfl (X_loadB (vs := [.int .i64 (x5.kind : Int), .int .i64 (x5.entries : Int), .int .i64 (x5.words : Int), .bool x5.closed, .slice ad11 (x5.L).length cap11, .slice ad12 (E5).length cap12, .slice ad13 (x5.C).length cap13, .slice ad14 (x5.used).length cap14]) rfl ty56 rfl (b := b9) zM rfl rfl) rfl ?_
      refine WC_one 8 (l' := #[true, true, true, true, true, true, true, true, true, true, false, false, false, false, false, false, false, false, false, false, false, false, false, false, false, false, false, false, false, false, false]) zH (by decide +kernel) rfl (by decide +kernel) ?_
      refine W_gyes rfl rfl ?_
      refine W_callq (.cons rfl .nil) Tryz.call9 rfl (hX5.len (fun p hp => by repeat (first | exact List.mem_append_left _ hp | apply List.mem_append_right | apply List.mem_cons_of_mem))) ?_
      refine W_nil ?_
      refine WC_goal ?_
      refine WC_one 10 (l' := #[true, true, true, true, true, true, true, true, true, true, true, false, false, false, false, false, false, false, false, false, false, false, false, false, false, false, false, false, false, false, false]) zH (by decide +kernel) rfl (by decide +kernel) ?_
      refine W_gyes rfl rfl ?_
      refine W_callq (.cons rfl .nil) Tryz.call28 rfl (dxLen_q (HR := X5 ++ (XR ++ H)) (x := x5) (E := E5) hD5 (show HSub _ (X5 ++ (XR ++ H)) from zH)) ?_
      refine W_nil ?_
      refine WC_goal ?_
      refine WC_gyes 11 (l' := #[true, true, true, true, true, true, true, true, true, true, true, true, false, false, false, false, false, false, false, false, false, false, false, false, false, false, false, false, false, false, false]) rfl (by decide +kernel) (by decide +kernel) (by decide +kernel) rfl (by decide +kernel) rfl rfl (X_bin rfl rfl b_neq) rfl ?_
      rw [decide_eq_false (fun h => h (by rw [hx5.ulen]))]
      first | refine WC_take 12 (l' := #[true, true, true, true, true, true, true, true, true, true, true, true, true, false, false, false, false, false, false, false, false, false, false, false, false, false, false, false, false, false, false]) rfl (by decide +kernel) (by decide +kernel) (by decide +kernel) rfl (by decide +kernel) (X_pickt rfl rfl) rfl ?_ | refine WC_take 12 (l' := #[true, true, true, true, true, true, true, true, true, true, true, true, true, false, false, false, false, false, false, false, false, false, false, false, false, false, false, false, false, false, false]) rfl (by decide +kernel) (by decide +kernel) (by decide +kernel) rfl (by decide +kernel) (X_pickf rfl rfl) rfl ?_
      refine WC_take 13 (l' := #[true, true, true, true, true, true, true, true, true, true, true, true, true, true, false, false, false, false, false, false, false, false, false, false, false, false, false, false, false, false, false]) rfl (by decide +kernel) (by decide +kernel) (by decide +kernel) rfl (by decide +kernel) (X_move rfl) rfl ?_
      refine WC_gyes 14 (l' := #[true, true, true, true, true, true, true, true, true, true, true, true, true, true, true, false, false, false, false, false, false, false, false, false, false, false, false, false, false, false, false]) rfl (by decide +kernel) (by decide +kernel) (by decide +kernel) rfl (by decide +kernel) rfl rfl (X_move rfl) rfl ?_
      refine WC_gyes 16 (l' := #[true, true, true, true, true, true, true, true, true, true, true, true, true, true, true, false, true, false, false, false, false, false, false, false, false, false, false, false, false, false, false]) rfl (by decide +kernel) (by decide +kernel) (by decide +kernel) rfl (by decide +kernel) rfl rfl (X_move rfl) rfl ?_
      refine WC_one 15 (l' := #[true, true, true, true, true, true, true, true, true, true, true, true, true, true, true, true, true, false, false, false, false, false, false, false, false, false, false, false, false, false, false]) zH (by decide +kernel) rfl (by decide +kernel) ?_
      refine W_gyes rfl rfl ?_
      refine W_callq (.cons rfl .nil) Tryz.call10 rfl (hX5.held (fun p hp => by repeat (first | exact List.mem_append_left _ hp | apply List.mem_append_right | apply List.mem_cons_of_mem))) ?_
      refine W_nil ?_
      refine WC_goal ?_
      refine WC_gyes 17 (l' := #[true, true, true, true, true, true, true, true, true, true, true, true, true, true, true, true, true, true, false, false, false, false, false, false, false, false, false, false, false, false, false]) rfl (by decide +kernel) (by decide +kernel) (by decide +kernel) rfl (by decide +kernel) rfl rfl (X_bin rfl rfl b_neq) rfl ?_
      rw [decide_eq_false (fun h => h rfl)]
      first | refine WC_take 18 (l' := #[true, true, true, true, true, true, true, true, true, true, true, true, true, true, true, true, true, true, true, false, false, false, false, false, false, false, false, false, false, false, false]) rfl (by decide +kernel) (by decide +kernel) (by decide +kernel) rfl (by decide +kernel) (X_pickt rfl rfl) rfl ?_ | refine WC_take 18 (l' := #[true, true, true, true, true, true, true, true, true, true, true, true, true, true, true, true, true, true, true, false, false, false, false, false, false, false, false, false, false, false, false]) rfl (by decide +kernel) (by decide +kernel) (by decide +kernel) rfl (by decide +kernel) (X_pickf rfl rfl) rfl ?_
      refine WC_take 19 (l' := #[true, true, true, true, true, true, true, true, true, true, true, true, true, true, true, true, true, true, true, true, false, false, false, false, false, false, false, false, false, false, false]) rfl (by decide +kernel) (by decide +kernel) (by decide +kernel) rfl (by decide +kernel) (X_move rfl) rfl ?_
      refine WC_gyes 20 (l' := #[true, true, true, true, true, true, true, true, true, true, true, true, true, true, true, true, true, true, true, true, true, false, false, false, false, false, false, false, false, false, false]) rfl (by decide +kernel) (by decide +kernel) (by decide +kernel) rfl (by decide +kernel) rfl rfl (X_move rfl) rfl ?_
      refine WC_gyes 22 (l' := #[true, true, true, true, true, true, true, true, true, true, true, true, true, true, true, true, true, true, true, true, true, false, true, false, false, false, false, false, false, false, false]) rfl (by decide +kernel) (by decide +kernel) (by decide +kernel) rfl (by decide +kernel) rfl rfl (X_move rfl) rfl ?_
      refine WC_one 21 (l' := #[true, true, true, true, true, true, true, true, true, true, true, true, true, true, true, true, true, true, true, true, true, true, true, false, false, false, false, false, false, false, false]) zH (by decide +kernel) rfl (by decide +kernel) ?_
      refine W_gyes rfl rfl ?_
      refine W_callq (.cons rfl .nil) Tryz.call29 rfl (hX5.kindq (fun p hp => by repeat (first | exact List.mem_append_left _ hp | apply List.mem_append_right | apply List.mem_cons_of_mem))) ?_
      refine W_nil ?_
      refine WC_goal ?_
      refine WC_gyes 23 (l' := #[true, true, true, true, true, true, true, true, true, true, true, true, true, true, true, true, true, true, true, true, true, true, true, true, false, false, false, false, false, false, false]) rfl (by decide +kernel) (by decide +kernel) (by decide +kernel) rfl (by decide +kernel) rfl rfl (X_bin rfl rfl b_neq) rfl ?_
      rw [decide_eq_false (fun h => h (by rw [hkw5.1, hxk]))]
      first | refine WC_take 24 (l' := #[true, true, true, true, true, true, true, true, true, true, true, true, true, true, true, true, true, true, true, true, true, true, true, true, true, false, false, false, false, false, false]) rfl (by decide +kernel) (by decide +kernel) (by decide +kernel) rfl (by decide +kernel) (X_pickt rfl rfl) rfl ?_ | refine WC_take 24 (l' := #[true, true, true, true, true, true, true, true, true, true, true, true, true, true, true, true, true, true, true, true, true, true, true, true, true, false, false, false, false, false, false]) rfl (by decide +kernel) (by decide +kernel) (by decide +kernel) rfl (by decide +kernel) (X_pickf rfl rfl) rfl ?_
      refine WC_take 25 (l' := #[true, true, true, true, true, true, true, true, true, true, true, true, true, true, true, true, true, true, true, true, true, true, true, true, true, true, false, false, false, false, false]) rfl (by decide +kernel) (by decide +kernel) (by decide +kernel) rfl (by decide +kernel) (X_move rfl) rfl ?_
      refine WC_gyes 26 (l' := #[true, true, true, true, true, true, true, true, true, true, true, true, true, true, true, true, true, true, true, true, true, true, true, true, true, true, true, false, false, false, false]) rfl (by decide +kernel) (by decide +kernel) (by decide +kernel) rfl (by decide +kernel) rfl rfl (X_move rfl) rfl ?_
      refine WC_gyes 28 (l' := #[true, true, true, true, true, true, true, true, true, true, true, true, true, true, true, true, true, true, true, true, true, true, true, true, true, true, true, false, true, false, false]) rfl (by decide +kernel) (by decide +kernel) (by decide +kernel) rfl (by decide +kernel) rfl rfl (X_move rfl) rfl ?_
      refine WC_one 27 (l' := #[true, true, true, true, true, true, true, true, true, true, true, true, true, true, true, true, true, true, true, true, true, true, true, true, true, true, true, true, true, false, false]) zH (by decide +kernel) rfl (by decide +kernel) ?_
      refine W_gyes rfl rfl ?_
      refine W_callq (.cons rfl .nil) Tryz.call30 rfl (hX5.wordsq (fun p hp => by repeat (first | exact List.mem_append_left _ hp | apply List.mem_append_right | apply List.mem_cons_of_mem))) ?_
      refine W_nil ?_
      refine WC_goal ?_
      refine WC_gyes 29 (l' := #[true, true, true, true, true, true, true, true, true, true, true, true, true, true, true, true, true, true, true, true, true, true, true, true, true, true, true, true, true, true, false]) rfl (by decide +kernel) (by decide +kernel) (by decide +kernel) rfl (by decide +kernel) rfl rfl (X_bin rfl rfl b_neq) rfl ?_
      rw [decide_eq_false (fun h => h (by rw [hkw5.2, hxw]))]
      first | refine WC_take 30 (l' := #[true, true, true, true, true, true, true, true, true, true, true, true, true, true, true, true, true, true, true, true, true, true, true, true, true, true, true, true, true, true, true]) rfl (by decide +kernel) (by decide +kernel) (by decide +kernel) rfl (by decide +kernel) (X_pickt rfl rfl) rfl ?_ | refine WC_take 30 (l' := #[true, true, true, true, true, true, true, true, true, true, true, true, true, true, true, true, true, true, true, true, true, true, true, true, true, true, true, true, true, true, true]) rfl (by decide +kernel) (by decide +kernel) (by decide +kernel) rfl (by decide +kernel) (X_pickf rfl rfl) rfl ?_
      refine WC_done zH (by decide +kernel) ?_
      refine W_condF rfl rfl ?_
      refine W_skip ?_
      refine W_seq ?_
      refine W_cutX (X := (Nat × Hd)) (fun z => [(17, .pointer (some ⟨z.1, 0, none⟩)), (0, .int .i64 (kd : Int)), (2, .int .i64 (wo : Int)), (3, .slice ada acts.length capa), (9, .pointer (some ⟨b9, 0, none⟩)), (11, .pointer (some ⟨mb, 0, none⟩)), (13, .int .i64 (i : Int))]) (fun z => (z.1, .cells 29 2 (hdC z.2)) :: (HB5 ++ ((b9, .cells 56 8 [.int .i64 (x5.kind : Int), .int .i64 (x5.entries : Int), .int .i64 (x5.words : Int), .bool x5.closed, .slice ad11 (x5.L).length cap11, .slice ad12 (E5).length cap12, .slice ad13 (x5.C).length cap13, .slice ad14 (x5.used).length cap14]) :: (X5 ++ (XR ++ H))))) (fun _ => True) ?_ ?_
      · skip
        refine W_anyC ((b9, .cells 56 8 [.int .i64 (x5.kind : Int), .int .i64 (x5.entries : Int), .int .i64 (x5.words : Int), .bool x5.closed, .slice ad11 (x5.L).length cap11, .slice ad12 (E5).length cap12, .slice ad13 (x5.C).length cap13, .slice ad14 (x5.used).length cap14]) :: H) (by kernel_rfl) ?_
        refine WC_take 0 (l' := #[true, false, false, false, false, false, false, false]) rfl (by decide +kernel) (by decide +kernel) (by decide +kernel) rfl (by decide +kernel) (X_loadB (vs := [.int .i64 (x5.kind : Int), .int .i64 (x5.entries : Int), .int .i64 (x5.words : Int), .bool x5.closed, .slice ad11 (x5.L).length cap11, .slice ad12 (E5).length cap12, .slice ad13 (x5.C).length cap13, .slice ad14 (x5.used).length cap14]) rfl ty56 rfl (b := b9) zM rfl rfl) rfl ?_
        refine WC_take 1 (l' := #[true, true, false, false, false, false, false, false]) rfl (by decide +kernel) (by decide +kernel) (by decide +kernel) rfl (by decide +kernel) (X_move rfl) rfl ?_
        refine WC_take 2 (l' := #[true, true, true, false, false, false, false, false]) rfl (by decide +kernel) (by decide +kernel) (by decide +kernel) rfl (by decide +kernel) (X_move rfl) rfl ?_
        refine WC_take 3 (l' := #[true, true, true, true, false, false, false, false]) rfl (by decide +kernel) (by decide +kernel) (by decide +kernel) rfl (by decide +kernel) (X_indexAddr (b := qa) (o := pa) (j := i) (by rw [← eqa]; rfl) rfl ty51 ty62 rfl (by omega) rfl) rfl ?_
        refine WC_take 4 (l' := #[true, true, true, true, true, false, false, false]) rfl (by decide +kernel) (by decide +kernel) (by decide +kernel) rfl (by decide +kernel) (X_loadA (vs := axC p) rfl ty62 rfl rfl (hca.up zH)) rfl ?_
        refine WC_two 5 6 (l' := #[true, true, true, true, true, true, false, false]) (l'' := #[true, true, true, true, true, false, true, false]) zH (by decide +kernel) rfl rfl (by decide +kernel) (by decide +kernel) ?_ ?_
        · skip
          refine W_call (.cons rfl (.cons rfl .nil)) Tryz.call31 rfl (LCalls.hsub (dxof_L (HR := X5 ++ (XR ++ H)) (x := x5) (E := E5) (a := p.a) (adl := p.ad) (capl := p.cap) hD5 (show HSub ((HB5 ++ ((b9, .cells 56 8 [.int .i64 (x5.kind : Int), .int .i64 (x5.entries : Int), .int .i64 (x5.words : Int), .bool x5.closed, .slice ad11 (x5.L).length cap11, .slice ad12 (E5).length cap12, .slice ad13 (x5.C).length cap13, .slice ad14 (x5.used).length cap14]) :: (X5 ++ (XR ++ H))))) (X5 ++ (XR ++ H)) from zH) (by omega) (H := (HB5 ++ ((b9, .cells 56 8 [.int .i64 (x5.kind : Int), .int .i64 (x5.entries : Int), .int .i64 (x5.words : Int), .bool x5.closed, .slice ad11 (x5.L).length cap11, .slice ad12 (E5).length cap12, .slice ad13 (x5.C).length cap13, .slice ad14 (x5.used).length cap14]) :: (X5 ++ (XR ++ H)))))) zH) ?_
          rintro v H' ⟨g, rfl, rfl⟩
          refine W_nil ?_
          refine WC_goal ?_
          refine WC_one 6 (l' := #[true, true, true, true, true, true, true, false]) zH (by decide +kernel) rfl (by decide +kernel) ?_
          refine W_alloc (l := hdC zHd) ty29 rfl rfl (fun b17 => ?_)
          refine W_nil ?_
          refine WC_goal ?_
          refine WC_one 7 (l' := #[true, true, true, true, true, true, true, true]) zH (by decide +kernel) rfl (by decide +kernel) ?_
          refine W_storeA (l' := hdC g) rfl rfl ty29 rfl rfl (b := b17) zM (by exact Nat.le_refl 2) rfl zU ?_
          refine W_nil ?_
          refine WC_goal ?_
          refine WC_done zH (by decide +kernel) ?_
          refine W_joinX (b17, g) trivial (sub_cons rfl (sub_cons rfl (sub_cons rfl (sub_cons rfl (sub_cons rfl (sub_cons rfl (sub_cons rfl (sub_nil _)))))))) zH
        · skip
          refine W_alloc (l := hdC zHd) ty29 rfl rfl (fun b17 => ?_)
          refine W_nil ?_
          refine WC_goal ?_
          refine WC_one 5 (l' := #[true, true, true, true, true, true, true, false]) zH (by decide +kernel) rfl (by decide +kernel) ?_
          refine W_call (.cons rfl (.cons rfl .nil)) Tryz.call31 rfl (LCalls.hsub (dxof_L (HR := X5 ++ (XR ++ H)) (x := x5) (E := E5) (a := p.a) (adl := p.ad) (capl := p.cap) hD5 (show HSub ((b17, .cells 29 2 (hdC zHd)) :: (HB5 ++ ((b9, .cells 56 8 [.int .i64 (x5.kind : Int), .int .i64 (x5.entries : Int), .int .i64 (x5.words : Int), .bool x5.closed, .slice ad11 (x5.L).length cap11, .slice ad12 (E5).length cap12, .slice ad13 (x5.C).length cap13, .slice ad14 (x5.used).length cap14]) :: (X5 ++ (XR ++ H))))) (X5 ++ (XR ++ H)) from zH) (by omega) (H := (b17, .cells 29 2 (hdC zHd)) :: (HB5 ++ ((b9, .cells 56 8 [.int .i64 (x5.kind : Int), .int .i64 (x5.entries : Int), .int .i64 (x5.words : Int), .bool x5.closed, .slice ad11 (x5.L).length cap11, .slice ad12 (E5).length cap12, .slice ad13 (x5.C).length cap13, .slice ad14 (x5.used).length cap14]) :: (X5 ++ (XR ++ H)))))) zH) ?_
          rintro v H' ⟨g, rfl, rfl⟩
          refine W_nil ?_
          refine WC_goal ?_
          refine WC_one 7 (l' := #[true, true, true, true, true, true, true, true]) zH (by decide +kernel) rfl (by decide +kernel) ?_
          refine W_storeA (l' := hdC g) rfl rfl ty29 rfl rfl (b := b17) zM (by exact Nat.le_refl 2) rfl zU ?_
          refine W_nil ?_
          refine WC_goal ?_
          refine WC_done zH (by decide +kernel) ?_
          refine W_joinX (b17, g) trivial (sub_cons rfl (sub_cons rfl (sub_cons rfl (sub_cons rfl (sub_cons rfl (sub_cons rfl (sub_cons rfl (sub_nil _)))))))) zH
      rintro ⟨b17, g⟩ -
      dsimp only
      refine W_sr ?_
      refine W_loadB (vs := [.int .i64 (x5.kind : Int), .int .i64 (x5.entries : Int), .int .i64 (x5.words : Int), .bool x5.closed, .slice ad11 (x5.L).length cap11, .slice ad12 (E5).length cap12, .slice ad13 (x5.C).length cap13, .slice ad14 (x5.used).length cap14]) rfl ty56 rfl (b := b9) zM rfl rfl rfl ?_
      refine W_fieldAddr rfl fld29_0 (by decide) rfl ?_
      refine W_load (v := .int .i64 g.slot) rfl ty3 rfl (Cell.own (b := b17) zM rfl) rfl ?_
      refine W_fieldAddr rfl fld29_1 (by decide) rfl ?_
      refine W_load (v := .int .i64 g.gen) rfl ty3 rfl (Cell.own (b := b17) zM rfl) rfl ?_
      refine W_callq (.cons rfl (.cons rfl (.cons rfl .nil))) Tryz.call32 rfl (dxAt_q (HR := X5 ++ (XR ++ H)) (x := x5) (E := E5) (slot := g.slot) (gen := g.gen) hD5 (show HSub _ (X5 ++ (XR ++ H)) from zH) hx5.are (by omega)) ?_
      by_cases her : errA x5.L g = 0
      · skip
        obtain ⟨j, e, hat, he, heg, hek, hew, hel⟩ := ho5.atX0 hx5 her
        rw [hat]
        have hjl := (List.getElem?_eq_some_iff.1 he).1
        obtain ⟨qk, pk, eqk, hkc⟩ := Holds.row elmC_len (by decide) hE5 he
        refine W_move rfl rfl ?_
        refine W_extract rfl rfl rfl ?_
        refine W_extract rfl rfl rfl ?_
        refine W_assign rfl rfl ?_
        refine W_assign rfl rfl ?_
        refine W_nil ?_
        refine W_sr ?_
        refine W_move rfl rfl ?_
        refine W_loadB (vs := hdC g) rfl ty29 rfl (b := b17) zM rfl rfl rfl ?_
        refine W_callq (.cons rfl (.cons rfl .nil)) Tryz.call18 rfl (hX5.key (fun p hp => by repeat (first | exact List.mem_append_left _ hp | apply List.mem_append_right | apply List.mem_cons_of_mem)) (h := g)) ?_
        rw [show (x5.key g).1 = e.key from hek.symm, show (x5.key g).2 = 0 from her]
        refine W_move rfl rfl ?_
        refine W_extract rfl rfl rfl ?_
        refine W_extract rfl rfl rfl ?_
        refine W_assign rfl rfl ?_
        refine W_assign rfl rfl ?_
        refine W_nil ?_
        refine W_quietsr (by kernel_rfl) (by decide +kernel) ?_
        refine WQ_x (X_move rfl) rfl ?_
        refine WQ_x (X_move rfl) rfl ?_
        refine WQ_x (X_bin rfl rfl b_neq) rfl ?_
        rw [decide_eq_false (fun h => h rfl)]
        refine WQ_x (X_move rfl) rfl ?_
        refine WQ_gyes rfl rfl ?_
        refine WQ_x (X_move rfl) rfl ?_
        refine WQ_gyes rfl rfl ?_
        refine WQ_x (X_bin rfl rfl b_eql) rfl ?_
        first | rw [decide_eq_true rfl] | rw [decide_eq_false her]
        refine WQ_gyes rfl rfl ?_
        refine WQ_x (X_move rfl) rfl ?_
        refine WQ_gyes rfl rfl ?_
        refine WQ_x (X_move rfl) rfl ?_
        refine WQ_gyes rfl rfl ?_
        refine WQ_x (X_fieldAddr rfl fld56_5 (by decide)) rfl ?_
        refine WQ_gyes rfl rfl ?_
        refine WQ_x (X_load (v := .slice ad12 E5.length cap12) rfl ty53 rfl (Cell.own (b := b9) zM rfl)) rfl ?_
        refine WQ_gyes rfl rfl ?_
        refine WQ_x (X_move rfl) rfl ?_
        refine WQ_gyes rfl rfl ?_
        refine WQ_x (X_indexAddr (b := qk) (o := pk) (j := j) (by rw [← eqk]; rfl) rfl ty53 ty71 rfl (by omega) rfl) rfl ?_
        refine WQ_gyes rfl rfl ?_
        refine WQ_x (X_fieldAddr rfl fld71_0 (by decide)) rfl ?_
        refine WQ_gyes rfl rfl ?_
        refine WQ_x (X_load (v := .int .u64 e.key) rfl ty22 rfl ((hkc 0 (.int .u64 e.key) rfl).up zH)) rfl ?_
        refine WQ_gyes rfl rfl ?_
        refine WQ_x (X_bin rfl rfl b_neq) rfl ?_
        rw [decide_eq_false (fun h => h rfl)]
        refine WQ_gyes rfl rfl ?_
        refine WQ_x (X_move rfl) rfl ?_
        refine WQ_gyes rfl rfl ?_
        refine WQ_x (X_move rfl) rfl ?_
        refine WQ_gyes rfl rfl ?_
        refine WQ_x (X_loadB (vs := hdC g) rfl ty29 rfl (b := b17) zM rfl rfl) rfl ?_
        refine WQ_gyes rfl rfl ?_
        refine WQ_callq (.cons rfl (.cons rfl .nil)) Tryz.call20 rfl (hX5.linked (fun p hp => by repeat (first | exact List.mem_append_left _ hp | apply List.mem_append_right | apply List.mem_cons_of_mem)) (h := g)) ?_
        rw [← hel]
        refine WQ_gyes rfl rfl ?_
        refine WQ_x (X_fieldAddr rfl fld56_5 (by decide)) rfl ?_
        refine WQ_gyes rfl rfl ?_
        refine WQ_x (X_load (v := .slice ad12 E5.length cap12) rfl ty53 rfl (Cell.own (b := b9) zM rfl)) rfl ?_
        refine WQ_gyes rfl rfl ?_
        refine WQ_x (X_move rfl) rfl ?_
        refine WQ_gyes rfl rfl ?_
        refine WQ_x (X_indexAddr (b := qk) (o := pk) (j := j) (by rw [← eqk]; rfl) rfl ty53 ty71 rfl (by omega) rfl) rfl ?_
        refine WQ_gyes rfl rfl ?_
        refine WQ_x (X_fieldAddr rfl fld71_4 (by decide)) rfl ?_
        refine WQ_gyes rfl rfl ?_
        refine WQ_x (X_load (v := .bool e.linked) rfl ty4 rfl ((hkc 7 (.bool e.linked) rfl).up zH)) rfl ?_
        refine WQ_gyes rfl rfl ?_
        refine WQ_x (X_bne rfl rfl ty4) rfl ?_
        rw [beq_self_eq_true, Bool.not_true]
        refine WQ_gyes rfl rfl ?_
        first | refine WQ_x (X_pickt rfl rfl) rfl ?_ | refine WQ_x (X_pickf rfl rfl) rfl ?_
        refine WQ_gyes rfl rfl ?_
        first | refine WQ_x (X_pickt rfl rfl) rfl ?_ | refine WQ_x (X_pickf rfl rfl) rfl ?_
        first | refine WQ_x (X_pickt rfl rfl) rfl ?_ | refine WQ_x (X_pickf rfl rfl) rfl ?_
        refine WQ_x (X_move rfl) rfl ?_
        refine WQ_gyes rfl rfl ?_
        refine WQ_x (X_move rfl) rfl ?_
        refine WQ_gyes rfl rfl ?_
        refine WQ_x (X_bin rfl rfl b_neq) rfl ?_
        first | rw [decide_eq_true her] | rw [decide_eq_false (fun h => h rfl)]
        refine WQ_gyes rfl rfl ?_
        refine WQ_x (X_move rfl) rfl ?_
        refine WQ_gno rfl rfl rfl rfl ?_
        refine WQ_gno rfl rfl rfl rfl ?_
        refine WQ_gno rfl rfl rfl rfl ?_
        refine WQ_gnou rfl rfl rfl ?_
        refine WQ_gnou rfl rfl rfl ?_
        refine WQ_gnou rfl rfl rfl ?_
        refine WQ_gno rfl rfl rfl rfl ?_
        refine WQ_gyes rfl rfl ?_
        first | refine WQ_x (X_pickt rfl rfl) rfl ?_ | refine WQ_x (X_pickf rfl rfl) rfl ?_
        first | refine WQ_x (X_pickt rfl rfl) rfl ?_ | refine WQ_x (X_pickf rfl rfl) rfl ?_
        refine WQ_nil ?_
        refine W_condF rfl rfl ?_
        refine W_skip ?_
        refine W_blk ?_
        refine W_region ?_
        refine W_move rfl rfl ?_
        refine W_bin rfl rfl (b_add (m := ((i + 1 : Nat) : Int)) ((i64w (by omega)).trans (by omega))) rfl ?_
        refine W_assign rfl rfl ?_
        refine W_nil ?_
        refine W_again ⟨i + 1, x5, E5, HB5, X5 ++ XR, [.int .i64 (x5.kind : Int), .int .i64 (x5.entries : Int), .int .i64 (x5.words : Int), .bool x5.closed, .slice ad11 (x5.L).length cap11, .slice ad12 (E5).length cap12, .slice ad13 (x5.C).length cap13, .slice ad14 (x5.used).length cap14]⟩ ⟨by show i + 1 ≤ acts.length; omega, by show i + 1 ≤ 60; omega, hX5.up (by show 8 + 3 * i + 2 ≤ 8 + 3 * (i + 1); omega), ho5, has5, by rw [List.append_assoc]; exact hD5, by show E5.length ≤ 8 + (i + 1); omega, by rw [hkw5.1]; exact hxk, by rw [hkw5.2]; exact hxw⟩ (by show acts.length - (i + 1) < acts.length - i; omega) (sub_cons rfl (sub_cons rfl (sub_cons rfl (sub_cons rfl (sub_cons rfl (sub_cons rfl (sub_nil _))))))) rfl (by show HSub _ (HB5 ++ ((b9, .cells 56 8 [.int .i64 (x5.kind : Int), .int .i64 (x5.entries : Int), .int .i64 (x5.words : Int), .bool x5.closed, .slice ad11 (x5.L).length cap11, .slice ad12 (E5).length cap12, .slice ad13 (x5.C).length cap13, .slice ad14 (x5.used).length cap14]) :: ((X5 ++ XR) ++ H))); rw [List.append_assoc]; first | exact hsubI | (repeat (first | with_reducible exact HSub.refl _ | refine HSub.cons zT ?_ | refine HSub.app zS ?_ | exact HSub.nil _ | exact HSub.refl _ | refine HSub.drop ?_ | refine HSub.dropS ?_)))
      · skip
        rw [atX_err her]
        refine W_move rfl rfl ?_
        refine W_extract rfl rfl rfl ?_
        refine W_extract rfl rfl rfl ?_
        refine W_assign rfl rfl ?_
        refine W_assign rfl rfl ?_
        refine W_nil ?_
        refine W_sr ?_
        refine W_move rfl rfl ?_
        refine W_loadB (vs := hdC g) rfl ty29 rfl (b := b17) zM rfl rfl rfl ?_
        refine W_callq (.cons rfl (.cons rfl .nil)) Tryz.call18 rfl (hX5.key (fun p hp => by repeat (first | exact List.mem_append_left _ hp | apply List.mem_append_right | apply List.mem_cons_of_mem)) (h := g)) ?_
        rw [show (x5.key g).1 = 0 by show (celA x5.L g).key = 0; rw [celA_err her]; rfl, show (x5.key g).2 = errA x5.L g from rfl]
        refine W_move rfl rfl ?_
        refine W_extract rfl rfl rfl ?_
        refine W_extract rfl rfl rfl ?_
        refine W_assign rfl rfl ?_
        refine W_assign rfl rfl ?_
        refine W_nil ?_
        refine W_quietsr (by kernel_rfl) (by decide +kernel) ?_
        refine WQ_x (X_move rfl) rfl ?_
        refine WQ_x (X_move rfl) rfl ?_
        refine WQ_x (X_bin rfl rfl b_neq) rfl ?_
        rw [decide_eq_false (fun h => h rfl)]
        refine WQ_x (X_move rfl) rfl ?_
        refine WQ_gyes rfl rfl ?_
        refine WQ_x (X_move rfl) rfl ?_
        refine WQ_gyes rfl rfl ?_
        refine WQ_x (X_bin rfl rfl b_eql) rfl ?_
        first | rw [decide_eq_true rfl] | rw [decide_eq_false her]
        refine WQ_gyes rfl rfl ?_
        refine WQ_x (X_move rfl) rfl ?_
        refine WQ_gno rfl rfl rfl rfl ?_
        refine WQ_gno rfl rfl rfl rfl ?_
        refine WQ_gno rfl rfl rfl rfl ?_
        refine WQ_gno rfl rfl rfl rfl ?_
        refine WQ_gno rfl rfl rfl rfl ?_
        refine WQ_gno rfl rfl rfl rfl ?_
        refine WQ_gno rfl rfl rfl rfl ?_
        refine WQ_gno rfl rfl rfl rfl ?_
        refine WQ_gno rfl rfl rfl rfl ?_
        refine WQ_gnou rfl rfl rfl ?_
        refine WQ_gnou rfl rfl rfl ?_
        refine WQ_gnou rfl rfl rfl ?_
        refine WQ_gnou rfl rfl rfl ?_
        refine WQ_gnou rfl rfl rfl ?_
        refine WQ_gnou rfl rfl rfl ?_
        refine WQ_gnou rfl rfl rfl ?_
        refine WQ_gnou rfl rfl rfl ?_
        refine WQ_gnou rfl rfl rfl ?_
        refine WQ_gnou rfl rfl rfl ?_
        refine WQ_gno rfl rfl rfl rfl ?_
        refine WQ_gyes rfl rfl ?_
        first | refine WQ_x (X_pickt rfl rfl) rfl ?_ | refine WQ_x (X_pickf rfl rfl) rfl ?_
        first | refine WQ_x (X_pickt rfl rfl) rfl ?_ | refine WQ_x (X_pickf rfl rfl) rfl ?_
        refine WQ_x (X_move rfl) rfl ?_
        refine WQ_gyes rfl rfl ?_
        refine WQ_x (X_move rfl) rfl ?_
        refine WQ_gyes rfl rfl ?_
        refine WQ_x (X_bin rfl rfl b_neq) rfl ?_
        first | rw [decide_eq_true her] | rw [decide_eq_false (fun h => h rfl)]
        refine WQ_gyes rfl rfl ?_
        refine WQ_x (X_move rfl) rfl ?_
        refine WQ_gyes rfl rfl ?_
        refine WQ_x (X_move rfl) rfl ?_
        refine WQ_gyes rfl rfl ?_
        refine WQ_x (X_bin rfl rfl b_neq) rfl ?_
        rw [decide_eq_false (fun h => h rfl)]
        refine WQ_gyes rfl rfl ?_
        refine WQ_x (X_move rfl) rfl ?_
        refine WQ_gyes rfl rfl ?_
        refine WQ_x (X_move rfl) rfl ?_
        refine WQ_gyes rfl rfl ?_
        refine WQ_x (X_loadB (vs := hdC g) rfl ty29 rfl (b := b17) zM rfl rfl) rfl ?_
        refine WQ_gyes rfl rfl ?_
        refine WQ_callq (.cons rfl (.cons rfl .nil)) Tryz.call20 rfl (hX5.linked (fun p hp => by repeat (first | exact List.mem_append_left _ hp | apply List.mem_append_right | apply List.mem_cons_of_mem)) (h := g)) ?_
        rw [show x5.linked g = false by unfold Xm.linked; rw [decide_eq_false her]; rfl]
        refine WQ_gyes rfl rfl ?_
        first | refine WQ_x (X_pickt rfl rfl) rfl ?_ | refine WQ_x (X_pickf rfl rfl) rfl ?_
        refine WQ_gyes rfl rfl ?_
        first | refine WQ_x (X_pickt rfl rfl) rfl ?_ | refine WQ_x (X_pickf rfl rfl) rfl ?_
        first | refine WQ_x (X_pickt rfl rfl) rfl ?_ | refine WQ_x (X_pickf rfl rfl) rfl ?_
        refine WQ_nil ?_
        refine W_condF rfl rfl ?_
        refine W_skip ?_
        refine W_blk ?_
        refine W_region ?_
        refine W_move rfl rfl ?_
        refine W_bin rfl rfl (b_add (m := ((i + 1 : Nat) : Int)) ((i64w (by omega)).trans (by omega))) rfl ?_
        refine W_assign rfl rfl ?_
        refine W_nil ?_
        refine W_again ⟨i + 1, x5, E5, HB5, X5 ++ XR, [.int .i64 (x5.kind : Int), .int .i64 (x5.entries : Int), .int .i64 (x5.words : Int), .bool x5.closed, .slice ad11 (x5.L).length cap11, .slice ad12 (E5).length cap12, .slice ad13 (x5.C).length cap13, .slice ad14 (x5.used).length cap14]⟩ ⟨by show i + 1 ≤ acts.length; omega, by show i + 1 ≤ 60; omega, hX5.up (by show 8 + 3 * i + 2 ≤ 8 + 3 * (i + 1); omega), ho5, has5, by rw [List.append_assoc]; exact hD5, by show E5.length ≤ 8 + (i + 1); omega, by rw [hkw5.1]; exact hxk, by rw [hkw5.2]; exact hxw⟩ (by show acts.length - (i + 1) < acts.length - i; omega) (sub_cons rfl (sub_cons rfl (sub_cons rfl (sub_cons rfl (sub_cons rfl (sub_cons rfl (sub_nil _))))))) rfl (by show HSub _ (HB5 ++ ((b9, .cells 56 8 [.int .i64 (x5.kind : Int), .int .i64 (x5.entries : Int), .int .i64 (x5.words : Int), .bool x5.closed, .slice ad11 (x5.L).length cap11, .slice ad12 (E5).length cap12, .slice ad13 (x5.C).length cap13, .slice ad14 (x5.used).length cap14]) :: ((X5 ++ XR) ++ H))); rw [List.append_assoc]; first | exact hsubI | (repeat (first | with_reducible exact HSub.refl _ | refine HSub.cons zT ?_ | refine HSub.app zS ?_ | exact HSub.nil _ | exact HSub.refl _ | refine HSub.drop ?_ | refine HSub.dropS ?_)))
    · skip
      refine W_exit rfl ?_
      refine W_sr ?_
      refine W_callp .nil Tryz.call16 rfl hT xknown_pure ?_
      refine W_assign rfl rfl ?_
      refine W_nil ?_
      refine W_ret1m (H2 := H) Tryz.results6 rfl (.nil _) zH ?_
      exact ⟨rfl, rfl⟩
end Go.Proofs.YtphdlpmnidiliaaGreatDoor
namespace Go.Proofs.YtphdlpmnidiliaaGreatDoor
open Go Go.Sl
attribute [local irreducible] W
instance : Inhabited Axa := ⟨⟨⟨0, 0, 0, 0, false, zHd, 0, []⟩, none, 0⟩⟩
def AxOk (w : World) (y : Axa) : Prop := (0 ≤ y.a.key ∧ y.a.key ≤ 18446744073709551615) ∧ y.a.l.length ≤ y.cap ∧ y.cap ≤ maxLen ∧ InRow w y.ad (y.a.l.map (Value.int .u64))
theorem axu42 : Tryz.prog.underlying 42 = some (.slice 22) := by kernel_rfl
theorem axu22 : Tryz.prog.underlying 22 = some (.int .u64) := by kernel_rfl
theorem axk3 : Tryz.prog.cellsOf 3 = 1 := by kernel_rfl
theorem axk4 : Tryz.prog.cellsOf 4 = 1 := by kernel_rfl
theorem axk29 : Tryz.prog.cellsOf 29 = 2 := by kernel_rfl
theorem axk22 : Tryz.prog.cellsOf 22 = 1 := by kernel_rfl
theorem axk42 : Tryz.prog.cellsOf 42 = 1 := by kernel_rfl
theorem axk62 : Tryz.prog.cellsOf 62 = 9 := by kernel_rfl
theorem list9 {α : Type} : ∀ {l : List α}, l.length = 9 → ∃ c0 c1 c2 c3 c4 c5 c6 c7 c8, l = [c0, c1, c2, c3, c4, c5, c6, c7, c8]
  | [c0, c1, c2, c3, c4, c5, c6, c7, c8], _ => ⟨c0, c1, c2, c3, c4, c5, c6, c7, c8, rfl⟩
set_option maxRecDepth 100000 in
theorem ax_read {H : Type} {enc : TypeId × Value → H} {w : World} {base : Nat} {held : Bool} {m : Nat} {cs : List Value} {x : DataW H × List MemPlace} (h : DataW.trod enc Tryz.prog w base (fun _ => true) held m 62 cs = some x) : ∃ y : Axa, cs = axC y ∧ AxOk w y := by
  obtain ⟨xs, n, _, _, hl, hlen, hfs⟩ := DataW.trod_struct ty62.und h
  rw [axk62] at hl
  have hlx : xs.length = 8 := hlen
  have rd : ∀ (i : Nat) (hi : i < 8), xs[i]? = some (xs[i]'(by omega)) := fun i hi => List.getElem?_eq_getElem _
  have f0 : DataW.trod enc Tryz.prog w base (fun _ => true) held n 3 ((cs.drop 0).take (Tryz.prog.cellsOf 3)) = some _ := (hfs 0 _ rfl).trans (rd 0 (by decide))
  have f1 : DataW.trod enc Tryz.prog w base (fun _ => true) held n 3 ((cs.drop 1).take (Tryz.prog.cellsOf 3)) = some _ := (hfs 1 _ rfl).trans (rd 1 (by decide))
  have f2 : DataW.trod enc Tryz.prog w base (fun _ => true) held n 3 ((cs.drop 2).take (Tryz.prog.cellsOf 3)) = some _ := (hfs 2 _ rfl).trans (rd 2 (by decide))
  have f3 : DataW.trod enc Tryz.prog w base (fun _ => true) held n 3 ((cs.drop 3).take (Tryz.prog.cellsOf 3)) = some _ := (hfs 3 _ rfl).trans (rd 3 (by decide))
  have f4 : DataW.trod enc Tryz.prog w base (fun _ => true) held n 4 ((cs.drop 4).take (Tryz.prog.cellsOf 4)) = some _ := (hfs 4 _ rfl).trans (rd 4 (by decide))
  have f5 : DataW.trod enc Tryz.prog w base (fun _ => true) held n 29 ((cs.drop 5).take (Tryz.prog.cellsOf 29)) = some _ := (hfs 5 _ rfl).trans (rd 5 (by decide))
  have f6 : DataW.trod enc Tryz.prog w base (fun _ => true) held n 22 ((cs.drop 7).take (Tryz.prog.cellsOf 22)) = some _ := (hfs 6 _ rfl).trans (rd 6 (by decide))
  have f7 : DataW.trod enc Tryz.prog w base (fun _ => true) held n 42 ((cs.drop 8).take (Tryz.prog.cellsOf 42)) = some _ := (hfs 7 _ rfl).trans (rd 7 (by decide))
  obtain ⟨c0, c1, c2, c3, c4, c5, c6, c7, c8, rfl⟩ : ∃ c0 c1 c2 c3 c4 c5 c6 c7 c8, cs = [c0, c1, c2, c3, c4, c5, c6, c7, c8] := list9 hl
  rw [axk3] at f0 f1 f2 f3
  rw [axk4] at f4
  rw [axk29] at f5
  rw [axk22] at f6
  rw [axk42] at f7
  have g0 : Leafs [.int .i64] [c0] := flat_read 0 (Flat.leaf (k := .int .i64) ty3) f0
  have g1 : Leafs [.int .i64] [c1] := flat_read 0 (Flat.leaf (k := .int .i64) ty3) f1
  have g2 : Leafs [.int .i64] [c2] := flat_read 0 (Flat.leaf (k := .int .i64) ty3) f2
  have g3 : Leafs [.int .i64] [c3] := flat_read 0 (Flat.leaf (k := .int .i64) ty3) f3
  have g4 : Leafs [.bool] [c4] := flat_read 0 (Flat.leaf (k := .bool) ty4) f4
  have g5 : Leafs [.int .i64, .int .i64] [c5, c6] := flat_read _ flat29 f5
  have g6 : Leafs [.int .u64] [c7] := flat_read 0 (Flat.leaf (k := .int .u64) ty22) f6
  have hs : ∃ ad len cap, c8 = Value.slice ad len cap := by
    rcases Go.Deep.open_slice axu42 f7 with ⟨e, _⟩ | ⟨a, len, cap, m', n', D, Pl, e, _⟩
    · exact ⟨_, _, _, (List.cons.inj e).1⟩
    · exact ⟨_, _, _, (List.cons.inj e).1⟩
  obtain ⟨ad, len, cap, rfl⟩ := hs
  obtain ⟨l, rfl, hc, hm, hwf, hrow⟩ := open_row axu42 axu22 axk22 (a := ad) (len := len) (cap := cap) f7
  obtain ⟨⟨m0, rfl, _⟩, _⟩ := g0
  obtain ⟨⟨m1, rfl, _⟩, _⟩ := g1
  obtain ⟨⟨m2, rfl, _⟩, _⟩ := g2
  obtain ⟨⟨m3, rfl, _⟩, _⟩ := g3
  obtain ⟨⟨m4, rfl⟩, _⟩ := g4
  obtain ⟨⟨m5, rfl, _⟩, ⟨m6, rfl, _⟩, _⟩ := g5
  obtain ⟨⟨m7, rfl, hk⟩, _⟩ := g6
  exact ⟨⟨⟨m0, m1, m2, m3, m4, ⟨m5, m6⟩, m7, l⟩, ad, cap⟩, rfl, hk, hc, hm, hrow⟩
end Go.Proofs.YtphdlpmnidiliaaGreatDoor
