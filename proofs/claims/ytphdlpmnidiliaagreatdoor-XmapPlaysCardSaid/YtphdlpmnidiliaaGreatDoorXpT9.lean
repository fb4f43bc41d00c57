/-
  Own work: contracts of functions that the statement reaches, and plain facts on what they compute; each theorem says its conditions.
-/
import Derived.Test.YtphdlpmnidiliaaGreatDoorXpT8
import Derived.Test.YtphdlpmnidiliaaGreatDoorXpS1
import Derived.Test.YtphdlpmnidiliaaGreatDoorXpA
set_option linter.all false
set_option linter.unusedSimpArgs false
set_option linter.unusedVariables false
namespace Go.Proofs.YtphdlpmnidiliaaGreatDoor
open Go Go.Sl
attribute [local irreducible] W
theorem Xm.link_kw (x : Xm) (c : Cel) : (x.link c).1.kind = x.kind ∧ (x.link c).1.words = x.words := by
  unfold Xm.link
  split
  · split <;> exact ⟨rfl, rfl⟩
  · exact ⟨rfl, rfl⟩
theorem Xm.put_kw (x : Xm) (how k : Int) (ws : List Int) : (x.put how k ws).1.kind = x.kind ∧ (x.put how k ws).1.words = x.words := by
  unfold Xm.put
  split
  · exact ⟨rfl, rfl⟩
  · split
    · exact ⟨rfl, rfl⟩
    · split
      · split <;> exact ⟨rfl, rfl⟩
      · split
        · exact ⟨rfl, rfl⟩
        · split
          · exact Xm.link_kw _ _
          · exact Xm.link_kw _ _
theorem Xm.del_kw (x : Xm) (k : Int) : (x.del k).1.kind = x.kind ∧ (x.del k).1.words = x.words := by
  unfold Xm.del
  split
  · exact ⟨rfl, rfl⟩
  · split <;> exact ⟨rfl, rfl⟩
theorem Xm.free_kw (x : Xm) (g : Hd) : (x.free g).1.kind = x.kind ∧ (x.free g).1.words = x.words := by
  unfold Xm.free
  split
  · exact ⟨rfl, rfl⟩
  · split <;> exact ⟨rfl, rfl⟩
theorem Xm.store_kw (x : Xm) (g : Hd) (at_ v : Int) : (x.store g at_ v).1.kind = x.kind ∧ (x.store g at_ v).1.words = x.words := by
  unfold Xm.store
  split
  · exact ⟨rfl, rfl⟩
  · split <;> exact ⟨rfl, rfl⟩
theorem Xm.close_kw (x : Xm) : x.close.1.kind = x.kind ∧ x.close.1.words = x.words := by
  unfold Xm.close
  split <;> exact ⟨rfl, rfl⟩
theorem linkK_nil {y : Xm} {E : List Elm} (h : EOk y E) (hC : y.C = []) : linkK E = [] := by
  unfold linkK
  rw [List.filter_eq_nil_iff.2, List.map_nil]
  intro e he hl
  obtain ⟨j, hj, rfl⟩ := List.getElem_of_mem he
  have := (h.lnk j _ (List.getElem?_eq_getElem hj)).1 hl
  rw [hC] at this
  cases this
theorem linkK_mem {y : Xm} {E : List Elm} (h : EOk y E) (hy : y.Ok) {k : Int} : k ∈ linkK E ↔ k ∈ keyL y.C := by
  unfold linkK
  constructor
  · intro hk
    obtain ⟨e, he, rfl⟩ := List.mem_map.1 hk
    obtain ⟨h1, h2⟩ := List.mem_filter.1 he
    obtain ⟨j, hj, rfl⟩ := List.getElem_of_mem h1
    exact List.mem_map.2 ⟨_, (h.lnk j _ (List.getElem?_eq_getElem hj)).1 h2, rfl⟩
  · intro hk
    cases hf : fndC y.C k with
    | none => exact absurd hk (fndC_none.1 hf)
    | some g =>
      obtain ⟨i, e, _, he, hel, hek, _⟩ := h.fnd hy hf
      exact List.mem_map.2 ⟨e, List.mem_filter.2 ⟨List.mem_of_getElem? he, hel⟩, hek⟩
theorem keysD_is {x : Xm} {E : List Elm} (h : EOk x E) (hx : x.Ok) (ha : x.kind = 0 → (linkK E).Pairwise (· < ·)) : keysD x E = x.keys := by
  unfold keysD Xm.keys
  by_cases h2 : x.kind = 2
  · rw [if_pos h2, if_pos h2]
  · rw [if_neg h2, if_neg h2]
    by_cases h0 : x.kind = 0
    · rw [if_neg (by omega), if_pos h0]
      have hs := ha h0
      have hn : (linkK E).Nodup := hs.imp (fun h => by omega)
      have hp : (linkK E).Perm (keysC x.C) := (List.perm_ext_iff_of_nodup hn (keysC_nodup hx.nd)).2 fun k => by rw [linkK_mem h hx, keysC_mem]
      exact sorted_unique (hp.trans (sortU_perm _).symm) (hs.imp (fun h => Int.le_of_lt h)) (sortU_le _)
    · rw [if_neg h0, if_pos (by have := hx.knd; omega)]
theorem close_asc {x : Xm} {E F : List Elm} (hx : x.Ok) (ho : EOk x.close.1 F) (hc : x.closed = true → F = E) (ha : x.kind = 0 → (linkK E).Pairwise (· < ·)) : x.kind = 0 → (linkK F).Pairwise (· < ·) := by
  intro h0
  rcases Bool.eq_false_or_eq_true x.closed with h | h
  · rw [hc h]; exact ha h0
  · rw [linkK_nil ho (close_is hx h).1]; exact .nil
set_option maxHeartbeats 16000000 in
theorem doX_L {w0 : World} {H : Heap} {HR HB : Heap} {x : Xm} {E : List Elm} {cs : List Value} {mb T : Nat} {a : Axt} {adl : Option Addr} {capl : Nat} (hX : XmH mb T x HB) (hTab : Tab w0) (hTl : T ≤ 900000) (hv : DxV w0 HR x E cs) (hHR : HSub H HR) (ho : EOk x E) (has : x.kind = 0 → (linkK E).Pairwise (· < ·)) (hEl : E.length ≤ 700) (hkey : 0 ≤ a.key ∧ a.key < 18446744073709551616) (hrow : Holds w0 H adl (a.l.map (Value.int .u64))) (hcap : a.l.length ≤ capl) (hll : a.l.length ≤ 9223372036854775807)  : LCalls Tryz.prog w0 23 #[.pointer (some ⟨mb, 0, none⟩), .agg (List.toArray cs), .agg (List.toArray [.int .i64 a.kind, .int .i64 a.how, .int .i64 a.pick, .int .i64 a.at_, .bool a.own, .int .i64 a.h.slot, .int .i64 a.h.gen, .int .u64 a.key, .slice adl a.l.length capl])] (HB ++ H) (fun v H' => ∃ (x' : Xm) (E' : List Elm) (HB' X : Heap) (cs' : List Value), XmH mb (T + 2) x' HB' ∧ EOk x' E' ∧ (x'.kind = 0 → (linkK E').Pairwise (· < ·)) ∧ DxV w0 (X ++ HR) x' E' cs' ∧ E'.length ≤ E.length + 1 ∧ (x'.kind = x.kind ∧ x'.words = x.words) ∧ v = .tuple #[.agg (List.toArray cs'), .bool true] ∧ H' = HB' ++ (X ++ H)) := by
  obtain ⟨ads, caps, ade, cape, adc, capc, adu, capu, rfl, hS0, hSc, hE0, hEc, hC0, hCc, hU0, hUc⟩ := hv
  have hS := hS0.up hHR
  have hE := hE0.up hHR
  have hC := hC0.up hHR
  have hU := hU0.up hHR
  have hx := hX.ok
  have hCl : x.C.length ≤ 8 := Nat.le_trans hx.le hx.ent.2
  have hul : x.used.length ≤ 8 := by rw [hx.ulen]; exact hCl
  have hrw : Holds w0 H adl ((a.l.take 6).map (Value.int .u64)) := by rw [List.map_take]; exact hrow.take 6
  refine L_enter (l := [.pointer (some ⟨mb, 0, none⟩), .agg (List.toArray [.int .i64 (x.kind : Int), .int .i64 (x.entries : Int), .int .i64 (x.words : Int), .bool x.closed, .slice ads (x.L).length caps, .slice ade (E).length cape, .slice adc (x.C).length capc, .slice adu (x.used).length capu]), .agg (List.toArray [.int .i64 a.kind, .int .i64 a.how, .int .i64 a.pick, .int .i64 a.at_, .bool a.own, .int .i64 a.h.slot, .int .i64 a.h.gen, .int .u64 a.key, .slice adl a.l.length capl])]) Tryz.func23 rfl Tryz.ntmps23 rfl rfl ?_
  refine W_sr ?_
  refine W_box (l := [.int .i64 (x.kind : Int), .int .i64 (x.entries : Int), .int .i64 (x.words : Int), .bool x.closed, .slice ads (x.L).length caps, .slice ade (E).length cape, .slice adc (x.C).length capc, .slice adu (x.used).length capu]) rfl rfl rfl (fun b4 => ?_)
  refine W_box (l := [.int .i64 a.kind, .int .i64 a.how, .int .i64 a.pick, .int .i64 a.at_, .bool a.own, .int .i64 a.h.slot, .int .i64 a.h.gen, .int .u64 a.key, .slice adl a.l.length capl]) rfl rfl rfl (fun b5 => ?_)
  refine W_alloc (l := [.int .i64 0, .int .i64 0, .int .i64 0, .bool false, .slice none 0 0, .slice none 0 0, .slice none 0 0, .slice none 0 0]) ty56 rfl rfl (fun b6 => ?_)
  refine W_assign rfl rfl ?_
  refine W_nil ?_
  refine W_sr ?_
  refine W_loadB (vs := [.int .i64 (x.kind : Int), .int .i64 (x.entries : Int), .int .i64 (x.words : Int), .bool x.closed, .slice ads (x.L).length caps, .slice ade (E).length cape, .slice adc (x.C).length capc, .slice adu (x.used).length capu]) rfl ty56 rfl (b := b4) zM rfl rfl rfl ?_
  refine W_loadB (vs := [.int .i64 a.kind, .int .i64 a.how, .int .i64 a.pick, .int .i64 a.at_, .bool a.own, .int .i64 a.h.slot, .int .i64 a.h.gen, .int .u64 a.key, .slice adl a.l.length capl]) rfl ty62 rfl (b := b5) zM rfl rfl rfl ?_
  refine W_call (.cons rfl (.cons rfl .nil)) Tryz.call31 rfl (LCalls.hsub (dxof_L (x := x) (E := E) ⟨ads, caps, ade, cape, adc, capc, adu, capu, rfl, hS0, hSc, hE0, hEc, hC0, hCc, hU0, hUc⟩ ((show HSub _ H from zH).trans hHR) (by omega) (H := (b4, .cells 56 8 [.int .i64 (x.kind : Int), .int .i64 (x.entries : Int), .int .i64 (x.words : Int), .bool x.closed, .slice ads (x.L).length caps, .slice ade (E).length cape, .slice adc (x.C).length capc, .slice adu (x.used).length capu]) :: (b5, .cells 62 9 [.int .i64 a.kind, .int .i64 a.how, .int .i64 a.pick, .int .i64 a.at_, .bool a.own, .int .i64 a.h.slot, .int .i64 a.h.gen, .int .u64 a.key, .slice adl a.l.length capl]) :: (b6, .cells 56 8 [.int .i64 0, .int .i64 0, .int .i64 0, .bool false, .slice none 0 0, .slice none 0 0, .slice none 0 0, .slice none 0 0]) :: (HB ++ H))) zH) ?_
  rintro v H' ⟨h, rfl, rfl⟩
  refine W_alloc (l := hdC zHd) ty29 rfl rfl (fun b8 => ?_)
  refine W_storeA (l' := hdC h) rfl rfl ty29 rfl rfl (b := b8) zM (by exact Nat.le_refl 2) rfl zU ?_
  refine W_nil ?_
  refine W_seq ?_
  refine W_sr ?_
  refine W_fieldAddr rfl fld62_0 (by decide) rfl ?_
  refine W_load (v := .int .i64 a.kind) rfl ty3 rfl (Cell.own (b := b5) zM rfl) rfl ?_
  refine W_conv rfl ty3 ty22 rfl rfl ?_
  obtain ⟨kd, hkd, hremk⟩ := modW_is a.kind (N := 9) (by decide)
  refine W_bin rfl rfl (b_rem (by decide) (m := (kd : Int)) hremk) rfl ?_
  rcases (show kd = 0 ∨ kd = 1 ∨ kd = 2 ∨ kd = 3 ∨ kd = 4 ∨ kd = 5 ∨ kd = 6 ∨ kd = 7 ∨ kd = 8 by omega) with rfl | rfl | rfl | rfl | rfl | rfl | rfl | rfl | rfl
  · skip
    refine W_nil ?_
    refine W_block ?_
    refine W_seq ?_
    refine W_sr ?_
    refine W_bin rfl rfl b_eql rfl ?_
    first | rw [decide_eq_true (by decide)] | rw [decide_eq_false (by decide)]
    refine W_assign rfl rfl ?_
    refine W_nil ?_
    refine W_condT rfl rfl ?_
    refine W_skip ?_
    refine W_condT rfl rfl ?_
    refine W_sr ?_
    refine W_fieldAddr rfl fld62_7 (by decide) rfl ?_
    refine W_load (v := .slice adl a.l.length capl) rfl ty42 rfl (Cell.own (b := b5) zM rfl) rfl ?_
    refine W_fieldAddr rfl fld62_7 (by decide) rfl ?_
    refine W_load (v := .slice adl a.l.length capl) rfl ty42 rfl (Cell.own (b := b5) zM rfl) rfl ?_
    refine W_len rfl ty42 rfl rfl ?_
    refine W_min2 rfl rfl (m := ((a.l.take 6).length : Int)) (by rw [List.length_take]; split <;> omega) rfl ?_
    refine W_slice0 (hh := (a.l.take 6).length) rfl ty42 ty22 rfl ⟨_, rfl⟩ (by rw [List.length_take]; omega) rfl ?_
    refine W_assign rfl rfl ?_
    refine W_nil ?_
    refine W_sr ?_
    refine W_loadB (vs := [.int .i64 (x.kind : Int), .int .i64 (x.entries : Int), .int .i64 (x.words : Int), .bool x.closed, .slice ads (x.L).length caps, .slice ade (E).length cape, .slice adc (x.C).length capc, .slice adu (x.used).length capu]) rfl ty56 rfl (b := b4) zM rfl rfl rfl ?_
    refine W_fieldAddr rfl fld62_1 (by decide) rfl ?_
    refine W_load (v := .int .i64 a.how) rfl ty3 rfl (Cell.own (b := b5) zM rfl) rfl ?_
    refine W_fieldAddr rfl fld62_6 (by decide) rfl ?_
    refine W_load (v := .int .u64 a.key) rfl ty22 rfl (Cell.own (b := b5) zM rfl) rfl ?_
    refine W_move rfl rfl ?_
    refine W_call (.cons rfl (.cons rfl (.cons rfl (.cons rfl .nil)))) Tryz.call56 rfl (LCalls.hsub (dxPut_L (how := a.how) (k := a.key) (ws := (a.l.take 6)) (adw := adl) (capw := capl) (x := x) (E := E) ⟨ads, caps, ade, cape, adc, capc, adu, capu, rfl, hS0, hSc, hE0, hEc, hC0, hCc, hU0, hUc⟩ ((show HSub _ H from zH).trans hHR) hx ho (by omega) (hrw.up zH) (H := (b4, .cells 56 8 [.int .i64 (x.kind : Int), .int .i64 (x.entries : Int), .int .i64 (x.words : Int), .bool x.closed, .slice ads (x.L).length caps, .slice ade (E).length cape, .slice adc (x.C).length capc, .slice adu (x.used).length capu]) :: (b5, .cells 62 9 [.int .i64 a.kind, .int .i64 a.how, .int .i64 a.pick, .int .i64 a.at_, .bool a.own, .int .i64 a.h.slot, .int .i64 a.h.gen, .int .u64 a.key, .slice adl a.l.length capl]) :: (b6, .cells 56 8 [.int .i64 0, .int .i64 0, .int .i64 0, .bool false, .slice none 0 0, .slice none 0 0, .slice none 0 0, .slice none 0 0]) :: (b8, .cells 29 2 (hdC h)) :: (HB ++ H))) zH) ?_
    rintro v H' ⟨cs1, X1, E1, za, zb, rfl, hD1, ho1, hza, hzb, hzo, hEl1, hlk, rfl⟩
    have hD1o := hD1
    obtain ⟨ad1, cap1, ad2, cap2, ad3, cap3, ad4, cap4, rfl, _⟩ := hD1o
    refine W_move rfl rfl ?_
    refine W_extract rfl rfl rfl ?_
    refine W_extract rfl rfl rfl ?_
    refine W_extract rfl rfl rfl ?_
    refine W_extract rfl rfl rfl ?_
    refine W_alloc (l := [.int .i64 0, .int .i64 0, .int .i64 0, .bool false, .slice none 0 0, .slice none 0 0, .slice none 0 0, .slice none 0 0]) ty56 rfl rfl (fun b10 => ?_)
    refine W_storeA (l' := [.int .i64 ((x.put a.how a.key (a.l.take 6)).1.kind : Int), .int .i64 ((x.put a.how a.key (a.l.take 6)).1.entries : Int), .int .i64 ((x.put a.how a.key (a.l.take 6)).1.words : Int), .bool (x.put a.how a.key (a.l.take 6)).1.closed, .slice ad1 ((x.put a.how a.key (a.l.take 6)).1.L).length cap1, .slice ad2 (E1).length cap2, .slice ad3 ((x.put a.how a.key (a.l.take 6)).1.C).length cap3, .slice ad4 ((x.put a.how a.key (a.l.take 6)).1.used).length cap4]) rfl rfl ty56 rfl rfl (b := b10) zM (by exact Nat.le_refl 8) rfl zU ?_
    refine W_assign rfl rfl ?_
    refine W_assign rfl rfl ?_
    refine W_assign rfl rfl ?_
    refine W_nil ?_
    refine W_sr ?_
    refine W_move rfl rfl ?_
    refine W_fieldAddr rfl fld62_1 (by decide) rfl ?_
    refine W_load (v := .int .i64 a.how) rfl ty3 rfl (Cell.own (b := b5) zM rfl) rfl ?_
    refine W_fieldAddr rfl fld62_6 (by decide) rfl ?_
    refine W_load (v := .int .u64 a.key) rfl ty22 rfl (Cell.own (b := b5) zM rfl) rfl ?_
    refine W_move rfl rfl ?_
    refine W_call (.cons rfl (.cons rfl (.cons rfl (.cons rfl .nil)))) Tryz.call11 rfl ((hX.put hTab (by omega) (how := a.how) (k := a.key) (ws := (a.l.take 6)) (cap := capl) hkey (hrw.up zH) (H := (b10, .cells 56 8 [.int .i64 ((x.put a.how a.key (a.l.take 6)).1.kind : Int), .int .i64 ((x.put a.how a.key (a.l.take 6)).1.entries : Int), .int .i64 ((x.put a.how a.key (a.l.take 6)).1.words : Int), .bool (x.put a.how a.key (a.l.take 6)).1.closed, .slice ad1 ((x.put a.how a.key (a.l.take 6)).1.L).length cap1, .slice ad2 (E1).length cap2, .slice ad3 ((x.put a.how a.key (a.l.take 6)).1.C).length cap3, .slice ad4 ((x.put a.how a.key (a.l.take 6)).1.used).length cap4]) :: (b4, .cells 56 8 [.int .i64 (x.kind : Int), .int .i64 (x.entries : Int), .int .i64 (x.words : Int), .bool x.closed, .slice ads (x.L).length caps, .slice ade (E).length cape, .slice adc (x.C).length capc, .slice adu (x.used).length capu]) :: (b5, .cells 62 9 [.int .i64 a.kind, .int .i64 a.how, .int .i64 a.pick, .int .i64 a.at_, .bool a.own, .int .i64 a.h.slot, .int .i64 a.h.gen, .int .u64 a.key, .slice adl a.l.length capl]) :: (b6, .cells 56 8 [.int .i64 0, .int .i64 0, .int .i64 0, .bool false, .slice none 0 0, .slice none 0 0, .slice none 0 0, .slice none 0 0]) :: (b8, .cells 29 2 (hdC h)) :: (X1 ++ H))).hsub zH) ?_
    rintro v H' ⟨HB5, hX5, rfl, rfl⟩
    refine W_move rfl rfl ?_
    refine W_extract rfl rfl rfl ?_
    refine W_extract rfl rfl rfl ?_
    refine W_alloc (l := puttC zPutt) ty31 rfl rfl (fun b14 => ?_)
    refine W_storeA (l' := puttC (x.put a.how a.key (a.l.take 6)).2.1) rfl rfl ty31 rfl rfl (b := b14) zM (by exact Nat.le_refl 5) rfl zU ?_
    refine W_assign rfl rfl ?_
    refine W_nil ?_
    refine W_seq ?_
    refine W_anyC [(b10, .cells 56 8 [.int .i64 ((x.put a.how a.key (a.l.take 6)).1.kind : Int), .int .i64 ((x.put a.how a.key (a.l.take 6)).1.entries : Int), .int .i64 ((x.put a.how a.key (a.l.take 6)).1.words : Int), .bool (x.put a.how a.key (a.l.take 6)).1.closed, .slice ad1 ((x.put a.how a.key (a.l.take 6)).1.L).length cap1, .slice ad2 (E1).length cap2, .slice ad3 ((x.put a.how a.key (a.l.take 6)).1.C).length cap3, .slice ad4 ((x.put a.how a.key (a.l.take 6)).1.used).length cap4]), (b14, .cells 31 5 (puttC (x.put a.how a.key (a.l.take 6)).2.1))] (by kernel_rfl) ?_
    refine WC_take 0 (l' := #[true, false, false, false, false, false, false, false, false, false, false, false, false, false, false, false, false, false, false, false, false, false, false, false, false, false, false, false, false]) rfl (by decide +kernel) (by decide +kernel) (by decide +kernel) rfl (by decide +kernel) (X_loadB (vs := [.int .i64 ((x.put a.how a.key (a.l.take 6)).1.kind : Int), .int .i64 ((x.put a.how a.key (a.l.take 6)).1.entries : Int), .int .i64 ((x.put a.how a.key (a.l.take 6)).1.words : Int), .bool (x.put a.how a.key (a.l.take 6)).1.closed, .slice ad1 ((x.put a.how a.key (a.l.take 6)).1.L).length cap1, .slice ad2 (E1).length cap2, .slice ad3 ((x.put a.how a.key (a.l.take 6)).1.C).length cap3, .slice ad4 ((x.put a.how a.key (a.l.take 6)).1.used).length cap4]) rfl ty56 rfl (b := b10) zM rfl rfl) rfl ?_
    refine WC_take 1 (l' := #[true, true, false, false, false, false, false, false, false, false, false, false, false, false, false, false, false, false, false, false, false, false, false, false, false, false, false, false, false]) rfl (by decide +kernel) (by decide +kernel) (by decide +kernel) rfl (by decide +kernel) (X_move rfl) rfl ?_
    refine WC_take 2 (l' := #[true, true, true, false, false, false, false, false, false, false, false, false, false, false, false, false, false, false, false, false, false, false, false, false, false, false, false, false, false]) rfl (by decide +kernel) (by decide +kernel) (by decide +kernel) rfl (by decide +kernel) (X_move rfl) rfl ?_
    refine WC_take 3 (l' := #[true, true, true, true, false, false, false, false, false, false, false, false, false, false, false, false, false, false, false, false, false, false, false, false, false, false, false, false, false]) rfl (by decide +kernel) (by decide +kernel) (by decide +kernel) rfl (by decide +kernel) (X_bin rfl rfl b_eql) rfl ?_
    rw [decide_eq_true rfl]
    refine WC_take 4 (l' := #[true, true, true, true, true, false, false, false, false, false, false, false, false, false, false, false, false, false, false, false, false, false, false, false, false, false, false, false, false]) rfl (by decide +kernel) (by decide +kernel) (by decide +kernel) rfl (by decide +kernel) (X_move rfl) rfl ?_
    refine WC_gyes 5 (l' := #[true, true, true, true, true, true, false, false, false, false, false, false, false, false, false, false, false, false, false, false, false, false, false, false, false, false, false, false, false]) rfl (by decide +kernel) (by decide +kernel) (by decide +kernel) rfl (by decide +kernel) rfl rfl (X_fieldAddr rfl fld31_0 (by decide)) rfl ?_
    refine WC_gyes 6 (l' := #[true, true, true, true, true, true, true, false, false, false, false, false, false, false, false, false, false, false, false, false, false, false, false, false, false, false, false, false, false]) rfl (by decide +kernel) (by decide +kernel) (by decide +kernel) rfl (by decide +kernel) rfl rfl (X_loadB (vs := hdC (x.put a.how a.key (a.l.take 6)).2.1.h) rfl ty29 rfl (b := b14) zM rfl rfl) rfl ?_
    refine WC_gyes 7 (l' := #[true, true, true, true, true, true, true, true, false, false, false, false, false, false, false, false, false, false, false, false, false, false, false, false, false, false, false, false, false]) rfl (by decide +kernel) (by decide +kernel) (by decide +kernel) rfl (by decide +kernel) rfl rfl (X_loadB (vs := [.int .i64 ((x.put a.how a.key (a.l.take 6)).1.kind : Int), .int .i64 ((x.put a.how a.key (a.l.take 6)).1.entries : Int), .int .i64 ((x.put a.how a.key (a.l.take 6)).1.words : Int), .bool (x.put a.how a.key (a.l.take 6)).1.closed, .slice ad1 ((x.put a.how a.key (a.l.take 6)).1.L).length cap1, .slice ad2 (E1).length cap2, .slice ad3 ((x.put a.how a.key (a.l.take 6)).1.C).length cap3, .slice ad4 ((x.put a.how a.key (a.l.take 6)).1.used).length cap4]) rfl ty56 rfl (b := b10) zM rfl rfl) rfl ?_
    refine WC_gyes 8 (l' := #[true, true, true, true, true, true, true, true, true, false, false, false, false, false, false, false, false, false, false, false, false, false, false, false, false, false, false, false, false]) rfl (by decide +kernel) (by decide +kernel) (by decide +kernel) rfl (by decide +kernel) rfl rfl (X_move rfl) rfl ?_
    refine WC_one 9 (l' := #[true, true, true, true, true, true, true, true, true, true, false, false, false, false, false, false, false, false, false, false, false, false, false, false, false, false, false, false, false]) zH (by decide +kernel) rfl (by decide +kernel) ?_
    refine W_gyes rfl rfl ?_
    refine W_callq (.cons rfl (.cons rfl .nil)) Tryz.call57 rfl (dxhandle_q (HR := X1 ++ HR) (x := (x.put a.how a.key (a.l.take 6)).1) (E := E1) (z := za) hD1 ((show HSub _ (X1 ++ H) from zH).trans (.app (.here _) hHR)) (by omega)) ?_
    rw [hza]
    refine W_nil ?_
    refine WC_goal ?_
    refine WC_gyes 10 (l' := #[true, true, true, true, true, true, true, true, true, true, true, false, false, false, false, false, false, false, false, false, false, false, false, false, false, false, false, false, false]) rfl (by decide +kernel) (by decide +kernel) (by decide +kernel) rfl (by decide +kernel) rfl rfl (X_eqF (f := hdC) rfl rfl flat29 agg29 hdC_like hdC_inj gt29 (by decide)) rfl ?_
    rw [decide_eq_true rfl]
    first | refine WC_take 11 (l' := #[true, true, true, true, true, true, true, true, true, true, true, true, false, false, false, false, false, false, false, false, false, false, false, false, false, false, false, false, false]) rfl (by decide +kernel) (by decide +kernel) (by decide +kernel) rfl (by decide +kernel) (X_pickt rfl rfl) rfl ?_ | refine WC_take 11 (l' := #[true, true, true, true, true, true, true, true, true, true, true, true, false, false, false, false, false, false, false, false, false, false, false, false, false, false, false, false, false]) rfl (by decide +kernel) (by decide +kernel) (by decide +kernel) rfl (by decide +kernel) (X_pickf rfl rfl) rfl ?_
    refine WC_take 12 (l' := #[true, true, true, true, true, true, true, true, true, true, true, true, true, false, false, false, false, false, false, false, false, false, false, false, false, false, false, false, false]) rfl (by decide +kernel) (by decide +kernel) (by decide +kernel) rfl (by decide +kernel) (X_move rfl) rfl ?_
    refine WC_gyes 13 (l' := #[true, true, true, true, true, true, true, true, true, true, true, true, true, true, false, false, false, false, false, false, false, false, false, false, false, false, false, false, false]) rfl (by decide +kernel) (by decide +kernel) (by decide +kernel) rfl (by decide +kernel) rfl rfl (X_fieldAddr rfl fld31_1 (by decide)) rfl ?_
    refine WC_gyes 14 (l' := #[true, true, true, true, true, true, true, true, true, true, true, true, true, true, true, false, false, false, false, false, false, false, false, false, false, false, false, false, false]) rfl (by decide +kernel) (by decide +kernel) (by decide +kernel) rfl (by decide +kernel) rfl rfl (X_loadB (vs := hdC (x.put a.how a.key (a.l.take 6)).2.1.gone) rfl ty29 rfl (b := b14) zM rfl rfl) rfl ?_
    refine WC_gyes 15 (l' := #[true, true, true, true, true, true, true, true, true, true, true, true, true, true, true, true, false, false, false, false, false, false, false, false, false, false, false, false, false]) rfl (by decide +kernel) (by decide +kernel) (by decide +kernel) rfl (by decide +kernel) rfl rfl (X_loadB (vs := [.int .i64 ((x.put a.how a.key (a.l.take 6)).1.kind : Int), .int .i64 ((x.put a.how a.key (a.l.take 6)).1.entries : Int), .int .i64 ((x.put a.how a.key (a.l.take 6)).1.words : Int), .bool (x.put a.how a.key (a.l.take 6)).1.closed, .slice ad1 ((x.put a.how a.key (a.l.take 6)).1.L).length cap1, .slice ad2 (E1).length cap2, .slice ad3 ((x.put a.how a.key (a.l.take 6)).1.C).length cap3, .slice ad4 ((x.put a.how a.key (a.l.take 6)).1.used).length cap4]) rfl ty56 rfl (b := b10) zM rfl rfl) rfl ?_
    refine WC_gyes 16 (l' := #[true, true, true, true, true, true, true, true, true, true, true, true, true, true, true, true, true, false, false, false, false, false, false, false, false, false, false, false, false]) rfl (by decide +kernel) (by decide +kernel) (by decide +kernel) rfl (by decide +kernel) rfl rfl (X_move rfl) rfl ?_
    refine WC_one 17 (l' := #[true, true, true, true, true, true, true, true, true, true, true, true, true, true, true, true, true, true, false, false, false, false, false, false, false, false, false, false, false]) zH (by decide +kernel) rfl (by decide +kernel) ?_
    refine W_gyes rfl rfl ?_
    refine W_callq (.cons rfl (.cons rfl .nil)) Tryz.call57 rfl (dxhandle_q (HR := X1 ++ HR) (x := (x.put a.how a.key (a.l.take 6)).1) (E := E1) (z := zb) hD1 ((show HSub _ (X1 ++ H) from zH).trans (.app (.here _) hHR)) (by omega)) ?_
    rw [hzb]
    refine W_nil ?_
    refine WC_goal ?_
    refine WC_gyes 18 (l' := #[true, true, true, true, true, true, true, true, true, true, true, true, true, true, true, true, true, true, true, false, false, false, false, false, false, false, false, false, false]) rfl (by decide +kernel) (by decide +kernel) (by decide +kernel) rfl (by decide +kernel) rfl rfl (X_eqF (f := hdC) rfl rfl flat29 agg29 hdC_like hdC_inj gt29 (by decide)) rfl ?_
    rw [decide_eq_true rfl]
    first | refine WC_take 19 (l' := #[true, true, true, true, true, true, true, true, true, true, true, true, true, true, true, true, true, true, true, true, false, false, false, false, false, false, false, false, false]) rfl (by decide +kernel) (by decide +kernel) (by decide +kernel) rfl (by decide +kernel) (X_pickt rfl rfl) rfl ?_ | refine WC_take 19 (l' := #[true, true, true, true, true, true, true, true, true, true, true, true, true, true, true, true, true, true, true, true, false, false, false, false, false, false, false, false, false]) rfl (by decide +kernel) (by decide +kernel) (by decide +kernel) rfl (by decide +kernel) (X_pickf rfl rfl) rfl ?_
    refine WC_take 20 (l' := #[true, true, true, true, true, true, true, true, true, true, true, true, true, true, true, true, true, true, true, true, true, false, false, false, false, false, false, false, false]) rfl (by decide +kernel) (by decide +kernel) (by decide +kernel) rfl (by decide +kernel) (X_move rfl) rfl ?_
    refine WC_gyes 21 (l' := #[true, true, true, true, true, true, true, true, true, true, true, true, true, true, true, true, true, true, true, true, true, true, false, false, false, false, false, false, false]) rfl (by decide +kernel) (by decide +kernel) (by decide +kernel) rfl (by decide +kernel) rfl rfl (X_fieldAddr rfl fld31_2 (by decide)) rfl ?_
    refine WC_gyes 22 (l' := #[true, true, true, true, true, true, true, true, true, true, true, true, true, true, true, true, true, true, true, true, true, true, true, false, false, false, false, false, false]) rfl (by decide +kernel) (by decide +kernel) (by decide +kernel) rfl (by decide +kernel) rfl rfl (X_load (v := .bool (x.put a.how a.key (a.l.take 6)).2.1.out) rfl ty4 rfl (Cell.own (b := b14) zM rfl)) rfl ?_
    refine WC_gyes 23 (l' := #[true, true, true, true, true, true, true, true, true, true, true, true, true, true, true, true, true, true, true, true, true, true, true, true, false, false, false, false, false]) rfl (by decide +kernel) (by decide +kernel) (by decide +kernel) rfl (by decide +kernel) rfl rfl (X_move rfl) rfl ?_
    refine WC_gyes 24 (l' := #[true, true, true, true, true, true, true, true, true, true, true, true, true, true, true, true, true, true, true, true, true, true, true, true, true, false, false, false, false]) rfl (by decide +kernel) (by decide +kernel) (by decide +kernel) rfl (by decide +kernel) rfl rfl (X_bin rfl rfl b_geq) rfl ?_
    rw [show decide (zb ≥ 0) = (x.put a.how a.key (a.l.take 6)).2.1.out from hzo]
    refine WC_gyes 25 (l' := #[true, true, true, true, true, true, true, true, true, true, true, true, true, true, true, true, true, true, true, true, true, true, true, true, true, true, false, false, false]) rfl (by decide +kernel) (by decide +kernel) (by decide +kernel) rfl (by decide +kernel) rfl rfl (X_beq rfl rfl ty4) rfl ?_
    rw [beq_self_eq_true]
    first | refine WC_take 26 (l' := #[true, true, true, true, true, true, true, true, true, true, true, true, true, true, true, true, true, true, true, true, true, true, true, true, true, true, true, false, false]) rfl (by decide +kernel) (by decide +kernel) (by decide +kernel) rfl (by decide +kernel) (X_pickt rfl rfl) rfl ?_ | refine WC_take 26 (l' := #[true, true, true, true, true, true, true, true, true, true, true, true, true, true, true, true, true, true, true, true, true, true, true, true, true, true, true, false, false]) rfl (by decide +kernel) (by decide +kernel) (by decide +kernel) rfl (by decide +kernel) (X_pickf rfl rfl) rfl ?_
    refine WC_one 27 (l' := #[true, true, true, true, true, true, true, true, true, true, true, true, true, true, true, true, true, true, true, true, true, true, true, true, true, true, true, true, false]) zH (by decide +kernel) rfl (by decide +kernel) ?_
    refine W_storeA (l' := [.int .i64 ((x.put a.how a.key (a.l.take 6)).1.kind : Int), .int .i64 ((x.put a.how a.key (a.l.take 6)).1.entries : Int), .int .i64 ((x.put a.how a.key (a.l.take 6)).1.words : Int), .bool (x.put a.how a.key (a.l.take 6)).1.closed, .slice ad1 ((x.put a.how a.key (a.l.take 6)).1.L).length cap1, .slice ad2 (E1).length cap2, .slice ad3 ((x.put a.how a.key (a.l.take 6)).1.C).length cap3, .slice ad4 ((x.put a.how a.key (a.l.take 6)).1.used).length cap4]) rfl rfl ty56 rfl rfl (b := b6) zM (by exact Nat.le_refl 8) rfl zU ?_
    refine W_nil ?_
    refine WC_goal ?_
    refine WC_take 28 (l' := #[true, true, true, true, true, true, true, true, true, true, true, true, true, true, true, true, true, true, true, true, true, true, true, true, true, true, true, true, true]) rfl (by decide +kernel) (by decide +kernel) (by decide +kernel) rfl (by decide +kernel) (X_assign rfl) rfl ?_
    refine WC_done zH (by decide +kernel) ?_
    refine W_ret2G (H2 := HB5 ++ (X1 ++ H)) Tryz.results23 (.nil _) (.own rfl ty56 rfl zM rfl) (.tmp rfl) zH ?_
    exact ⟨_, E1, HB5, X1, _, hX5, ho1, fun c => by rw [(Xm.put_kw x a.how a.key (a.l.take 6)).1] at c; rw [hlk c]; exact has c, hD1, hEl1, Xm.put_kw x a.how a.key (a.l.take 6), rfl, rfl⟩
  · skip
    refine W_nil ?_
    refine W_block ?_
    refine W_seq ?_
    refine W_sr ?_
    refine W_bin rfl rfl b_eql rfl ?_
    first | rw [decide_eq_true (by decide)] | rw [decide_eq_false (by decide)]
    refine W_assign rfl rfl ?_
    refine W_nil ?_
    refine W_condF rfl rfl ?_
    refine W_region ?_
    refine W_bin rfl rfl b_eql rfl ?_
    first | rw [decide_eq_true (by decide)] | rw [decide_eq_false (by decide)]
    refine W_assign rfl rfl ?_
    refine W_nil ?_
    refine W_condT rfl rfl ?_
    refine W_sr ?_
    refine W_fieldAddr rfl fld62_7 (by decide) rfl ?_
    refine W_load (v := .slice adl a.l.length capl) rfl ty42 rfl (Cell.own (b := b5) zM rfl) rfl ?_
    refine W_fieldAddr rfl fld62_7 (by decide) rfl ?_
    refine W_load (v := .slice adl a.l.length capl) rfl ty42 rfl (Cell.own (b := b5) zM rfl) rfl ?_
    refine W_len rfl ty42 rfl rfl ?_
    refine W_min2 rfl rfl (m := ((a.l.take 6).length : Int)) (by rw [List.length_take]; split <;> omega) rfl ?_
    refine W_slice0 (hh := (a.l.take 6).length) rfl ty42 ty22 rfl ⟨_, rfl⟩ (by rw [List.length_take]; omega) rfl ?_
    refine W_assign rfl rfl ?_
    refine W_nil ?_
    refine W_sr ?_
    refine W_loadB (vs := [.int .i64 (x.kind : Int), .int .i64 (x.entries : Int), .int .i64 (x.words : Int), .bool x.closed, .slice ads (x.L).length caps, .slice ade (E).length cape, .slice adc (x.C).length capc, .slice adu (x.used).length capu]) rfl ty56 rfl (b := b4) zM rfl rfl rfl ?_
    refine W_fieldAddr rfl fld62_1 (by decide) rfl ?_
    refine W_load (v := .int .i64 a.how) rfl ty3 rfl (Cell.own (b := b5) zM rfl) rfl ?_
    refine W_fieldAddr rfl fld62_6 (by decide) rfl ?_
    refine W_load (v := .int .u64 a.key) rfl ty22 rfl (Cell.own (b := b5) zM rfl) rfl ?_
    refine W_move rfl rfl ?_
    refine W_call (.cons rfl (.cons rfl (.cons rfl (.cons rfl .nil)))) Tryz.call56 rfl (LCalls.hsub (dxPut_L (how := a.how) (k := a.key) (ws := (a.l.take 6)) (adw := adl) (capw := capl) (x := x) (E := E) ⟨ads, caps, ade, cape, adc, capc, adu, capu, rfl, hS0, hSc, hE0, hEc, hC0, hCc, hU0, hUc⟩ ((show HSub _ H from zH).trans hHR) hx ho (by omega) (hrw.up zH) (H := (b4, .cells 56 8 [.int .i64 (x.kind : Int), .int .i64 (x.entries : Int), .int .i64 (x.words : Int), .bool x.closed, .slice ads (x.L).length caps, .slice ade (E).length cape, .slice adc (x.C).length capc, .slice adu (x.used).length capu]) :: (b5, .cells 62 9 [.int .i64 a.kind, .int .i64 a.how, .int .i64 a.pick, .int .i64 a.at_, .bool a.own, .int .i64 a.h.slot, .int .i64 a.h.gen, .int .u64 a.key, .slice adl a.l.length capl]) :: (b6, .cells 56 8 [.int .i64 0, .int .i64 0, .int .i64 0, .bool false, .slice none 0 0, .slice none 0 0, .slice none 0 0, .slice none 0 0]) :: (b8, .cells 29 2 (hdC h)) :: (HB ++ H))) zH) ?_
    rintro v H' ⟨cs1, X1, E1, za, zb, rfl, hD1, ho1, hza, hzb, hzo, hEl1, hlk, rfl⟩
    have hD1o := hD1
    obtain ⟨ad1, cap1, ad2, cap2, ad3, cap3, ad4, cap4, rfl, _⟩ := hD1o
    refine W_move rfl rfl ?_
    refine W_extract rfl rfl rfl ?_
    refine W_extract rfl rfl rfl ?_
    refine W_extract rfl rfl rfl ?_
    refine W_extract rfl rfl rfl ?_
    refine W_alloc (l := [.int .i64 0, .int .i64 0, .int .i64 0, .bool false, .slice none 0 0, .slice none 0 0, .slice none 0 0, .slice none 0 0]) ty56 rfl rfl (fun b10 => ?_)
    refine W_storeA (l' := [.int .i64 ((x.put a.how a.key (a.l.take 6)).1.kind : Int), .int .i64 ((x.put a.how a.key (a.l.take 6)).1.entries : Int), .int .i64 ((x.put a.how a.key (a.l.take 6)).1.words : Int), .bool (x.put a.how a.key (a.l.take 6)).1.closed, .slice ad1 ((x.put a.how a.key (a.l.take 6)).1.L).length cap1, .slice ad2 (E1).length cap2, .slice ad3 ((x.put a.how a.key (a.l.take 6)).1.C).length cap3, .slice ad4 ((x.put a.how a.key (a.l.take 6)).1.used).length cap4]) rfl rfl ty56 rfl rfl (b := b10) zM (by exact Nat.le_refl 8) rfl zU ?_
    refine W_assign rfl rfl ?_
    refine W_assign rfl rfl ?_
    refine W_assign rfl rfl ?_
    refine W_nil ?_
    refine W_sr ?_
    refine W_move rfl rfl ?_
    refine W_fieldAddr rfl fld62_1 (by decide) rfl ?_
    refine W_load (v := .int .i64 a.how) rfl ty3 rfl (Cell.own (b := b5) zM rfl) rfl ?_
    refine W_fieldAddr rfl fld62_6 (by decide) rfl ?_
    refine W_load (v := .int .u64 a.key) rfl ty22 rfl (Cell.own (b := b5) zM rfl) rfl ?_
    refine W_move rfl rfl ?_
    refine W_call (.cons rfl (.cons rfl (.cons rfl (.cons rfl .nil)))) Tryz.call11 rfl ((hX.put hTab (by omega) (how := a.how) (k := a.key) (ws := (a.l.take 6)) (cap := capl) hkey (hrw.up zH) (H := (b10, .cells 56 8 [.int .i64 ((x.put a.how a.key (a.l.take 6)).1.kind : Int), .int .i64 ((x.put a.how a.key (a.l.take 6)).1.entries : Int), .int .i64 ((x.put a.how a.key (a.l.take 6)).1.words : Int), .bool (x.put a.how a.key (a.l.take 6)).1.closed, .slice ad1 ((x.put a.how a.key (a.l.take 6)).1.L).length cap1, .slice ad2 (E1).length cap2, .slice ad3 ((x.put a.how a.key (a.l.take 6)).1.C).length cap3, .slice ad4 ((x.put a.how a.key (a.l.take 6)).1.used).length cap4]) :: (b4, .cells 56 8 [.int .i64 (x.kind : Int), .int .i64 (x.entries : Int), .int .i64 (x.words : Int), .bool x.closed, .slice ads (x.L).length caps, .slice ade (E).length cape, .slice adc (x.C).length capc, .slice adu (x.used).length capu]) :: (b5, .cells 62 9 [.int .i64 a.kind, .int .i64 a.how, .int .i64 a.pick, .int .i64 a.at_, .bool a.own, .int .i64 a.h.slot, .int .i64 a.h.gen, .int .u64 a.key, .slice adl a.l.length capl]) :: (b6, .cells 56 8 [.int .i64 0, .int .i64 0, .int .i64 0, .bool false, .slice none 0 0, .slice none 0 0, .slice none 0 0, .slice none 0 0]) :: (b8, .cells 29 2 (hdC h)) :: (X1 ++ H))).hsub zH) ?_
    rintro v H' ⟨HB5, hX5, rfl, rfl⟩
    refine W_move rfl rfl ?_
    refine W_extract rfl rfl rfl ?_
    refine W_extract rfl rfl rfl ?_
    refine W_alloc (l := puttC zPutt) ty31 rfl rfl (fun b14 => ?_)
    refine W_storeA (l' := puttC (x.put a.how a.key (a.l.take 6)).2.1) rfl rfl ty31 rfl rfl (b := b14) zM (by exact Nat.le_refl 5) rfl zU ?_
    refine W_assign rfl rfl ?_
    refine W_nil ?_
    refine W_seq ?_
    refine W_anyC [(b10, .cells 56 8 [.int .i64 ((x.put a.how a.key (a.l.take 6)).1.kind : Int), .int .i64 ((x.put a.how a.key (a.l.take 6)).1.entries : Int), .int .i64 ((x.put a.how a.key (a.l.take 6)).1.words : Int), .bool (x.put a.how a.key (a.l.take 6)).1.closed, .slice ad1 ((x.put a.how a.key (a.l.take 6)).1.L).length cap1, .slice ad2 (E1).length cap2, .slice ad3 ((x.put a.how a.key (a.l.take 6)).1.C).length cap3, .slice ad4 ((x.put a.how a.key (a.l.take 6)).1.used).length cap4]), (b14, .cells 31 5 (puttC (x.put a.how a.key (a.l.take 6)).2.1))] (by kernel_rfl) ?_
    refine WC_take 0 (l' := #[true, false, false, false, false, false, false, false, false, false, false, false, false, false, false, false, false, false, false, false, false, false, false, false, false, false, false, false, false]) rfl (by decide +kernel) (by decide +kernel) (by decide +kernel) rfl (by decide +kernel) (X_loadB (vs := [.int .i64 ((x.put a.how a.key (a.l.take 6)).1.kind : Int), .int .i64 ((x.put a.how a.key (a.l.take 6)).1.entries : Int), .int .i64 ((x.put a.how a.key (a.l.take 6)).1.words : Int), .bool (x.put a.how a.key (a.l.take 6)).1.closed, .slice ad1 ((x.put a.how a.key (a.l.take 6)).1.L).length cap1, .slice ad2 (E1).length cap2, .slice ad3 ((x.put a.how a.key (a.l.take 6)).1.C).length cap3, .slice ad4 ((x.put a.how a.key (a.l.take 6)).1.used).length cap4]) rfl ty56 rfl (b := b10) zM rfl rfl) rfl ?_
    refine WC_take 1 (l' := #[true, true, false, false, false, false, false, false, false, false, false, false, false, false, false, false, false, false, false, false, false, false, false, false, false, false, false, false, false]) rfl (by decide +kernel) (by decide +kernel) (by decide +kernel) rfl (by decide +kernel) (X_move rfl) rfl ?_
    refine WC_take 2 (l' := #[true, true, true, false, false, false, false, false, false, false, false, false, false, false, false, false, false, false, false, false, false, false, false, false, false, false, false, false, false]) rfl (by decide +kernel) (by decide +kernel) (by decide +kernel) rfl (by decide +kernel) (X_move rfl) rfl ?_
    refine WC_take 3 (l' := #[true, true, true, true, false, false, false, false, false, false, false, false, false, false, false, false, false, false, false, false, false, false, false, false, false, false, false, false, false]) rfl (by decide +kernel) (by decide +kernel) (by decide +kernel) rfl (by decide +kernel) (X_bin rfl rfl b_eql) rfl ?_
    rw [decide_eq_true rfl]
    refine WC_take 4 (l' := #[true, true, true, true, true, false, false, false, false, false, false, false, false, false, false, false, false, false, false, false, false, false, false, false, false, false, false, false, false]) rfl (by decide +kernel) (by decide +kernel) (by decide +kernel) rfl (by decide +kernel) (X_move rfl) rfl ?_
    refine WC_gyes 5 (l' := #[true, true, true, true, true, true, false, false, false, false, false, false, false, false, false, false, false, false, false, false, false, false, false, false, false, false, false, false, false]) rfl (by decide +kernel) (by decide +kernel) (by decide +kernel) rfl (by decide +kernel) rfl rfl (X_fieldAddr rfl fld31_0 (by decide)) rfl ?_
    refine WC_gyes 6 (l' := #[true, true, true, true, true, true, true, false, false, false, false, false, false, false, false, false, false, false, false, false, false, false, false, false, false, false, false, false, false]) rfl (by decide +kernel) (by decide +kernel) (by decide +kernel) rfl (by decide +kernel) rfl rfl (X_loadB (vs := hdC (x.put a.how a.key (a.l.take 6)).2.1.h) rfl ty29 rfl (b := b14) zM rfl rfl) rfl ?_
    refine WC_gyes 7 (l' := #[true, true, true, true, true, true, true, true, false, false, false, false, false, false, false, false, false, false, false, false, false, false, false, false, false, false, false, false, false]) rfl (by decide +kernel) (by decide +kernel) (by decide +kernel) rfl (by decide +kernel) rfl rfl (X_loadB (vs := [.int .i64 ((x.put a.how a.key (a.l.take 6)).1.kind : Int), .int .i64 ((x.put a.how a.key (a.l.take 6)).1.entries : Int), .int .i64 ((x.put a.how a.key (a.l.take 6)).1.words : Int), .bool (x.put a.how a.key (a.l.take 6)).1.closed, .slice ad1 ((x.put a.how a.key (a.l.take 6)).1.L).length cap1, .slice ad2 (E1).length cap2, .slice ad3 ((x.put a.how a.key (a.l.take 6)).1.C).length cap3, .slice ad4 ((x.put a.how a.key (a.l.take 6)).1.used).length cap4]) rfl ty56 rfl (b := b10) zM rfl rfl) rfl ?_
    refine WC_gyes 8 (l' := #[true, true, true, true, true, true, true, true, true, false, false, false, false, false, false, false, false, false, false, false, false, false, false, false, false, false, false, false, false]) rfl (by decide +kernel) (by decide +kernel) (by decide +kernel) rfl (by decide +kernel) rfl rfl (X_move rfl) rfl ?_
    refine WC_one 9 (l' := #[true, true, true, true, true, true, true, true, true, true, false, false, false, false, false, false, false, false, false, false, false, false, false, false, false, false, false, false, false]) zH (by decide +kernel) rfl (by decide +kernel) ?_
    refine W_gyes rfl rfl ?_
    refine W_callq (.cons rfl (.cons rfl .nil)) Tryz.call57 rfl (dxhandle_q (HR := X1 ++ HR) (x := (x.put a.how a.key (a.l.take 6)).1) (E := E1) (z := za) hD1 ((show HSub _ (X1 ++ H) from zH).trans (.app (.here _) hHR)) (by omega)) ?_
    rw [hza]
    refine W_nil ?_
    refine WC_goal ?_
    refine WC_gyes 10 (l' := #[true, true, true, true, true, true, true, true, true, true, true, false, false, false, false, false, false, false, false, false, false, false, false, false, false, false, false, false, false]) rfl (by decide +kernel) (by decide +kernel) (by decide +kernel) rfl (by decide +kernel) rfl rfl (X_eqF (f := hdC) rfl rfl flat29 agg29 hdC_like hdC_inj gt29 (by decide)) rfl ?_
    rw [decide_eq_true rfl]
    first | refine WC_take 11 (l' := #[true, true, true, true, true, true, true, true, true, true, true, true, false, false, false, false, false, false, false, false, false, false, false, false, false, false, false, false, false]) rfl (by decide +kernel) (by decide +kernel) (by decide +kernel) rfl (by decide +kernel) (X_pickt rfl rfl) rfl ?_ | refine WC_take 11 (l' := #[true, true, true, true, true, true, true, true, true, true, true, true, false, false, false, false, false, false, false, false, false, false, false, false, false, false, false, false, false]) rfl (by decide +kernel) (by decide +kernel) (by decide +kernel) rfl (by decide +kernel) (X_pickf rfl rfl) rfl ?_
    refine WC_take 12 (l' := #[true, true, true, true, true, true, true, true, true, true, true, true, true, false, false, false, false, false, false, false, false, false, false, false, false, false, false, false, false]) rfl (by decide +kernel) (by decide +kernel) (by decide +kernel) rfl (by decide +kernel) (X_move rfl) rfl ?_
    refine WC_gyes 13 (l' := #[true, true, true, true, true, true, true, true, true, true, true, true, true, true, false, false, false, false, false, false, false, false, false, false, false, false, false, false, false]) rfl (by decide +kernel) (by decide +kernel) (by decide +kernel) rfl (by decide +kernel) rfl rfl (X_fieldAddr rfl fld31_1 (by decide)) rfl ?_
    refine WC_gyes 14 (l' := #[true, true, true, true, true, true, true, true, true, true, true, true, true, true, true, false, false, false, false, false, false, false, false, false, false, false, false, false, false]) rfl (by decide +kernel) (by decide +kernel) (by decide +kernel) rfl (by decide +kernel) rfl rfl (X_loadB (vs := hdC (x.put a.how a.key (a.l.take 6)).2.1.gone) rfl ty29 rfl (b := b14) zM rfl rfl) rfl ?_
    refine WC_gyes 15 (l' := #[true, true, true, true, true, true, true, true, true, true, true, true, true, true, true, true, false, false, false, false, false, false, false, false, false, false, false, false, false]) rfl (by decide +kernel) (by decide +kernel) (by decide +kernel) rfl (by decide +kernel) rfl rfl (X_loadB (vs := [.int .i64 ((x.put a.how a.key (a.l.take 6)).1.kind : Int), .int .i64 ((x.put a.how a.key (a.l.take 6)).1.entries : Int), .int .i64 ((x.put a.how a.key (a.l.take 6)).1.words : Int), .bool (x.put a.how a.key (a.l.take 6)).1.closed, .slice ad1 ((x.put a.how a.key (a.l.take 6)).1.L).length cap1, .slice ad2 (E1).length cap2, .slice ad3 ((x.put a.how a.key (a.l.take 6)).1.C).length cap3, .slice ad4 ((x.put a.how a.key (a.l.take 6)).1.used).length cap4]) rfl ty56 rfl (b := b10) zM rfl rfl) rfl ?_
    refine WC_gyes 16 (l' := #[true, true, true, true, true, true, true, true, true, true, true, true, true, true, true, true, true, false, false, false, false, false, false, false, false, false, false, false, false]) rfl (by decide +kernel) (by decide +kernel) (by decide +kernel) rfl (by decide +kernel) rfl rfl (X_move rfl) rfl ?_
    refine WC_one 17 (l' := #[true, true, true, true, true, true, true, true, true, true, true, true, true, true, true, true, true, true, false, false, false, false, false, false, false, false, false, false, false]) zH (by decide +kernel) rfl (by decide +kernel) ?_
    refine W_gyes rfl rfl ?_
    refine W_callq (.cons rfl (.cons rfl .nil)) Tryz.call57 rfl (dxhandle_q (HR := X1 ++ HR) (x := (x.put a.how a.key (a.l.take 6)).1) (E := E1) (z := zb) hD1 ((show HSub _ (X1 ++ H) from zH).trans (.app (.here _) hHR)) (by omega)) ?_
    rw [hzb]
    refine W_nil ?_
    refine WC_goal ?_
    refine WC_gyes 18 (l' := #[true, true, true, true, true, true, true, true, true, true, true, true, true, true, true, true, true, true, true, false, false, false, false, false, false, false, false, false, false]) rfl (by decide +kernel) (by decide +kernel) (by decide +kernel) rfl (by decide +kernel) rfl rfl (X_eqF (f := hdC) rfl rfl flat29 agg29 hdC_like hdC_inj gt29 (by decide)) rfl ?_
    rw [decide_eq_true rfl]
    first | refine WC_take 19 (l' := #[true, true, true, true, true, true, true, true, true, true, true, true, true, true, true, true, true, true, true, true, false, false, false, false, false, false, false, false, false]) rfl (by decide +kernel) (by decide +kernel) (by decide +kernel) rfl (by decide +kernel) (X_pickt rfl rfl) rfl ?_ | refine WC_take 19 (l' := #[true, true, true, true, true, true, true, true, true, true, true, true, true, true, true, true, true, true, true, true, false, false, false, false, false, false, false, false, false]) rfl (by decide +kernel) (by decide +kernel) (by decide +kernel) rfl (by decide +kernel) (X_pickf rfl rfl) rfl ?_
    refine WC_take 20 (l' := #[true, true, true, true, true, true, true, true, true, true, true, true, true, true, true, true, true, true, true, true, true, false, false, false, false, false, false, false, false]) rfl (by decide +kernel) (by decide +kernel) (by decide +kernel) rfl (by decide +kernel) (X_move rfl) rfl ?_
    refine WC_gyes 21 (l' := #[true, true, true, true, true, true, true, true, true, true, true, true, true, true, true, true, true, true, true, true, true, true, false, false, false, false, false, false, false]) rfl (by decide +kernel) (by decide +kernel) (by decide +kernel) rfl (by decide +kernel) rfl rfl (X_fieldAddr rfl fld31_2 (by decide)) rfl ?_
    refine WC_gyes 22 (l' := #[true, true, true, true, true, true, true, true, true, true, true, true, true, true, true, true, true, true, true, true, true, true, true, false, false, false, false, false, false]) rfl (by decide +kernel) (by decide +kernel) (by decide +kernel) rfl (by decide +kernel) rfl rfl (X_load (v := .bool (x.put a.how a.key (a.l.take 6)).2.1.out) rfl ty4 rfl (Cell.own (b := b14) zM rfl)) rfl ?_
    refine WC_gyes 23 (l' := #[true, true, true, true, true, true, true, true, true, true, true, true, true, true, true, true, true, true, true, true, true, true, true, true, false, false, false, false, false]) rfl (by decide +kernel) (by decide +kernel) (by decide +kernel) rfl (by decide +kernel) rfl rfl (X_move rfl) rfl ?_
    refine WC_gyes 24 (l' := #[true, true, true, true, true, true, true, true, true, true, true, true, true, true, true, true, true, true, true, true, true, true, true, true, true, false, false, false, false]) rfl (by decide +kernel) (by decide +kernel) (by decide +kernel) rfl (by decide +kernel) rfl rfl (X_bin rfl rfl b_geq) rfl ?_
    rw [show decide (zb ≥ 0) = (x.put a.how a.key (a.l.take 6)).2.1.out from hzo]
    refine WC_gyes 25 (l' := #[true, true, true, true, true, true, true, true, true, true, true, true, true, true, true, true, true, true, true, true, true, true, true, true, true, true, false, false, false]) rfl (by decide +kernel) (by decide +kernel) (by decide +kernel) rfl (by decide +kernel) rfl rfl (X_beq rfl rfl ty4) rfl ?_
    rw [beq_self_eq_true]
    first | refine WC_take 26 (l' := #[true, true, true, true, true, true, true, true, true, true, true, true, true, true, true, true, true, true, true, true, true, true, true, true, true, true, true, false, false]) rfl (by decide +kernel) (by decide +kernel) (by decide +kernel) rfl (by decide +kernel) (X_pickt rfl rfl) rfl ?_ | refine WC_take 26 (l' := #[true, true, true, true, true, true, true, true, true, true, true, true, true, true, true, true, true, true, true, true, true, true, true, true, true, true, true, false, false]) rfl (by decide +kernel) (by decide +kernel) (by decide +kernel) rfl (by decide +kernel) (X_pickf rfl rfl) rfl ?_
    refine WC_one 27 (l' := #[true, true, true, true, true, true, true, true, true, true, true, true, true, true, true, true, true, true, true, true, true, true, true, true, true, true, true, true, false]) zH (by decide +kernel) rfl (by decide +kernel) ?_
    refine W_storeA (l' := [.int .i64 ((x.put a.how a.key (a.l.take 6)).1.kind : Int), .int .i64 ((x.put a.how a.key (a.l.take 6)).1.entries : Int), .int .i64 ((x.put a.how a.key (a.l.take 6)).1.words : Int), .bool (x.put a.how a.key (a.l.take 6)).1.closed, .slice ad1 ((x.put a.how a.key (a.l.take 6)).1.L).length cap1, .slice ad2 (E1).length cap2, .slice ad3 ((x.put a.how a.key (a.l.take 6)).1.C).length cap3, .slice ad4 ((x.put a.how a.key (a.l.take 6)).1.used).length cap4]) rfl rfl ty56 rfl rfl (b := b6) zM (by exact Nat.le_refl 8) rfl zU ?_
    refine W_nil ?_
    refine WC_goal ?_
    refine WC_take 28 (l' := #[true, true, true, true, true, true, true, true, true, true, true, true, true, true, true, true, true, true, true, true, true, true, true, true, true, true, true, true, true]) rfl (by decide +kernel) (by decide +kernel) (by decide +kernel) rfl (by decide +kernel) (X_assign rfl) rfl ?_
    refine WC_done zH (by decide +kernel) ?_
    refine W_ret2G (H2 := HB5 ++ (X1 ++ H)) Tryz.results23 (.nil _) (.own rfl ty56 rfl zM rfl) (.tmp rfl) zH ?_
    exact ⟨_, E1, HB5, X1, _, hX5, ho1, fun c => by rw [(Xm.put_kw x a.how a.key (a.l.take 6)).1] at c; rw [hlk c]; exact has c, hD1, hEl1, Xm.put_kw x a.how a.key (a.l.take 6), rfl, rfl⟩
  · skip
    refine W_nil ?_
    refine W_block ?_
    refine W_seq ?_
    refine W_sr ?_
    refine W_bin rfl rfl b_eql rfl ?_
    first | rw [decide_eq_true (by decide)] | rw [decide_eq_false (by decide)]
    refine W_assign rfl rfl ?_
    refine W_nil ?_
    refine W_condF rfl rfl ?_
    refine W_region ?_
    refine W_bin rfl rfl b_eql rfl ?_
    first | rw [decide_eq_true (by decide)] | rw [decide_eq_false (by decide)]
    refine W_assign rfl rfl ?_
    refine W_nil ?_
    refine W_condF rfl rfl ?_
    refine W_sr ?_
    refine W_bin rfl rfl b_eql rfl ?_
    first | rw [decide_eq_true (by decide)] | rw [decide_eq_false (by decide)]
    refine W_assign rfl rfl ?_
    refine W_nil ?_
    refine W_condT rfl rfl ?_
    refine W_sr ?_
    refine W_loadB (vs := [.int .i64 (x.kind : Int), .int .i64 (x.entries : Int), .int .i64 (x.words : Int), .bool x.closed, .slice ads (x.L).length caps, .slice ade (E).length cape, .slice adc (x.C).length capc, .slice adu (x.used).length capu]) rfl ty56 rfl (b := b4) zM rfl rfl rfl ?_
    refine W_fieldAddr rfl fld62_6 (by decide) rfl ?_
    refine W_load (v := .int .u64 a.key) rfl ty22 rfl (Cell.own (b := b5) zM rfl) rfl ?_
    refine W_callq (.cons rfl (.cons rfl .nil)) Tryz.call58 rfl (dxFind_q (x := x) (E := E) (k := a.key) ⟨ads, caps, ade, cape, adc, capc, adu, capu, rfl, hS0, hSc, hE0, hEc, hC0, hCc, hU0, hUc⟩ ((show HSub _ H from zH).trans hHR) (by omega)) ?_
    rcases hf : fndC x.C a.key with _ | g
    · skip
      rw [ho.fndN hf, show zI none = -1 from rfl]
      refine W_assign rfl rfl ?_
      refine W_nil ?_
      refine W_sr ?_
      refine W_move rfl rfl ?_
      refine W_fieldAddr rfl fld62_6 (by decide) rfl ?_
      refine W_load (v := .int .u64 a.key) rfl ty22 rfl (Cell.own (b := b5) zM rfl) rfl ?_
      refine W_call (.cons rfl (.cons rfl .nil)) Tryz.call17 rfl ((hX.find (by omega) (k := a.key) (H := (b4, .cells 56 8 [.int .i64 (x.kind : Int), .int .i64 (x.entries : Int), .int .i64 (x.words : Int), .bool x.closed, .slice ads (x.L).length caps, .slice ade (E).length cape, .slice adc (x.C).length capc, .slice adu (x.used).length capu]) :: (b5, .cells 62 9 [.int .i64 a.kind, .int .i64 a.how, .int .i64 a.pick, .int .i64 a.at_, .bool a.own, .int .i64 a.h.slot, .int .i64 a.h.gen, .int .u64 a.key, .slice adl a.l.length capl]) :: (b6, .cells 56 8 [.int .i64 0, .int .i64 0, .int .i64 0, .bool false, .slice none 0 0, .slice none 0 0, .slice none 0 0, .slice none 0 0]) :: (b8, .cells 29 2 (hdC h)) :: H)).hsub zH) ?_
      rintro v H' ⟨HB5, hX5, rfl, rfl⟩
      rw [show (x.find a.key).1 = x by unfold Xm.find; rw [hf]] at hX5
      rw [show (x.find a.key).2.1 = zHd by unfold Xm.find; rw [hf], show (x.find a.key).2.2 = 4 by unfold Xm.find; rw [hf]]
      refine W_move rfl rfl ?_
      refine W_extract rfl rfl rfl ?_
      refine W_extract rfl rfl rfl ?_
      refine W_alloc (l := hdC zHd) ty29 rfl rfl (fun b17 => ?_)
      refine W_storeA (l' := hdC zHd) rfl rfl ty29 rfl rfl (b := b17) zM (by exact Nat.le_refl 2) rfl zU ?_
      refine W_assign rfl rfl ?_
      refine W_nil ?_
      refine W_seq ?_
      refine W_sr ?_
      refine W_move rfl rfl ?_
      refine W_bin rfl rfl b_lss rfl ?_
      first | rw [decide_eq_true (by omega)] | rw [decide_eq_false (by omega)]
      refine W_nil ?_
      refine W_condT rfl rfl ?_
      refine W_seq ?_
      refine W_anyC [(b4, .cells 56 8 [.int .i64 (x.kind : Int), .int .i64 (x.entries : Int), .int .i64 (x.words : Int), .bool x.closed, .slice ads (x.L).length caps, .slice ade (E).length cape, .slice adc (x.C).length capc, .slice adu (x.used).length capu]), (b17, .cells 29 2 (hdC zHd))] (by kernel_rfl) ?_
      refine WC_take 0 (l' := #[true, false, false, false, false, false, false, false, false, false]) rfl (by decide +kernel) (by decide +kernel) (by decide +kernel) rfl (by decide +kernel) (X_loadB (vs := [.int .i64 (x.kind : Int), .int .i64 (x.entries : Int), .int .i64 (x.words : Int), .bool x.closed, .slice ads (x.L).length caps, .slice ade (E).length cape, .slice adc (x.C).length capc, .slice adu (x.used).length capu]) rfl ty56 rfl (b := b4) zM rfl rfl) rfl ?_
      refine WC_take 1 (l' := #[true, true, false, false, false, false, false, false, false, false]) rfl (by decide +kernel) (by decide +kernel) (by decide +kernel) rfl (by decide +kernel) (X_move rfl) rfl ?_
      refine WC_take 2 (l' := #[true, true, true, false, false, false, false, false, false, false]) rfl (by decide +kernel) (by decide +kernel) (by decide +kernel) rfl (by decide +kernel) (X_bin rfl rfl b_eql) rfl ?_
      first | rw [decide_eq_true (by decide)] | rw [decide_eq_false (by decide)]
      refine WC_take 3 (l' := #[true, true, true, true, false, false, false, false, false, false]) rfl (by decide +kernel) (by decide +kernel) (by decide +kernel) rfl (by decide +kernel) (X_move rfl) rfl ?_
      refine WC_gyes 4 (l' := #[true, true, true, true, true, false, false, false, false, false]) rfl (by decide +kernel) (by decide +kernel) (by decide +kernel) rfl (by decide +kernel) rfl rfl (X_loadB (vs := hdC zHd) rfl ty29 rfl (b := b17) zM rfl rfl) rfl ?_
      refine WC_gyes 5 (l' := #[true, true, true, true, true, true, false, false, false, false]) rfl (by decide +kernel) (by decide +kernel) (by decide +kernel) rfl (by decide +kernel) rfl rfl (X_build (l := hdC zHd) ty29 pl29 .nil rfl rfl) rfl ?_
      refine WC_gyes 6 (l' := #[true, true, true, true, true, true, true, false, false, false]) rfl (by decide +kernel) (by decide +kernel) (by decide +kernel) rfl (by decide +kernel) rfl rfl (X_eqF (f := hdC) rfl rfl flat29 agg29 hdC_like hdC_inj gt29 (by decide)) rfl ?_
      rw [decide_eq_true rfl]
      first | refine WC_take 7 (l' := #[true, true, true, true, true, true, true, true, false, false]) rfl (by decide +kernel) (by decide +kernel) (by decide +kernel) rfl (by decide +kernel) (X_pickt rfl rfl) rfl ?_ | refine WC_take 7 (l' := #[true, true, true, true, true, true, true, true, false, false]) rfl (by decide +kernel) (by decide +kernel) (by decide +kernel) rfl (by decide +kernel) (X_pickf rfl rfl) rfl ?_
      refine WC_one 8 (l' := #[true, true, true, true, true, true, true, true, true, false]) zH (by decide +kernel) rfl (by decide +kernel) ?_
      refine W_storeA (l' := [.int .i64 (x.kind : Int), .int .i64 (x.entries : Int), .int .i64 (x.words : Int), .bool x.closed, .slice ads (x.L).length caps, .slice ade (E).length cape, .slice adc (x.C).length capc, .slice adu (x.used).length capu]) rfl rfl ty56 rfl rfl (b := b6) zM (by exact Nat.le_refl 8) rfl zU ?_
      refine W_nil ?_
      refine WC_goal ?_
      refine WC_take 9 (l' := #[true, true, true, true, true, true, true, true, true, true]) rfl (by decide +kernel) (by decide +kernel) (by decide +kernel) rfl (by decide +kernel) (X_assign rfl) rfl ?_
      refine WC_done zH (by decide +kernel) ?_
      refine W_ret2G (H2 := HB5 ++ H) Tryz.results23 (.nil _) (.own rfl ty56 rfl zM rfl) (.tmp rfl) zH ?_
      exact ⟨_, E, HB5, [], _, hX5.up (by omega), ho, has, ⟨ads, caps, ade, cape, adc, capc, adu, capu, rfl, hS0, hSc, hE0, hEc, hC0, hCc, hU0, hUc⟩, Nat.le_succ _, ⟨rfl, rfl⟩, rfl, rfl⟩
    · skip
      obtain ⟨i, e, hfe, he, hel, hek, heg⟩ := ho.fnd hx hf
      rw [hfe, show zI (some i) = (i : Int) from rfl]
      have hi := (List.getElem?_eq_some_iff.1 he).1
      obtain ⟨qk, pk, eqk, hkc⟩ := Holds.row elmC_len (by decide) hE he
      refine W_assign rfl rfl ?_
      refine W_nil ?_
      refine W_sr ?_
      refine W_move rfl rfl ?_
      refine W_fieldAddr rfl fld62_6 (by decide) rfl ?_
      refine W_load (v := .int .u64 a.key) rfl ty22 rfl (Cell.own (b := b5) zM rfl) rfl ?_
      refine W_call (.cons rfl (.cons rfl .nil)) Tryz.call17 rfl ((hX.find (by omega) (k := a.key) (H := (b4, .cells 56 8 [.int .i64 (x.kind : Int), .int .i64 (x.entries : Int), .int .i64 (x.words : Int), .bool x.closed, .slice ads (x.L).length caps, .slice ade (E).length cape, .slice adc (x.C).length capc, .slice adu (x.used).length capu]) :: (b5, .cells 62 9 [.int .i64 a.kind, .int .i64 a.how, .int .i64 a.pick, .int .i64 a.at_, .bool a.own, .int .i64 a.h.slot, .int .i64 a.h.gen, .int .u64 a.key, .slice adl a.l.length capl]) :: (b6, .cells 56 8 [.int .i64 0, .int .i64 0, .int .i64 0, .bool false, .slice none 0 0, .slice none 0 0, .slice none 0 0, .slice none 0 0]) :: (b8, .cells 29 2 (hdC h)) :: H)).hsub zH) ?_
      rintro v H' ⟨HB5, hX5, rfl, rfl⟩
      rw [show (x.find a.key).1 = x.use a.key by unfold Xm.find; rw [hf]] at hX5
      rw [show (x.find a.key).2.1 = g by unfold Xm.find; rw [hf], show (x.find a.key).2.2 = 0 by unfold Xm.find; rw [hf]]
      refine W_move rfl rfl ?_
      refine W_extract rfl rfl rfl ?_
      refine W_extract rfl rfl rfl ?_
      refine W_alloc (l := hdC zHd) ty29 rfl rfl (fun b17 => ?_)
      refine W_storeA (l' := hdC g) rfl rfl ty29 rfl rfl (b := b17) zM (by exact Nat.le_refl 2) rfl zU ?_
      refine W_assign rfl rfl ?_
      refine W_nil ?_
      refine W_seq ?_
      refine W_sr ?_
      refine W_move rfl rfl ?_
      refine W_bin rfl rfl b_lss rfl ?_
      first | rw [decide_eq_true (by omega)] | rw [decide_eq_false (by omega)]
      refine W_nil ?_
      refine W_condF rfl rfl ?_
      refine W_skip ?_
      refine W_seq ?_
      refine W_anyC [(b4, .cells 56 8 [.int .i64 (x.kind : Int), .int .i64 (x.entries : Int), .int .i64 (x.words : Int), .bool x.closed, .slice ads (x.L).length caps, .slice ade (E).length cape, .slice adc (x.C).length capc, .slice adu (x.used).length capu]), (b5, .cells 62 9 [.int .i64 a.kind, .int .i64 a.how, .int .i64 a.pick, .int .i64 a.at_, .bool a.own, .int .i64 a.h.slot, .int .i64 a.h.gen, .int .u64 a.key, .slice adl a.l.length capl]), (b17, .cells 29 2 (hdC g))] (by kernel_rfl) ?_
      refine WC_take 0 (l' := #[true, false, false, false, false, false, false, false, false, false, false, false, false, false, false]) rfl (by decide +kernel) (by decide +kernel) (by decide +kernel) rfl (by decide +kernel) (X_loadB (vs := [.int .i64 (x.kind : Int), .int .i64 (x.entries : Int), .int .i64 (x.words : Int), .bool x.closed, .slice ads (x.L).length caps, .slice ade (E).length cape, .slice adc (x.C).length capc, .slice adu (x.used).length capu]) rfl ty56 rfl (b := b4) zM rfl rfl) rfl ?_
      refine WC_take 1 (l' := #[true, true, false, false, false, false, false, false, false, false, false, false, false, false, false]) rfl (by decide +kernel) (by decide +kernel) (by decide +kernel) rfl (by decide +kernel) (X_fieldAddr rfl fld62_6 (by decide)) rfl ?_
      refine WC_take 2 (l' := #[true, true, true, false, false, false, false, false, false, false, false, false, false, false, false]) rfl (by decide +kernel) (by decide +kernel) (by decide +kernel) rfl (by decide +kernel) (X_load (v := .int .u64 a.key) rfl ty22 rfl (Cell.own (b := b5) zM rfl)) rfl ?_
      refine WC_take 4 (l' := #[true, true, true, false, true, false, false, false, false, false, false, false, false, false, false]) rfl (by decide +kernel) (by decide +kernel) (by decide +kernel) rfl (by decide +kernel) (X_move rfl) rfl ?_
      refine WC_take 5 (l' := #[true, true, true, false, true, true, false, false, false, false, false, false, false, false, false]) rfl (by decide +kernel) (by decide +kernel) (by decide +kernel) rfl (by decide +kernel) (X_bin rfl rfl b_eql) rfl ?_
      first | rw [decide_eq_true (by decide)] | rw [decide_eq_false (by decide)]
      refine WC_one 3 (l' := #[true, true, true, true, true, true, false, false, false, false, false, false, false, false, false]) zH (by decide +kernel) rfl (by decide +kernel) ?_
      refine W_call (.cons rfl (.cons rfl .nil)) Tryz.call59 rfl (LCalls.hsub (dxUse_L (x := x) (E := E) (k := a.key) ⟨ads, caps, ade, cape, adc, capc, adu, capu, rfl, hS0, hSc, hE0, hEc, hC0, hCc, hU0, hUc⟩ ((show HSub _ H from zH).trans hHR) (by omega) (H := (b17, .cells 29 2 (hdC g)) :: (b4, .cells 56 8 [.int .i64 (x.kind : Int), .int .i64 (x.entries : Int), .int .i64 (x.words : Int), .bool x.closed, .slice ads (x.L).length caps, .slice ade (E).length cape, .slice adc (x.C).length capc, .slice adu (x.used).length capu]) :: (b5, .cells 62 9 [.int .i64 a.kind, .int .i64 a.how, .int .i64 a.pick, .int .i64 a.at_, .bool a.own, .int .i64 a.h.slot, .int .i64 a.h.gen, .int .u64 a.key, .slice adl a.l.length capl]) :: (b6, .cells 56 8 [.int .i64 0, .int .i64 0, .int .i64 0, .bool false, .slice none 0 0, .slice none 0 0, .slice none 0 0, .slice none 0 0]) :: (b8, .cells 29 2 (hdC h)) :: (HB5 ++ H))) zH) ?_
      rintro v H' ⟨cs1, X1, rfl, hD1, rfl⟩
      have hD1o := hD1
      obtain ⟨ad1, cap1, ad2, cap2, ad3, cap3, ad4, cap4, rfl, _⟩ := hD1o
      refine W_nil ?_
      refine WC_goal ?_
      refine WC_take 6 (l' := #[true, true, true, true, true, true, true, false, false, false, false, false, false, false, false]) rfl (by decide +kernel) (by decide +kernel) (by decide +kernel) rfl (by decide +kernel) (X_move rfl) rfl ?_
      refine WC_gyes 7 (l' := #[true, true, true, true, true, true, true, true, false, false, false, false, false, false, false]) rfl (by decide +kernel) (by decide +kernel) (by decide +kernel) rfl (by decide +kernel) rfl rfl (X_loadB (vs := hdC g) rfl ty29 rfl (b := b17) zM rfl rfl) rfl ?_
      refine WC_gyes 8 (l' := #[true, true, true, true, true, true, true, true, true, false, false, false, false, false, false]) rfl (by decide +kernel) (by decide +kernel) (by decide +kernel) rfl (by decide +kernel) rfl rfl (X_loadB (vs := [.int .i64 (x.kind : Int), .int .i64 (x.entries : Int), .int .i64 (x.words : Int), .bool x.closed, .slice ads (x.L).length caps, .slice ade (E).length cape, .slice adc (x.C).length capc, .slice adu (x.used).length capu]) rfl ty56 rfl (b := b4) zM rfl rfl) rfl ?_
      refine WC_gyes 9 (l' := #[true, true, true, true, true, true, true, true, true, true, false, false, false, false, false]) rfl (by decide +kernel) (by decide +kernel) (by decide +kernel) rfl (by decide +kernel) rfl rfl (X_move rfl) rfl ?_
      refine WC_one 10 (l' := #[true, true, true, true, true, true, true, true, true, true, true, false, false, false, false]) zH (by decide +kernel) rfl (by decide +kernel) ?_
      refine W_gyes rfl rfl ?_
      refine W_callq (.cons rfl (.cons rfl .nil)) Tryz.call57 rfl (dxhandle_q (HR := HR) (x := x) (E := E) (z := (i : Int)) ⟨ads, caps, ade, cape, adc, capc, adu, capu, rfl, hS0, hSc, hE0, hEc, hC0, hCc, hU0, hUc⟩ ((show HSub _ (H) from zH).trans hHR) (by omega)) ?_
      rw [hdE_at he, heg]
      refine W_nil ?_
      refine WC_goal ?_
      refine WC_gyes 11 (l' := #[true, true, true, true, true, true, true, true, true, true, true, true, false, false, false]) rfl (by decide +kernel) (by decide +kernel) (by decide +kernel) rfl (by decide +kernel) rfl rfl (X_eqF (f := hdC) rfl rfl flat29 agg29 hdC_like hdC_inj gt29 (by decide)) rfl ?_
      rw [decide_eq_true rfl]
      first | refine WC_take 12 (l' := #[true, true, true, true, true, true, true, true, true, true, true, true, true, false, false]) rfl (by decide +kernel) (by decide +kernel) (by decide +kernel) rfl (by decide +kernel) (X_pickt rfl rfl) rfl ?_ | refine WC_take 12 (l' := #[true, true, true, true, true, true, true, true, true, true, true, true, true, false, false]) rfl (by decide +kernel) (by decide +kernel) (by decide +kernel) rfl (by decide +kernel) (X_pickf rfl rfl) rfl ?_
      refine WC_one 13 (l' := #[true, true, true, true, true, true, true, true, true, true, true, true, true, true, false]) zH (by decide +kernel) rfl (by decide +kernel) ?_
      refine W_storeA (l' := [.int .i64 ((x.use a.key).kind : Int), .int .i64 ((x.use a.key).entries : Int), .int .i64 ((x.use a.key).words : Int), .bool (x.use a.key).closed, .slice ad1 ((x.use a.key).L).length cap1, .slice ad2 (E).length cap2, .slice ad3 ((x.use a.key).C).length cap3, .slice ad4 ((x.use a.key).used).length cap4]) rfl rfl ty56 rfl rfl (b := b6) zM (by exact Nat.le_refl 8) rfl zU ?_
      refine W_nil ?_
      refine WC_goal ?_
      refine WC_take 14 (l' := #[true, true, true, true, true, true, true, true, true, true, true, true, true, true, true]) rfl (by decide +kernel) (by decide +kernel) (by decide +kernel) rfl (by decide +kernel) (X_assign rfl) rfl ?_
      refine WC_done zH (by decide +kernel) ?_
      refine W_ret2G (H2 := HB5 ++ (X1 ++ H)) Tryz.results23 (.nil _) (.own rfl ty56 rfl zM rfl) (.tmp rfl) zH ?_
      exact ⟨_, E, HB5, X1, _, hX5.up (by omega), ho.cong rfl rfl, has, hD1, Nat.le_succ _, ⟨rfl, rfl⟩, rfl, rfl⟩
  · skip
    refine W_nil ?_
    refine W_block ?_
    refine W_seq ?_
    refine W_sr ?_
    refine W_bin rfl rfl b_eql rfl ?_
    first | rw [decide_eq_true (by decide)] | rw [decide_eq_false (by decide)]
    refine W_assign rfl rfl ?_
    refine W_nil ?_
    refine W_condF rfl rfl ?_
    refine W_region ?_
    refine W_bin rfl rfl b_eql rfl ?_
    first | rw [decide_eq_true (by decide)] | rw [decide_eq_false (by decide)]
    refine W_assign rfl rfl ?_
    refine W_nil ?_
    refine W_condF rfl rfl ?_
    refine W_sr ?_
    refine W_bin rfl rfl b_eql rfl ?_
    first | rw [decide_eq_true (by decide)] | rw [decide_eq_false (by decide)]
    refine W_assign rfl rfl ?_
    refine W_nil ?_
    refine W_condF rfl rfl ?_
    refine W_sr ?_
    refine W_bin rfl rfl b_eql rfl ?_
    first | rw [decide_eq_true (by decide)] | rw [decide_eq_false (by decide)]
    refine W_assign rfl rfl ?_
    refine W_nil ?_
    refine W_condT rfl rfl ?_
    refine W_sr ?_
    refine W_loadB (vs := [.int .i64 (x.kind : Int), .int .i64 (x.entries : Int), .int .i64 (x.words : Int), .bool x.closed, .slice ads (x.L).length caps, .slice ade (E).length cape, .slice adc (x.C).length capc, .slice adu (x.used).length capu]) rfl ty56 rfl (b := b4) zM rfl rfl rfl ?_
    refine W_fieldAddr rfl fld62_6 (by decide) rfl ?_
    refine W_load (v := .int .u64 a.key) rfl ty22 rfl (Cell.own (b := b5) zM rfl) rfl ?_
    refine W_callq (.cons rfl (.cons rfl .nil)) Tryz.call58 rfl (dxFind_q (x := x) (E := E) (k := a.key) ⟨ads, caps, ade, cape, adc, capc, adu, capu, rfl, hS0, hSc, hE0, hEc, hC0, hCc, hU0, hUc⟩ ((show HSub _ H from zH).trans hHR) (by omega)) ?_
    rcases hf : fndC x.C a.key with _ | g
    · skip
      rw [ho.fndN hf, show zI none = -1 from rfl]
      refine W_assign rfl rfl ?_
      refine W_nil ?_
      refine W_sr ?_
      refine W_move rfl rfl ?_
      refine W_fieldAddr rfl fld62_6 (by decide) rfl ?_
      refine W_load (v := .int .u64 a.key) rfl ty22 rfl (Cell.own (b := b5) zM rfl) rfl ?_
      refine W_callq (.cons rfl (.cons rfl .nil)) Tryz.call13 rfl (hX.look (fun p hp => by repeat (first | exact List.mem_append_left _ hp | apply List.mem_append_right | apply List.mem_cons_of_mem)) (k := a.key)) ?_
      rw [hf, show ((none : Option Hd).getD zHd) = zHd from rfl, show (if (none : Option Hd).isSome then (0 : Int) else 4) = 4 from rfl]
      refine W_move rfl rfl ?_
      refine W_extract rfl rfl rfl ?_
      refine W_extract rfl rfl rfl ?_
      refine W_alloc (l := hdC zHd) ty29 rfl rfl (fun b20 => ?_)
      refine W_storeA (l' := hdC zHd) rfl rfl ty29 rfl rfl (b := b20) zM (by exact Nat.le_refl 2) rfl zU ?_
      refine W_assign rfl rfl ?_
      refine W_nil ?_
      refine W_seq ?_
      refine W_anyC [(b4, .cells 56 8 [.int .i64 (x.kind : Int), .int .i64 (x.entries : Int), .int .i64 (x.words : Int), .bool x.closed, .slice ads (x.L).length caps, .slice ade (E).length cape, .slice adc (x.C).length capc, .slice adu (x.used).length capu]), (b20, .cells 29 2 (hdC zHd))] (by kernel_rfl) ?_
      refine WC_take 0 (l' := #[true, false, false, false, false, false, false, false, false, false, false, false, false, false, false, false, false, false, false, false, false, false, false]) rfl (by decide +kernel) (by decide +kernel) (by decide +kernel) rfl (by decide +kernel) (X_loadB (vs := [.int .i64 (x.kind : Int), .int .i64 (x.entries : Int), .int .i64 (x.words : Int), .bool x.closed, .slice ads (x.L).length caps, .slice ade (E).length cape, .slice adc (x.C).length capc, .slice adu (x.used).length capu]) rfl ty56 rfl (b := b4) zM rfl rfl) rfl ?_
      refine WC_take 1 (l' := #[true, true, false, false, false, false, false, false, false, false, false, false, false, false, false, false, false, false, false, false, false, false, false]) rfl (by decide +kernel) (by decide +kernel) (by decide +kernel) rfl (by decide +kernel) (X_move rfl) rfl ?_
      refine WC_take 2 (l' := #[true, true, true, false, false, false, false, false, false, false, false, false, false, false, false, false, false, false, false, false, false, false, false]) rfl (by decide +kernel) (by decide +kernel) (by decide +kernel) rfl (by decide +kernel) (X_bin rfl rfl b_eql) rfl ?_
      first | rw [decide_eq_true (by decide)] | rw [decide_eq_false (by decide)]
      refine WC_take 3 (l' := #[true, true, true, true, false, false, false, false, false, false, false, false, false, false, false, false, false, false, false, false, false, false, false]) rfl (by decide +kernel) (by decide +kernel) (by decide +kernel) rfl (by decide +kernel) (X_move rfl) rfl ?_
      refine WC_take 4 (l' := #[true, true, true, true, true, false, false, false, false, false, false, false, false, false, false, false, false, false, false, false, false, false, false]) rfl (by decide +kernel) (by decide +kernel) (by decide +kernel) rfl (by decide +kernel) (X_bin rfl rfl b_geq) rfl ?_
      first | rw [decide_eq_true (by omega)] | rw [decide_eq_false (by omega)]
      refine WC_take 5 (l' := #[true, true, true, true, true, true, false, false, false, false, false, false, false, false, false, false, false, false, false, false, false, false, false]) rfl (by decide +kernel) (by decide +kernel) (by decide +kernel) rfl (by decide +kernel) (X_beq rfl rfl ty4) rfl ?_
      rw [beq_self_eq_true]
      refine WC_take 6 (l' := #[true, true, true, true, true, true, true, false, false, false, false, false, false, false, false, false, false, false, false, false, false, false, false]) rfl (by decide +kernel) (by decide +kernel) (by decide +kernel) rfl (by decide +kernel) (X_move rfl) rfl ?_
      refine WC_gyes 7 (l' := #[true, true, true, true, true, true, true, true, false, false, false, false, false, false, false, false, false, false, false, false, false, false, false]) rfl (by decide +kernel) (by decide +kernel) (by decide +kernel) rfl (by decide +kernel) rfl rfl (X_move rfl) rfl ?_
      refine WC_gyes 8 (l' := #[true, true, true, true, true, true, true, true, true, false, false, false, false, false, false, false, false, false, false, false, false, false, false]) rfl (by decide +kernel) (by decide +kernel) (by decide +kernel) rfl (by decide +kernel) rfl rfl (X_bin rfl rfl b_geq) rfl ?_
      first | rw [decide_eq_true (by omega)] | rw [decide_eq_false (by omega)]
      refine WC_gyes 9 (l' := #[true, true, true, true, true, true, true, true, true, true, false, false, false, false, false, false, false, false, false, false, false, false, false]) rfl (by decide +kernel) (by decide +kernel) (by decide +kernel) rfl (by decide +kernel) rfl rfl (X_move rfl) rfl ?_
      refine WC_gyes 10 (l' := #[true, true, true, true, true, true, true, true, true, true, true, false, false, false, false, false, false, false, false, false, false, false, false]) rfl (by decide +kernel) (by decide +kernel) (by decide +kernel) rfl (by decide +kernel) rfl rfl (X_move rfl) rfl ?_
      refine WC_gyes 11 (l' := #[true, true, true, true, true, true, true, true, true, true, true, true, false, false, false, false, false, false, false, false, false, false, false]) rfl (by decide +kernel) (by decide +kernel) (by decide +kernel) rfl (by decide +kernel) rfl rfl (X_bin rfl rfl b_eql) rfl ?_
      first | rw [decide_eq_true (by decide)] | rw [decide_eq_false (by decide)]
      first | refine WC_gyes 12 (l' := #[true, true, true, true, true, true, true, true, true, true, true, true, true, false, false, false, false, false, false, false, false, false, false]) rfl (by decide +kernel) (by decide +kernel) (by decide +kernel) rfl (by decide +kernel) rfl rfl (X_pickt rfl rfl) rfl ?_ | refine WC_gyes 12 (l' := #[true, true, true, true, true, true, true, true, true, true, true, true, true, false, false, false, false, false, false, false, false, false, false]) rfl (by decide +kernel) (by decide +kernel) (by decide +kernel) rfl (by decide +kernel) rfl rfl (X_pickf rfl rfl) rfl ?_
      first | refine WC_take 13 (l' := #[true, true, true, true, true, true, true, true, true, true, true, true, true, true, false, false, false, false, false, false, false, false, false]) rfl (by decide +kernel) (by decide +kernel) (by decide +kernel) rfl (by decide +kernel) (X_pickt rfl rfl) rfl ?_ | refine WC_take 13 (l' := #[true, true, true, true, true, true, true, true, true, true, true, true, true, true, false, false, false, false, false, false, false, false, false]) rfl (by decide +kernel) (by decide +kernel) (by decide +kernel) rfl (by decide +kernel) (X_pickf rfl rfl) rfl ?_
      refine WC_take 14 (l' := #[true, true, true, true, true, true, true, true, true, true, true, true, true, true, true, false, false, false, false, false, false, false, false]) rfl (by decide +kernel) (by decide +kernel) (by decide +kernel) rfl (by decide +kernel) (X_move rfl) rfl ?_
      refine WC_gyes 15 (l' := #[true, true, true, true, true, true, true, true, true, true, true, true, true, true, true, true, false, false, false, false, false, false, false]) rfl (by decide +kernel) (by decide +kernel) (by decide +kernel) rfl (by decide +kernel) rfl rfl (X_loadB (vs := hdC zHd) rfl ty29 rfl (b := b20) zM rfl rfl) rfl ?_
      refine WC_gyes 16 (l' := #[true, true, true, true, true, true, true, true, true, true, true, true, true, true, true, true, true, false, false, false, false, false, false]) rfl (by decide +kernel) (by decide +kernel) (by decide +kernel) rfl (by decide +kernel) rfl rfl (X_loadB (vs := [.int .i64 (x.kind : Int), .int .i64 (x.entries : Int), .int .i64 (x.words : Int), .bool x.closed, .slice ads (x.L).length caps, .slice ade (E).length cape, .slice adc (x.C).length capc, .slice adu (x.used).length capu]) rfl ty56 rfl (b := b4) zM rfl rfl) rfl ?_
      refine WC_gyes 17 (l' := #[true, true, true, true, true, true, true, true, true, true, true, true, true, true, true, true, true, true, false, false, false, false, false]) rfl (by decide +kernel) (by decide +kernel) (by decide +kernel) rfl (by decide +kernel) rfl rfl (X_move rfl) rfl ?_
      refine WC_one 18 (l' := #[true, true, true, true, true, true, true, true, true, true, true, true, true, true, true, true, true, true, true, false, false, false, false]) zH (by decide +kernel) rfl (by decide +kernel) ?_
      refine W_gyes rfl rfl ?_
      refine W_callq (.cons rfl (.cons rfl .nil)) Tryz.call57 rfl (dxhandle_q (HR := HR) (x := x) (E := E) (z := (-1)) ⟨ads, caps, ade, cape, adc, capc, adu, capu, rfl, hS0, hSc, hE0, hEc, hC0, hCc, hU0, hUc⟩ ((show HSub _ (H) from zH).trans hHR) (by omega)) ?_
      rw [hdE_neg]
      refine W_nil ?_
      refine WC_goal ?_
      refine WC_gyes 19 (l' := #[true, true, true, true, true, true, true, true, true, true, true, true, true, true, true, true, true, true, true, true, false, false, false]) rfl (by decide +kernel) (by decide +kernel) (by decide +kernel) rfl (by decide +kernel) rfl rfl (X_eqF (f := hdC) rfl rfl flat29 agg29 hdC_like hdC_inj gt29 (by decide)) rfl ?_
      rw [decide_eq_true rfl]
      first | refine WC_take 20 (l' := #[true, true, true, true, true, true, true, true, true, true, true, true, true, true, true, true, true, true, true, true, true, false, false]) rfl (by decide +kernel) (by decide +kernel) (by decide +kernel) rfl (by decide +kernel) (X_pickt rfl rfl) rfl ?_ | refine WC_take 20 (l' := #[true, true, true, true, true, true, true, true, true, true, true, true, true, true, true, true, true, true, true, true, true, false, false]) rfl (by decide +kernel) (by decide +kernel) (by decide +kernel) rfl (by decide +kernel) (X_pickf rfl rfl) rfl ?_
      refine WC_one 21 (l' := #[true, true, true, true, true, true, true, true, true, true, true, true, true, true, true, true, true, true, true, true, true, true, false]) zH (by decide +kernel) rfl (by decide +kernel) ?_
      refine W_storeA (l' := [.int .i64 (x.kind : Int), .int .i64 (x.entries : Int), .int .i64 (x.words : Int), .bool x.closed, .slice ads (x.L).length caps, .slice ade (E).length cape, .slice adc (x.C).length capc, .slice adu (x.used).length capu]) rfl rfl ty56 rfl rfl (b := b6) zM (by exact Nat.le_refl 8) rfl zU ?_
      refine W_nil ?_
      refine WC_goal ?_
      refine WC_take 22 (l' := #[true, true, true, true, true, true, true, true, true, true, true, true, true, true, true, true, true, true, true, true, true, true, true]) rfl (by decide +kernel) (by decide +kernel) (by decide +kernel) rfl (by decide +kernel) (X_assign rfl) rfl ?_
      refine WC_done zH (by decide +kernel) ?_
      refine W_ret2G (H2 := HB ++ H) Tryz.results23 (.nil _) (.own rfl ty56 rfl zM rfl) (.tmp rfl) zH ?_
      exact ⟨_, E, HB, [], _, hX.up (by omega), ho, has, ⟨ads, caps, ade, cape, adc, capc, adu, capu, rfl, hS0, hSc, hE0, hEc, hC0, hCc, hU0, hUc⟩, Nat.le_succ _, ⟨rfl, rfl⟩, rfl, rfl⟩
    · skip
      obtain ⟨i, e, hfe, he, hel, hek, heg⟩ := ho.fnd hx hf
      rw [hfe, show zI (some i) = (i : Int) from rfl]
      have hi := (List.getElem?_eq_some_iff.1 he).1
      obtain ⟨qk, pk, eqk, hkc⟩ := Holds.row elmC_len (by decide) hE he
      refine W_assign rfl rfl ?_
      refine W_nil ?_
      refine W_sr ?_
      refine W_move rfl rfl ?_
      refine W_fieldAddr rfl fld62_6 (by decide) rfl ?_
      refine W_load (v := .int .u64 a.key) rfl ty22 rfl (Cell.own (b := b5) zM rfl) rfl ?_
      refine W_callq (.cons rfl (.cons rfl .nil)) Tryz.call13 rfl (hX.look (fun p hp => by repeat (first | exact List.mem_append_left _ hp | apply List.mem_append_right | apply List.mem_cons_of_mem)) (k := a.key)) ?_
      rw [hf, show ((some g : Option Hd).getD zHd) = g from rfl, show (if (some g : Option Hd).isSome then (0 : Int) else 4) = 0 from rfl]
      refine W_move rfl rfl ?_
      refine W_extract rfl rfl rfl ?_
      refine W_extract rfl rfl rfl ?_
      refine W_alloc (l := hdC zHd) ty29 rfl rfl (fun b20 => ?_)
      refine W_storeA (l' := hdC g) rfl rfl ty29 rfl rfl (b := b20) zM (by exact Nat.le_refl 2) rfl zU ?_
      refine W_assign rfl rfl ?_
      refine W_nil ?_
      refine W_seq ?_
      refine W_anyC [(b4, .cells 56 8 [.int .i64 (x.kind : Int), .int .i64 (x.entries : Int), .int .i64 (x.words : Int), .bool x.closed, .slice ads (x.L).length caps, .slice ade (E).length cape, .slice adc (x.C).length capc, .slice adu (x.used).length capu]), (b20, .cells 29 2 (hdC g))] (by kernel_rfl) ?_
      refine WC_take 0 (l' := #[true, false, false, false, false, false, false, false, false, false, false, false, false, false, false, false, false, false, false, false, false, false, false]) rfl (by decide +kernel) (by decide +kernel) (by decide +kernel) rfl (by decide +kernel) (X_loadB (vs := [.int .i64 (x.kind : Int), .int .i64 (x.entries : Int), .int .i64 (x.words : Int), .bool x.closed, .slice ads (x.L).length caps, .slice ade (E).length cape, .slice adc (x.C).length capc, .slice adu (x.used).length capu]) rfl ty56 rfl (b := b4) zM rfl rfl) rfl ?_
      refine WC_take 1 (l' := #[true, true, false, false, false, false, false, false, false, false, false, false, false, false, false, false, false, false, false, false, false, false, false]) rfl (by decide +kernel) (by decide +kernel) (by decide +kernel) rfl (by decide +kernel) (X_move rfl) rfl ?_
      refine WC_take 2 (l' := #[true, true, true, false, false, false, false, false, false, false, false, false, false, false, false, false, false, false, false, false, false, false, false]) rfl (by decide +kernel) (by decide +kernel) (by decide +kernel) rfl (by decide +kernel) (X_bin rfl rfl b_eql) rfl ?_
      first | rw [decide_eq_true (by decide)] | rw [decide_eq_false (by decide)]
      refine WC_take 3 (l' := #[true, true, true, true, false, false, false, false, false, false, false, false, false, false, false, false, false, false, false, false, false, false, false]) rfl (by decide +kernel) (by decide +kernel) (by decide +kernel) rfl (by decide +kernel) (X_move rfl) rfl ?_
      refine WC_take 4 (l' := #[true, true, true, true, true, false, false, false, false, false, false, false, false, false, false, false, false, false, false, false, false, false, false]) rfl (by decide +kernel) (by decide +kernel) (by decide +kernel) rfl (by decide +kernel) (X_bin rfl rfl b_geq) rfl ?_
      first | rw [decide_eq_true (by omega)] | rw [decide_eq_false (by omega)]
      refine WC_take 5 (l' := #[true, true, true, true, true, true, false, false, false, false, false, false, false, false, false, false, false, false, false, false, false, false, false]) rfl (by decide +kernel) (by decide +kernel) (by decide +kernel) rfl (by decide +kernel) (X_beq rfl rfl ty4) rfl ?_
      rw [beq_self_eq_true]
      refine WC_take 6 (l' := #[true, true, true, true, true, true, true, false, false, false, false, false, false, false, false, false, false, false, false, false, false, false, false]) rfl (by decide +kernel) (by decide +kernel) (by decide +kernel) rfl (by decide +kernel) (X_move rfl) rfl ?_
      refine WC_gyes 7 (l' := #[true, true, true, true, true, true, true, true, false, false, false, false, false, false, false, false, false, false, false, false, false, false, false]) rfl (by decide +kernel) (by decide +kernel) (by decide +kernel) rfl (by decide +kernel) rfl rfl (X_move rfl) rfl ?_
      refine WC_gyes 8 (l' := #[true, true, true, true, true, true, true, true, true, false, false, false, false, false, false, false, false, false, false, false, false, false, false]) rfl (by decide +kernel) (by decide +kernel) (by decide +kernel) rfl (by decide +kernel) rfl rfl (X_bin rfl rfl b_geq) rfl ?_
      first | rw [decide_eq_true (by omega)] | rw [decide_eq_false (by omega)]
      refine WC_gyes 9 (l' := #[true, true, true, true, true, true, true, true, true, true, false, false, false, false, false, false, false, false, false, false, false, false, false]) rfl (by decide +kernel) (by decide +kernel) (by decide +kernel) rfl (by decide +kernel) rfl rfl (X_move rfl) rfl ?_
      refine WC_gno 10 (l' := #[true, true, true, true, true, true, true, true, true, true, true, false, false, false, false, false, false, false, false, false, false, false, false]) rfl (by decide +kernel) (by decide +kernel) (by decide +kernel) (by decide +kernel) rfl rfl rfl rfl ?_
      refine WC_gno 11 (l' := #[true, true, true, true, true, true, true, true, true, true, true, true, false, false, false, false, false, false, false, false, false, false, false]) rfl (by decide +kernel) (by decide +kernel) (by decide +kernel) (by decide +kernel) rfl rfl rfl rfl ?_
      first | refine WC_gyes 12 (l' := #[true, true, true, true, true, true, true, true, true, true, true, true, true, false, false, false, false, false, false, false, false, false, false]) rfl (by decide +kernel) (by decide +kernel) (by decide +kernel) rfl (by decide +kernel) rfl rfl (X_pickt rfl rfl) rfl ?_ | refine WC_gyes 12 (l' := #[true, true, true, true, true, true, true, true, true, true, true, true, true, false, false, false, false, false, false, false, false, false, false]) rfl (by decide +kernel) (by decide +kernel) (by decide +kernel) rfl (by decide +kernel) rfl rfl (X_pickf rfl rfl) rfl ?_
      first | refine WC_take 13 (l' := #[true, true, true, true, true, true, true, true, true, true, true, true, true, true, false, false, false, false, false, false, false, false, false]) rfl (by decide +kernel) (by decide +kernel) (by decide +kernel) rfl (by decide +kernel) (X_pickt rfl rfl) rfl ?_ | refine WC_take 13 (l' := #[true, true, true, true, true, true, true, true, true, true, true, true, true, true, false, false, false, false, false, false, false, false, false]) rfl (by decide +kernel) (by decide +kernel) (by decide +kernel) rfl (by decide +kernel) (X_pickf rfl rfl) rfl ?_
      refine WC_take 14 (l' := #[true, true, true, true, true, true, true, true, true, true, true, true, true, true, true, false, false, false, false, false, false, false, false]) rfl (by decide +kernel) (by decide +kernel) (by decide +kernel) rfl (by decide +kernel) (X_move rfl) rfl ?_
      refine WC_gyes 15 (l' := #[true, true, true, true, true, true, true, true, true, true, true, true, true, true, true, true, false, false, false, false, false, false, false]) rfl (by decide +kernel) (by decide +kernel) (by decide +kernel) rfl (by decide +kernel) rfl rfl (X_loadB (vs := hdC g) rfl ty29 rfl (b := b20) zM rfl rfl) rfl ?_
      refine WC_gyes 16 (l' := #[true, true, true, true, true, true, true, true, true, true, true, true, true, true, true, true, true, false, false, false, false, false, false]) rfl (by decide +kernel) (by decide +kernel) (by decide +kernel) rfl (by decide +kernel) rfl rfl (X_loadB (vs := [.int .i64 (x.kind : Int), .int .i64 (x.entries : Int), .int .i64 (x.words : Int), .bool x.closed, .slice ads (x.L).length caps, .slice ade (E).length cape, .slice adc (x.C).length capc, .slice adu (x.used).length capu]) rfl ty56 rfl (b := b4) zM rfl rfl) rfl ?_
      refine WC_gyes 17 (l' := #[true, true, true, true, true, true, true, true, true, true, true, true, true, true, true, true, true, true, false, false, false, false, false]) rfl (by decide +kernel) (by decide +kernel) (by decide +kernel) rfl (by decide +kernel) rfl rfl (X_move rfl) rfl ?_
      refine WC_one 18 (l' := #[true, true, true, true, true, true, true, true, true, true, true, true, true, true, true, true, true, true, true, false, false, false, false]) zH (by decide +kernel) rfl (by decide +kernel) ?_
      refine W_gyes rfl rfl ?_
      refine W_callq (.cons rfl (.cons rfl .nil)) Tryz.call57 rfl (dxhandle_q (HR := HR) (x := x) (E := E) (z := (i : Int)) ⟨ads, caps, ade, cape, adc, capc, adu, capu, rfl, hS0, hSc, hE0, hEc, hC0, hCc, hU0, hUc⟩ ((show HSub _ (H) from zH).trans hHR) (by omega)) ?_
      rw [hdE_at he, heg]
      refine W_nil ?_
      refine WC_goal ?_
      refine WC_gyes 19 (l' := #[true, true, true, true, true, true, true, true, true, true, true, true, true, true, true, true, true, true, true, true, false, false, false]) rfl (by decide +kernel) (by decide +kernel) (by decide +kernel) rfl (by decide +kernel) rfl rfl (X_eqF (f := hdC) rfl rfl flat29 agg29 hdC_like hdC_inj gt29 (by decide)) rfl ?_
      rw [decide_eq_true rfl]
      first | refine WC_take 20 (l' := #[true, true, true, true, true, true, true, true, true, true, true, true, true, true, true, true, true, true, true, true, true, false, false]) rfl (by decide +kernel) (by decide +kernel) (by decide +kernel) rfl (by decide +kernel) (X_pickt rfl rfl) rfl ?_ | refine WC_take 20 (l' := #[true, true, true, true, true, true, true, true, true, true, true, true, true, true, true, true, true, true, true, true, true, false, false]) rfl (by decide +kernel) (by decide +kernel) (by decide +kernel) rfl (by decide +kernel) (X_pickf rfl rfl) rfl ?_
      refine WC_one 21 (l' := #[true, true, true, true, true, true, true, true, true, true, true, true, true, true, true, true, true, true, true, true, true, true, false]) zH (by decide +kernel) rfl (by decide +kernel) ?_
      refine W_storeA (l' := [.int .i64 (x.kind : Int), .int .i64 (x.entries : Int), .int .i64 (x.words : Int), .bool x.closed, .slice ads (x.L).length caps, .slice ade (E).length cape, .slice adc (x.C).length capc, .slice adu (x.used).length capu]) rfl rfl ty56 rfl rfl (b := b6) zM (by exact Nat.le_refl 8) rfl zU ?_
      refine W_nil ?_
      refine WC_goal ?_
      refine WC_take 22 (l' := #[true, true, true, true, true, true, true, true, true, true, true, true, true, true, true, true, true, true, true, true, true, true, true]) rfl (by decide +kernel) (by decide +kernel) (by decide +kernel) rfl (by decide +kernel) (X_assign rfl) rfl ?_
      refine WC_done zH (by decide +kernel) ?_
      refine W_ret2G (H2 := HB ++ H) Tryz.results23 (.nil _) (.own rfl ty56 rfl zM rfl) (.tmp rfl) zH ?_
      exact ⟨_, E, HB, [], _, hX.up (by omega), ho, has, ⟨ads, caps, ade, cape, adc, capc, adu, capu, rfl, hS0, hSc, hE0, hEc, hC0, hCc, hU0, hUc⟩, Nat.le_succ _, ⟨rfl, rfl⟩, rfl, rfl⟩
  · skip
    refine W_nil ?_
    refine W_block ?_
    refine W_seq ?_
    refine W_sr ?_
    refine W_bin rfl rfl b_eql rfl ?_
    first | rw [decide_eq_true (by decide)] | rw [decide_eq_false (by decide)]
    refine W_assign rfl rfl ?_
    refine W_nil ?_
    refine W_condF rfl rfl ?_
    refine W_region ?_
    refine W_bin rfl rfl b_eql rfl ?_
    first | rw [decide_eq_true (by decide)] | rw [decide_eq_false (by decide)]
    refine W_assign rfl rfl ?_
    refine W_nil ?_
    refine W_condF rfl rfl ?_
    refine W_sr ?_
    refine W_bin rfl rfl b_eql rfl ?_
    first | rw [decide_eq_true (by decide)] | rw [decide_eq_false (by decide)]
    refine W_assign rfl rfl ?_
    refine W_nil ?_
    refine W_condF rfl rfl ?_
    refine W_sr ?_
    refine W_bin rfl rfl b_eql rfl ?_
    first | rw [decide_eq_true (by decide)] | rw [decide_eq_false (by decide)]
    refine W_assign rfl rfl ?_
    refine W_nil ?_
    refine W_condF rfl rfl ?_
    refine W_sr ?_
    refine W_bin rfl rfl b_eql rfl ?_
    first | rw [decide_eq_true (by decide)] | rw [decide_eq_false (by decide)]
    refine W_assign rfl rfl ?_
    refine W_nil ?_
    refine W_condT rfl rfl ?_
    refine W_sr ?_
    refine W_loadB (vs := [.int .i64 (x.kind : Int), .int .i64 (x.entries : Int), .int .i64 (x.words : Int), .bool x.closed, .slice ads (x.L).length caps, .slice ade (E).length cape, .slice adc (x.C).length capc, .slice adu (x.used).length capu]) rfl ty56 rfl (b := b4) zM rfl rfl rfl ?_
    refine W_fieldAddr rfl fld62_6 (by decide) rfl ?_
    refine W_load (v := .int .u64 a.key) rfl ty22 rfl (Cell.own (b := b5) zM rfl) rfl ?_
    refine W_call (.cons rfl (.cons rfl .nil)) Tryz.call60 rfl (LCalls.hsub (dxDel_L (k := a.key) (x := x) (E := E) ⟨ads, caps, ade, cape, adc, capc, adu, capu, rfl, hS0, hSc, hE0, hEc, hC0, hCc, hU0, hUc⟩ ((show HSub _ H from zH).trans hHR) hx ho (by omega)  (H := (b4, .cells 56 8 [.int .i64 (x.kind : Int), .int .i64 (x.entries : Int), .int .i64 (x.words : Int), .bool x.closed, .slice ads (x.L).length caps, .slice ade (E).length cape, .slice adc (x.C).length capc, .slice adu (x.used).length capu]) :: (b5, .cells 62 9 [.int .i64 a.kind, .int .i64 a.how, .int .i64 a.pick, .int .i64 a.at_, .bool a.own, .int .i64 a.h.slot, .int .i64 a.h.gen, .int .u64 a.key, .slice adl a.l.length capl]) :: (b6, .cells 56 8 [.int .i64 0, .int .i64 0, .int .i64 0, .bool false, .slice none 0 0, .slice none 0 0, .slice none 0 0, .slice none 0 0]) :: (b8, .cells 29 2 (hdC h)) :: (HB ++ H))) zH) ?_
    rintro v H' ⟨cs1, X1, E1, z, rfl, hD1, ho1, hz, hEl1, hlk, rfl⟩
    have hD1o := hD1
    obtain ⟨ad1, cap1, ad2, cap2, ad3, cap3, ad4, cap4, rfl, _⟩ := hD1o
    refine W_move rfl rfl ?_
    refine W_extract rfl rfl rfl ?_
    refine W_extract rfl rfl rfl ?_
    refine W_extract rfl rfl rfl ?_
    refine W_alloc (l := [.int .i64 0, .int .i64 0, .int .i64 0, .bool false, .slice none 0 0, .slice none 0 0, .slice none 0 0, .slice none 0 0]) ty56 rfl rfl (fun b22 => ?_)
    refine W_storeA (l' := [.int .i64 ((x.del a.key).1.kind : Int), .int .i64 ((x.del a.key).1.entries : Int), .int .i64 ((x.del a.key).1.words : Int), .bool (x.del a.key).1.closed, .slice ad1 ((x.del a.key).1.L).length cap1, .slice ad2 (E1).length cap2, .slice ad3 ((x.del a.key).1.C).length cap3, .slice ad4 ((x.del a.key).1.used).length cap4]) rfl rfl ty56 rfl rfl (b := b22) zM (by exact Nat.le_refl 8) rfl zU ?_
    refine W_assign rfl rfl ?_
    refine W_assign rfl rfl ?_
    refine W_nil ?_
    refine W_sr ?_
    refine W_move rfl rfl ?_
    refine W_fieldAddr rfl fld62_6 (by decide) rfl ?_
    refine W_load (v := .int .u64 a.key) rfl ty22 rfl (Cell.own (b := b5) zM rfl) rfl ?_
    refine W_call (.cons rfl (.cons rfl .nil)) Tryz.call12 rfl ((hX.del (k := a.key) (H := (b22, .cells 56 8 [.int .i64 ((x.del a.key).1.kind : Int), .int .i64 ((x.del a.key).1.entries : Int), .int .i64 ((x.del a.key).1.words : Int), .bool (x.del a.key).1.closed, .slice ad1 ((x.del a.key).1.L).length cap1, .slice ad2 (E1).length cap2, .slice ad3 ((x.del a.key).1.C).length cap3, .slice ad4 ((x.del a.key).1.used).length cap4]) :: (b4, .cells 56 8 [.int .i64 (x.kind : Int), .int .i64 (x.entries : Int), .int .i64 (x.words : Int), .bool x.closed, .slice ads (x.L).length caps, .slice ade (E).length cape, .slice adc (x.C).length capc, .slice adu (x.used).length capu]) :: (b5, .cells 62 9 [.int .i64 a.kind, .int .i64 a.how, .int .i64 a.pick, .int .i64 a.at_, .bool a.own, .int .i64 a.h.slot, .int .i64 a.h.gen, .int .u64 a.key, .slice adl a.l.length capl]) :: (b6, .cells 56 8 [.int .i64 0, .int .i64 0, .int .i64 0, .bool false, .slice none 0 0, .slice none 0 0, .slice none 0 0, .slice none 0 0]) :: (b8, .cells 29 2 (hdC h)) :: (X1 ++ H))).hsub zH) ?_
    rintro v H' ⟨HB5, hX5, rfl, rfl⟩
    refine W_move rfl rfl ?_
    refine W_extract rfl rfl rfl ?_
    refine W_extract rfl rfl rfl ?_
    refine W_alloc (l := hdC zHd) ty29 rfl rfl (fun b25 => ?_)
    refine W_storeA (l' := hdC (x.del a.key).2.1) rfl rfl ty29 rfl rfl (b := b25) zM (by exact Nat.le_refl 2) rfl zU ?_
    refine W_assign rfl rfl ?_
    refine W_nil ?_
    refine W_seq ?_
    refine W_anyC [(b22, .cells 56 8 [.int .i64 ((x.del a.key).1.kind : Int), .int .i64 ((x.del a.key).1.entries : Int), .int .i64 ((x.del a.key).1.words : Int), .bool (x.del a.key).1.closed, .slice ad1 ((x.del a.key).1.L).length cap1, .slice ad2 (E1).length cap2, .slice ad3 ((x.del a.key).1.C).length cap3, .slice ad4 ((x.del a.key).1.used).length cap4]), (b25, .cells 29 2 (hdC (x.del a.key).2.1))] (by kernel_rfl) ?_
    refine WC_take 0 (l' := #[true, false, false, false, false, false, false, false, false, false, false, false, false]) rfl (by decide +kernel) (by decide +kernel) (by decide +kernel) rfl (by decide +kernel) (X_loadB (vs := [.int .i64 ((x.del a.key).1.kind : Int), .int .i64 ((x.del a.key).1.entries : Int), .int .i64 ((x.del a.key).1.words : Int), .bool (x.del a.key).1.closed, .slice ad1 ((x.del a.key).1.L).length cap1, .slice ad2 (E1).length cap2, .slice ad3 ((x.del a.key).1.C).length cap3, .slice ad4 ((x.del a.key).1.used).length cap4]) rfl ty56 rfl (b := b22) zM rfl rfl) rfl ?_
    refine WC_take 1 (l' := #[true, true, false, false, false, false, false, false, false, false, false, false, false]) rfl (by decide +kernel) (by decide +kernel) (by decide +kernel) rfl (by decide +kernel) (X_move rfl) rfl ?_
    refine WC_take 2 (l' := #[true, true, true, false, false, false, false, false, false, false, false, false, false]) rfl (by decide +kernel) (by decide +kernel) (by decide +kernel) rfl (by decide +kernel) (X_move rfl) rfl ?_
    refine WC_take 3 (l' := #[true, true, true, true, false, false, false, false, false, false, false, false, false]) rfl (by decide +kernel) (by decide +kernel) (by decide +kernel) rfl (by decide +kernel) (X_bin rfl rfl b_eql) rfl ?_
    rw [decide_eq_true rfl]
    refine WC_take 4 (l' := #[true, true, true, true, true, false, false, false, false, false, false, false, false]) rfl (by decide +kernel) (by decide +kernel) (by decide +kernel) rfl (by decide +kernel) (X_move rfl) rfl ?_
    refine WC_gyes 5 (l' := #[true, true, true, true, true, true, false, false, false, false, false, false, false]) rfl (by decide +kernel) (by decide +kernel) (by decide +kernel) rfl (by decide +kernel) rfl rfl (X_loadB (vs := hdC (x.del a.key).2.1) rfl ty29 rfl (b := b25) zM rfl rfl) rfl ?_
    refine WC_gyes 6 (l' := #[true, true, true, true, true, true, true, false, false, false, false, false, false]) rfl (by decide +kernel) (by decide +kernel) (by decide +kernel) rfl (by decide +kernel) rfl rfl (X_loadB (vs := [.int .i64 ((x.del a.key).1.kind : Int), .int .i64 ((x.del a.key).1.entries : Int), .int .i64 ((x.del a.key).1.words : Int), .bool (x.del a.key).1.closed, .slice ad1 ((x.del a.key).1.L).length cap1, .slice ad2 (E1).length cap2, .slice ad3 ((x.del a.key).1.C).length cap3, .slice ad4 ((x.del a.key).1.used).length cap4]) rfl ty56 rfl (b := b22) zM rfl rfl) rfl ?_
    refine WC_gyes 7 (l' := #[true, true, true, true, true, true, true, true, false, false, false, false, false]) rfl (by decide +kernel) (by decide +kernel) (by decide +kernel) rfl (by decide +kernel) rfl rfl (X_move rfl) rfl ?_
    refine WC_one 8 (l' := #[true, true, true, true, true, true, true, true, true, false, false, false, false]) zH (by decide +kernel) rfl (by decide +kernel) ?_
    refine W_gyes rfl rfl ?_
    refine W_callq (.cons rfl (.cons rfl .nil)) Tryz.call57 rfl (dxhandle_q (HR := X1 ++ HR) (x := (x.del a.key).1) (E := E1) (z := z) hD1 ((show HSub _ (X1 ++ H) from zH).trans (.app (.here _) hHR)) (by omega)) ?_
    rw [hz]
    refine W_nil ?_
    refine WC_goal ?_
    refine WC_gyes 9 (l' := #[true, true, true, true, true, true, true, true, true, true, false, false, false]) rfl (by decide +kernel) (by decide +kernel) (by decide +kernel) rfl (by decide +kernel) rfl rfl (X_eqF (f := hdC) rfl rfl flat29 agg29 hdC_like hdC_inj gt29 (by decide)) rfl ?_
    rw [decide_eq_true rfl]
    first | refine WC_take 10 (l' := #[true, true, true, true, true, true, true, true, true, true, true, false, false]) rfl (by decide +kernel) (by decide +kernel) (by decide +kernel) rfl (by decide +kernel) (X_pickt rfl rfl) rfl ?_ | refine WC_take 10 (l' := #[true, true, true, true, true, true, true, true, true, true, true, false, false]) rfl (by decide +kernel) (by decide +kernel) (by decide +kernel) rfl (by decide +kernel) (X_pickf rfl rfl) rfl ?_
    refine WC_one 11 (l' := #[true, true, true, true, true, true, true, true, true, true, true, true, false]) zH (by decide +kernel) rfl (by decide +kernel) ?_
    refine W_storeA (l' := [.int .i64 ((x.del a.key).1.kind : Int), .int .i64 ((x.del a.key).1.entries : Int), .int .i64 ((x.del a.key).1.words : Int), .bool (x.del a.key).1.closed, .slice ad1 ((x.del a.key).1.L).length cap1, .slice ad2 (E1).length cap2, .slice ad3 ((x.del a.key).1.C).length cap3, .slice ad4 ((x.del a.key).1.used).length cap4]) rfl rfl ty56 rfl rfl (b := b6) zM (by exact Nat.le_refl 8) rfl zU ?_
    refine W_nil ?_
    refine WC_goal ?_
    refine WC_take 12 (l' := #[true, true, true, true, true, true, true, true, true, true, true, true, true]) rfl (by decide +kernel) (by decide +kernel) (by decide +kernel) rfl (by decide +kernel) (X_assign rfl) rfl ?_
    refine WC_done zH (by decide +kernel) ?_
    refine W_ret2G (H2 := HB5 ++ (X1 ++ H)) Tryz.results23 (.nil _) (.own rfl ty56 rfl zM rfl) (.tmp rfl) zH ?_
    exact ⟨_, E1, HB5, X1, _, hX5.up (by omega), ho1, fun c => by rw [(Xm.del_kw x a.key).1] at c; rw [hlk c]; exact has c, hD1, by omega, Xm.del_kw x a.key, rfl, rfl⟩
  · skip
    refine W_nil ?_
    refine W_block ?_
    refine W_seq ?_
    refine W_sr ?_
    refine W_bin rfl rfl b_eql rfl ?_
    first | rw [decide_eq_true (by decide)] | rw [decide_eq_false (by decide)]
    refine W_assign rfl rfl ?_
    refine W_nil ?_
    refine W_condF rfl rfl ?_
    refine W_region ?_
    refine W_bin rfl rfl b_eql rfl ?_
    first | rw [decide_eq_true (by decide)] | rw [decide_eq_false (by decide)]
    refine W_assign rfl rfl ?_
    refine W_nil ?_
    refine W_condF rfl rfl ?_
    refine W_sr ?_
    refine W_bin rfl rfl b_eql rfl ?_
    first | rw [decide_eq_true (by decide)] | rw [decide_eq_false (by decide)]
    refine W_assign rfl rfl ?_
    refine W_nil ?_
    refine W_condF rfl rfl ?_
    refine W_sr ?_
    refine W_bin rfl rfl b_eql rfl ?_
    first | rw [decide_eq_true (by decide)] | rw [decide_eq_false (by decide)]
    refine W_assign rfl rfl ?_
    refine W_nil ?_
    refine W_condF rfl rfl ?_
    refine W_sr ?_
    refine W_bin rfl rfl b_eql rfl ?_
    first | rw [decide_eq_true (by decide)] | rw [decide_eq_false (by decide)]
    refine W_assign rfl rfl ?_
    refine W_nil ?_
    refine W_condF rfl rfl ?_
    refine W_sr ?_
    refine W_bin rfl rfl b_eql rfl ?_
    first | rw [decide_eq_true (by decide)] | rw [decide_eq_false (by decide)]
    refine W_assign rfl rfl ?_
    refine W_nil ?_
    refine W_condT rfl rfl ?_
    refine W_sr ?_
    refine W_loadB (vs := [.int .i64 (x.kind : Int), .int .i64 (x.entries : Int), .int .i64 (x.words : Int), .bool x.closed, .slice ads (x.L).length caps, .slice ade (E).length cape, .slice adc (x.C).length capc, .slice adu (x.used).length capu]) rfl ty56 rfl (b := b4) zM rfl rfl rfl ?_
    refine W_fieldAddr rfl fld29_0 (by decide) rfl ?_
    refine W_load (v := .int .i64 h.slot) rfl ty3 rfl (Cell.own (b := b8) zM rfl) rfl ?_
    refine W_fieldAddr rfl fld29_1 (by decide) rfl ?_
    refine W_load (v := .int .i64 h.gen) rfl ty3 rfl (Cell.own (b := b8) zM rfl) rfl ?_
    refine W_call (.cons rfl (.cons rfl (.cons rfl .nil))) Tryz.call61 rfl (LCalls.hsub (dxFree_L (g := h) (x := x) (E := E) ⟨ads, caps, ade, cape, adc, capc, adu, capu, rfl, hS0, hSc, hE0, hEc, hC0, hCc, hU0, hUc⟩ ((show HSub _ H from zH).trans hHR) hx ho (by omega)  (H := (b4, .cells 56 8 [.int .i64 (x.kind : Int), .int .i64 (x.entries : Int), .int .i64 (x.words : Int), .bool x.closed, .slice ads (x.L).length caps, .slice ade (E).length cape, .slice adc (x.C).length capc, .slice adu (x.used).length capu]) :: (b5, .cells 62 9 [.int .i64 a.kind, .int .i64 a.how, .int .i64 a.pick, .int .i64 a.at_, .bool a.own, .int .i64 a.h.slot, .int .i64 a.h.gen, .int .u64 a.key, .slice adl a.l.length capl]) :: (b6, .cells 56 8 [.int .i64 0, .int .i64 0, .int .i64 0, .bool false, .slice none 0 0, .slice none 0 0, .slice none 0 0, .slice none 0 0]) :: (b8, .cells 29 2 (hdC h)) :: (HB ++ H))) zH) ?_
    rintro v H' ⟨cs1, X1, rfl, hD1, ho1, rfl⟩
    have hD1o := hD1
    obtain ⟨ad1, cap1, ad2, cap2, ad3, cap3, ad4, cap4, rfl, _⟩ := hD1o
    refine W_move rfl rfl ?_
    refine W_extract rfl rfl rfl ?_
    refine W_extract rfl rfl rfl ?_
    refine W_alloc (l := [.int .i64 0, .int .i64 0, .int .i64 0, .bool false, .slice none 0 0, .slice none 0 0, .slice none 0 0, .slice none 0 0]) ty56 rfl rfl (fun b27 => ?_)
    refine W_storeA (l' := [.int .i64 ((x.free h).1.kind : Int), .int .i64 ((x.free h).1.entries : Int), .int .i64 ((x.free h).1.words : Int), .bool (x.free h).1.closed, .slice ad1 ((x.free h).1.L).length cap1, .slice ad2 (E).length cap2, .slice ad3 ((x.free h).1.C).length cap3, .slice ad4 ((x.free h).1.used).length cap4]) rfl rfl ty56 rfl rfl (b := b27) zM (by exact Nat.le_refl 8) rfl zU ?_
    refine W_assign rfl rfl ?_
    refine W_nil ?_
    refine W_seq ?_
    refine W_anyC [(b27, .cells 56 8 [.int .i64 ((x.free h).1.kind : Int), .int .i64 ((x.free h).1.entries : Int), .int .i64 ((x.free h).1.words : Int), .bool (x.free h).1.closed, .slice ad1 ((x.free h).1.L).length cap1, .slice ad2 (E).length cap2, .slice ad3 ((x.free h).1.C).length cap3, .slice ad4 ((x.free h).1.used).length cap4]), (b8, .cells 29 2 (hdC h))] (by kernel_rfl) ?_
    refine WC_take 0 (l' := #[true, false, false, false, false, false, false, false]) rfl (by decide +kernel) (by decide +kernel) (by decide +kernel) rfl (by decide +kernel) (X_loadB (vs := [.int .i64 ((x.free h).1.kind : Int), .int .i64 ((x.free h).1.entries : Int), .int .i64 ((x.free h).1.words : Int), .bool (x.free h).1.closed, .slice ad1 ((x.free h).1.L).length cap1, .slice ad2 (E).length cap2, .slice ad3 ((x.free h).1.C).length cap3, .slice ad4 ((x.free h).1.used).length cap4]) rfl ty56 rfl (b := b27) zM rfl rfl) rfl ?_
    refine WC_take 1 (l' := #[true, true, false, false, false, false, false, false]) rfl (by decide +kernel) (by decide +kernel) (by decide +kernel) rfl (by decide +kernel) (X_move rfl) rfl ?_
    refine WC_take 2 (l' := #[true, true, true, false, false, false, false, false]) rfl (by decide +kernel) (by decide +kernel) (by decide +kernel) rfl (by decide +kernel) (X_loadB (vs := hdC h) rfl ty29 rfl (b := b8) zM rfl rfl) rfl ?_
    refine WC_take 4 (l' := #[true, true, true, false, true, false, false, false]) rfl (by decide +kernel) (by decide +kernel) (by decide +kernel) rfl (by decide +kernel) (X_move rfl) rfl ?_
    refine WC_one 3 (l' := #[true, true, true, true, true, false, false, false]) zH (by decide +kernel) rfl (by decide +kernel) ?_
    refine W_call (.cons rfl (.cons rfl .nil)) Tryz.call19 rfl ((hX.free (h := h) (H := (b27, .cells 56 8 [.int .i64 ((x.free h).1.kind : Int), .int .i64 ((x.free h).1.entries : Int), .int .i64 ((x.free h).1.words : Int), .bool (x.free h).1.closed, .slice ad1 ((x.free h).1.L).length cap1, .slice ad2 (E).length cap2, .slice ad3 ((x.free h).1.C).length cap3, .slice ad4 ((x.free h).1.used).length cap4]) :: (b4, .cells 56 8 [.int .i64 (x.kind : Int), .int .i64 (x.entries : Int), .int .i64 (x.words : Int), .bool x.closed, .slice ads (x.L).length caps, .slice ade (E).length cape, .slice adc (x.C).length capc, .slice adu (x.used).length capu]) :: (b5, .cells 62 9 [.int .i64 a.kind, .int .i64 a.how, .int .i64 a.pick, .int .i64 a.at_, .bool a.own, .int .i64 a.h.slot, .int .i64 a.h.gen, .int .u64 a.key, .slice adl a.l.length capl]) :: (b6, .cells 56 8 [.int .i64 0, .int .i64 0, .int .i64 0, .bool false, .slice none 0 0, .slice none 0 0, .slice none 0 0, .slice none 0 0]) :: (b8, .cells 29 2 (hdC h)) :: (X1 ++ H))).hsub zH) ?_
    rintro v H' ⟨HB5, hX5, rfl, rfl⟩
    refine W_nil ?_
    refine WC_goal ?_
    refine WC_take 5 (l' := #[true, true, true, true, true, true, false, false]) rfl (by decide +kernel) (by decide +kernel) (by decide +kernel) rfl (by decide +kernel) (X_bin rfl rfl b_eql) rfl ?_
    rw [decide_eq_true rfl]
    refine WC_one 6 (l' := #[true, true, true, true, true, true, true, false]) zH (by decide +kernel) rfl (by decide +kernel) ?_
    refine W_storeA (l' := [.int .i64 ((x.free h).1.kind : Int), .int .i64 ((x.free h).1.entries : Int), .int .i64 ((x.free h).1.words : Int), .bool (x.free h).1.closed, .slice ad1 ((x.free h).1.L).length cap1, .slice ad2 (E).length cap2, .slice ad3 ((x.free h).1.C).length cap3, .slice ad4 ((x.free h).1.used).length cap4]) rfl rfl ty56 rfl rfl (b := b6) zM (by exact Nat.le_refl 8) rfl zU ?_
    refine W_nil ?_
    refine WC_goal ?_
    refine WC_take 7 (l' := #[true, true, true, true, true, true, true, true]) rfl (by decide +kernel) (by decide +kernel) (by decide +kernel) rfl (by decide +kernel) (X_assign rfl) rfl ?_
    refine WC_done zH (by decide +kernel) ?_
    refine W_ret2G (H2 := HB5 ++ (X1 ++ H)) Tryz.results23 (.nil _) (.own rfl ty56 rfl zM rfl) (.tmp rfl) zH ?_
    exact ⟨_, E, HB5, X1, _, hX5.up (by omega), ho1, fun c => by rw [(Xm.free_kw x h).1] at c; exact has c, hD1, by omega, Xm.free_kw x h, rfl, rfl⟩
  · skip
    refine W_nil ?_
    refine W_block ?_
    refine W_seq ?_
    refine W_sr ?_
    refine W_bin rfl rfl b_eql rfl ?_
    first | rw [decide_eq_true (by decide)] | rw [decide_eq_false (by decide)]
    refine W_assign rfl rfl ?_
    refine W_nil ?_
    refine W_condF rfl rfl ?_
    refine W_region ?_
    refine W_bin rfl rfl b_eql rfl ?_
    first | rw [decide_eq_true (by decide)] | rw [decide_eq_false (by decide)]
    refine W_assign rfl rfl ?_
    refine W_nil ?_
    refine W_condF rfl rfl ?_
    refine W_sr ?_
    refine W_bin rfl rfl b_eql rfl ?_
    first | rw [decide_eq_true (by decide)] | rw [decide_eq_false (by decide)]
    refine W_assign rfl rfl ?_
    refine W_nil ?_
    refine W_condF rfl rfl ?_
    refine W_sr ?_
    refine W_bin rfl rfl b_eql rfl ?_
    first | rw [decide_eq_true (by decide)] | rw [decide_eq_false (by decide)]
    refine W_assign rfl rfl ?_
    refine W_nil ?_
    refine W_condF rfl rfl ?_
    refine W_sr ?_
    refine W_bin rfl rfl b_eql rfl ?_
    first | rw [decide_eq_true (by decide)] | rw [decide_eq_false (by decide)]
    refine W_assign rfl rfl ?_
    refine W_nil ?_
    refine W_condF rfl rfl ?_
    refine W_sr ?_
    refine W_bin rfl rfl b_eql rfl ?_
    first | rw [decide_eq_true (by decide)] | rw [decide_eq_false (by decide)]
    refine W_assign rfl rfl ?_
    refine W_nil ?_
    refine W_condF rfl rfl ?_
    refine W_sr ?_
    refine W_bin rfl rfl b_eql rfl ?_
    first | rw [decide_eq_true (by decide)] | rw [decide_eq_false (by decide)]
    refine W_assign rfl rfl ?_
    refine W_nil ?_
    refine W_condT rfl rfl ?_
    refine W_sr ?_
    refine W_loadB (vs := [.int .i64 (x.kind : Int), .int .i64 (x.entries : Int), .int .i64 (x.words : Int), .bool x.closed, .slice ads (x.L).length caps, .slice ade (E).length cape, .slice adc (x.C).length capc, .slice adu (x.used).length capu]) rfl ty56 rfl (b := b4) zM rfl rfl rfl ?_
    refine W_fieldAddr rfl fld29_0 (by decide) rfl ?_
    refine W_load (v := .int .i64 h.slot) rfl ty3 rfl (Cell.own (b := b8) zM rfl) rfl ?_
    refine W_fieldAddr rfl fld29_1 (by decide) rfl ?_
    refine W_load (v := .int .i64 h.gen) rfl ty3 rfl (Cell.own (b := b8) zM rfl) rfl ?_
    refine W_fieldAddr rfl fld62_3 (by decide) rfl ?_
    refine W_load (v := .int .i64 a.at_) rfl ty3 rfl (Cell.own (b := b5) zM rfl) rfl ?_
    refine W_fieldAddr rfl fld62_6 (by decide) rfl ?_
    refine W_load (v := .int .u64 a.key) rfl ty22 rfl (Cell.own (b := b5) zM rfl) rfl ?_
    refine W_call (.cons rfl (.cons rfl (.cons rfl (.cons rfl (.cons rfl .nil))))) Tryz.call62 rfl (LCalls.hsub (dxStore_L (g := h) (at_ := a.at_) (xv := a.key) (x := x) (E := E) ⟨ads, caps, ade, cape, adc, capc, adu, capu, rfl, hS0, hSc, hE0, hEc, hC0, hCc, hU0, hUc⟩ ((show HSub _ H from zH).trans hHR) hx ho (by omega)  (H := (b4, .cells 56 8 [.int .i64 (x.kind : Int), .int .i64 (x.entries : Int), .int .i64 (x.words : Int), .bool x.closed, .slice ads (x.L).length caps, .slice ade (E).length cape, .slice adc (x.C).length capc, .slice adu (x.used).length capu]) :: (b5, .cells 62 9 [.int .i64 a.kind, .int .i64 a.how, .int .i64 a.pick, .int .i64 a.at_, .bool a.own, .int .i64 a.h.slot, .int .i64 a.h.gen, .int .u64 a.key, .slice adl a.l.length capl]) :: (b6, .cells 56 8 [.int .i64 0, .int .i64 0, .int .i64 0, .bool false, .slice none 0 0, .slice none 0 0, .slice none 0 0, .slice none 0 0]) :: (b8, .cells 29 2 (hdC h)) :: (HB ++ H))) zH) ?_
    rintro v H' ⟨cs1, X1, E1, rfl, hD1, ho1, hEl1, hlk, rfl⟩
    have hD1o := hD1
    obtain ⟨ad1, cap1, ad2, cap2, ad3, cap3, ad4, cap4, rfl, _⟩ := hD1o
    refine W_move rfl rfl ?_
    refine W_extract rfl rfl rfl ?_
    refine W_extract rfl rfl rfl ?_
    refine W_alloc (l := [.int .i64 0, .int .i64 0, .int .i64 0, .bool false, .slice none 0 0, .slice none 0 0, .slice none 0 0, .slice none 0 0]) ty56 rfl rfl (fun b29 => ?_)
    refine W_storeA (l' := [.int .i64 ((x.store h a.at_ a.key).1.kind : Int), .int .i64 ((x.store h a.at_ a.key).1.entries : Int), .int .i64 ((x.store h a.at_ a.key).1.words : Int), .bool (x.store h a.at_ a.key).1.closed, .slice ad1 ((x.store h a.at_ a.key).1.L).length cap1, .slice ad2 (E1).length cap2, .slice ad3 ((x.store h a.at_ a.key).1.C).length cap3, .slice ad4 ((x.store h a.at_ a.key).1.used).length cap4]) rfl rfl ty56 rfl rfl (b := b29) zM (by exact Nat.le_refl 8) rfl zU ?_
    refine W_assign rfl rfl ?_
    refine W_nil ?_
    refine W_seq ?_
    refine W_anyC [(b29, .cells 56 8 [.int .i64 ((x.store h a.at_ a.key).1.kind : Int), .int .i64 ((x.store h a.at_ a.key).1.entries : Int), .int .i64 ((x.store h a.at_ a.key).1.words : Int), .bool (x.store h a.at_ a.key).1.closed, .slice ad1 ((x.store h a.at_ a.key).1.L).length cap1, .slice ad2 (E1).length cap2, .slice ad3 ((x.store h a.at_ a.key).1.C).length cap3, .slice ad4 ((x.store h a.at_ a.key).1.used).length cap4]), (b8, .cells 29 2 (hdC h)), (b5, .cells 62 9 [.int .i64 a.kind, .int .i64 a.how, .int .i64 a.pick, .int .i64 a.at_, .bool a.own, .int .i64 a.h.slot, .int .i64 a.h.gen, .int .u64 a.key, .slice adl a.l.length capl])] (by kernel_rfl) ?_
    refine WC_take 0 (l' := #[true, false, false, false, false, false, false, false, false, false, false, false]) rfl (by decide +kernel) (by decide +kernel) (by decide +kernel) rfl (by decide +kernel) (X_loadB (vs := [.int .i64 ((x.store h a.at_ a.key).1.kind : Int), .int .i64 ((x.store h a.at_ a.key).1.entries : Int), .int .i64 ((x.store h a.at_ a.key).1.words : Int), .bool (x.store h a.at_ a.key).1.closed, .slice ad1 ((x.store h a.at_ a.key).1.L).length cap1, .slice ad2 (E1).length cap2, .slice ad3 ((x.store h a.at_ a.key).1.C).length cap3, .slice ad4 ((x.store h a.at_ a.key).1.used).length cap4]) rfl ty56 rfl (b := b29) zM rfl rfl) rfl ?_
    refine WC_take 1 (l' := #[true, true, false, false, false, false, false, false, false, false, false, false]) rfl (by decide +kernel) (by decide +kernel) (by decide +kernel) rfl (by decide +kernel) (X_move rfl) rfl ?_
    refine WC_take 2 (l' := #[true, true, true, false, false, false, false, false, false, false, false, false]) rfl (by decide +kernel) (by decide +kernel) (by decide +kernel) rfl (by decide +kernel) (X_loadB (vs := hdC h) rfl ty29 rfl (b := b8) zM rfl rfl) rfl ?_
    refine WC_take 3 (l' := #[true, true, true, true, false, false, false, false, false, false, false, false]) rfl (by decide +kernel) (by decide +kernel) (by decide +kernel) rfl (by decide +kernel) (X_fieldAddr rfl fld62_3 (by decide)) rfl ?_
    refine WC_take 4 (l' := #[true, true, true, true, true, false, false, false, false, false, false, false]) rfl (by decide +kernel) (by decide +kernel) (by decide +kernel) rfl (by decide +kernel) (X_load (v := .int .i64 a.at_) rfl ty3 rfl (Cell.own (b := b5) zM rfl)) rfl ?_
    refine WC_take 5 (l' := #[true, true, true, true, true, true, false, false, false, false, false, false]) rfl (by decide +kernel) (by decide +kernel) (by decide +kernel) rfl (by decide +kernel) (X_fieldAddr rfl fld62_6 (by decide)) rfl ?_
    refine WC_take 6 (l' := #[true, true, true, true, true, true, true, false, false, false, false, false]) rfl (by decide +kernel) (by decide +kernel) (by decide +kernel) rfl (by decide +kernel) (X_load (v := .int .u64 a.key) rfl ty22 rfl (Cell.own (b := b5) zM rfl)) rfl ?_
    refine WC_take 8 (l' := #[true, true, true, true, true, true, true, false, true, false, false, false]) rfl (by decide +kernel) (by decide +kernel) (by decide +kernel) rfl (by decide +kernel) (X_move rfl) rfl ?_
    refine WC_one 7 (l' := #[true, true, true, true, true, true, true, true, true, false, false, false]) zH (by decide +kernel) rfl (by decide +kernel) ?_
    refine W_call (.cons rfl (.cons rfl (.cons rfl (.cons rfl .nil)))) Tryz.call21 rfl ((hX.store (h := h) (at_ := a.at_) (vv := a.key) (H := (b29, .cells 56 8 [.int .i64 ((x.store h a.at_ a.key).1.kind : Int), .int .i64 ((x.store h a.at_ a.key).1.entries : Int), .int .i64 ((x.store h a.at_ a.key).1.words : Int), .bool (x.store h a.at_ a.key).1.closed, .slice ad1 ((x.store h a.at_ a.key).1.L).length cap1, .slice ad2 (E1).length cap2, .slice ad3 ((x.store h a.at_ a.key).1.C).length cap3, .slice ad4 ((x.store h a.at_ a.key).1.used).length cap4]) :: (b4, .cells 56 8 [.int .i64 (x.kind : Int), .int .i64 (x.entries : Int), .int .i64 (x.words : Int), .bool x.closed, .slice ads (x.L).length caps, .slice ade (E).length cape, .slice adc (x.C).length capc, .slice adu (x.used).length capu]) :: (b5, .cells 62 9 [.int .i64 a.kind, .int .i64 a.how, .int .i64 a.pick, .int .i64 a.at_, .bool a.own, .int .i64 a.h.slot, .int .i64 a.h.gen, .int .u64 a.key, .slice adl a.l.length capl]) :: (b6, .cells 56 8 [.int .i64 0, .int .i64 0, .int .i64 0, .bool false, .slice none 0 0, .slice none 0 0, .slice none 0 0, .slice none 0 0]) :: (b8, .cells 29 2 (hdC h)) :: (X1 ++ H))).hsub zH) ?_
    rintro v H' ⟨HB5, hX5, rfl, rfl⟩
    refine W_nil ?_
    refine WC_goal ?_
    refine WC_take 9 (l' := #[true, true, true, true, true, true, true, true, true, true, false, false]) rfl (by decide +kernel) (by decide +kernel) (by decide +kernel) rfl (by decide +kernel) (X_bin rfl rfl b_eql) rfl ?_
    rw [decide_eq_true rfl]
    refine WC_one 10 (l' := #[true, true, true, true, true, true, true, true, true, true, true, false]) zH (by decide +kernel) rfl (by decide +kernel) ?_
    refine W_storeA (l' := [.int .i64 ((x.store h a.at_ a.key).1.kind : Int), .int .i64 ((x.store h a.at_ a.key).1.entries : Int), .int .i64 ((x.store h a.at_ a.key).1.words : Int), .bool (x.store h a.at_ a.key).1.closed, .slice ad1 ((x.store h a.at_ a.key).1.L).length cap1, .slice ad2 (E1).length cap2, .slice ad3 ((x.store h a.at_ a.key).1.C).length cap3, .slice ad4 ((x.store h a.at_ a.key).1.used).length cap4]) rfl rfl ty56 rfl rfl (b := b6) zM (by exact Nat.le_refl 8) rfl zU ?_
    refine W_nil ?_
    refine WC_goal ?_
    refine WC_take 11 (l' := #[true, true, true, true, true, true, true, true, true, true, true, true]) rfl (by decide +kernel) (by decide +kernel) (by decide +kernel) rfl (by decide +kernel) (X_assign rfl) rfl ?_
    refine WC_done zH (by decide +kernel) ?_
    refine W_ret2G (H2 := HB5 ++ (X1 ++ H)) Tryz.results23 (.nil _) (.own rfl ty56 rfl zM rfl) (.tmp rfl) zH ?_
    exact ⟨_, E1, HB5, X1, _, hX5.up (by omega), ho1, fun c => by rw [(Xm.store_kw x h a.at_ a.key).1] at c; rw [hlk c]; exact has c, hD1, by omega, Xm.store_kw x h a.at_ a.key, rfl, rfl⟩
  · skip
    refine W_nil ?_
    refine W_block ?_
    refine W_seq ?_
    refine W_sr ?_
    refine W_bin rfl rfl b_eql rfl ?_
    first | rw [decide_eq_true (by decide)] | rw [decide_eq_false (by decide)]
    refine W_assign rfl rfl ?_
    refine W_nil ?_
    refine W_condF rfl rfl ?_
    refine W_region ?_
    refine W_bin rfl rfl b_eql rfl ?_
    first | rw [decide_eq_true (by decide)] | rw [decide_eq_false (by decide)]
    refine W_assign rfl rfl ?_
    refine W_nil ?_
    refine W_condF rfl rfl ?_
    refine W_sr ?_
    refine W_bin rfl rfl b_eql rfl ?_
    first | rw [decide_eq_true (by decide)] | rw [decide_eq_false (by decide)]
    refine W_assign rfl rfl ?_
    refine W_nil ?_
    refine W_condF rfl rfl ?_
    refine W_sr ?_
    refine W_bin rfl rfl b_eql rfl ?_
    first | rw [decide_eq_true (by decide)] | rw [decide_eq_false (by decide)]
    refine W_assign rfl rfl ?_
    refine W_nil ?_
    refine W_condF rfl rfl ?_
    refine W_sr ?_
    refine W_bin rfl rfl b_eql rfl ?_
    first | rw [decide_eq_true (by decide)] | rw [decide_eq_false (by decide)]
    refine W_assign rfl rfl ?_
    refine W_nil ?_
    refine W_condF rfl rfl ?_
    refine W_sr ?_
    refine W_bin rfl rfl b_eql rfl ?_
    first | rw [decide_eq_true (by decide)] | rw [decide_eq_false (by decide)]
    refine W_assign rfl rfl ?_
    refine W_nil ?_
    refine W_condF rfl rfl ?_
    refine W_sr ?_
    refine W_bin rfl rfl b_eql rfl ?_
    first | rw [decide_eq_true (by decide)] | rw [decide_eq_false (by decide)]
    refine W_assign rfl rfl ?_
    refine W_nil ?_
    refine W_condF rfl rfl ?_
    refine W_sr ?_
    refine W_bin rfl rfl b_eql rfl ?_
    first | rw [decide_eq_true (by decide)] | rw [decide_eq_false (by decide)]
    refine W_assign rfl rfl ?_
    refine W_nil ?_
    refine W_condT rfl rfl ?_
    refine W_sr ?_
    refine W_loadB (vs := [.int .i64 (x.kind : Int), .int .i64 (x.entries : Int), .int .i64 (x.words : Int), .bool x.closed, .slice ads (x.L).length caps, .slice ade (E).length cape, .slice adc (x.C).length capc, .slice adu (x.used).length capu]) rfl ty56 rfl (b := b4) zM rfl rfl rfl ?_
    refine W_fieldAddr rfl fld29_0 (by decide) rfl ?_
    refine W_load (v := .int .i64 h.slot) rfl ty3 rfl (Cell.own (b := b8) zM rfl) rfl ?_
    refine W_fieldAddr rfl fld29_1 (by decide) rfl ?_
    refine W_load (v := .int .i64 h.gen) rfl ty3 rfl (Cell.own (b := b8) zM rfl) rfl ?_
    refine W_fieldAddr rfl fld62_3 (by decide) rfl ?_
    refine W_load (v := .int .i64 a.at_) rfl ty3 rfl (Cell.own (b := b5) zM rfl) rfl ?_
    refine W_callq (.cons rfl (.cons rfl (.cons rfl (.cons rfl .nil)))) Tryz.call63 rfl (dxWord_q (x := x) (E := E) (g := h) (at_ := a.at_) ⟨ads, caps, ade, cape, adc, capc, adu, capu, rfl, hS0, hSc, hE0, hEc, hC0, hCc, hU0, hUc⟩ ((show HSub _ H from zH).trans hHR) hx ho (by omega)) ?_
    refine W_move rfl rfl ?_
    refine W_extract rfl rfl rfl ?_
    refine W_extract rfl rfl rfl ?_
    refine W_assign rfl rfl ?_
    refine W_assign rfl rfl ?_
    refine W_nil ?_
    refine W_sr ?_
    refine W_move rfl rfl ?_
    refine W_loadB (vs := hdC h) rfl ty29 rfl (b := b8) zM rfl rfl rfl ?_
    refine W_fieldAddr rfl fld62_3 (by decide) rfl ?_
    refine W_load (v := .int .i64 a.at_) rfl ty3 rfl (Cell.own (b := b5) zM rfl) rfl ?_
    refine W_callq (.cons rfl (.cons rfl (.cons rfl .nil))) Tryz.call14 rfl (hX.load (fun p hp => by repeat (first | exact List.mem_append_left _ hp | apply List.mem_append_right | apply List.mem_cons_of_mem)) (h := h) (at_ := a.at_)) ?_
    refine W_move rfl rfl ?_
    refine W_extract rfl rfl rfl ?_
    refine W_extract rfl rfl rfl ?_
    refine W_assign rfl rfl ?_
    refine W_assign rfl rfl ?_
    refine W_nil ?_
    refine W_sr ?_
    refine W_loadB (vs := [.int .i64 (x.kind : Int), .int .i64 (x.entries : Int), .int .i64 (x.words : Int), .bool x.closed, .slice ads (x.L).length caps, .slice ade (E).length cape, .slice adc (x.C).length capc, .slice adu (x.used).length capu]) rfl ty56 rfl (b := b4) zM rfl rfl rfl ?_
    refine W_move rfl rfl ?_
    refine W_move rfl rfl ?_
    refine W_bin rfl rfl b_eql rfl ?_
    rw [decide_eq_true rfl]
    refine W_move rfl rfl ?_
    refine W_gyes rfl rfl ?_
    refine W_move rfl rfl ?_
    refine W_gyes rfl rfl ?_
    refine W_move rfl rfl ?_
    refine W_gyes rfl rfl ?_
    refine W_bin rfl rfl b_eql rfl ?_
    rw [decide_eq_true rfl]
    first | refine W_pickt rfl rfl rfl ?_ | refine W_pickf rfl rfl rfl ?_
    refine W_storeA (l' := [.int .i64 (x.kind : Int), .int .i64 (x.entries : Int), .int .i64 (x.words : Int), .bool x.closed, .slice ads (x.L).length caps, .slice ade (E).length cape, .slice adc (x.C).length capc, .slice adu (x.used).length capu]) rfl rfl ty56 rfl rfl (b := b6) zM (by exact Nat.le_refl 8) rfl zU ?_
    refine W_assign rfl rfl ?_
    refine W_nil ?_
    refine W_ret2G (H2 := HB ++ H) Tryz.results23 (.nil _) (.own rfl ty56 rfl zM rfl) (.tmp rfl) zH ?_
    exact ⟨_, E, HB, [], _, hX.up (by omega), ho, has, ⟨ads, caps, ade, cape, adc, capc, adu, capu, rfl, hS0, hSc, hE0, hEc, hC0, hCc, hU0, hUc⟩, Nat.le_succ _, ⟨rfl, rfl⟩, rfl, rfl⟩
  · skip
    refine W_nil ?_
    refine W_block ?_
    refine W_seq ?_
    refine W_sr ?_
    refine W_bin rfl rfl b_eql rfl ?_
    first | rw [decide_eq_true (by decide)] | rw [decide_eq_false (by decide)]
    refine W_assign rfl rfl ?_
    refine W_nil ?_
    refine W_condF rfl rfl ?_
    refine W_region ?_
    refine W_bin rfl rfl b_eql rfl ?_
    first | rw [decide_eq_true (by decide)] | rw [decide_eq_false (by decide)]
    refine W_assign rfl rfl ?_
    refine W_nil ?_
    refine W_condF rfl rfl ?_
    refine W_sr ?_
    refine W_bin rfl rfl b_eql rfl ?_
    first | rw [decide_eq_true (by decide)] | rw [decide_eq_false (by decide)]
    refine W_assign rfl rfl ?_
    refine W_nil ?_
    refine W_condF rfl rfl ?_
    refine W_sr ?_
    refine W_bin rfl rfl b_eql rfl ?_
    first | rw [decide_eq_true (by decide)] | rw [decide_eq_false (by decide)]
    refine W_assign rfl rfl ?_
    refine W_nil ?_
    refine W_condF rfl rfl ?_
    refine W_sr ?_
    refine W_bin rfl rfl b_eql rfl ?_
    first | rw [decide_eq_true (by decide)] | rw [decide_eq_false (by decide)]
    refine W_assign rfl rfl ?_
    refine W_nil ?_
    refine W_condF rfl rfl ?_
    refine W_sr ?_
    refine W_bin rfl rfl b_eql rfl ?_
    first | rw [decide_eq_true (by decide)] | rw [decide_eq_false (by decide)]
    refine W_assign rfl rfl ?_
    refine W_nil ?_
    refine W_condF rfl rfl ?_
    refine W_sr ?_
    refine W_bin rfl rfl b_eql rfl ?_
    first | rw [decide_eq_true (by decide)] | rw [decide_eq_false (by decide)]
    refine W_assign rfl rfl ?_
    refine W_nil ?_
    refine W_condF rfl rfl ?_
    refine W_sr ?_
    refine W_bin rfl rfl b_eql rfl ?_
    first | rw [decide_eq_true (by decide)] | rw [decide_eq_false (by decide)]
    refine W_assign rfl rfl ?_
    refine W_nil ?_
    refine W_condF rfl rfl ?_
    refine W_skip ?_
    refine W_blk ?_
    refine W_seq ?_
    refine W_sr ?_
    refine W_fieldAddr rfl fld62_1 (by decide) rfl ?_
    refine W_load (v := .int .i64 a.how) rfl ty3 rfl (Cell.own (b := b5) zM rfl) rfl ?_
    refine W_bin rfl rfl b_neq rfl ?_
    refine W_nil ?_
    refine W_condPS (p := a.how ≠ 1) rfl (by simp) (fun q0 => ?_) (fun q0 => ?_)
    · skip
      refine W_sr ?_
      refine W_loadB (vs := [.int .i64 (x.kind : Int), .int .i64 (x.entries : Int), .int .i64 (x.words : Int), .bool x.closed, .slice ads (x.L).length caps, .slice ade (E).length cape, .slice adc (x.C).length capc, .slice adu (x.used).length capu]) rfl ty56 rfl (b := b4) zM rfl rfl rfl ?_
      refine W_storeA (l' := [.int .i64 (x.kind : Int), .int .i64 (x.entries : Int), .int .i64 (x.words : Int), .bool x.closed, .slice ads (x.L).length caps, .slice ade (E).length cape, .slice adc (x.C).length capc, .slice adu (x.used).length capu]) rfl rfl ty56 rfl rfl (b := b6) zM (by exact Nat.le_refl 8) rfl zU ?_
      refine W_assign rfl rfl ?_
      refine W_nil ?_
      refine W_ret2G (H2 := HB ++ H) Tryz.results23 (.nil _) (.own rfl ty56 rfl zM rfl) (.tmp rfl) zH ?_
      exact ⟨_, E, HB, [], _, hX.up (by omega), ho, has, ⟨ads, caps, ade, cape, adc, capc, adu, capu, rfl, hS0, hSc, hE0, hEc, hC0, hCc, hU0, hUc⟩, Nat.le_succ _, ⟨rfl, rfl⟩, rfl, rfl⟩
    · skip
      refine W_skip ?_
      refine W_sr ?_
      refine W_loadB (vs := [.int .i64 (x.kind : Int), .int .i64 (x.entries : Int), .int .i64 (x.words : Int), .bool x.closed, .slice ads (x.L).length caps, .slice ade (E).length cape, .slice adc (x.C).length capc, .slice adu (x.used).length capu]) rfl ty56 rfl (b := b4) zM rfl rfl rfl ?_
      refine W_call (.cons rfl .nil) Tryz.call64 rfl (LCalls.hsub (dxClose_L (x := x) (E := E) ⟨ads, caps, ade, cape, adc, capc, adu, capu, rfl, hS0, hSc, hE0, hEc, hC0, hCc, hU0, hUc⟩ ((show HSub _ H from zH).trans hHR) hx ho (by omega) (keysD_is ho hx has)  (H := (b4, .cells 56 8 [.int .i64 (x.kind : Int), .int .i64 (x.entries : Int), .int .i64 (x.words : Int), .bool x.closed, .slice ads (x.L).length caps, .slice ade (E).length cape, .slice adc (x.C).length capc, .slice adu (x.used).length capu]) :: (b5, .cells 62 9 [.int .i64 a.kind, .int .i64 a.how, .int .i64 a.pick, .int .i64 a.at_, .bool a.own, .int .i64 a.h.slot, .int .i64 a.h.gen, .int .u64 a.key, .slice adl a.l.length capl]) :: (b6, .cells 56 8 [.int .i64 0, .int .i64 0, .int .i64 0, .bool false, .slice none 0 0, .slice none 0 0, .slice none 0 0, .slice none 0 0]) :: (b8, .cells 29 2 (hdC h)) :: (HB ++ H))) zH) ?_
      rintro v H' ⟨cs1, X1, E1, zs, vO, XO, rfl, hD1, hO1, hz1, hEl1, ho1, hcl1, rfl⟩
      have hzl : zs.length = x.close.2.length := by rw [← hz1, List.length_map]
      obtain ⟨adz, capz, rfl, hzc0, hzm⟩ := hO1.shape
      simp only [maxLen] at hzm
      have hD1o := hD1
      obtain ⟨ad1, cap1, ad2, cap2, ad3, cap3, ad4, cap4, rfl, _⟩ := hD1o
      refine W_move rfl rfl ?_
      refine W_extract rfl rfl rfl ?_
      refine W_extract rfl rfl rfl ?_
      refine W_alloc (l := [.int .i64 0, .int .i64 0, .int .i64 0, .bool false, .slice none 0 0, .slice none 0 0, .slice none 0 0, .slice none 0 0]) ty56 rfl rfl (fun b35 => ?_)
      refine W_storeA (l' := [.int .i64 (x.close.1.kind : Int), .int .i64 (x.close.1.entries : Int), .int .i64 (x.close.1.words : Int), .bool x.close.1.closed, .slice ad1 (x.close.1.L).length cap1, .slice ad2 (E1).length cap2, .slice ad3 (x.close.1.C).length cap3, .slice ad4 (x.close.1.used).length cap4]) rfl rfl ty56 rfl rfl (b := b35) zM (by exact Nat.le_refl 8) rfl zU ?_
      refine W_assign rfl rfl ?_
      refine W_nil ?_
      refine W_sr ?_
      refine W_move rfl rfl ?_
      refine W_call (.cons rfl .nil) Tryz.call15 rfl ((hX.close (H := (b35, .cells 56 8 [.int .i64 (x.close.1.kind : Int), .int .i64 (x.close.1.entries : Int), .int .i64 (x.close.1.words : Int), .bool x.close.1.closed, .slice ad1 (x.close.1.L).length cap1, .slice ad2 (E1).length cap2, .slice ad3 (x.close.1.C).length cap3, .slice ad4 (x.close.1.used).length cap4]) :: (b4, .cells 56 8 [.int .i64 (x.kind : Int), .int .i64 (x.entries : Int), .int .i64 (x.words : Int), .bool x.closed, .slice ads (x.L).length caps, .slice ade (E).length cape, .slice adc (x.C).length capc, .slice adu (x.used).length capu]) :: (b5, .cells 62 9 [.int .i64 a.kind, .int .i64 a.how, .int .i64 a.pick, .int .i64 a.at_, .bool a.own, .int .i64 a.h.slot, .int .i64 a.h.gen, .int .u64 a.key, .slice adl a.l.length capl]) :: (b6, .cells 56 8 [.int .i64 0, .int .i64 0, .int .i64 0, .bool false, .slice none 0 0, .slice none 0 0, .slice none 0 0, .slice none 0 0]) :: (b8, .cells 29 2 (hdC h)) :: (XO ++ (X1 ++ H)))).hsub zH) ?_
      rintro v H' ⟨HB5, OX, hX5, hOX, rfl⟩
      obtain ⟨ado, capo, rfl, _, _⟩ := hOX.shape
      refine W_assign rfl rfl ?_
      refine W_nil ?_
      refine W_seq ?_
      refine W_sr ?_
      refine W_move rfl rfl ?_
      refine W_len rfl ty38 rfl rfl ?_
      refine W_move rfl rfl ?_
      refine W_len rfl ty113 rfl rfl ?_
      refine W_bin rfl rfl b_neq rfl ?_
      refine W_nil ?_
      refine W_condF rfl (decide_eq_false (fun h => h (by rw [hzl]))) ?_
      refine W_skip ?_
      refine W_seq ?_
      refine W_sr ?_
      refine W_assign rfl rfl ?_
      refine W_nil ?_
      refine W_block ?_
      refine W_loopC (X := Nat) [(6, _), (35, _), (36, _), (37, _)] (fun (i : Nat) => [(38, .int .i64 (i : Int))]) (fun _ => _) (fun (i : Nat) => OX ++ (HB5 ++ ((b35, .cells 56 8 [.int .i64 (x.close.1.kind : Int), .int .i64 (x.close.1.entries : Int), .int .i64 (x.close.1.words : Int), .bool x.close.1.closed, .slice ad1 (x.close.1.L).length cap1, .slice ad2 (E1).length cap2, .slice ad3 (x.close.1.C).length cap3, .slice ad4 (x.close.1.used).length cap4]) :: (b4, .cells 56 8 [.int .i64 (x.kind : Int), .int .i64 (x.entries : Int), .int .i64 (x.words : Int), .bool x.closed, .slice ads (x.L).length caps, .slice ade (E).length cape, .slice adc (x.C).length capc, .slice adu (x.used).length capu]) :: (b5, .cells 62 9 [.int .i64 a.kind, .int .i64 a.how, .int .i64 a.pick, .int .i64 a.at_, .bool a.own, .int .i64 a.h.slot, .int .i64 a.h.gen, .int .u64 a.key, .slice adl a.l.length capl]) :: (b6, .cells 56 8 [.int .i64 0, .int .i64 0, .int .i64 0, .bool false, .slice none 0 0, .slice none 0 0, .slice none 0 0, .slice none 0 0]) :: (b8, .cells 29 2 (hdC h)) :: (XO ++ (X1 ++ H))))) (fun (i : Nat) => i ≤ zs.length) (fun (i : Nat) => zs.length - i) 0 (Nat.zero_le _) (sub_cons rfl (sub_cons rfl (sub_cons rfl (sub_cons rfl (sub_nil _))))) (sub_cons rfl (sub_nil _)) rfl zH ?_
      rintro i hi
      simp only [List.cons_append, List.nil_append]
      refine W_seq ?_
      refine W_sr ?_
      refine W_move rfl rfl ?_
      refine W_move rfl rfl ?_
      refine W_len rfl ty38 rfl rfl ?_
      refine W_bin rfl rfl b_lss rfl ?_
      refine W_nil ?_
      refine W_condPS (p := (i : Int) < (zs.length : Int)) rfl (by rw [decide_eq_true_eq, hzl]) (fun q1 => ?_) (fun q1 => ?_)
      · skip
        refine W_skip ?_
        refine W_seq ?_
        refine W_block ?_
        refine W_seq ?_
        obtain ⟨zz, hzz⟩ : ∃ zz, zs[i]? = some zz := ⟨_, List.getElem?_eq_getElem (by omega)⟩
        have hhi : x.close.2[i]? = some (hdE E1 zz) := by rw [← hz1, List.getElem?_map, hzz]; rfl
        obtain ⟨qa, pa, eqa, hac⟩ := Holds.row hdC_len (by decide) (hOX.toHolds (w0 := w0) (H := OX ++ (HB5 ++ ((b35, .cells 56 8 [.int .i64 (x.close.1.kind : Int), .int .i64 (x.close.1.entries : Int), .int .i64 (x.close.1.words : Int), .bool x.close.1.closed, .slice ad1 (x.close.1.L).length cap1, .slice ad2 (E1).length cap2, .slice ad3 (x.close.1.C).length cap3, .slice ad4 (x.close.1.used).length cap4]) :: (b4, .cells 56 8 [.int .i64 (x.kind : Int), .int .i64 (x.entries : Int), .int .i64 (x.words : Int), .bool x.closed, .slice ads (x.L).length caps, .slice ade (E).length cape, .slice adc (x.C).length capc, .slice adu (x.used).length capu]) :: (b5, .cells 62 9 [.int .i64 a.kind, .int .i64 a.how, .int .i64 a.pick, .int .i64 a.at_, .bool a.own, .int .i64 a.h.slot, .int .i64 a.h.gen, .int .u64 a.key, .slice adl a.l.length capl]) :: (b6, .cells 56 8 [.int .i64 0, .int .i64 0, .int .i64 0, .bool false, .slice none 0 0, .slice none 0 0, .slice none 0 0, .slice none 0 0]) :: (b8, .cells 29 2 (hdC h)) :: (XO ++ (X1 ++ H))))) (fun p hp => by repeat (first | exact List.mem_append_left _ hp | apply List.mem_append_right | apply List.mem_cons_of_mem))) hhi
        obtain ⟨qz, pz, eqz, hzc⟩ := (hO1.toHolds (w0 := w0) (H := OX ++ (HB5 ++ ((b35, .cells 56 8 [.int .i64 (x.close.1.kind : Int), .int .i64 (x.close.1.entries : Int), .int .i64 (x.close.1.words : Int), .bool x.close.1.closed, .slice ad1 (x.close.1.L).length cap1, .slice ad2 (E1).length cap2, .slice ad3 (x.close.1.C).length cap3, .slice ad4 (x.close.1.used).length cap4]) :: (b4, .cells 56 8 [.int .i64 (x.kind : Int), .int .i64 (x.entries : Int), .int .i64 (x.words : Int), .bool x.closed, .slice ads (x.L).length caps, .slice ade (E).length cape, .slice adc (x.C).length capc, .slice adu (x.used).length capu]) :: (b5, .cells 62 9 [.int .i64 a.kind, .int .i64 a.how, .int .i64 a.pick, .int .i64 a.at_, .bool a.own, .int .i64 a.h.slot, .int .i64 a.h.gen, .int .u64 a.key, .slice adl a.l.length capl]) :: (b6, .cells 56 8 [.int .i64 0, .int .i64 0, .int .i64 0, .bool false, .slice none 0 0, .slice none 0 0, .slice none 0 0, .slice none 0 0]) :: (b8, .cells 29 2 (hdC h)) :: (XO ++ (X1 ++ H))))) (fun p hp => by repeat (first | exact List.mem_append_left _ hp | apply List.mem_append_right | apply List.mem_cons_of_mem))).at (i := i) (v := .int .i64 zz) (by rw [List.getElem?_map, hzz]; rfl)
        · skip
          refine W_quiet (by kernel_rfl) (by decide +kernel) ?_
          refine WQ_x (X_move rfl) rfl ?_
          refine WQ_x (X_move rfl) rfl ?_
          refine WQ_x (X_indexAddr (b := qa) (o := pa) (j := i) (by rw [← eqa]; rfl) rfl ty38 ty29 rfl (by omega) rfl) rfl ?_
          refine WQ_x (X_loadA (vs := hdC (hdE E1 zz)) rfl ty29 rfl rfl (hac.up zH)) rfl ?_
          refine WQ_x (X_loadB (vs := [.int .i64 (x.close.1.kind : Int), .int .i64 (x.close.1.entries : Int), .int .i64 (x.close.1.words : Int), .bool x.close.1.closed, .slice ad1 (x.close.1.L).length cap1, .slice ad2 (E1).length cap2, .slice ad3 (x.close.1.C).length cap3, .slice ad4 (x.close.1.used).length cap4]) rfl ty56 rfl (b := b35) zM rfl rfl) rfl ?_
          refine WQ_x (X_move rfl) rfl ?_
          refine WQ_x (X_move rfl) rfl ?_
          refine WQ_x (X_indexAddr (b := qz) (o := pz) (j := i) (by rw [← eqz]; rfl) rfl ty113 ty3 rfl (by omega) rfl) rfl ?_
          refine WQ_x (X_load (v := .int .i64 zz) rfl ty3 rfl (by rw [Nat.mul_one]; exact hzc.up zH)) rfl ?_
          refine WQ_callq (.cons rfl (.cons rfl .nil)) Tryz.call57 rfl (dxhandle_q (HR := X1 ++ HR) (x := x.close.1) (E := E1) (z := zz) hD1 ((show HSub _ (X1 ++ H) from zH).trans (.app (.here _) hHR)) (by omega)) ?_
          refine WQ_x (X_neF (f := hdC) rfl rfl flat29 agg29 hdC_like hdC_inj gt29 (by decide)) rfl ?_
          rw [decide_eq_true rfl]
          refine WQ_nil ?_
          refine W_condF rfl rfl ?_
          refine W_skip ?_
          refine W_blk ?_
          refine W_region ?_
          refine W_move rfl rfl ?_
          refine W_bin rfl rfl (b_add (m := ((i + 1 : Nat) : Int)) ((i64w (by omega)).trans (by omega))) rfl ?_
          refine W_assign rfl rfl ?_
          refine W_nil ?_
          refine W_again (i + 1) (by omega) (by omega) (sub_cons rfl (sub_cons rfl (sub_cons rfl (sub_cons rfl (sub_cons rfl (sub_nil _)))))) rfl zH
      · skip
        refine W_exit rfl ?_
        refine W_sr ?_
        refine W_loadB (vs := [.int .i64 (x.close.1.kind : Int), .int .i64 (x.close.1.entries : Int), .int .i64 (x.close.1.words : Int), .bool x.close.1.closed, .slice ad1 (x.close.1.L).length cap1, .slice ad2 (E1).length cap2, .slice ad3 (x.close.1.C).length cap3, .slice ad4 (x.close.1.used).length cap4]) rfl ty56 rfl (b := b35) zM rfl rfl rfl ?_
        refine W_storeA (l' := [.int .i64 (x.close.1.kind : Int), .int .i64 (x.close.1.entries : Int), .int .i64 (x.close.1.words : Int), .bool x.close.1.closed, .slice ad1 (x.close.1.L).length cap1, .slice ad2 (E1).length cap2, .slice ad3 (x.close.1.C).length cap3, .slice ad4 (x.close.1.used).length cap4]) rfl rfl ty56 rfl rfl (b := b6) zM (by exact Nat.le_refl 8) rfl zU ?_
        refine W_assign rfl rfl ?_
        refine W_nil ?_
        refine W_ret2G (H2 := HB5 ++ (X1 ++ H)) Tryz.results23 (.nil _) (.own rfl ty56 rfl zM rfl) (.tmp rfl) zH ?_
        exact ⟨_, E1, HB5, X1, _, hX5.up (by omega), ho1, fun c => close_asc hx ho1 hcl1 has (by rw [(Xm.close_kw x).1] at c; exact c), hD1, by omega, Xm.close_kw x, rfl, rfl⟩
end Go.Proofs.YtphdlpmnidiliaaGreatDoor
