/-
  Own work: contracts of functions that the statement reaches, and plain facts on what they compute; each theorem says its conditions.
-/
import Derived.Test.YtkcaakkaioingaaDoorBpT4
import Derived.Test.YtkcaakkaioingaaDoorBpS2
import Derived.ChangeKeysEq
import Derived.Test.YtkcaakkaioingaaDoorBpA
set_option linter.all false
set_option linter.unusedSimpArgs false
set_option linter.unusedVariables false
namespace Go.Proofs.YtkcaakkaioingaaDoor
open Go Go.Sl
attribute [local irreducible] W
def hasM (m : Nat) (i : Int) : Bool := decide (m &&& bitN i ≠ 0)
theorem hasM_is {m j : Nat} (hj : j < 64) : hasM m (j : Int) = m.testBit j := by
  have e : bitN (j : Int) = 2 ^ j := by unfold bitN; rw [if_pos (by omega)]; rfl
  unfold hasM
  rw [e]
  have hb : ∀ i, (m &&& 2 ^ j).testBit i = (m.testBit i && decide (j = i)) := fun i => by rw [Nat.testBit_and, Nat.testBit_two_pow]
  cases h : m.testBit j with
  | true =>
    refine decide_eq_true (fun h0 => ?_)
    have := hb j
    rw [h0, h, decide_eq_true rfl] at this
    simp at this
  | false =>
    refine decide_eq_false (fun h0 => h0 (Nat.eq_of_testBit_eq fun i => ?_))
    rw [hb i, Nat.zero_testBit]
    by_cases c : j = i
    · subst c; rw [h]; rfl
    · rw [decide_eq_false c, Bool.and_false]
def lateB (a : Nat) (w : Wl) : Bool := match leastT w.L with
  | some t => decide (t ≤ a)
  | none => false
def lateM (Ws : List Wl) (a : Nat) : Nat → Nat
  | 0 => 0
  | k + 1 => match Ws[k]? with
    | some w => if lateB a w = true then withL (lateM Ws a k) [(k : Int)] else lateM Ws a k
    | none => lateM Ws a k
theorem lateM_at {Ws : List Wl} {a k : Nat} {w : Wl} (h : Ws[k]? = some w) : lateM Ws a (k + 1) = if lateB a w = true then withL (lateM Ws a k) [(k : Int)] else lateM Ws a k := by
  show (match Ws[k]? with | some w => _ | none => _) = _
  rw [h]
theorem lateM_lt (Ws : List Wl) (a : Nat) : ∀ k, lateM Ws a k < 18446744073709551616
  | 0 => by show (0 : Nat) < _; decide
  | k + 1 => by
    have ih := lateM_lt Ws a k
    unfold lateM
    split
    · split
      · exact withL_ok _ ih
      · exact ih
    · exact ih
def minO (x y : Option Nat) : Option Nat := match y with
  | none => x
  | some t => match x with
    | none => some t
    | some a => some (if t < a then t else a)
def nxK (sel : Nat → Bool) (Ws : List Wl) : Nat → Option Nat
  | 0 => none
  | k + 1 => match Ws[k]? with
    | some w => if sel k = true then minO (nxK sel Ws k) (leastT w.L) else nxK sel Ws k
    | none => nxK sel Ws k
theorem nxK_at {sel : Nat → Bool} {Ws : List Wl} {k : Nat} {w : Wl} (h : Ws[k]? = some w) : nxK sel Ws (k + 1) = if sel k = true then minO (nxK sel Ws k) (leastT w.L) else nxK sel Ws k := by
  show (match Ws[k]? with | some w => _ | none => _) = _
  rw [h]
def askB (l : List Int) (k : Nat) : Bool := decide (l.length = 0) || hasM (withL 0 l) (k : Int)
set_option maxHeartbeats 1000000 in
theorem has_pure {m : Nat} {i : Int} (hm : m < 18446744073709551616) : Pure Tryd.prog (fun _ => True) 57 [.int .u64 ((m : Nat) : Int), .int .i64 i] (.bool (hasM m i)) := by
  intro w0 H hT
  refine L_enter Tryd.func57 rfl Tryd.ntmps57 rfl rfl ?_
  refine W_sr ?_
  refine W_assign rfl rfl ?_
  refine W_nil ?_
  refine W_sr ?_
  refine W_move rfl rfl ?_
  refine W_move rfl rfl ?_
  refine W_callp (.cons rfl .nil) Tryd.call97 rfl (T := fun _ => True) trivial (bit_pure _) ?_
  refine W_bin rfl rfl (b_and (m := ((m &&& bitN i : Nat) : Int)) (and64 hm (bitN_lt i))) rfl ?_
  refine W_bin rfl rfl b_neq rfl ?_
  rw [show decide (((m &&& bitN i : Nat) : Int) ≠ 0) = hasM m i from decide_eq_decide.2 ⟨fun h e => h (by rw [e]; rfl), fun h e => h (Int.ofNat_inj.1 e)⟩]
  refine W_assign rfl rfl ?_
  refine W_nil ?_
  refine W_ret1m (H2 := H) Tryd.results57 rfl (.nil _) zH ?_
  exact ⟨rfl, rfl⟩
set_option maxHeartbeats 1000000 in
theorem maskOf_q {w0 : World} {H : Heap} {l : List Int} {ad : Option Addr} {cap : Nat} (hn : l.length ≤ 4611686018427387904) (hrow : Holds w0 H ad (l.map (Value.int .i64)))  : PureAt Tryd.prog w0 H 78 [.slice ad l.length cap] (.int .u64 ((withL 0 l : Nat) : Int)) := by
  refine L_enter Tryd.func78 rfl Tryd.ntmps78 rfl rfl ?_
  refine W_sr ?_
  refine W_assign rfl rfl ?_
  refine W_nil ?_
  refine W_sr ?_
  refine W_move rfl rfl ?_
  refine W_callq (.cons rfl (.cons rfl .nil)) Tryd.call84 rfl (with_q (m := 0) (by decide) hn hrow) ?_
  refine W_assign rfl rfl ?_
  refine W_nil ?_
  refine W_ret1m (H2 := H) Tryd.results78 rfl (.nil _) zH ?_
  exact ⟨rfl, rfl⟩
set_option maxHeartbeats 1000000 in
theorem latec_q {w0 : World} {H : Heap} {ba k a : Nat} {w : Wl} (hN : PureAt Tryd.prog w0 H 80 [w.p] (.tuple #[.int .u64 (((leastT w.L).getD 0 : Nat) : Int), .bool (leastT w.L).isSome])) (hb : (ba, .cells 28 1 [.int .u64 ((a : Nat) : Int)]) ∈ H)  : PureAt Tryd.prog w0 H 83 [.int .i64 (k : Int), w.p, .pointer (some ⟨ba, 0, none⟩)] (.bool (lateB a w)) := by
  refine L_enter Tryd.func83 rfl Tryd.ntmps83 rfl rfl ?_
  refine W_sr ?_
  refine W_assign rfl rfl ?_
  refine W_nil ?_
  refine W_sr ?_
  refine W_move rfl rfl ?_
  refine W_callq (.cons rfl .nil) Tryd.call80 rfl hN ?_
  have hlb : lateB a w = match leastT w.L with | some t => decide (t ≤ a) | none => false := rfl
  rcases hat : leastT w.L with _ | t
  · skip
    rw [hat] at hlb
    refine W_move rfl rfl ?_
    refine W_extract rfl rfl rfl ?_
    refine W_extract rfl rfl rfl ?_
    refine W_assign rfl rfl ?_
    refine W_assign rfl rfl ?_
    refine W_nil ?_
    refine W_sr ?_
    refine W_move rfl rfl ?_
    refine W_move rfl rfl ?_
    refine W_gno rfl rfl rfl ?_
    refine W_gno rfl rfl rfl ?_
    refine W_gno rfl rfl rfl ?_
    first | refine W_pickt rfl rfl rfl ?_ | refine W_pickf rfl rfl rfl ?_
    refine W_assign rfl rfl ?_
    refine W_nil ?_
    refine W_ret1m (H2 := H) Tryd.results83 rfl (.nil _) zH ?_
    exact ⟨by rw [hlb], rfl⟩
  · skip
    rw [hat] at hlb
    refine W_move rfl rfl ?_
    refine W_extract rfl rfl rfl ?_
    refine W_extract rfl rfl rfl ?_
    refine W_assign rfl rfl ?_
    refine W_assign rfl rfl ?_
    refine W_nil ?_
    refine W_sr ?_
    refine W_move rfl rfl ?_
    refine W_move rfl rfl ?_
    refine W_gyes rfl rfl ?_
    refine W_move rfl rfl ?_
    refine W_gyes rfl rfl ?_
    refine W_load (v := .int .u64 ((a : Nat) : Int)) rfl ty28 rfl (Cell.own hb rfl) rfl ?_
    refine W_gyes rfl rfl ?_
    refine W_bin rfl rfl b_leq rfl ?_
    first | refine W_pickt rfl rfl rfl ?_ | refine W_pickf rfl rfl rfl ?_
    refine W_assign rfl rfl ?_
    refine W_nil ?_
    refine W_ret1m (H2 := H) Tryd.results83 rfl (.nil _) zH ?_
    exact ⟨by rw [hlb]; exact congrArg Value.bool (decide_eq_decide.2 Int.ofNat_le), rfl⟩
set_option maxHeartbeats 4000000 in
theorem LateB_L {w0 : World} {H : Heap} {HB : Heap} {bb : Nat} {Ws : List Wl} (hB : BankH bb Ws HB) (hn64 : Ws.length ≤ 64) (hnow : ∀ w ∈ Ws, w.now ≤ 18446744073709551615) {a : Nat} (hT : Tab w0) : LCalls Tryd.prog w0 42 #[.pointer (some ⟨bb, 0, none⟩), .int .u64 ((a : Nat) : Int)] (HB ++ H) (fun v H' => ∃ HB', BankH bb Ws HB' ∧ v = .int .u64 ((lateM Ws a Ws.length : Nat) : Int) ∧ H' = HB' ++ H) := by
  refine L_enter (l := [.pointer (some ⟨bb, 0, none⟩), .int .u64 ((a : Nat) : Int)]) Tryd.func42 rfl Tryd.ntmps42 rfl rfl ?_
  refine W_sr ?_
  refine W_box (l := [.int .u64 ((a : Nat) : Int)]) rfl rfl rfl (fun b3 => ?_)
  refine W_assign rfl rfl ?_
  refine W_nil ?_
  refine W_sr ?_
  refine W_makeFunc .nil (.cons rfl .nil) rfl ?_
  refine W_assign rfl rfl ?_
  refine W_nil ?_
  refine W_sr ?_
  refine W_alloc (l := [.int .u64 0]) ty96 rfl rfl (fun b6 => ?_)
  refine W_nil ?_
  refine W_seq ?_
  refine W_sr ?_
  refine W_move rfl rfl ?_
  refine W_move rfl rfl ?_
  refine W_call (.cons rfl (.cons rfl .nil)) Tryd.call69 rfl (such_L (b := .pointer (some ⟨bb, 0, none⟩)) (f := (Value.func (.func 83) #[] #[.pointer (some ⟨b3, 0, none⟩)])) rfl rfl) ?_
  rintro v H' ⟨b2_, b3_, rfl, rfl⟩
  refine W_nil ?_
  refine W_block ?_
  refine W_rangeFunc rfl Tryd.call108 ?_
  intro lp D r hst hpd hps hasg hbody hA
  have hr := loop_ready hst hpd
  show LCalls _ _ _ #[_, _, _] _ _
  refine ((such_iter (b2 := b2_) (b3 := b3_) (bb := bb) (n := Ws.length) (fi := 83) (ca := [.pointer (some ⟨b3, 0, none⟩)]) (Ws0 := Ws) (HB0 := HB) (H := (lp, .obj (.loop r)) :: (D, .obj (.deferred (some []))) :: (b6, .cells 96 1 [.int .u64 ((0 : Nat) : Int)]) :: (b3, .cells 28 1 [.int .u64 ((a : Nat) : Int)]) :: H) (fun k Ws2 Hr => Ws2 = Ws ∧ Hr = (lp, .obj (.loop r)) :: (D, .obj (.deferred (some []))) :: (b6, .cells 96 1 [.int .u64 ((lateM Ws a k : Nat) : Int)]) :: (b3, .cells 28 1 [.int .u64 ((a : Nat) : Int)]) :: H) (fun _ _ => False) (fun _ w => lateB a w) Tryd.call83 hn64 (fun k Ws' Hr hJ => by rw [hJ.1]) (fun k Ws2 HB2 Hr w hk hw hB2 hJ => by obtain ⟨rfl, rfl⟩ := hJ; obtain ⟨HW, HR, hW, h1, h2⟩ := hB2.same hw; exact latec_q (ba := b3) (PureAt.via (H' := HW ++ ((b2_, .cells 59 1 [.pointer (some ⟨bb, 0, none⟩)]) :: (b3_, .cells 152 1 [(Value.func (.func 83) #[] #[.pointer (some ⟨b3, 0, none⟩)])]) :: (HR ++ ((lp, .obj (.loop r)) :: (D, .obj (.deferred (some []))) :: (b6, .cells 96 1 [.int .u64 ((lateM Ws2 a k : Nat) : Int)]) :: (b3, .cells 28 1 [.int .u64 ((a : Nat) : Int)]) :: H)))) (Next_W hT hW (hnow w (List.mem_of_getElem? hw))) ((show HSub _ ((b2_, .cells 59 1 [.pointer (some ⟨bb, 0, none⟩)]) :: (b3_, .cells 152 1 [(Value.func (.func 83) #[] #[.pointer (some ⟨b3, 0, none⟩)])]) :: (HW ++ (HR ++ ((lp, .obj (.loop r)) :: (D, .obj (.deferred (some []))) :: (b6, .cells 96 1 [.int .u64 ((lateM Ws2 a k : Nat) : Int)]) :: (b3, .cells 28 1 [.int .u64 ((a : Nat) : Int)]) :: H)))) from .cons (.here _) (.cons (.here _) (h1 _))).trans zH) ((show HSub (HW ++ ((b2_, .cells 59 1 [.pointer (some ⟨bb, 0, none⟩)]) :: (b3_, .cells 152 1 [(Value.func (.func 83) #[] #[.pointer (some ⟨b3, 0, none⟩)])]) :: (HR ++ ((lp, .obj (.loop r)) :: (D, .obj (.deferred (some []))) :: (b6, .cells 96 1 [.int .u64 ((lateM Ws2 a k : Nat) : Int)]) :: (b3, .cells 28 1 [.int .u64 ((a : Nat) : Int)]) :: H)))) ((b2_, .cells 59 1 [.pointer (some ⟨bb, 0, none⟩)]) :: (b3_, .cells 152 1 [(Value.func (.func 83) #[] #[.pointer (some ⟨b3, 0, none⟩)])]) :: (HW ++ (HR ++ ((lp, .obj (.loop r)) :: (D, .obj (.deferred (some []))) :: (b6, .cells 96 1 [.int .u64 ((lateM Ws2 a k : Nat) : Int)]) :: (b3, .cells 28 1 [.int .u64 ((a : Nat) : Int)]) :: H)))) from zH).trans (.cons (.here _) (.cons (.here _) (h2 _))))) zM) (fun k Ws2 Hr w hk hw hJ hs => by obtain ⟨rfl, h2⟩ := hJ; exact ⟨rfl, by rw [h2, lateM_at hw, if_neg (by rw [hs]; simp)]⟩) ?_ hB ⟨rfl, rfl⟩).hsub zH).mono ?_
  · intro k Ws2 HB2 Hr w hk hw hB2 hJ hs
    obtain ⟨rfl, rfl⟩ := hJ
    have hl3 := lateM_at (a := a) hw
    rw [if_pos hs] at hl3
    have hlt := lateM_lt Ws2 a k
    refine round_intro hst hpd hA hps rfl hasg rfl rfl rfl zT ?_
    refine W_region ?_
    refine W_assign rfl rfl ?_
    refine W_nil ?_
    refine W_begin hst hpd zT hbody ?_
    refine W_block ?_
    refine W_region ?_
    refine W_load (v := .int .u64 ((lateM Ws2 a k : Nat) : Int)) rfl ty96 rfl (Cell.own (b := b6) zM rfl) rfl ?_
    refine W_move rfl rfl ?_
    refine W_buildSlice ty58 ty3 (.cons rfl rfl rfl rfl rfl .nil) rfl rfl rfl rfl rfl rfl rfl (fun b16 => ?_)
    refine W_callq (.cons rfl (.cons rfl .nil)) Tryd.call84 rfl (with_q (l := [(k : Int)]) hlt (show 1 ≤ 4611686018427387904 by decide) (Holds.own (b := b16) zM)) ?_
    rw [← hl3]
    refine W_store (l' := [.int .u64 ((lateM Ws2 a (k + 1) : Nat) : Int)]) rfl rfl ty96 rfl rfl (b := b6) zM rfl rfl zU ?_
    refine W_nil ?_
    refine W_blk ?_
    refine W_endround zT ?_
    rw [hr]
    exact ⟨Ws2, HB2, (lp, .obj (.loop r)) :: (D, .obj (.deferred (some []))) :: (b6, .cells 96 1 [.int .u64 ((lateM Ws2 a (k + 1) : Nat) : Int)]) :: (b3, .cells 28 1 [.int .u64 ((a : Nat) : Int)]) :: H, hB2, zH, .inl ⟨rfl, rfl, rfl⟩⟩
  · intro _ H' hp
    obtain ⟨Ws2, HB2, Hr, hB2, hs, hJS⟩ := hp
    obtain ⟨rfl, rfl⟩ := hJS.resolve_right (fun h => h)
    refine ⟨.ready, none, (b2_, .cells 59 1 [.pointer (some ⟨bb, 0, none⟩)]) :: (b3_, .cells 152 1 [(Value.func (.func 83) #[] #[.pointer (some ⟨b3, 0, none⟩)])]) :: (HB2 ++ ((D, .obj (.deferred (some []))) :: (b6, .cells 96 1 [.int .u64 ((lateM Ws2 a Ws2.length : Nat) : Int)]) :: (b3, .cells 28 1 [.int .u64 ((a : Nat) : Int)]) :: H)), by rw [hr]; exact hs.trans zH, by decide, ?_⟩
    show W _ _ _ _ _ _ _ _ _
    refine W_blk ?_
    refine W_sr ?_
    refine W_load (v := .int .u64 ((lateM Ws2 a Ws2.length : Nat) : Int)) rfl ty96 rfl (Cell.own (b := b6) zM rfl) rfl ?_
    refine W_assign rfl rfl ?_
    refine W_nil ?_
    refine W_ret1m (H2 := HB2 ++ H) Tryd.results42 rfl (.cons zT (.nil _)) zH ?_
    exact ⟨HB2, hB2, rfl, rfl⟩
set_option maxHeartbeats 1000000 in
theorem askc_q {w0 : World} {H : Heap} {b3 b6 k cap : Nat} {l : List Int} {ad : Option Addr} {w : Wl} (h3 : (b3, .cells 58 1 [.slice ad l.length cap]) ∈ H) (h6 : (b6, .cells 96 1 [.int .u64 ((withL 0 l : Nat) : Int)]) ∈ H)  : PureAt Tryd.prog w0 H 79 [.int .i64 (k : Int), w.p, .pointer (some ⟨b3, 0, none⟩), .pointer (some ⟨b6, 0, none⟩)] (.bool (askB l k)) := by
  refine L_enter Tryd.func79 rfl Tryd.ntmps79 rfl rfl ?_
  refine W_sr ?_
  refine W_assign rfl rfl ?_
  refine W_nil ?_
  refine W_sr ?_
  refine W_load (v := .slice ad l.length cap) rfl ty58 rfl (Cell.own h3 rfl) rfl ?_
  refine W_len rfl ty58 rfl rfl ?_
  by_cases hl0 : (l.length : Int) = 0
  · skip
    have hak : askB l k = true := by unfold askB; rw [decide_eq_true (by omega)]; rfl
    refine W_bin rfl rfl b_eql rfl ?_
    rw [decide_eq_true hl0]
    refine W_move rfl rfl ?_
    refine W_gno rfl rfl rfl ?_
    refine W_gno rfl rfl rfl ?_
    refine W_gno rfl rfl rfl ?_
    first | refine W_pickt rfl rfl rfl ?_ | refine W_pickf rfl rfl rfl ?_
    refine W_assign rfl rfl ?_
    refine W_nil ?_
    refine W_ret1m (H2 := H) Tryd.results79 rfl (.nil _) zH ?_
    exact ⟨by rw [hak], rfl⟩
  · skip
    have hak : askB l k = hasM (withL 0 l) (k : Int) := by unfold askB; rw [decide_eq_false (by omega)]; rfl
    refine W_bin rfl rfl b_eql rfl ?_
    rw [decide_eq_false hl0]
    refine W_move rfl rfl ?_
    refine W_gyes rfl rfl ?_
    refine W_load (v := .int .u64 ((withL 0 l : Nat) : Int)) rfl ty96 rfl (Cell.own h6 rfl) rfl ?_
    refine W_gyes rfl rfl ?_
    refine W_move rfl rfl ?_
    refine W_gyes rfl rfl ?_
    refine W_callp (.cons rfl (.cons rfl .nil)) Tryd.call57 rfl (T := fun _ => True) trivial (has_pure (m := withL 0 l) (i := (k : Int)) (withL_ok _ (by decide))) ?_
    first | refine W_pickt rfl rfl rfl ?_ | refine W_pickf rfl rfl rfl ?_
    refine W_assign rfl rfl ?_
    refine W_nil ?_
    refine W_ret1m (H2 := H) Tryd.results79 rfl (.nil _) zH ?_
    exact ⟨by rw [hak], rfl⟩
theorem nx_cases (x y : Option Nat) : y = none ∨ (∃ t, y = some t ∧ x = none) ∨ (∃ t a, y = some t ∧ x = some a ∧ t < a) ∨ (∃ t a, y = some t ∧ x = some a ∧ ¬ t < a) := by
  cases y with
  | none => exact .inl rfl
  | some t => cases x with
    | none => exact .inr (.inl ⟨t, rfl, rfl⟩)
    | some a => by_cases h : t < a; exact .inr (.inr (.inl ⟨t, a, rfl, rfl, h⟩)); exact .inr (.inr (.inr ⟨t, a, rfl, rfl, h⟩))
set_option maxHeartbeats 4000000 in
theorem NextB_L {w0 : World} {H : Heap} {HB : Heap} {bb : Nat} {Ws : List Wl} (hB : BankH bb Ws HB) (hn64 : Ws.length ≤ 64) (hnow : ∀ w ∈ Ws, w.now ≤ 18446744073709551615) {l : List Int} {ad : Option Addr} {cap : Nat} (hl : l.length ≤ 4611686018427387904) (hrow : Holds w0 H ad (l.map (Value.int .i64))) (hT : Tab w0) : LCalls Tryd.prog w0 40 #[.pointer (some ⟨bb, 0, none⟩), .slice ad l.length cap] (HB ++ H) (fun v H' => ∃ HB', BankH bb Ws HB' ∧ v = .tuple #[.int .u64 (((nxK (askB l) Ws Ws.length).getD 0 : Nat) : Int), .bool (nxK (askB l) Ws Ws.length).isSome] ∧ H' = HB' ++ H) := by
  refine L_enter (l := [.pointer (some ⟨bb, 0, none⟩), .slice ad l.length cap]) Tryd.func40 rfl Tryd.ntmps40 rfl rfl ?_
  refine W_sr ?_
  refine W_box (l := [.slice ad l.length cap]) rfl rfl rfl (fun b3 => ?_)
  refine W_assign rfl rfl ?_
  refine W_assign rfl rfl ?_
  refine W_nil ?_
  refine W_sr ?_
  refine W_load (v := .slice ad l.length cap) rfl ty58 rfl (Cell.own (b := b3) zM rfl) rfl ?_
  refine W_callq (.cons rfl .nil) Tryd.call78 rfl (maskOf_q hl (hrow.up zH)) ?_
  refine W_alloc (l := [.int .u64 0]) ty96 rfl rfl (fun b6 => ?_)
  refine W_store (l' := [.int .u64 ((withL 0 l : Nat) : Int)]) rfl rfl ty96 rfl rfl (b := b6) zM rfl rfl zU ?_
  refine W_nil ?_
  refine W_sr ?_
  refine W_alloc (l := [.int .u64 0]) ty28 rfl rfl (fun b7 => ?_)
  refine W_alloc (l := [.bool false]) ty4 rfl rfl (fun b8 => ?_)
  refine W_store (l' := [.int .u64 0]) rfl rfl ty28 rfl rfl (b := b7) zM rfl rfl zU ?_
  refine W_store (l' := [.bool false]) rfl rfl ty4 rfl rfl (b := b8) zM rfl rfl zU ?_
  refine W_nil ?_
  refine W_seq ?_
  refine W_sr ?_
  refine W_move rfl rfl ?_
  refine W_makeFunc .nil (.cons rfl (.cons rfl .nil)) rfl ?_
  refine W_call (.cons rfl (.cons rfl .nil)) Tryd.call69 rfl (such_L (b := .pointer (some ⟨bb, 0, none⟩)) (f := (Value.func (.func 79) #[] #[.pointer (some ⟨b3, 0, none⟩), .pointer (some ⟨b6, 0, none⟩)])) rfl rfl) ?_
  rintro v H' ⟨b2_, b3_, rfl, rfl⟩
  refine W_nil ?_
  refine W_block ?_
  refine W_rangeFunc rfl Tryd.call108 ?_
  intro lp D r hst hpd hps hasg hbody hA
  have hr := loop_ready hst hpd
  show LCalls _ _ _ #[_, _, _] _ _
  refine ((such_iter (b2 := b2_) (b3 := b3_) (bb := bb) (n := Ws.length) (fi := 79) (ca := [.pointer (some ⟨b3, 0, none⟩), .pointer (some ⟨b6, 0, none⟩)]) (Ws0 := Ws) (HB0 := HB) (H := (lp, .obj (.loop r)) :: (D, .obj (.deferred (some []))) :: (b8, .cells 4 1 [.bool false]) :: (b7, .cells 28 1 [.int .u64 0]) :: (b6, .cells 96 1 [.int .u64 ((withL 0 l : Nat) : Int)]) :: (b3, .cells 58 1 [.slice ad l.length cap]) :: H) (fun k Ws2 Hr => Ws2 = Ws ∧ Hr = (lp, .obj (.loop r)) :: (D, .obj (.deferred (some []))) :: (b8, .cells 4 1 [.bool (nxK (askB l) Ws k).isSome]) :: (b7, .cells 28 1 [.int .u64 (((nxK (askB l) Ws k).getD 0 : Nat) : Int)]) :: (b6, .cells 96 1 [.int .u64 ((withL 0 l : Nat) : Int)]) :: (b3, .cells 58 1 [.slice ad l.length cap]) :: H) (fun _ _ => False) (fun k _ => askB l k) Tryd.call79 hn64 (fun k Ws' Hr hJ => by rw [hJ.1]) (fun k Ws2 HB2 Hr w hk hw hB2 hJ => by obtain ⟨rfl, rfl⟩ := hJ; exact askc_q (b3 := b3) (b6 := b6) zM zM) (fun k Ws2 Hr w hk hw hJ hs => by obtain ⟨rfl, h2⟩ := hJ; exact ⟨rfl, by rw [h2, nxK_at hw, if_neg (by rw [hs]; simp)]⟩) ?_ hB ⟨rfl, rfl⟩).hsub zH).mono ?_
  · intro k Ws2 HB2 Hr w hk hw hB2 hJ hs
    obtain ⟨rfl, rfl⟩ := hJ
    have hl3 := nxK_at (sel := askB l) hw
    rw [if_pos hs] at hl3
    obtain ⟨HW, HR, hW, h1, h2⟩ := hB2.same hw
    obtain ⟨x, hx⟩ : ∃ x, x = (nxK (askB l) Ws2 k) := ⟨_, rfl⟩
    rw [← hx] at hl3 ⊢
    refine round_intro hst hpd hA hps rfl hasg rfl rfl rfl zT ?_
    refine W_region ?_
    refine W_assign rfl rfl ?_
    refine W_nil ?_
    refine W_begin hst hpd zT hbody ?_
    refine W_block ?_
    refine W_sr ?_
    refine W_move rfl rfl ?_
    refine W_hsub (H' := HW ++ (HR ++ ((lp, .obj (.loop (Loop.at r .busy none))) :: (b2_, .cells 59 1 [.pointer (some ⟨bb, 0, none⟩)]) :: (b3_, .cells 152 1 [(Value.func (.func 79) #[] #[.pointer (some ⟨b3, 0, none⟩), .pointer (some ⟨b6, 0, none⟩)])]) :: (D, .obj (.deferred (some []))) :: (b8, .cells 4 1 [.bool x.isSome]) :: (b7, .cells 28 1 [.int .u64 ((x.getD 0 : Nat) : Int)]) :: (b6, .cells 96 1 [.int .u64 ((withL 0 l : Nat) : Int)]) :: (b3, .cells 58 1 [.slice ad l.length cap]) :: H))) ((show HSub _ (HB2 ++ ((lp, .obj (.loop (Loop.at r .busy none))) :: (b2_, .cells 59 1 [.pointer (some ⟨bb, 0, none⟩)]) :: (b3_, .cells 152 1 [(Value.func (.func 79) #[] #[.pointer (some ⟨b3, 0, none⟩), .pointer (some ⟨b6, 0, none⟩)])]) :: (D, .obj (.deferred (some []))) :: (b8, .cells 4 1 [.bool x.isSome]) :: (b7, .cells 28 1 [.int .u64 ((x.getD 0 : Nat) : Int)]) :: (b6, .cells 96 1 [.int .u64 ((withL 0 l : Nat) : Int)]) :: (b3, .cells 58 1 [.slice ad l.length cap]) :: H)) from zH).trans (h1 _)) ?_
    refine W_call (.cons rfl .nil) Tryd.call80 rfl (Next_W hT hW (hnow w (List.mem_of_getElem? hw))) ?_
    rintro v H' ⟨rfl, rfl⟩
    refine W_hsub (h2 _) ?_
    rcases nx_cases x (leastT w.L) with h0 | ⟨t, h0, hx0⟩ | ⟨t, a0, h0, hx0, hlt⟩ | ⟨t, a0, h0, hx0, hge⟩
    · skip
      rw [h0] at hl3 ⊢
      replace hl3 : nxK (askB l) Ws2 (k + 1) = x := hl3
      refine W_move rfl rfl ?_
      refine W_extract rfl rfl rfl ?_
      refine W_extract rfl rfl rfl ?_
      refine W_assign rfl rfl ?_
      refine W_assign rfl rfl ?_
      refine W_nil ?_
      refine W_sr ?_
      refine W_move rfl rfl ?_
      refine W_move rfl rfl ?_
      refine W_gno rfl rfl rfl ?_
      refine W_gno rfl rfl rfl ?_
      refine W_gno rfl rfl rfl ?_
      refine W_gnou rfl rfl rfl ?_
      refine W_gnou rfl rfl rfl ?_
      refine W_gnou rfl rfl rfl ?_
      refine W_gno rfl rfl rfl ?_
      first | refine W_pickt rfl rfl rfl ?_ | refine W_pickf rfl rfl rfl ?_
      refine W_nil ?_
      refine W_condF rfl rfl ?_
      refine W_skip ?_
      refine W_blk ?_
      refine W_endround zT ?_
      rw [hr]
      exact ⟨Ws2, HB2, (lp, .obj (.loop r)) :: (D, .obj (.deferred (some []))) :: (b8, .cells 4 1 [.bool x.isSome]) :: (b7, .cells 28 1 [.int .u64 ((x.getD 0 : Nat) : Int)]) :: (b6, .cells 96 1 [.int .u64 ((withL 0 l : Nat) : Int)]) :: (b3, .cells 58 1 [.slice ad l.length cap]) :: H, hB2, zH, .inl ⟨rfl, rfl, by rw [hl3]⟩⟩
    · skip
      subst hx0
      rw [h0] at hl3 ⊢
      replace hl3 : nxK (askB l) Ws2 (k + 1) = some t := hl3
      rw [show (some t : Option Nat).getD 0 = t from rfl]
      refine W_move rfl rfl ?_
      refine W_extract rfl rfl rfl ?_
      refine W_extract rfl rfl rfl ?_
      refine W_assign rfl rfl ?_
      refine W_assign rfl rfl ?_
      refine W_nil ?_
      refine W_sr ?_
      refine W_move rfl rfl ?_
      refine W_move rfl rfl ?_
      refine W_gyes rfl rfl ?_
      refine W_load (v := .bool false) rfl ty4 rfl (Cell.own (b := b8) zM rfl) rfl ?_
      refine W_gyes rfl rfl ?_
      refine W_not rfl rfl ?_
      refine W_gyes rfl rfl ?_
      refine W_move rfl rfl ?_
      refine W_gno rfl rfl rfl ?_
      refine W_gno rfl rfl rfl ?_
      refine W_gno rfl rfl rfl ?_
      refine W_gyes rfl rfl ?_
      first | refine W_pickt rfl rfl rfl ?_ | refine W_pickf rfl rfl rfl ?_
      first | refine W_pickt rfl rfl rfl ?_ | refine W_pickf rfl rfl rfl ?_
      refine W_nil ?_
      refine W_condT rfl rfl ?_
      refine W_region ?_
      refine W_move rfl rfl ?_
      refine W_store (l' := [.int .u64 ((t : Nat) : Int)]) rfl rfl ty28 rfl rfl (b := b7) zM rfl rfl zU ?_
      refine W_store (l' := [.bool true]) rfl rfl ty4 rfl rfl (b := b8) zM rfl rfl zU ?_
      refine W_nil ?_
      refine W_blk ?_
      refine W_endround zT ?_
      rw [hr]
      exact ⟨Ws2, HB2, (lp, .obj (.loop r)) :: (D, .obj (.deferred (some []))) :: (b8, .cells 4 1 [.bool (some t : Option Nat).isSome]) :: (b7, .cells 28 1 [.int .u64 (((some t : Option Nat).getD 0 : Nat) : Int)]) :: (b6, .cells 96 1 [.int .u64 ((withL 0 l : Nat) : Int)]) :: (b3, .cells 58 1 [.slice ad l.length cap]) :: H, hB2, zH, .inl ⟨rfl, rfl, by rw [hl3]⟩⟩
    · skip
      subst hx0
      rw [h0] at hl3 ⊢
      replace hl3 : nxK (askB l) Ws2 (k + 1) = some t := hl3.trans (by unfold minO; dsimp only; rw [if_pos hlt])
      rw [show (some t : Option Nat).getD 0 = t from rfl]
      refine W_move rfl rfl ?_
      refine W_extract rfl rfl rfl ?_
      refine W_extract rfl rfl rfl ?_
      refine W_assign rfl rfl ?_
      refine W_assign rfl rfl ?_
      refine W_nil ?_
      refine W_sr ?_
      refine W_move rfl rfl ?_
      refine W_move rfl rfl ?_
      refine W_gyes rfl rfl ?_
      refine W_load (v := .bool true) rfl ty4 rfl (Cell.own (b := b8) zM rfl) rfl ?_
      refine W_gyes rfl rfl ?_
      refine W_not rfl rfl ?_
      refine W_gyes rfl rfl ?_
      refine W_move rfl rfl ?_
      refine W_gyes rfl rfl ?_
      refine W_move rfl rfl ?_
      refine W_gyes rfl rfl ?_
      refine W_load (v := .int .u64 ((a0 : Nat) : Int)) rfl ty28 rfl (Cell.own (b := b7) zM rfl) rfl ?_
      refine W_gyes rfl rfl ?_
      refine W_bin rfl rfl b_lss rfl ?_
      rw [decide_eq_true (by omega)]
      refine W_gyes rfl rfl ?_
      first | refine W_pickt rfl rfl rfl ?_ | refine W_pickf rfl rfl rfl ?_
      first | refine W_pickt rfl rfl rfl ?_ | refine W_pickf rfl rfl rfl ?_
      refine W_nil ?_
      refine W_condT rfl rfl ?_
      refine W_region ?_
      refine W_move rfl rfl ?_
      refine W_store (l' := [.int .u64 ((t : Nat) : Int)]) rfl rfl ty28 rfl rfl (b := b7) zM rfl rfl zU ?_
      refine W_store (l' := [.bool true]) rfl rfl ty4 rfl rfl (b := b8) zM rfl rfl zU ?_
      refine W_nil ?_
      refine W_blk ?_
      refine W_endround zT ?_
      rw [hr]
      exact ⟨Ws2, HB2, (lp, .obj (.loop r)) :: (D, .obj (.deferred (some []))) :: (b8, .cells 4 1 [.bool (some t : Option Nat).isSome]) :: (b7, .cells 28 1 [.int .u64 (((some t : Option Nat).getD 0 : Nat) : Int)]) :: (b6, .cells 96 1 [.int .u64 ((withL 0 l : Nat) : Int)]) :: (b3, .cells 58 1 [.slice ad l.length cap]) :: H, hB2, zH, .inl ⟨rfl, rfl, by rw [hl3]⟩⟩
    · skip
      subst hx0
      rw [h0] at hl3 ⊢
      replace hl3 : nxK (askB l) Ws2 (k + 1) = some a0 := hl3.trans (by unfold minO; dsimp only; rw [if_neg hge])
      rw [show (some t : Option Nat).getD 0 = t from rfl]
      refine W_move rfl rfl ?_
      refine W_extract rfl rfl rfl ?_
      refine W_extract rfl rfl rfl ?_
      refine W_assign rfl rfl ?_
      refine W_assign rfl rfl ?_
      refine W_nil ?_
      refine W_sr ?_
      refine W_move rfl rfl ?_
      refine W_move rfl rfl ?_
      refine W_gyes rfl rfl ?_
      refine W_load (v := .bool true) rfl ty4 rfl (Cell.own (b := b8) zM rfl) rfl ?_
      refine W_gyes rfl rfl ?_
      refine W_not rfl rfl ?_
      refine W_gyes rfl rfl ?_
      refine W_move rfl rfl ?_
      refine W_gyes rfl rfl ?_
      refine W_move rfl rfl ?_
      refine W_gyes rfl rfl ?_
      refine W_load (v := .int .u64 ((a0 : Nat) : Int)) rfl ty28 rfl (Cell.own (b := b7) zM rfl) rfl ?_
      refine W_gyes rfl rfl ?_
      refine W_bin rfl rfl b_lss rfl ?_
      rw [decide_eq_false (by omega)]
      refine W_gyes rfl rfl ?_
      first | refine W_pickt rfl rfl rfl ?_ | refine W_pickf rfl rfl rfl ?_
      first | refine W_pickt rfl rfl rfl ?_ | refine W_pickf rfl rfl rfl ?_
      refine W_nil ?_
      refine W_condF rfl rfl ?_
      refine W_skip ?_
      refine W_blk ?_
      refine W_endround zT ?_
      rw [hr]
      exact ⟨Ws2, HB2, (lp, .obj (.loop r)) :: (D, .obj (.deferred (some []))) :: (b8, .cells 4 1 [.bool (some a0 : Option Nat).isSome]) :: (b7, .cells 28 1 [.int .u64 (((some a0 : Option Nat).getD 0 : Nat) : Int)]) :: (b6, .cells 96 1 [.int .u64 ((withL 0 l : Nat) : Int)]) :: (b3, .cells 58 1 [.slice ad l.length cap]) :: H, hB2, zH, .inl ⟨rfl, rfl, by rw [hl3]⟩⟩
  · intro _ H' hp
    obtain ⟨Ws2, HB2, Hr, hB2, hs, hJS⟩ := hp
    obtain ⟨rfl, rfl⟩ := hJS.resolve_right (fun h => h)
    refine ⟨.ready, none, (b2_, .cells 59 1 [.pointer (some ⟨bb, 0, none⟩)]) :: (b3_, .cells 152 1 [(Value.func (.func 79) #[] #[.pointer (some ⟨b3, 0, none⟩), .pointer (some ⟨b6, 0, none⟩)])]) :: (HB2 ++ ((D, .obj (.deferred (some []))) :: (b8, .cells 4 1 [.bool (nxK (askB l) Ws2 Ws2.length).isSome]) :: (b7, .cells 28 1 [.int .u64 (((nxK (askB l) Ws2 Ws2.length).getD 0 : Nat) : Int)]) :: (b6, .cells 96 1 [.int .u64 ((withL 0 l : Nat) : Int)]) :: (b3, .cells 58 1 [.slice ad l.length cap]) :: H)), by rw [hr]; exact hs.trans zH, by decide, ?_⟩
    show W _ _ _ _ _ _ _ _ _
    refine W_blk ?_
    refine W_quietsr (by kernel_rfl) (by decide +kernel) ?_
    refine WQ_x (X_load (v := .int .u64 (((nxK (askB l) Ws2 Ws2.length).getD 0 : Nat) : Int)) rfl ty28 rfl (Cell.own (b := b7) zM rfl)) rfl ?_
    refine WQ_x (X_load (v := .bool (nxK (askB l) Ws2 Ws2.length).isSome) rfl ty4 rfl (Cell.own (b := b8) zM rfl)) rfl ?_
    refine WQ_x (X_assign rfl) rfl ?_
    refine WQ_x (X_assign rfl) rfl ?_
    refine WQ_nil ?_
    refine W_ret2m (H2 := HB2 ++ H) Tryd.results40 rfl rfl (.cons zT (.nil _)) zH ?_
    exact ⟨HB2, hB2, rfl, rfl⟩
end Go.Proofs.YtkcaakkaioingaaDoor
namespace Go.Proofs.YtkcaakkaioingaaDoor
open Go Go.Sl
attribute [local irreducible] W
theorem PutIs.ok_of {Ws Ws' : List Wl} {cpu id e : Int} {a k : Nat} {s : Spot} {w : Wl} (h : PutIs Ws cpu id a Ws' s e) (hc : cpu = (k : Int)) (hk : Ws[k]? = some w) (hf : findK Ws id = none) (hr : 0 ≤ id ∧ id < 256) (hm : w.now < 18446744073709551615) : Ws' = Ws.set k ⟨w.bw, w.now, w.L ++ [tmOf w.now a w.turn id], w.turn + 1⟩ ∧ s = (placeT w.now a).1 ∧ e = 0 := by
  have hw : wlAt Ws cpu = some w := by unfold wlAt; rw [if_pos (by omega), show cpu.toNat = k by omega, hk]
  cases h with
  | cpu h => rw [hw] at h; cases h
  | twice h h2 => rw [hf] at h2; cases h2
  | range h _ h2 => exact absurd hr h2
  | late h _ _ h2 =>
    rw [hw] at h
    obtain rfl := Option.some.inj h
    omega
  | @ok k2 w2 hc2 hk2 _ _ _ =>
    obtain rfl : k = k2 := by omega
    obtain rfl : w = w2 := Option.some.inj (hk.symm.trans hk2)
    exact ⟨rfl, rfl, rfl⟩
theorem PutIs.twice_of {Ws Ws' : List Wl} {cpu id e : Int} {a j : Nat} {s : Spot} {w : Wl} (h : PutIs Ws cpu id a Ws' s e) (hw : wlAt Ws cpu = some w) (hf : findK Ws id = some j) : Ws' = Ws ∧ s = zSpot ∧ e = 5 := by
  cases h with
  | cpu h => rw [hw] at h; cases h
  | twice h h2 => exact ⟨rfl, rfl, rfl⟩
  | range h h2 _ => rw [hf] at h2; cases h2
  | late h h2 _ _ => rw [hf] at h2; cases h2
  | ok _ _ h2 _ _ => rw [hf] at h2; cases h2
theorem two_fresh {Ws : List Wl} (hl : Ws.length = 2) (hf : ∀ w ∈ Ws, FreshW 0 w) : ∃ p q, Ws = [⟨p, 0, [], 0⟩, ⟨q, 0, [], 0⟩] := by
  match Ws, hl with
  | [u, v], _ =>
    obtain ⟨h1, h2, h3⟩ := hf u List.mem_cons_self
    obtain ⟨g1, g2, g3⟩ := hf v (List.mem_cons_of_mem _ List.mem_cons_self)
    cases u; cases v
    dsimp only at h1 h2 h3 g1 g2 g3
    subst h1 h2 h3 g1 g2 g3
    exact ⟨_, _, rfl⟩
theorem CatchIs.of_at {Ws Ws' : List Wl} {cpu : Int} {a k : Nat} {O : List Tm} {w : Wl} (h : CatchIs Ws cpu a Ws' O) (hc : cpu = (k : Int)) (hk : Ws[k]? = some w) : ∃ Li, Gone w.now (max w.now a) w.L Li O ∧ Ws' = Ws.set k ⟨w.bw, max w.now a, Li, w.turn⟩ := by
  rcases h with ⟨h, _, _⟩ | ⟨k2, w2, Li, hc2, hk2, hG, e⟩
  · exfalso
    unfold wlAt at h
    rw [if_pos (by omega), show cpu.toNat = k by omega, hk] at h; cases h
  · obtain rfl : k = k2 := by omega
    obtain rfl : w = w2 := Option.some.inj (hk.symm.trans hk2)
    exact ⟨Li, hG, e⟩
set_option maxHeartbeats 4000000 in
theorem knownB_pure  : Pure Tryd.prog (Tab) 43 [] (.bool true) := by
  intro w0 H hT
  refine L_enter Tryd.func43 rfl Tryd.ntmps43 rfl rfl ?_
  refine W_sr ?_
  refine W_assign rfl rfl ?_
  refine W_nil ?_
  refine W_sr ?_
  refine W_call (.cons rfl (.cons rfl .nil)) Tryd.call24 rfl (NewB_L (n := 2) (now := 0) (by decide)) ?_
  rintro v H' ⟨bb, Ws, HB, rfl, hB, hWl, hfr, rfl⟩
  obtain ⟨p, q, rfl⟩ := two_fresh hWl hfr
  refine W_move rfl rfl ?_
  refine W_extract rfl rfl rfl ?_
  refine W_extract rfl rfl rfl ?_
  refine W_assign rfl rfl ?_
  refine W_assign rfl rfl ?_
  refine W_nil ?_
  refine W_seq ?_
  refine W_sr ?_
  refine W_move rfl rfl ?_
  refine W_bin rfl rfl b_neq rfl ?_
  refine W_nil ?_
  refine W_condF rfl rfl ?_
  refine W_skip ?_
  refine W_sr ?_
  refine W_move rfl rfl ?_
  refine W_call (.cons rfl (.cons rfl (.cons rfl (.cons rfl .nil)))) Tryd.call28 rfl ((PutB_L (cpu := 1) (id := 7) (a := 5) hB (by simp) (by decide) (by intro w hw; simp only [List.mem_cons, List.not_mem_nil, or_false] at hw; rcases hw with rfl | rfl <;> simp) (by intro w hw; simp only [List.mem_cons, List.not_mem_nil, or_false] at hw; rcases hw with rfl | rfl <;> simp) (H := H)).hsub zH) ?_
  rintro v H' ⟨Ws1, HB1, s1, e1, hB1, rfl, hP1, rfl⟩
  obtain ⟨hWs1, hs1, rfl⟩ := hP1.ok_of (k := 1) rfl rfl rfl (by decide) (by simp)
  obtain rfl : s1 = (⟨0, 5, 5, 5⟩ : Spot) := hs1.trans (show (placeT 0 5).1 = (⟨0, 5, 5, 5⟩ : Spot) from by decide +kernel)
  have hWs2 : Ws1 = [(⟨p, 0, [], 0⟩ : Wl), ⟨q, 0, [(⟨7, (⟨0, 5, 5, 5⟩ : Spot), 1⟩ : Tm)], 1⟩] := hWs1.trans (by show [(⟨p, 0, [], 0⟩ : Wl), (⟨q, 0, [⟨7, (placeT 0 5).1, 1⟩], 1⟩ : Wl)] = _; rw [show (placeT 0 5).1 = (⟨0, 5, 5, 5⟩ : Spot) from by decide +kernel])
  subst hWs2
  refine W_move rfl rfl ?_
  refine W_extract rfl rfl rfl ?_
  refine W_extract rfl rfl rfl ?_
  refine W_alloc (l := zSpot.v) ty72 rfl rfl (fun b3 => ?_)
  refine W_storeA (l' := (⟨0, 5, 5, 5⟩ : Spot).v) rfl rfl ty72 rfl rfl (b := b3) zM (by exact Nat.le_refl 4) rfl zU ?_
  refine W_assign rfl rfl ?_
  refine W_nil ?_
  refine W_sr ?_
  refine W_move rfl rfl ?_
  refine W_call (.cons rfl (.cons rfl (.cons rfl (.cons rfl .nil)))) Tryd.call28 rfl ((PutB_L (cpu := 0) (id := 7) (a := 9) hB1 (by simp) (by decide) (by intro w hw; simp only [List.mem_cons, List.not_mem_nil, or_false] at hw; rcases hw with rfl | rfl <;> simp) (by intro w hw; simp only [List.mem_cons, List.not_mem_nil, or_false] at hw; rcases hw with rfl | rfl <;> simp) (H := (b3, .cells 72 4 (⟨0, 5, 5, 5⟩ : Spot).v) :: H)).hsub zH) ?_
  rintro v H' ⟨Ws2, HB2, s2, e2, hB2, rfl, hP2, rfl⟩
  obtain ⟨rfl, rfl, rfl⟩ := hP2.twice_of (w := (⟨p, 0, [], 0⟩ : Wl)) (j := 1) rfl rfl
  refine W_move rfl rfl ?_
  refine W_extract rfl rfl rfl ?_
  refine W_extract rfl rfl rfl ?_
  refine W_alloc (l := zSpot.v) ty72 rfl rfl (fun b5 => ?_)
  refine W_storeA (l' := zSpot.v) rfl rfl ty72 rfl rfl (b := b5) zM (by exact Nat.le_refl 4) rfl zU ?_
  refine W_assign rfl rfl ?_
  refine W_nil ?_
  refine W_seq ?_
  refine W_sr ?_
  refine W_move rfl rfl ?_
  refine W_bin rfl rfl b_neq rfl ?_
  refine W_move rfl rfl ?_
  refine W_gyes rfl rfl ?_
  refine W_move rfl rfl ?_
  refine W_gyes rfl rfl ?_
  refine W_bin rfl rfl b_neq rfl ?_
  first | refine W_pickt rfl rfl rfl ?_ | refine W_pickf rfl rfl rfl ?_
  refine W_move rfl rfl ?_
  refine W_gyes rfl rfl ?_
  refine W_move rfl rfl ?_
  refine W_gyes rfl rfl ?_
  refine W_call (.cons rfl (.cons rfl (.cons rfl .nil))) Tryd.call34 rfl ((CatchB_L (cpu := 0) (a := 10) hB2 (by decide) (by intro w hw t ht; simp only [List.mem_cons, List.not_mem_nil, or_false] at hw; rcases hw with rfl | rfl <;> (first | (cases ht; done) | (simp only [List.mem_cons, List.not_mem_nil, or_false] at ht; subst ht; simp))) hT (H := (b5, .cells 72 4 zSpot.v) :: (b3, .cells 72 4 (⟨0, 5, 5, 5⟩ : Spot).v) :: H)).hsub zH) ?_
  rintro v H' ⟨Ws3, HB3, O3, XO3, hB3, hO3, hC3, rfl⟩
  obtain ⟨Li3, hG3, rfl⟩ := hC3.of_at (k := 0) rfl rfl
  replace hG3 : Gone 0 10 [] Li3 O3 := hG3
  obtain rfl : O3 = [] := hG3.is (by decide) (by decide)
  obtain rfl : Li3 = [] := hG3.left
  replace hB3 : BankH bb [⟨p, 10, [], 0⟩, ⟨q, 0, [(⟨7, (⟨0, 5, 5, 5⟩ : Spot), 1⟩ : Tm)], 1⟩] HB3 := hB3
  obtain ⟨ad3, cap3, rfl, _, _⟩ := hO3.shape
  refine W_gyes rfl rfl ?_
  refine W_len rfl ty58 rfl rfl ?_
  refine W_gyes rfl rfl ?_
  refine W_bin rfl rfl b_neq rfl ?_
  first | refine W_pickt rfl rfl rfl ?_ | refine W_pickf rfl rfl rfl ?_
  refine W_move rfl rfl ?_
  refine W_gyes rfl rfl ?_
  refine W_move rfl rfl ?_
  refine W_gyes rfl rfl ?_
  refine W_call (.cons rfl (.cons rfl .nil)) Tryd.call42 rfl ((LateB_L (a := 10) hB3 (by simp) (by intro w hw; simp only [List.mem_cons, List.not_mem_nil, or_false] at hw; rcases hw with rfl | rfl <;> simp) hT (H := XO3 ++ ((b5, .cells 72 4 zSpot.v) :: (b3, .cells 72 4 (⟨0, 5, 5, 5⟩ : Spot).v) :: H))).hsub zH) ?_
  rintro v H' ⟨HB4, hB4, rfl, rfl⟩
  rw [show lateM [⟨p, 10, [], 0⟩, ⟨q, 0, [(⟨7, (⟨0, 5, 5, 5⟩ : Spot), 1⟩ : Tm)], 1⟩] 10 ([⟨p, 10, [], 0⟩, ⟨q, 0, [(⟨7, (⟨0, 5, 5, 5⟩ : Spot), 1⟩ : Tm)], 1⟩] : List Wl).length = 2 from by kernel_rfl]
  refine W_gyes rfl rfl ?_
  refine W_bin rfl rfl b_neq rfl ?_
  first | refine W_pickt rfl rfl rfl ?_ | refine W_pickf rfl rfl rfl ?_
  refine W_nil ?_
  refine W_condF rfl rfl ?_
  refine W_skip ?_
  refine W_sr ?_
  refine W_move rfl rfl ?_
  refine W_call (.cons rfl (.cons rfl (.cons rfl .nil))) Tryd.call34 rfl ((CatchB_L (cpu := 1) (a := 10) hB4 (by decide) (by intro w hw t ht; simp only [List.mem_cons, List.not_mem_nil, or_false] at hw; rcases hw with rfl | rfl <;> (first | (cases ht; done) | (simp only [List.mem_cons, List.not_mem_nil, or_false] at ht; subst ht; simp))) hT (H := XO3 ++ ((b5, .cells 72 4 zSpot.v) :: (b3, .cells 72 4 (⟨0, 5, 5, 5⟩ : Spot).v) :: H))).hsub zH) ?_
  rintro v H' ⟨Ws5, HB5, O5, XO5, hB5, hO5, hC5, rfl⟩
  obtain ⟨Li5, hG5, rfl⟩ := hC5.of_at (k := 1) rfl rfl
  replace hG5 : Gone 0 10 [(⟨7, (⟨0, 5, 5, 5⟩ : Spot), 1⟩ : Tm)] Li5 O5 := hG5
  obtain rfl : O5 = [(⟨7, (⟨0, 5, 5, 5⟩ : Spot), 1⟩ : Tm)] := hG5.is (by decide) (by decide)
  obtain ⟨ad5, cap5, rfl, _, _⟩ := hO5.shape
  refine W_buildSlice (l := [.int .i64 7]) ty58 ty3 (.cons rfl rfl rfl rfl rfl .nil) rfl rfl rfl rfl rfl rfl rfl (fun b42 => ?_)
  refine W_callq (.cons rfl (.cons rfl .nil)) Tryd.call33 rfl (same_q (l := [7]) (r := [7]) (OwnS.holds hO5 (fun p hp => (by repeat (first | exact List.mem_append_left _ hp | exact List.mem_cons_self | apply List.mem_cons_of_mem | apply List.mem_append_right)))) (Holds.own (b := b42) zM) (by decide)) ?_
  refine W_assign rfl rfl ?_
  refine W_nil ?_
  refine W_ret1m (H2 := H) Tryd.results43 rfl (.nil _) zH ?_
  exact ⟨rfl, rfl⟩
end Go.Proofs.YtkcaakkaioingaaDoor
namespace Go.Proofs.YtkcaakkaioingaaDoor
open Go Go.Sl
attribute [local irreducible] W
def Wl.nl (w : Wl) : Nat × List Tm := (w.now, w.L)
abbrev stW (Ws : List Wl) : St := Ws.map Wl.nl
theorem findS_stW (Ws : List Wl) (id : Int) : findS (stW Ws) id = findK Ws id := by
  unfold findS findK
  rw [List.findIdx?_map]; rfl
def turnOf (Ws : List Wl) (cpu : Int) : Nat := match wlAt Ws cpu with
  | some w => w.turn
  | none => 0
theorem wlAt_none {Ws : List Wl} {cpu : Int} (h : wlAt Ws cpu = none) : cpu < 0 ∨ (Ws.length : Int) ≤ cpu := by
  rcases cpu_ways Ws cpu with ⟨h1, _⟩ | ⟨_, h1, _⟩ | ⟨h0, h1, h2⟩
  · exact .inl h1
  · exact .inr h1
  · rw [h2, List.getElem?_eq_none_iff] at h; omega
theorem PutIs.fn {Ws Ws' : List Wl} {cpu id e : Int} {a : Nat} {s : Spot} (h : PutIs Ws cpu id a Ws' s e) (hr : ∀ w ∈ Ws, ∀ t ∈ w.L, 0 ≤ t.id ∧ t.id < 256) : putS (stW Ws) (turnOf Ws cpu) cpu id a = (stW Ws', s, e) := by
  have hl : (stW Ws).length = Ws.length := List.length_map _
  cases h with
  | cpu h => exact if_pos (by rw [hl]; have := wlAt_none h; omega)
  | @twice w k h hf =>
    obtain ⟨c, rfl, hk⟩ := wlAt_at h
    have hc := (List.getElem?_eq_some_iff.1 hk).1
    obtain ⟨u, hu, hh⟩ := findK_at hf
    obtain ⟨t, ht, rfl⟩ := List.mem_map.1 (heldB_iff.1 hh)
    have := hr u (List.mem_of_getElem? hu) t ht
    unfold putS
    rw [if_neg (by rw [hl]; omega), if_pos (by rw [findS_stW, hf]; rfl)]
  | range h hf hn => exact if_pos (by omega)
  | @late w h hf hi hm =>
    obtain ⟨c, rfl, hk⟩ := wlAt_at h
    have hc := (List.getElem?_eq_some_iff.1 hk).1
    have hx : (stW Ws)[((c : Nat) : Int).toNat]? = some (w.now, w.L) := by rw [show ((c : Nat) : Int).toNat = c by omega, List.getElem?_map, hk]; rfl
    unfold putS
    rw [if_neg (by rw [hl]; omega), if_neg (by rw [findS_stW, hf]; decide), hx]
    exact if_pos hm
  | @ok k w hc hk hf hi hm =>
    subst hc
    have hc := (List.getElem?_eq_some_iff.1 hk).1
    have e1 : ((k : Nat) : Int).toNat = k := by omega
    have hx : (stW Ws)[((k : Nat) : Int).toNat]? = some (w.now, w.L) := by rw [e1, List.getElem?_map, hk]; rfl
    have ht : turnOf Ws (k : Int) = w.turn := by unfold turnOf wlAt; rw [if_pos (by omega), e1, hk]
    unfold putS
    rw [if_neg (by rw [hl]; omega), if_neg (by rw [findS_stW, hf]; decide), hx, ht]
    dsimp only
    rw [if_neg (by omega), e1]
    unfold stW
    rw [List.map_set]; rfl
def delS (S : St) (id : Int) : St := S.map (fun x => (x.1, delT x.2 id))
theorem delW_one (Ws : List Wl) (id : Int) : stW (Ws.map (delW [id])) = delS (stW Ws) id := by
  unfold stW delS
  rw [List.map_map, List.map_map]
  exact List.map_congr_left fun w _ => rfl
def UniS (S : St) : Prop := ∀ (i j : Nat) x y, S[i]? = some x → S[j]? = some y → ∀ t ∈ x.2, ∀ u ∈ y.2, t.id = u.id → i = j
theorem delOne_is {S : St} (hU : UniS S) (id : Int) : delOne S id = delS S id := by
  unfold delOne
  cases hf : findS S id with
  | none =>
    refine (List.map_congr_left (fun x hx => ?_)).trans (List.map_id S) |>.symm
    show (x.1, delT x.2 id) = x
    rw [delT_out (findS_no hf hx)]
  | some k =>
    obtain ⟨x, hx, hh⟩ := findS_at hf
    dsimp only
    rw [hx]
    dsimp only
    apply List.ext_getElem?
    intro j
    unfold delS
    rw [List.getElem?_map]
    by_cases c : k = j
    · subst c
      rw [List.getElem?_set_self (List.getElem?_eq_some_iff.1 hx).1, hx]; rfl
    · rw [List.getElem?_set_ne c]
      cases hj : S[j]? with
      | none => rfl
      | some y =>
        show some y = some (y.1, delT y.2 id)
        rw [delT_out]
        intro hin
        obtain ⟨t, ht, e1⟩ := List.mem_map.1 hin
        obtain ⟨u, hu, e2⟩ := List.mem_map.1 (heldB_iff.1 hh)
        exact c (hU k j x y hx hj u hu t ht (e2.trans e1.symm))
theorem UniS.del {S : St} (h : UniS S) (id : Int) : UniS (delS S id) := fun i j x y hx hy t ht u hu e => by
  unfold delS at hx hy
  rw [List.getElem?_map] at hx hy
  obtain ⟨x', hx', rfl⟩ := Option.map_eq_some_iff.1 hx
  obtain ⟨y', hy', rfl⟩ := Option.map_eq_some_iff.1 hy
  exact h i j x' y' hx' hy' t (List.mem_filter.1 ht).1 u (List.mem_filter.1 hu).1 e
theorem UniS.set {S : St} (h : UniS S) {k : Nat} {x : Nat × List Tm} {z : Nat × List Tm} (hx : S[k]? = some x) (hz : ∀ t ∈ z.2, t ∈ x.2 ∨ ∀ y ∈ S, t.id ∉ y.2.map (·.id)) : UniS (S.set k z) := fun i j p q hp hq t ht u hu e => by
  have hk := (List.getElem?_eq_some_iff.1 hx).1
  by_cases ci : k = i <;> by_cases cj : k = j
  · omega
  · subst ci
    rw [List.getElem?_set_self hk] at hp
    obtain rfl := Option.some.inj hp
    rw [List.getElem?_set_ne cj] at hq
    rcases hz t ht with h1 | h1
    · exact h k j x q hx hq t h1 u hu e
    · exact absurd (e ▸ List.mem_map_of_mem hu) (h1 q (List.mem_of_getElem? hq))
  · subst cj
    rw [List.getElem?_set_self hk] at hq
    obtain rfl := Option.some.inj hq
    rw [List.getElem?_set_ne ci] at hp
    rcases hz u hu with h1 | h1
    · exact h i k p x hp hx t ht u h1 e
    · exact absurd (e ▸ List.mem_map_of_mem ht) (h1 p (List.mem_of_getElem? hp))
  · rw [List.getElem?_set_ne ci] at hp
    rw [List.getElem?_set_ne cj] at hq
    exact h i j p q hp hq t ht u hu e
theorem UniS.put {S : St} (h : UniS S) (tn : Nat) (cpu id : Int) (a : Nat) : UniS (putS S tn cpu id a).1 := by
  unfold putS
  split
  · exact h
  · split
    · exact h
    · rename_i hf
      have hf : findS S id = none := by cases e : findS S id with | none => rfl | some k => rw [e] at hf; exact absurd rfl hf
      split
      · exact h
      · rename_i x hx
        split
        · exact h
        · refine h.set hx (fun t ht => ?_)
          rcases List.mem_append.1 ht with ht | ht
          · exact .inl ht
          · exact .inr (fun y hy => by rw [List.mem_singleton.1 ht]; exact findS_no hf hy)
theorem CatchIs.fn {Ws Ws' : List Wl} {cpu : Int} {a : Nat} {O : List Tm} (h : CatchIs Ws cpu a Ws' O) : CatchS (stW Ws) cpu a (stW Ws') O := by
  rcases h with ⟨h, rfl, rfl⟩ | ⟨k, w, Li, rfl, hk, hG, rfl⟩
  · exact .inl ⟨by rw [List.length_map]; exact wlAt_none h, rfl, rfl⟩
  · exact .inr ⟨k, w.now, w.L, Li, rfl, by rw [List.getElem?_map, hk]; rfl, hG, by unfold stW; rw [List.map_set]; rfl⟩
theorem CatchS.same {S S1 S2 : St} {cpu : Int} {a : Nat} {O1 O2 : List Tm} (h1 : CatchS S cpu a S1 O1) (h2 : CatchS S cpu a S2 O2) : S1 = S2 ∧ O1 = O2 := by
  rcases h1 with ⟨a1, rfl, rfl⟩ | ⟨k, now, L, Li, rfl, hk, hG, rfl⟩
  · rcases h2 with ⟨_, rfl, rfl⟩ | ⟨k, now, L, Li, rfl, hk, hG, rfl⟩
    · exact ⟨rfl, rfl⟩
    · have := (List.getElem?_eq_some_iff.1 hk).1; omega
  · rcases h2 with ⟨a1, _⟩ | ⟨k2, now2, L2, Li2, e, hk2, hG2, rfl⟩
    · have := (List.getElem?_eq_some_iff.1 hk).1; omega
    · obtain rfl : k2 = k := by omega
      obtain ⟨rfl, rfl⟩ := Prod.mk.inj (Option.some.inj (hk.symm.trans hk2))
      obtain ⟨rfl, rfl⟩ := hG.same hG2
      exact ⟨rfl, rfl⟩
theorem CatchS.uni {S S' : St} {cpu : Int} {a : Nat} {O : List Tm} (h : CatchS S cpu a S' O) (hU : UniS S) : UniS S' := by
  rcases h with ⟨_, rfl, rfl⟩ | ⟨k, now, L, Li, rfl, hk, hG, rfl⟩
  · exact hU
  · exact hU.set hk (fun t ht => .inl (by rw [hG.left] at ht; exact (List.mem_filter.1 ht).1))
theorem BankH.wheelOf2 {bb : Nat} {Ws : List Wl} {HB : Heap} (h : BankH bb Ws HB) {w : Wl} (hw : w ∈ Ws) : ∃ HW, WheelH w.bw w.now w.L w.turn HW := by
  obtain ⟨k, hk, e⟩ := List.getElem_of_mem hw
  obtain ⟨HW, hW, _⟩ := h.wheel (k := k) (w := w) (by rw [List.getElem?_eq_getElem hk, e])
  exact ⟨HW, hW⟩
theorem BankH.stOk {bb : Nat} {Ws : List Wl} {HB : Heap} (h : BankH bb Ws HB) (hn : ∀ w ∈ Ws, w.now ≤ 18446744073709551615) (hl : ∀ w ∈ Ws, ∀ t ∈ w.L, w.now < t.s.due) : StOk (stW Ws) := fun x hx => by
  obtain ⟨w, hw, rfl⟩ := List.mem_map.1 hx
  obtain ⟨HU, hU⟩ := h.wheelOf2 hw
  obtain ⟨i1, i2, i3, i4⟩ := hU.ids
  exact ⟨i4, hn w hw, i1, i3, hl w hw⟩
theorem BankH.rng {bb : Nat} {Ws : List Wl} {HB : Heap} (h : BankH bb Ws HB) : ∀ w ∈ Ws, ∀ t ∈ w.L, 0 ≤ t.id ∧ t.id < 256 := fun w hw t ht => by
  obtain ⟨HU, hU⟩ := h.wheelOf2 hw
  exact hU.ids.2.1 t ht
structure BOk (T : Nat) (Ws : List Wl) : Prop where
  now : ∀ w ∈ Ws, w.now ≤ 18446744073709551615
  later : ∀ w ∈ Ws, ∀ t ∈ w.L, w.now < t.s.due
  turn : ∀ w ∈ Ws, w.turn ≤ T
  uni : UniS (stW Ws)
theorem BOk.start {now : Nat} {Ws : List Wl} (hn : now ≤ 18446744073709551615) (hf : ∀ w ∈ Ws, FreshW now w) : BOk 0 Ws := by
  refine ⟨fun w hw => ?_, fun w hw t ht => ?_, fun w hw => ?_, fun i j x y hx _ t ht => ?_⟩
  · rw [(hf w hw).1]; exact hn
  · rw [(hf w hw).2.1] at ht; cases ht
  · rw [(hf w hw).2.2]; exact Nat.le_refl _
  · obtain ⟨w, hw, rfl⟩ := List.mem_map.1 (List.mem_of_getElem? hx)
    have ht2 : t ∈ w.L := ht
    rw [(hf w hw).2.1] at ht2; cases ht2
theorem BOk.up {T T' : Nat} {Ws : List Wl} (h : BOk T Ws) (hl : T ≤ T') : BOk T' Ws := ⟨h.now, h.later, fun w hw => Nat.le_trans (h.turn w hw) hl, h.uni⟩
theorem BOk.put {T bb a : Nat} {Ws Ws' : List Wl} {HB' : Heap} {cpu id e : Int} {s : Spot} (h : BOk T Ws) (hr : ∀ w ∈ Ws, ∀ t ∈ w.L, 0 ≤ t.id ∧ t.id < 256) (hp : PutIs Ws cpu id a Ws' s e) (hB' : BankH bb Ws' HB') : BOk (T + 1) Ws' := by
  have hu : UniS (stW Ws') := by have := h.uni.put (turnOf Ws cpu) cpu id a; rwa [hp.fn hr] at this
  cases hp with
  | cpu _ => exact h.up (Nat.le_succ _)
  | twice _ _ => exact h.up (Nat.le_succ _)
  | range _ _ _ => exact h.up (Nat.le_succ _)
  | late _ _ _ _ => exact h.up (Nat.le_succ _)
  | @ok k w hc hk hf hi hm =>
    have hwm := List.mem_of_getElem? hk
    have hkl := (List.getElem?_eq_some_iff.1 hk).1
    refine ⟨fun u hu => ?_, fun u hu => ?_, fun u hu => ?_, hu⟩
    · rcases List.mem_or_eq_of_mem_set hu with hu | rfl
      · exact h.now u hu
      · exact h.now w hwm
    · rcases List.mem_or_eq_of_mem_set hu with hu' | rfl
      · exact h.later u hu'
      · obtain ⟨HU, hU⟩ := hB'.wheelOf2 hu
        exact hU.later hm
    · rcases List.mem_or_eq_of_mem_set hu with hu | rfl
      · exact Nat.le_succ_of_le (h.turn u hu)
      · have := h.turn w hwm
        show w.turn + 1 ≤ T + 1; omega
theorem BOk.del {T : Nat} {Ws : List Wl} (h : BOk T Ws) (id : Int) : BOk T (Ws.map (delW [id])) := by
  refine ⟨fun u hu => ?_, fun u hu t ht => ?_, fun u hu => ?_, by rw [delW_one]; exact h.uni.del id⟩
  · obtain ⟨w, hw, rfl⟩ := List.mem_map.1 hu
    exact h.now w hw
  · obtain ⟨w, hw, rfl⟩ := List.mem_map.1 hu
    exact h.later w hw t (List.mem_filter.1 ht).1
  · obtain ⟨w, hw, rfl⟩ := List.mem_map.1 hu
    exact h.turn w hw
theorem BOk.catch {T a : Nat} {Ws Ws' : List Wl} {cpu : Int} {O : List Tm} (h : BOk T Ws) (ha : a ≤ 18446744073709551615) (hc : CatchIs Ws cpu a Ws' O) : BOk T Ws' := by
  have hu : UniS (stW Ws') := hc.fn.uni h.uni
  rcases hc with ⟨_, rfl, rfl⟩ | ⟨k, w, Li, rfl, hk, hG, rfl⟩
  · exact h
  · have hwm := List.mem_of_getElem? hk
    refine ⟨fun u hu => ?_, fun u hu t ht => ?_, fun u hu => ?_, hu⟩
    · rcases List.mem_or_eq_of_mem_set hu with hu | rfl
      · exact h.now u hu
      · have := h.now w hwm
        show max w.now a ≤ _; omega
    · rcases List.mem_or_eq_of_mem_set hu with hu | rfl
      · exact h.later u hu t ht
      · have ht2 : t ∈ Li := ht
        rw [hG.left] at ht2
        exact of_decide_eq_true (List.mem_filter.1 ht2).2
    · rcases List.mem_or_eq_of_mem_set hu with hu | rfl
      · exact h.turn u hu
      · exact h.turn w hwm
theorem cnt_one (Ws : List Wl) (id : Int) : ∀ k, k ≤ Ws.length → UniS (stW Ws) → cntK Ws [id] k = if ∃ j : Nat, j < k ∧ ∃ w, Ws[j]? = some w ∧ heldB w.L id = true then 1 else 0
  | 0, _, _ => by
    rw [if_neg]; rfl
    rintro ⟨j, hj, _⟩; omega
  | k + 1, hk, hU => by
    obtain ⟨w, hw⟩ : ∃ w, Ws[k]? = some w := ⟨_, List.getElem?_eq_getElem (by omega)⟩
    rw [cntK_at hw, cnt_one Ws id k (by omega) hU]
    have e : (delsT w.L [id]).2 = if heldB w.L id = true then 1 else 0 := by show 0 + _ = _; rw [Nat.zero_add]
    rw [e]
    by_cases h1 : ∃ j : Nat, j < k ∧ ∃ w, Ws[j]? = some w ∧ heldB w.L id = true
    · rw [if_pos h1]
      obtain ⟨j, hj, u, hu, hh⟩ := h1
      have hR : ∃ j : Nat, j < k + 1 ∧ ∃ w, Ws[j]? = some w ∧ heldB w.L id = true := ⟨j, by omega, u, hu, hh⟩
      rw [if_pos hR, if_neg]
      intro h2
      obtain ⟨t, ht, e1⟩ := List.mem_map.1 (heldB_iff.1 hh)
      obtain ⟨v, hv, e2⟩ := List.mem_map.1 (heldB_iff.1 h2)
      have := hU j k (u.now, u.L) (w.now, w.L) (by rw [List.getElem?_map, hu]; rfl) (by rw [List.getElem?_map, hw]; rfl) t ht v hv (e1.trans e2.symm)
      omega
    · rw [if_neg h1]
      by_cases h2 : heldB w.L id = true
      · have hR : ∃ j : Nat, j < k + 1 ∧ ∃ w, Ws[j]? = some w ∧ heldB w.L id = true := ⟨k, by omega, w, hw, h2⟩
        rw [if_pos h2, if_pos hR]
      · rw [if_neg h2, if_neg]
        rintro ⟨j, hj, u, hu, hh⟩
        by_cases c : j = k
        · subst c
          obtain rfl := Option.some.inj (hw.symm.trans hu)
          exact h2 hh
        · exact h1 ⟨j, by omega, u, hu, hh⟩
theorem cnt_find {Ws : List Wl} (hU : UniS (stW Ws)) (id : Int) : cntK Ws [id] Ws.length = if (findS (stW Ws) id).isSome = true then 1 else 0 := by
  rw [cnt_one Ws id _ (Nat.le_refl _) hU, findS_stW]
  cases hf : findK Ws id with
  | none =>
    rw [if_neg, if_neg (by decide)]
    rintro ⟨j, hj, w, hw, hh⟩
    exact findK_no hf (List.mem_of_getElem? hw) (heldB_iff.1 hh)
  | some k =>
    obtain ⟨w, hw, hh⟩ := findK_at hf
    have hR : ∃ j : Nat, j < Ws.length ∧ ∃ w, Ws[j]? = some w ∧ heldB w.L id = true := ⟨k, (List.getElem?_eq_some_iff.1 hw).1, w, hw, hh⟩
    rw [if_pos hR, if_pos (show (some k).isSome = true from rfl)]
end Go.Proofs.YtkcaakkaioingaaDoor
namespace Go.Proofs.YtkcaakkaioingaaDoor
open Go Go.Sl
attribute [local irreducible] W
set_option maxHeartbeats 1000000 in
theorem rbNext_q {w0 : World} {H : Heap} {d : Rw} (hl : d.L.length ≤ 256) (hr : Holds w0 H d.ad (rowT d.L))  : PureAt Tryd.prog w0 H 38 [.agg (List.toArray [.int .u64 ((d.now : Nat) : Int), .slice d.ad d.L.length d.cap])] (.tuple #[.int .u64 (((leastT d.L).getD 0 : Nat) : Int), .bool (leastT d.L).isSome]) := by
  refine L_enter Tryd.func38 rfl Tryd.ntmps38 rfl rfl ?_
  refine W_sr ?_
  refine W_box (l := [.int .u64 ((d.now : Nat) : Int), .slice d.ad d.L.length d.cap]) rfl rfl rfl (fun b1 => ?_)
  refine W_assign rfl rfl ?_
  refine W_assign rfl rfl ?_
  refine W_nil ?_
  refine W_sr ?_
  refine W_loadB (vs := [.int .u64 ((d.now : Nat) : Int), .slice d.ad d.L.length d.cap]) rfl ty90 rfl (b := b1) zM rfl rfl rfl ?_
  refine W_call (.cons rfl .nil) Tryd.call76 rfl ((rNext_L (now := d.now) (cap := d.cap) (L := d.L) (ad := d.ad) (by omega) (hr.up zH)).hsub (.refl _)) ?_
  rintro v H' ⟨z, rfl, hz, rfl⟩
  rcases hz with ⟨rfl, hnil⟩ | ⟨k, t, rfl, htk, hle, hfirst⟩
  · skip
    refine W_assign rfl rfl ?_
    refine W_nil ?_
    refine W_seq ?_
    refine W_sr ?_
    refine W_move rfl rfl ?_
    refine W_bin rfl rfl b_lss rfl ?_
    first | rw [decide_eq_true (by omega)] | rw [decide_eq_false (by omega)]
    refine W_nil ?_
    refine W_condT rfl rfl ?_
    refine W_sr ?_
    refine W_assign rfl rfl ?_
    refine W_assign rfl rfl ?_
    refine W_nil ?_
    refine W_ret2m (H2 := H) Tryd.results38 rfl rfl (.nil _) zH ?_
    rw [show leastT d.L = none from leastT_none.2 hnil]
    exact ⟨rfl, rfl⟩
  · skip
    have hkl := (List.getElem?_eq_some_iff.1 htk).1
    obtain ⟨q0, p0, hade, hc⟩ := Holds.row tmC_len (by decide) hr htk
    refine W_assign rfl rfl ?_
    refine W_nil ?_
    refine W_seq ?_
    refine W_sr ?_
    refine W_move rfl rfl ?_
    refine W_bin rfl rfl b_lss rfl ?_
    first | rw [decide_eq_true (by omega)] | rw [decide_eq_false (by omega)]
    refine W_nil ?_
    refine W_condF rfl rfl ?_
    refine W_skip ?_
    refine W_sr ?_
    refine W_fieldAddr rfl fld90_1 (by decide) rfl ?_
    refine W_load (v := .slice d.ad d.L.length d.cap) rfl ty88 rfl (Cell.own (b := b1) zM rfl) rfl ?_
    refine W_move rfl rfl ?_
    refine W_indexAddr (b := q0) (o := p0) (j := k) (by rw [← hade]; rfl) rfl ty88 ty87 rfl (by omega) rfl rfl ?_
    refine W_fieldAddr rfl fld87_1 (by decide) rfl ?_
    refine W_fieldAddr rfl fld69_3 (by decide) rfl ?_
    refine W_load (v := .int .u64 (t.s.due : Int)) rfl ty28 rfl ((hc 4 (.int .u64 (t.s.due : Int)) rfl).up zH) rfl ?_
    refine W_assign rfl rfl ?_
    refine W_assign rfl rfl ?_
    refine W_nil ?_
    refine W_ret2m (H2 := H) Tryd.results38 rfl rfl (.nil _) zH ?_
    rw [show leastT d.L = some t.s.due from leastT_of ⟨t, List.mem_of_getElem? htk, rfl⟩ hle]
    exact ⟨rfl, rfl⟩
def lenD (Ws : List Wl) : Nat := (Ws.map (fun w => w.L.length)).sum
def lateD (a : Nat) : List Wl → Nat
  | [] => 0
  | w :: Ws => 2 * lateD a Ws + if lateB a w = true then 1 else 0
def nxD (sel : Nat → Bool) (k : Nat) : List Wl → Option Nat
  | [] => none
  | w :: Ws => if sel k = true then minO (nxD sel (k + 1) Ws) (leastT w.L) else nxD sel (k + 1) Ws
theorem lenD_drop {Ws : List Wl} {k : Nat} {w : Wl} (h : Ws[k]? = some w) : lenD (Ws.drop k) = w.L.length + lenD (Ws.drop (k + 1)) := by
  have hk := List.getElem?_eq_some_iff.1 h
  rw [List.drop_eq_getElem_cons hk.1, hk.2]
  simp [lenD]
theorem lateD_drop {Ws : List Wl} {k a : Nat} {w : Wl} (h : Ws[k]? = some w) : lateD a (Ws.drop k) = 2 * lateD a (Ws.drop (k + 1)) + if lateB a w = true then 1 else 0 := by
  have hk := List.getElem?_eq_some_iff.1 h
  rw [List.drop_eq_getElem_cons hk.1, hk.2]; rfl
theorem nxD_drop {sel : Nat → Bool} {Ws : List Wl} {k : Nat} {w : Wl} (h : Ws[k]? = some w) : nxD sel k (Ws.drop k) = if sel k = true then minO (nxD sel (k + 1) (Ws.drop (k + 1))) (leastT w.L) else nxD sel (k + 1) (Ws.drop (k + 1)) := by
  have hk := List.getElem?_eq_some_iff.1 h
  rw [List.drop_eq_getElem_cons hk.1, hk.2]; rfl
theorem lenK_is (Ws : List Wl) : ∀ k, k ≤ Ws.length → lenK Ws k + lenD (Ws.drop k) = lenD Ws
  | 0, _ => by rw [List.drop_zero]; exact Nat.zero_add _
  | k + 1, h => by
    obtain ⟨w, hw⟩ : ∃ w, Ws[k]? = some w := ⟨_, List.getElem?_eq_getElem (by omega)⟩
    have := lenK_is Ws k (by omega)
    rw [lenK_at hw]
    rw [lenD_drop hw] at this
    omega
theorem lenK_all (Ws : List Wl) : lenK Ws Ws.length = lenD Ws := by
  have := lenK_is Ws Ws.length (Nat.le_refl _)
  rw [List.drop_length] at this
  exact this
theorem lateD_bit (a : Nat) : ∀ (Ws : List Wl) (j : Nat), (lateD a Ws).testBit j = match Ws[j]? with | some w => lateB a w | none => false
  | [], j => by simp [lateD]
  | w :: Ws, 0 => by
    show (2 * lateD a Ws + _).testBit 0 = lateB a w
    rw [Nat.testBit_zero]
    cases lateB a w <;> simp
  | w :: Ws, j + 1 => by
    show (2 * lateD a Ws + _).testBit (j + 1) = _
    rw [Nat.testBit_succ, show (2 * lateD a Ws + if lateB a w = true then 1 else 0) / 2 = lateD a Ws by split <;> omega, lateD_bit a Ws j]
    simp
theorem lateD_lt (a : Nat) : ∀ Ws : List Wl, lateD a Ws < 2 ^ Ws.length
  | [] => by simp [lateD]
  | w :: Ws => by
    have := lateD_lt a Ws
    show 2 * lateD a Ws + _ < 2 ^ (Ws.length + 1)
    rw [Nat.pow_succ]
    split <;> omega
theorem lateM_bit2 (Ws : List Wl) (a : Nat) : ∀ k, k ≤ 64 → ∀ j, (lateM Ws a k).testBit j = (decide (j < k) && match Ws[j]? with | some w => lateB a w | none => false)
  | 0, _, j => by
    show (0 : Nat).testBit j = _
    rw [Nat.zero_testBit, decide_eq_false (by omega)]; rfl
  | k + 1, h, j => by
    have ih := lateM_bit2 Ws a k (by omega) j
    unfold lateM
    by_cases e : j = k
    · subst e
      rw [decide_eq_false (by omega), Bool.false_and] at ih
      rw [decide_eq_true (by omega), Bool.true_and]
      cases hw : Ws[j]? with
      | none => exact ih
      | some w =>
        dsimp only
        cases hl : lateB a w with
        | false => exact ih
        | true =>
          show (lateM Ws a j ||| bitN (j : Int)).testBit j = true
          rw [Nat.testBit_or, ih, Bool.false_or]
          unfold bitN
          rw [if_pos (by omega), Nat.testBit_two_pow]
          exact decide_eq_true (by omega)
    · rw [show decide (j < k + 1) = decide (j < k) from decide_eq_decide.2 (by omega), ← ih]
      cases hw : Ws[k]? with
      | none => rfl
      | some w =>
        dsimp only
        split
        · show (lateM Ws a k ||| bitN (k : Int)).testBit j = _
          rw [Nat.testBit_or]
          unfold bitN
          rw [if_pos (by omega), Nat.testBit_two_pow, decide_eq_false (by omega), Bool.or_false]
        · rfl
theorem late_all {Ws : List Wl} (a : Nat) (h : Ws.length ≤ 64) : lateM Ws a Ws.length = lateD a Ws := by
  apply Nat.eq_of_testBit_eq
  intro j
  rw [lateD_bit, lateM_bit2 Ws a _ h]
  by_cases hj : j < Ws.length
  · rw [decide_eq_true hj, Bool.true_and]
  · rw [List.getElem?_eq_none (by omega), Bool.and_false]
theorem nxK_is (sel : Nat → Bool) (Ws : List Wl) : ∀ k, k ≤ Ws.length → nxD sel 0 Ws = (match nxD sel k (Ws.drop k), nxK sel Ws k with | x, y => minO x y)
  | 0, _ => by
    rw [List.drop_zero]; rfl
  | k + 1, h => by
    obtain ⟨w, hw⟩ : ∃ w, Ws[k]? = some w := ⟨_, List.getElem?_eq_getElem (by omega)⟩
    have ih := nxK_is sel Ws k (by omega)
    dsimp only at ih ⊢
    rw [ih, nxD_drop hw, nxK_at hw]
    by_cases c : sel k = true
    · rw [if_pos c, if_pos c]
      generalize nxD sel (k + 1) (Ws.drop (k + 1)) = x
      generalize nxK sel Ws k = y
      generalize leastT w.L = z
      cases x <;> cases y <;> cases z <;> simp only [minO] <;> (repeat' split) <;> first | rfl | (congr 1; omega)
    · rw [if_neg c, if_neg c]
theorem nx_all (sel : Nat → Bool) (Ws : List Wl) : nxK sel Ws Ws.length = nxD sel 0 Ws := by
  have := nxK_is sel Ws Ws.length (Nat.le_refl _)
  rw [List.drop_length] at this
  rw [this]
  show _ = minO none _
  cases nxK sel Ws Ws.length <;> rfl
def selD (l : List Int) (k : Nat) : Bool := decide (l.length = 0) || decide ((k : Int) ∈ l)
theorem withL_bit : ∀ (l : List Int) (m : Nat) (k : Nat), k < 64 → (withL m l).testBit k = (m.testBit k || decide ((k : Int) ∈ l))
  | [], m, k, _ => by simp [withL]
  | x :: l, m, k, hk => by
    show (withL (m ||| bitN x) l).testBit k = _
    rw [withL_bit l _ k hk, Nat.testBit_or]
    have e : (bitN x).testBit k = decide ((k : Int) = x) := by
      unfold bitN
      by_cases c : 0 ≤ x ∧ x < 64
      · rw [if_pos c, Nat.testBit_two_pow]
        exact decide_eq_decide.2 ⟨fun h => by omega, fun h => by omega⟩
      · rw [if_neg c, Nat.zero_testBit, decide_eq_false (by omega)]
    rw [e, Bool.or_assoc, ← Bool.decide_or]
    congr 1
    exact decide_eq_decide.2 (by rw [List.mem_cons])
theorem askB_is (l : List Int) {k : Nat} (hk : k < 64) : askB l k = selD l k := by
  unfold askB selD
  rw [hasM_is hk, withL_bit l 0 k hk, Nat.zero_testBit, Bool.false_or]
theorem nxK_congr {s1 s2 : Nat → Bool} (Ws : List Wl) : ∀ k, (∀ j, j < k → s1 j = s2 j) → nxK s1 Ws k = nxK s2 Ws k
  | 0, _ => rfl
  | k + 1, h => by
    unfold nxK
    rw [nxK_congr Ws k (fun j hj => h j (by omega)), h k (by omega)]
theorem nx_ask {Ws : List Wl} (l : List Int) (h : Ws.length ≤ 64) : nxK (askB l) Ws Ws.length = nxD (selD l) 0 Ws := by
  rw [nxK_congr (s2 := selD l) Ws _ (fun j hj => askB_is l (by omega))]
  exact nx_all _ _
end Go.Proofs.YtkcaakkaioingaaDoor
namespace Go.Proofs.YtkcaakkaioingaaDoor
open Go Go.Sl
attribute [local irreducible] W
structure Bct where
  cpu : Int
  kind : Int
  id : Int
  at_ : Int
deriving DecidableEq
def bcC (v : Bct) : List Value := [.int .i64 v.cpu, .int .i64 v.kind, .int .i64 v.id, .int .u64 v.at_]
instance : Inhabited Bct := ⟨⟨0, 0, 0, 0⟩⟩
def Bct.In (v : Bct) : Prop := (-9223372036854775808 ≤ v.cpu ∧ v.cpu ≤ 9223372036854775807) ∧ (-9223372036854775808 ≤ v.kind ∧ v.kind ≤ 9223372036854775807) ∧ (-9223372036854775808 ≤ v.id ∧ v.id ≤ 9223372036854775807) ∧ (0 ≤ v.at_ ∧ v.at_ ≤ 18446744073709551615)
theorem bcC_len (v : Bct) : (bcC v).length = 4 := rfl
theorem bcC_of {cs : List Value} (h : Leafs [.int .i64, .int .i64, .int .i64, .int .u64] cs) : ∃ v : Bct, cs = bcC v ∧ v.In := by
  obtain ⟨a0, c0, rfl, ⟨m0, rfl, e0⟩, h0⟩ := leafs_cons h
  obtain ⟨a1, c1, rfl, ⟨m1, rfl, e1⟩, h1⟩ := leafs_cons h0
  obtain ⟨a2, c2, rfl, ⟨m2, rfl, e2⟩, h2⟩ := leafs_cons h1
  obtain ⟨a3, c3, rfl, ⟨m3, rfl, e3⟩, h3⟩ := leafs_cons h2
  obtain rfl := leafs_nil h3
  exact ⟨⟨m0, m1, m2, m3⟩, rfl, ⟨e0, e1, e2, e3⟩⟩
theorem flat67 : Flat Tryd.prog 2 67 [.int .i64, .int .i64, .int .i64, .int .u64] := (Flat.struct ty67 (by kernel_rfl) (by kernel_rfl) (.cons (ks := [.int .i64]) (by decide) rfl (by kernel_rfl) (Flat.leaf (k := .int .i64) ty3) (.cons (ks := [.int .i64, .int .i64, .int .u64]) (by decide) rfl (by kernel_rfl) (Flat.struct ty65 (by kernel_rfl) (by kernel_rfl) (.cons (ks := [.int .i64]) (by decide) rfl (by kernel_rfl) (Flat.leaf (k := .int .i64) ty3) (.cons (ks := [.int .i64]) (by decide) rfl (by kernel_rfl) (Flat.leaf (k := .int .i64) ty3) (.cons (ks := [.int .u64]) (by decide) rfl (by kernel_rfl) (Flat.leaf (k := .int .u64) ty28) .nil)))) .nil)))
theorem ce67 : Tryd.prog.cellsOf 67 = 4 := by kernel_rfl
abbrev bcRow (l : List Bct) : List Value := l.flatMap bcC
theorem Cells.tail {w0 : World} {H : Heap} {b i : Nat} {v : Value} {vs : List Value} (h : Cells w0 H b i (v :: vs)) : Cells w0 H b (i + 1) vs := fun j u hu => by
  have := h (j + 1) u (by simpa using hu)
  rwa [show i + 1 + j = i + (j + 1) by omega]
def kindOf (z : Int) : Int := z % 4
theorem kindOf_is (z : Int) : (IntKind.u64.wrap z).tmod 4 = kindOf z := by
  have e : IntKind.u64.wrap z = z % 18446744073709551616 := by simp [IntKind.wrap, IntKind.signed, IntKind.bits]
  have h0 : 0 ≤ z % 18446744073709551616 := Int.emod_nonneg _ (by decide)
  rw [e, Int.tmod_eq_emod_of_nonneg h0, Int.emod_emod_of_dvd z (by decide : (4 : Int) ∣ 18446744073709551616)]; rfl
theorem modC_is (y : Int) {N : Nat} (hN : 0 < N) : ∃ c : Nat, c < N ∧ (IntKind.u64.wrap y).tmod (N : Int) = (c : Int) := by
  have e : IntKind.u64.wrap y = y % 18446744073709551616 := by simp [IntKind.wrap, IntKind.signed, IntKind.bits]
  have h0 : 0 ≤ y % 18446744073709551616 := Int.emod_nonneg _ (by decide)
  have h1 : 0 ≤ (IntKind.u64.wrap y).tmod (N : Int) := Int.tmod_nonneg _ (by omega)
  have h2 : (IntKind.u64.wrap y).tmod (N : Int) < (N : Int) := Int.tmod_lt_of_pos _ (by omega)
  exact ⟨((IntKind.u64.wrap y).tmod (N : Int)).toNat, by omega, by omega⟩
structure BkS where
  i : Nat
  Ws : List Wl
  HB : Heap
  v : Value
  XR : Heap
structure BkIs (w0 : World) (H : Heap) (N bb : Nat) (x : BkS) : Prop where
  bank : BankH bb x.Ws x.HB
  ok : BOk x.i x.Ws
  len : x.Ws.length = N
  doc : RbV w0 (x.XR ++ H) (stW x.Ws) x.v
theorem PutIs.len {Ws Ws' : List Wl} {cpu id e : Int} {a : Nat} {s : Spot} (h : PutIs Ws cpu id a Ws' s e) : Ws'.length = Ws.length := by
  cases h <;> first | rfl | exact List.length_set
theorem CatchIs.len {Ws Ws' : List Wl} {cpu : Int} {a : Nat} {O : List Tm} (h : CatchIs Ws cpu a Ws' O) : Ws'.length = Ws.length := by
  rcases h with ⟨_, rfl, _⟩ | ⟨k, w, Li, _, _, _, rfl⟩
  · rfl
  · exact List.length_set
theorem CatchIs.out {Ws Ws' : List Wl} {cpu : Int} {a : Nat} {O : List Tm} (h : CatchIs Ws cpu a Ws' O) (hl : ∀ w ∈ Ws, w.L.length ≤ 256) : O.length ≤ 256 := by
  rcases h with ⟨_, _, rfl⟩ | ⟨k, w, Li, _, hk, hG, _⟩
  · exact Nat.zero_le _
  · exact Nat.le_trans hG.len (hl w (List.mem_of_getElem? hk))
theorem fresh_st {n now : Nat} {Ws : List Wl} (hl : Ws.length = n) (hf : ∀ w ∈ Ws, FreshW now w) : stW Ws = List.replicate n (now, []) := by
  refine List.eq_replicate_iff.2 ⟨by rw [List.length_map, hl], fun x hx => ?_⟩
  obtain ⟨w, hw, rfl⟩ := List.mem_map.1 hx
  show (w.now, w.L) = _
  rw [(hf w hw).1, (hf w hw).2.1]
theorem takesO {o x : Option Nat} (h : o.isSome = true ∧ (x.isSome = false ∨ o.getD 0 < x.getD 0)) : minO x o = o := by
  cases o with
  | none => exact absurd h.1 (by decide)
  | some t =>
    cases x with
    | none => rfl
    | some a =>
      rcases h.2 with h | h
      · cases h
      · have h2 : t < a := h
        show some (if t < a then t else a) = some t
        rw [if_pos h2]
theorem staysO {o x : Option Nat} (h : ¬ (o.isSome = true ∧ (x.isSome = false ∨ o.getD 0 < x.getD 0))) : minO x o = x := by
  cases o with
  | none => rfl
  | some t =>
    cases x with
    | none => exact absurd ⟨rfl, .inl rfl⟩ h
    | some a =>
      have h2 : ¬ t < a := fun c => h ⟨rfl, .inr c⟩
      show some (if t < a then t else a) = some a
      rw [if_neg h2]
theorem lateB_opt (a : Nat) (w : Wl) : (lateB a w = true) ↔ (leastT w.L).isSome = true ∧ (leastT w.L).getD 0 ≤ a := by
  unfold lateB
  cases leastT w.L with
  | none => simp
  | some t => simp
theorem nxD_nil (k : Nat) : ∀ (Ws : List Wl) (k : Nat), nxD (selD []) k Ws = nxD (fun _ => true) k Ws
  | [], _ => rfl
  | w :: Ws, k => by
    unfold nxD
    rw [nxD_nil k Ws (k + 1)]; rfl
theorem hsub_pre {X H : Heap} : HSub (X ++ H) X := by
  have h : HSub (X ++ H) (X ++ []) := .app (.here _) (.nil _)
  rwa [List.append_nil] at h
theorem nowK_at {Ws : List Wl} {k : Nat} {w : Wl} (h : Ws[k]? = some w) : nowK Ws (k : Int) = w.now := by
  unfold nowK wlAt
  rw [if_pos (by omega), show ((k : Nat) : Int).toNat = k by omega, h]
def atZ (L : List Tm) (id : Int) : Int := match L.findIdx? (fun t => decide (t.id = id)) with
  | some i => (i : Int)
  | none => -1
theorem AtT.z {L : List Tm} {id z : Int} (h : AtT L id z) (hn : (L.map (·.id)).Nodup) : z = atZ L id := by
  unfold atZ
  cases hf : L.findIdx? (fun t => decide (t.id = id)) with
  | none =>
    rw [List.findIdx?_eq_none_iff] at hf
    rcases h with ⟨i, t, rfl, h1, h2⟩ | ⟨rfl, _⟩
    · have := hf t (List.mem_of_getElem? h1)
      rw [decide_eq_true h2] at this; cases this
    · rfl
  | some k =>
    obtain ⟨h1, h2, _⟩ := List.findIdx?_eq_some_iff_getElem.1 hf
    have h3 := of_decide_eq_true h2
    rcases h with ⟨i, t, rfl, hi, e⟩ | ⟨rfl, hno⟩
    · have hi2 := List.getElem?_eq_some_iff.1 hi
      have e2 : i = k := (List.getElem_inj (xs := L.map (·.id)) (h₀ := by rw [List.length_map]; exact hi2.1) (h₁ := by rw [List.length_map]; exact h1) hn).1 (by rw [List.getElem_map, List.getElem_map, hi2.2, e, h3])
      rw [e2]
    · exact absurd (List.mem_map.2 ⟨_, List.getElem_mem h1, h3⟩) hno
theorem atZ_held {L : List Tm} {id : Int} (hh : heldB L id = true) (hn : (L.map (·.id)).Nodup) : ∃ (i : Nat) (t : Tm), atZ L id = (i : Int) ∧ L[i]? = some t ∧ spotOf L id = t.s := by
  unfold atZ
  cases hf : L.findIdx? (fun t => decide (t.id = id)) with
  | none =>
    rw [List.findIdx?_eq_none_iff] at hf
    obtain ⟨t, ht, e⟩ := List.mem_map.1 (heldB_iff.1 hh)
    have := hf t ht
    rw [decide_eq_true e] at this; cases this
  | some k =>
    obtain ⟨h1, h2, _⟩ := List.findIdx?_eq_some_iff_getElem.1 hf
    have h3 := of_decide_eq_true h2
    exact ⟨k, L[k], rfl, List.getElem?_eq_getElem h1, by rw [← h3]; exact spotOf_in hn (List.getElem_mem h1)⟩
theorem rFind_q {w0 : World} {H : Heap} {now cap : Nat} {L : List Tm} {ad : Option Addr} (hl : L.length ≤ 1000000) (hn : (L.map (·.id)).Nodup) (hrow : Holds w0 H ad (rowT L)) {id : Int} : PureAt Tryd.prog w0 H 37 [.agg (List.toArray [.int .u64 ((now : Nat) : Int), .slice ad L.length cap]), .int .i64 id] (.int .i64 (atZ L id)) :=
  (rFind_L hl hrow).mono fun v H' ⟨z, e, hz, hH⟩ => ⟨by rw [e, hz.z hn], hH⟩
end Go.Proofs.YtkcaakkaioingaaDoor
