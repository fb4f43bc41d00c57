/-
  Own work: contracts of functions that the statement reaches, and plain facts on what they compute; each theorem says its conditions.
-/
import Derived.Test.YtcggkokeggfdkaaGreatDoorWnT2
import Derived.Test.YtcggkokeggfdkaaGreatDoorWnS2
import Derived.Test.YtcggkokeggfdkaaGreatDoorWnA
set_option linter.all false
set_option linter.unusedSimpArgs false
set_option linter.unusedVariables false
set_option maxHeartbeats 16000000
namespace Go.Proofs.YtcggkokeggfdkaaGreatDoor
open Go Go.Sl
attribute [local irreducible] W
structure Rr where
 at_ : Int
 kind : Int
 val : Nat
 err : Int
deriving DecidableEq
def rrC (v : Rr) : List Value := [.int .i64 v.at_, .int .i64 v.kind, .int .u64 (v.val : Int), .int .i64 v.err]
theorem rrC_like (v : Rr) : Likes [.int .i64, .int .i64, .int .u64, .int .i64] (rrC v) := ⟨⟨_, rfl⟩, ⟨_, rfl⟩, ⟨_, rfl⟩, ⟨_, rfl⟩, trivial⟩
theorem rrC_inj (v w : Rr) (h : rrC v = rrC w) : v = w := by
 cases v; cases w; simp only [rrC, List.cons.injEq, Value.int.injEq, true_and, and_true, Int.natCast_inj] at h; simp only [Rr.mk.injEq]; exact h
theorem flat76 : Flat Tryz.prog 1 76 [.int .i64, .int .i64, .int .u64, .int .i64] := (Flat.struct ty76 zk zk (.cons (ks := [.int .i64]) zd rfl zk (Flat.leaf (k := .int .i64) ty3) (.cons (ks := [.int .i64]) zd rfl zk (Flat.leaf (k := .int .i64) ty3) (.cons (ks := [.int .u64]) zd rfl zk (Flat.leaf (k := .int .u64) ty33) (.cons (ks := [.int .i64]) zd rfl zk (Flat.leaf (k := .int .i64) ty29) .nil)))))
theorem agg76 : aggB Tryz.prog 76 = true := by kernel_rfl
theorem gt76 : Tryz.prog.eqGuardType Tryz.prog.depth 76 = false := by kernel_rfl
set_option maxRecDepth 100000
theorem worldNil_pure {c p : Int} {adb : Option Addr} {nb capb : Nat} {s0 s1 s2 s3 s4 s5 : Int} {ad : Option Addr} {n cap : Nat} (hcap : n ≤ cap) : Pure Tryz.prog (TabS) 5 [.int .i64 c, .int .i64 p, .slice adb nb capb, .agg (List.toArray [.int .i64 s0, .int .i64 s1, .int .i64 s2, .int .i64 s3, .int .u64 s4, .int .u64 s5, .slice ad n cap])] (.bool true) := by
 intro w0 H hT
 refine L_enter Tryz.func5 rfl Tryz.ntmps5 rfl rfl ?_
 refine W_sr ?_
 refine W_box (l := [.int .i64 s0, .int .i64 s1, .int .i64 s2, .int .i64 s3, .int .u64 s4, .int .u64 s5, .slice ad n cap]) rfl rfl rfl (fun b7 => ?_)
 refine W_assign rfl rfl ?_
 refine W_nil (W_sr ?_)
 refine W_assign rfl rfl ?_
 refine W_nil (W_sr ?_)
 refine W_fieldAddr rfl fld47_6 zd rfl ?_
 refine W_load (v := .slice ad n cap) rfl ty28 rfl (Cell.own (b := b7) zM rfl) rfl ?_
 refine W_fieldAddr rfl fld47_6 zd rfl ?_
 refine W_load (v := .slice ad n cap) rfl ty28 rfl (Cell.own (b := b7) zM rfl) rfl ?_
 refine W_len rfl ty28 rfl rfl ?_
 refine W_min2 (m := ((min n 600 : Nat) : Int)) rfl rfl (by split <;> omega) rfl ?_
 refine W_slice0 (hh := min n 600) rfl ty28 ty5 rfl ⟨_, rfl⟩ zO rfl ?_
 refine W_fieldAddr rfl fld47_6 zd rfl ?_
 refine W_store (l' := [.int .i64 s0, .int .i64 s1, .int .i64 s2, .int .i64 s3, .int .u64 s4, .int .u64 s5, .slice ad (min n 600) cap]) rfl rfl ty28 rfl rfl (b := b7) zM rfl rfl zU ?_
 refine W_nil (W_sr ?_)
 refine W_move rfl rfl ?_
 refine W_move rfl rfl ?_
 refine W_callp (.cons rfl (.cons rfl .nil)) Tryz.call25 rfl (T := fun _ => True) trivial (wBound_nil) ?_
 refine W_move rfl rfl ?_
 refine W_extract rfl rfl rfl ?_
 refine W_extract rfl rfl rfl ?_
 refine W_assign rfl rfl ?_
 refine W_assign rfl rfl ?_
 refine W_nil (W_sr ?_)
 refine W_move rfl rfl ?_
 rcases (show c < 1 ∨ 64 < c ∨ ((1 ≤ c ∧ c ≤ 64) ∧ p < 1) ∨ ((1 ≤ c ∧ c ≤ 64) ∧ 16 < p) ∨ ((1 ≤ c ∧ c ≤ 64) ∧ 1 ≤ p ∧ p ≤ 16) by omega) with hw | hw | hw | hw | hw
 ·skip
  refine W_move rfl rfl ?_
  refine W_callp (.cons rfl (.cons rfl (.cons rfl .nil))) Tryz.call26 rfl (T := fun _ => True) trivial (wdNew_range zO) ?_
  refine W_move rfl rfl ?_
  refine W_extract rfl rfl rfl ?_
  refine W_extract rfl rfl rfl ?_
  refine W_assign rfl rfl ?_
  refine W_assign rfl rfl ?_
  refine W_nil (W_sr ?_)
  refine W_move rfl rfl ?_
  refine W_bin rfl rfl b_geq rfl ?_
  first | rw [decide_eq_true (by omega)] | rw [decide_eq_false (by omega)]
  refine W_move rfl rfl ?_
  refine W_gno rfl rfl rfl ?_
  refine W_gno rfl rfl rfl ?_
  first | refine W_pickt rfl rfl rfl ?_ | refine W_pickf rfl rfl rfl ?_
  refine W_move rfl rfl ?_
  refine W_gno rfl rfl rfl ?_
  refine W_gno rfl rfl rfl ?_
  first | refine W_pickt rfl rfl rfl ?_ | refine W_pickf rfl rfl rfl ?_
  refine W_move rfl rfl ?_
  refine W_gno rfl rfl rfl ?_
  refine W_gno rfl rfl rfl ?_
  first | refine W_pickt rfl rfl rfl ?_ | refine W_pickf rfl rfl rfl ?_
  refine W_assign rfl rfl ?_
  refine W_nil (W_seq (W_sr ?_))
  refine W_move rfl rfl ?_
  refine W_move rfl rfl ?_
  refine W_gno rfl rfl rfl ?_
  refine W_gno rfl rfl rfl ?_
  refine W_gno rfl rfl rfl ?_
  refine W_gnou rfl rfl rfl ?_
  refine W_gnou rfl rfl rfl ?_
  refine W_gnou rfl rfl rfl ?_
  refine W_gnou rfl rfl rfl ?_
  refine W_gno rfl rfl rfl ?_
  refine W_gno rfl rfl rfl ?_
  refine W_gnou rfl rfl rfl ?_
  refine W_gnou rfl rfl rfl ?_
  refine W_gnou rfl rfl rfl ?_
  refine W_gno rfl rfl rfl ?_
  first | refine W_pickt rfl rfl rfl ?_ | refine W_pickf rfl rfl rfl ?_
  refine W_move rfl rfl ?_
  refine W_gyes rfl rfl ?_
  refine W_move rfl rfl ?_
  refine W_gyes rfl rfl ?_
  refine W_not rfl rfl ?_
  refine W_gyes rfl rfl ?_
  refine W_move rfl rfl ?_
  refine W_gyes rfl rfl ?_
  refine W_move rfl rfl ?_
  refine W_gyes rfl rfl ?_
  refine W_bin rfl rfl b_neq rfl ?_
  refine W_gyes rfl rfl ?_
  refine W_move rfl rfl ?_
  refine W_gyes rfl rfl ?_
  refine W_move rfl rfl ?_
  refine W_gyes rfl rfl ?_
  refine W_x (X_ptrNotNil rfl rfl ty67) (fun _ h => by cases h) rfl ?_
  refine W_gyes rfl rfl ?_
  first | refine W_pickt rfl rfl rfl ?_ | refine W_pickf rfl rfl rfl ?_
  refine W_gyes rfl rfl ?_
  first | refine W_pickt rfl rfl rfl ?_ | refine W_pickf rfl rfl rfl ?_
  first | refine W_pickt rfl rfl rfl ?_ | refine W_pickf rfl rfl rfl ?_
  refine W_nil ?_
  refine W_condF rfl rfl ?_
  refine W_skip (W_seq ?_)
  refine W_anyC [(b7, .cells 47 7 [.int .i64 s0, .int .i64 s1, .int .i64 s2, .int .i64 s3, .int .u64 s4, .int .u64 s5, .slice ad (min n 600) cap])] zk ?_
  refine WC_one 0 (l' := #[true, false, false, false, false, false, false, false, false, false, false, false, false, false, false, false, false, false, false, false, false, false, false, false, false, false, false, false, false, false, false, false, false, false, false, false, false, false, false, false, false, false, false, false, false, false, false, false, false, false, false, false, false]) zH zK rfl zK ?_
  refine W_callp .nil Tryz.call29 rfl hT wknown_pure ?_
  refine W_nil ?_
  refine WC_goal ?_
  refine WC_take 1 (l' := #[true, true, false, false, false, false, false, false, false, false, false, false, false, false, false, false, false, false, false, false, false, false, false, false, false, false, false, false, false, false, false, false, false, false, false, false, false, false, false, false, false, false, false, false, false, false, false, false, false, false, false, false, false]) rfl zK zK zK rfl zK (X_move rfl) rfl ?_
  refine WC_gyes 2 (l' := #[true, true, true, false, false, false, false, false, false, false, false, false, false, false, false, false, false, false, false, false, false, false, false, false, false, false, false, false, false, false, false, false, false, false, false, false, false, false, false, false, false, false, false, false, false, false, false, false, false, false, false, false, false]) rfl zK zK zK rfl zK rfl rfl (X_move rfl) rfl ?_
  refine WC_gyes 3 (l' := #[true, true, true, true, false, false, false, false, false, false, false, false, false, false, false, false, false, false, false, false, false, false, false, false, false, false, false, false, false, false, false, false, false, false, false, false, false, false, false, false, false, false, false, false, false, false, false, false, false, false, false, false, false]) rfl zK zK zK rfl zK rfl rfl (X_move rfl) rfl ?_
  refine WC_one 4 (l' := #[true, true, true, true, true, false, false, false, false, false, false, false, false, false, false, false, false, false, false, false, false, false, false, false, false, false, false, false, false, false, false, false, false, false, false, false, false, false, false, false, false, false, false, false, false, false, false, false, false, false, false, false, false]) zH zK rfl zK ?_
  refine W_gyes rfl rfl ?_
  refine W_buildSlice (l := [.slice adb nb capb]) ty142 ty28 (.cons rfl rfl rfl rfl rfl .nil) rfl rfl rfl rfl rfl rfl rfl (fun b81 => ?_)
  refine W_nil ?_
  refine WC_goal ?_
  refine WC_one 5 (l' := #[true, true, true, true, true, true, false, false, false, false, false, false, false, false, false, false, false, false, false, false, false, false, false, false, false, false, false, false, false, false, false, false, false, false, false, false, false, false, false, false, false, false, false, false, false, false, false, false, false, false, false, false, false]) zH zK rfl zK ?_
  refine W_gyes rfl rfl ?_
  refine W_callq (.cons rfl (.cons rfl .nil)) Tryz.call30 rfl (wRun_nil zM) ?_
  refine W_nil ?_
  refine WC_goal ?_
  refine WC_gyes 6 (l' := #[true, true, true, true, true, true, true, false, false, false, false, false, false, false, false, false, false, false, false, false, false, false, false, false, false, false, false, false, false, false, false, false, false, false, false, false, false, false, false, false, false, false, false, false, false, false, false, false, false, false, false, false, false]) rfl zK zK zK rfl zK rfl rfl (X_len rfl ty73 rfl) rfl ?_
  refine WC_gyes 7 (l' := #[true, true, true, true, true, true, true, true, false, false, false, false, false, false, false, false, false, false, false, false, false, false, false, false, false, false, false, false, false, false, false, false, false, false, false, false, false, false, false, false, false, false, false, false, false, false, false, false, false, false, false, false, false]) rfl zK zK zK rfl zK rfl rfl (X_bin rfl rfl b_eql) rfl ?_
  first | refine WC_take 8 (l' := #[true, true, true, true, true, true, true, true, true, false, false, false, false, false, false, false, false, false, false, false, false, false, false, false, false, false, false, false, false, false, false, false, false, false, false, false, false, false, false, false, false, false, false, false, false, false, false, false, false, false, false, false, false]) rfl zK zK zK rfl zK (X_pickt rfl rfl) rfl ?_ | refine WC_take 8 (l' := #[true, true, true, true, true, true, true, true, true, false, false, false, false, false, false, false, false, false, false, false, false, false, false, false, false, false, false, false, false, false, false, false, false, false, false, false, false, false, false, false, false, false, false, false, false, false, false, false, false, false, false, false, false]) rfl zK zK zK rfl zK (X_pickf rfl rfl) rfl ?_
  refine WC_take 9 (l' := #[true, true, true, true, true, true, true, true, true, true, false, false, false, false, false, false, false, false, false, false, false, false, false, false, false, false, false, false, false, false, false, false, false, false, false, false, false, false, false, false, false, false, false, false, false, false, false, false, false, false, false, false, false]) rfl zK zK zK rfl zK (X_move rfl) rfl ?_
  refine WC_gyes 10 (l' := #[true, true, true, true, true, true, true, true, true, true, true, false, false, false, false, false, false, false, false, false, false, false, false, false, false, false, false, false, false, false, false, false, false, false, false, false, false, false, false, false, false, false, false, false, false, false, false, false, false, false, false, false, false]) rfl zK zK zK rfl zK rfl rfl (X_move rfl) rfl ?_
  refine WC_gyes 11 (l' := #[true, true, true, true, true, true, true, true, true, true, true, true, false, false, false, false, false, false, false, false, false, false, false, false, false, false, false, false, false, false, false, false, false, false, false, false, false, false, false, false, false, false, false, false, false, false, false, false, false, false, false, false, false]) rfl zK zK zK rfl zK rfl rfl (X_loadB (vs := [.int .i64 s0, .int .i64 s1, .int .i64 s2, .int .i64 s3, .int .u64 s4, .int .u64 s5, .slice ad (min n 600) cap]) rfl ty47 rfl (b := b7) zM rfl rfl) rfl ?_
  refine WC_gyes 14 (l' := #[true, true, true, true, true, true, true, true, true, true, true, true, false, false, true, false, false, false, false, false, false, false, false, false, false, false, false, false, false, false, false, false, false, false, false, false, false, false, false, false, false, false, false, false, false, false, false, false, false, false, false, false, false]) rfl zK zK zK rfl zK rfl rfl (X_fieldAddr rfl fld47_0 zd) rfl ?_
  refine WC_gyes 15 (l' := #[true, true, true, true, true, true, true, true, true, true, true, true, false, false, true, true, false, false, false, false, false, false, false, false, false, false, false, false, false, false, false, false, false, false, false, false, false, false, false, false, false, false, false, false, false, false, false, false, false, false, false, false, false]) rfl zK zK zK rfl zK rfl rfl (X_load (v := .int .i64 s0) rfl ty3 rfl (Cell.own (b := b7) zM rfl)) rfl ?_
  refine WC_gyes 16 (l' := #[true, true, true, true, true, true, true, true, true, true, true, true, false, false, true, true, true, false, false, false, false, false, false, false, false, false, false, false, false, false, false, false, false, false, false, false, false, false, false, false, false, false, false, false, false, false, false, false, false, false, false, false, false]) rfl zK zK zK rfl zK rfl rfl (X_build (l := rrC ⟨0, s0, 0, 6⟩) ty76 pl76 (.cons rfl rfl rfl rfl rfl (.cons rfl rfl rfl rfl rfl .nil)) rfl zk) rfl ?_
  refine WC_one 12 (l' := #[true, true, true, true, true, true, true, true, true, true, true, true, true, false, true, true, true, false, false, false, false, false, false, false, false, false, false, false, false, false, false, false, false, false, false, false, false, false, false, false, false, false, false, false, false, false, false, false, false, false, false, false, false]) zH zK rfl zK ?_
  refine W_gyes rfl rfl ?_
  refine W_callp (.cons rfl .nil) Tryz.call13 rfl (T := fun _ => True) trivial (to_nil) ?_
  refine W_nil ?_
  refine WC_goal ?_
  refine WC_one 13 (l' := #[true, true, true, true, true, true, true, true, true, true, true, true, true, true, true, true, true, false, false, false, false, false, false, false, false, false, false, false, false, false, false, false, false, false, false, false, false, false, false, false, false, false, false, false, false, false, false, false, false, false, false, false, false]) zH zK rfl zK ?_
  refine W_gyes rfl rfl ?_
  refine W_callp (v := .agg (rrC ⟨0, s0, 0, 6⟩).toArray) (.cons rfl (.cons rfl .nil)) Tryz.call31 rfl (T := fun _ => True) trivial (wStep_nil) ?_
  refine W_nil ?_
  refine WC_goal ?_
  refine WC_gyes 17 (l' := #[true, true, true, true, true, true, true, true, true, true, true, true, true, true, true, true, true, true, false, false, false, false, false, false, false, false, false, false, false, false, false, false, false, false, false, false, false, false, false, false, false, false, false, false, false, false, false, false, false, false, false, false, false]) rfl zK zK zK rfl zK rfl rfl (X_eqF (f := rrC) rfl rfl flat76 agg76 rrC_like rrC_inj gt76 zd) rfl ?_
  rw [decide_eq_true rfl]
  first | refine WC_take 18 (l' := #[true, true, true, true, true, true, true, true, true, true, true, true, true, true, true, true, true, true, true, false, false, false, false, false, false, false, false, false, false, false, false, false, false, false, false, false, false, false, false, false, false, false, false, false, false, false, false, false, false, false, false, false, false]) rfl zK zK zK rfl zK (X_pickt rfl rfl) rfl ?_ | refine WC_take 18 (l' := #[true, true, true, true, true, true, true, true, true, true, true, true, true, true, true, true, true, true, true, false, false, false, false, false, false, false, false, false, false, false, false, false, false, false, false, false, false, false, false, false, false, false, false, false, false, false, false, false, false, false, false, false, false]) rfl zK zK zK rfl zK (X_pickf rfl rfl) rfl ?_
  refine WC_take 19 (l' := #[true, true, true, true, true, true, true, true, true, true, true, true, true, true, true, true, true, true, true, true, false, false, false, false, false, false, false, false, false, false, false, false, false, false, false, false, false, false, false, false, false, false, false, false, false, false, false, false, false, false, false, false, false]) rfl zK zK zK rfl zK (X_move rfl) rfl ?_
  refine WC_gyes 20 (l' := #[true, true, true, true, true, true, true, true, true, true, true, true, true, true, true, true, true, true, true, true, true, false, false, false, false, false, false, false, false, false, false, false, false, false, false, false, false, false, false, false, false, false, false, false, false, false, false, false, false, false, false, false, false]) rfl zK zK zK rfl zK rfl rfl (X_move rfl) rfl ?_
  refine WC_one 21 (l' := #[true, true, true, true, true, true, true, true, true, true, true, true, true, true, true, true, true, true, true, true, true, true, false, false, false, false, false, false, false, false, false, false, false, false, false, false, false, false, false, false, false, false, false, false, false, false, false, false, false, false, false, false, false]) zH zK rfl zK ?_
  refine W_gyes rfl rfl ?_
  refine W_callp (.cons rfl .nil) Tryz.call32 rfl (T := fun _ => True) trivial (wRound_nil) ?_
  refine W_nil ?_
  refine WC_goal ?_
  refine WC_gyes 22 (l' := #[true, true, true, true, true, true, true, true, true, true, true, true, true, true, true, true, true, true, true, true, true, true, true, false, false, false, false, false, false, false, false, false, false, false, false, false, false, false, false, false, false, false, false, false, false, false, false, false, false, false, false, false, false]) rfl zK zK zK rfl zK rfl rfl (X_bin rfl rfl b_eql) rfl ?_
  first | refine WC_take 23 (l' := #[true, true, true, true, true, true, true, true, true, true, true, true, true, true, true, true, true, true, true, true, true, true, true, true, false, false, false, false, false, false, false, false, false, false, false, false, false, false, false, false, false, false, false, false, false, false, false, false, false, false, false, false, false]) rfl zK zK zK rfl zK (X_pickt rfl rfl) rfl ?_ | refine WC_take 23 (l' := #[true, true, true, true, true, true, true, true, true, true, true, true, true, true, true, true, true, true, true, true, true, true, true, true, false, false, false, false, false, false, false, false, false, false, false, false, false, false, false, false, false, false, false, false, false, false, false, false, false, false, false, false, false]) rfl zK zK zK rfl zK (X_pickf rfl rfl) rfl ?_
  refine WC_take 24 (l' := #[true, true, true, true, true, true, true, true, true, true, true, true, true, true, true, true, true, true, true, true, true, true, true, true, true, false, false, false, false, false, false, false, false, false, false, false, false, false, false, false, false, false, false, false, false, false, false, false, false, false, false, false, false]) rfl zK zK zK rfl zK (X_move rfl) rfl ?_
  refine WC_gyes 25 (l' := #[true, true, true, true, true, true, true, true, true, true, true, true, true, true, true, true, true, true, true, true, true, true, true, true, true, true, false, false, false, false, false, false, false, false, false, false, false, false, false, false, false, false, false, false, false, false, false, false, false, false, false, false, false]) rfl zK zK zK rfl zK rfl rfl (X_move rfl) rfl ?_
  refine WC_gyes 26 (l' := #[true, true, true, true, true, true, true, true, true, true, true, true, true, true, true, true, true, true, true, true, true, true, true, true, true, true, true, false, false, false, false, false, false, false, false, false, false, false, false, false, false, false, false, false, false, false, false, false, false, false, false, false, false]) rfl zK zK zK rfl zK rfl rfl (X_bin rfl rfl b_eql) rfl ?_
  first | refine WC_take 27 (l' := #[true, true, true, true, true, true, true, true, true, true, true, true, true, true, true, true, true, true, true, true, true, true, true, true, true, true, true, true, false, false, false, false, false, false, false, false, false, false, false, false, false, false, false, false, false, false, false, false, false, false, false, false, false]) rfl zK zK zK rfl zK (X_pickt rfl rfl) rfl ?_ | refine WC_take 27 (l' := #[true, true, true, true, true, true, true, true, true, true, true, true, true, true, true, true, true, true, true, true, true, true, true, true, true, true, true, true, false, false, false, false, false, false, false, false, false, false, false, false, false, false, false, false, false, false, false, false, false, false, false, false, false]) rfl zK zK zK rfl zK (X_pickf rfl rfl) rfl ?_
  refine WC_take 28 (l' := #[true, true, true, true, true, true, true, true, true, true, true, true, true, true, true, true, true, true, true, true, true, true, true, true, true, true, true, true, true, false, false, false, false, false, false, false, false, false, false, false, false, false, false, false, false, false, false, false, false, false, false, false, false]) rfl zK zK zK rfl zK (X_move rfl) rfl ?_
  refine WC_gyes 29 (l' := #[true, true, true, true, true, true, true, true, true, true, true, true, true, true, true, true, true, true, true, true, true, true, true, true, true, true, true, true, true, true, false, false, false, false, false, false, false, false, false, false, false, false, false, false, false, false, false, false, false, false, false, false, false]) rfl zK zK zK rfl zK rfl rfl (X_move rfl) rfl ?_
  refine WC_gyes 30 (l' := #[true, true, true, true, true, true, true, true, true, true, true, true, true, true, true, true, true, true, true, true, true, true, true, true, true, true, true, true, true, true, true, false, false, false, false, false, false, false, false, false, false, false, false, false, false, false, false, false, false, false, false, false, false]) rfl zK zK zK rfl zK rfl rfl (X_not rfl) rfl ?_
  first | refine WC_take 31 (l' := #[true, true, true, true, true, true, true, true, true, true, true, true, true, true, true, true, true, true, true, true, true, true, true, true, true, true, true, true, true, true, true, true, false, false, false, false, false, false, false, false, false, false, false, false, false, false, false, false, false, false, false, false, false]) rfl zK zK zK rfl zK (X_pickt rfl rfl) rfl ?_ | refine WC_take 31 (l' := #[true, true, true, true, true, true, true, true, true, true, true, true, true, true, true, true, true, true, true, true, true, true, true, true, true, true, true, true, true, true, true, true, false, false, false, false, false, false, false, false, false, false, false, false, false, false, false, false, false, false, false, false, false]) rfl zK zK zK rfl zK (X_pickf rfl rfl) rfl ?_
  refine WC_take 32 (l' := #[true, true, true, true, true, true, true, true, true, true, true, true, true, true, true, true, true, true, true, true, true, true, true, true, true, true, true, true, true, true, true, true, true, false, false, false, false, false, false, false, false, false, false, false, false, false, false, false, false, false, false, false, false]) rfl zK zK zK rfl zK (X_move rfl) rfl ?_
  refine WC_gyes 33 (l' := #[true, true, true, true, true, true, true, true, true, true, true, true, true, true, true, true, true, true, true, true, true, true, true, true, true, true, true, true, true, true, true, true, true, true, false, false, false, false, false, false, false, false, false, false, false, false, false, false, false, false, false, false, false]) rfl zK zK zK rfl zK rfl rfl (X_move rfl) rfl ?_
  refine WC_one 34 (l' := #[true, true, true, true, true, true, true, true, true, true, true, true, true, true, true, true, true, true, true, true, true, true, true, true, true, true, true, true, true, true, true, true, true, true, true, false, false, false, false, false, false, false, false, false, false, false, false, false, false, false, false, false, false]) zH zK rfl zK ?_
  refine W_gyes rfl rfl ?_
  refine W_callp (.cons rfl .nil) Tryz.call28 rfl (T := fun _ => True) trivial (wQuiet_nil) ?_
  refine W_nil ?_
  refine WC_goal ?_
  first | refine WC_take 35 (l' := #[true, true, true, true, true, true, true, true, true, true, true, true, true, true, true, true, true, true, true, true, true, true, true, true, true, true, true, true, true, true, true, true, true, true, true, true, false, false, false, false, false, false, false, false, false, false, false, false, false, false, false, false, false]) rfl zK zK zK rfl zK (X_pickt rfl rfl) rfl ?_ | refine WC_take 35 (l' := #[true, true, true, true, true, true, true, true, true, true, true, true, true, true, true, true, true, true, true, true, true, true, true, true, true, true, true, true, true, true, true, true, true, true, true, true, false, false, false, false, false, false, false, false, false, false, false, false, false, false, false, false, false]) rfl zK zK zK rfl zK (X_pickf rfl rfl) rfl ?_
  refine WC_take 36 (l' := #[true, true, true, true, true, true, true, true, true, true, true, true, true, true, true, true, true, true, true, true, true, true, true, true, true, true, true, true, true, true, true, true, true, true, true, true, true, false, false, false, false, false, false, false, false, false, false, false, false, false, false, false, false]) rfl zK zK zK rfl zK (X_move rfl) rfl ?_
  refine WC_gyes 37 (l' := #[true, true, true, true, true, true, true, true, true, true, true, true, true, true, true, true, true, true, true, true, true, true, true, true, true, true, true, true, true, true, true, true, true, true, true, true, true, true, false, false, false, false, false, false, false, false, false, false, false, false, false, false, false]) rfl zK zK zK rfl zK rfl rfl (X_move rfl) rfl ?_
  refine WC_one 38 (l' := #[true, true, true, true, true, true, true, true, true, true, true, true, true, true, true, true, true, true, true, true, true, true, true, true, true, true, true, true, true, true, true, true, true, true, true, true, true, true, true, false, false, false, false, false, false, false, false, false, false, false, false, false, false]) zH zK rfl zK ?_
  refine W_gyes rfl rfl ?_
  refine W_callp (.cons rfl (.cons rfl .nil)) Tryz.call33 rfl (T := fun _ => True) trivial (wLines_nil) ?_
  refine W_nil ?_
  refine WC_goal ?_
  refine WC_gyes 39 (l' := #[true, true, true, true, true, true, true, true, true, true, true, true, true, true, true, true, true, true, true, true, true, true, true, true, true, true, true, true, true, true, true, true, true, true, true, true, true, true, true, true, false, false, false, false, false, false, false, false, false, false, false, false, false]) rfl zK zK zK rfl zK rfl rfl (X_len rfl ty78 rfl) rfl ?_
  refine WC_gyes 40 (l' := #[true, true, true, true, true, true, true, true, true, true, true, true, true, true, true, true, true, true, true, true, true, true, true, true, true, true, true, true, true, true, true, true, true, true, true, true, true, true, true, true, true, false, false, false, false, false, false, false, false, false, false, false, false]) rfl zK zK zK rfl zK rfl rfl (X_bin rfl rfl b_eql) rfl ?_
  first | refine WC_take 41 (l' := #[true, true, true, true, true, true, true, true, true, true, true, true, true, true, true, true, true, true, true, true, true, true, true, true, true, true, true, true, true, true, true, true, true, true, true, true, true, true, true, true, true, true, false, false, false, false, false, false, false, false, false, false, false]) rfl zK zK zK rfl zK (X_pickt rfl rfl) rfl ?_ | refine WC_take 41 (l' := #[true, true, true, true, true, true, true, true, true, true, true, true, true, true, true, true, true, true, true, true, true, true, true, true, true, true, true, true, true, true, true, true, true, true, true, true, true, true, true, true, true, true, false, false, false, false, false, false, false, false, false, false, false]) rfl zK zK zK rfl zK (X_pickf rfl rfl) rfl ?_
  refine WC_take 42 (l' := #[true, true, true, true, true, true, true, true, true, true, true, true, true, true, true, true, true, true, true, true, true, true, true, true, true, true, true, true, true, true, true, true, true, true, true, true, true, true, true, true, true, true, true, false, false, false, false, false, false, false, false, false, false]) rfl zK zK zK rfl zK (X_move rfl) rfl ?_
  refine WC_gyes 43 (l' := #[true, true, true, true, true, true, true, true, true, true, true, true, true, true, true, true, true, true, true, true, true, true, true, true, true, true, true, true, true, true, true, true, true, true, true, true, true, true, true, true, true, true, true, true, false, false, false, false, false, false, false, false, false]) rfl zK zK zK rfl zK rfl rfl (X_move rfl) rfl ?_
  refine WC_one 44 (l' := #[true, true, true, true, true, true, true, true, true, true, true, true, true, true, true, true, true, true, true, true, true, true, true, true, true, true, true, true, true, true, true, true, true, true, true, true, true, true, true, true, true, true, true, true, true, false, false, false, false, false, false, false, false]) zH zK rfl zK ?_
  refine W_gyes rfl rfl ?_
  refine W_callp (.cons rfl .nil) Tryz.call27 rfl (T := fun _ => True) trivial (wMachine_nil) ?_
  refine W_nil ?_
  refine WC_goal ?_
  refine WC_gyes 45 (l' := #[true, true, true, true, true, true, true, true, true, true, true, true, true, true, true, true, true, true, true, true, true, true, true, true, true, true, true, true, true, true, true, true, true, true, true, true, true, true, true, true, true, true, true, true, true, true, false, false, false, false, false, false, false]) rfl zK zK zK rfl zK rfl rfl (X_ptrNil rfl rfl ty23) rfl ?_
  first | refine WC_take 46 (l' := #[true, true, true, true, true, true, true, true, true, true, true, true, true, true, true, true, true, true, true, true, true, true, true, true, true, true, true, true, true, true, true, true, true, true, true, true, true, true, true, true, true, true, true, true, true, true, true, false, false, false, false, false, false]) rfl zK zK zK rfl zK (X_pickt rfl rfl) rfl ?_ | refine WC_take 46 (l' := #[true, true, true, true, true, true, true, true, true, true, true, true, true, true, true, true, true, true, true, true, true, true, true, true, true, true, true, true, true, true, true, true, true, true, true, true, true, true, true, true, true, true, true, true, true, true, true, false, false, false, false, false, false]) rfl zK zK zK rfl zK (X_pickf rfl rfl) rfl ?_
  refine WC_take 47 (l' := #[true, true, true, true, true, true, true, true, true, true, true, true, true, true, true, true, true, true, true, true, true, true, true, true, true, true, true, true, true, true, true, true, true, true, true, true, true, true, true, true, true, true, true, true, true, true, true, true, false, false, false, false, false]) rfl zK zK zK rfl zK (X_move rfl) rfl ?_
  refine WC_one 48 (l' := #[true, true, true, true, true, true, true, true, true, true, true, true, true, true, true, true, true, true, true, true, true, true, true, true, true, true, true, true, true, true, true, true, true, true, true, true, true, true, true, true, true, true, true, true, true, true, true, true, true, false, false, false, false]) zH zK rfl zK ?_
  refine W_gyes rfl rfl ?_
  refine W_callp (.cons rfl .nil) Tryz.call34 rfl (T := fun _ => True) trivial (sParse_nil) ?_
  refine W_nil ?_
  refine WC_goal ?_
  refine WC_gyes 49 (l' := #[true, true, true, true, true, true, true, true, true, true, true, true, true, true, true, true, true, true, true, true, true, true, true, true, true, true, true, true, true, true, true, true, true, true, true, true, true, true, true, true, true, true, true, true, true, true, true, true, true, true, false, false, false]) rfl zK zK zK rfl zK rfl rfl (X_len rfl ty80 rfl) rfl ?_
  refine WC_gyes 50 (l' := #[true, true, true, true, true, true, true, true, true, true, true, true, true, true, true, true, true, true, true, true, true, true, true, true, true, true, true, true, true, true, true, true, true, true, true, true, true, true, true, true, true, true, true, true, true, true, true, true, true, true, true, false, false]) rfl zK zK zK rfl zK rfl rfl (X_bin rfl rfl b_eql) rfl ?_
  first | refine WC_take 51 (l' := #[true, true, true, true, true, true, true, true, true, true, true, true, true, true, true, true, true, true, true, true, true, true, true, true, true, true, true, true, true, true, true, true, true, true, true, true, true, true, true, true, true, true, true, true, true, true, true, true, true, true, true, true, false]) rfl zK zK zK rfl zK (X_pickt rfl rfl) rfl ?_ | refine WC_take 51 (l' := #[true, true, true, true, true, true, true, true, true, true, true, true, true, true, true, true, true, true, true, true, true, true, true, true, true, true, true, true, true, true, true, true, true, true, true, true, true, true, true, true, true, true, true, true, true, true, true, true, true, true, true, true, false]) rfl zK zK zK rfl zK (X_pickf rfl rfl) rfl ?_
  refine WC_take 52 (l' := #[true, true, true, true, true, true, true, true, true, true, true, true, true, true, true, true, true, true, true, true, true, true, true, true, true, true, true, true, true, true, true, true, true, true, true, true, true, true, true, true, true, true, true, true, true, true, true, true, true, true, true, true, true]) rfl zK zK zK rfl zK (X_assign rfl) rfl ?_
  refine WC_done zH zK ?_
  refine W_ret1m (H2 := H) Tryz.results5 rfl (.nil _) zH ?_
  exact ⟨rfl, rfl⟩
 ·skip
  refine W_move rfl rfl ?_
  refine W_callp (.cons rfl (.cons rfl (.cons rfl .nil))) Tryz.call26 rfl (T := fun _ => True) trivial (wdNew_range zO) ?_
  refine W_move rfl rfl ?_
  refine W_extract rfl rfl rfl ?_
  refine W_extract rfl rfl rfl ?_
  refine W_assign rfl rfl ?_
  refine W_assign rfl rfl ?_
  refine W_nil (W_sr ?_)
  refine W_move rfl rfl ?_
  refine W_bin rfl rfl b_geq rfl ?_
  first | rw [decide_eq_true (by omega)] | rw [decide_eq_false (by omega)]
  refine W_move rfl rfl ?_
  refine W_gyes rfl rfl ?_
  refine W_move rfl rfl ?_
  refine W_gyes rfl rfl ?_
  refine W_bin rfl rfl b_leq rfl ?_
  first | rw [decide_eq_true (by omega)] | rw [decide_eq_false (by omega)]
  first | refine W_pickt rfl rfl rfl ?_ | refine W_pickf rfl rfl rfl ?_
  refine W_move rfl rfl ?_
  refine W_gno rfl rfl rfl ?_
  refine W_gno rfl rfl rfl ?_
  first | refine W_pickt rfl rfl rfl ?_ | refine W_pickf rfl rfl rfl ?_
  refine W_move rfl rfl ?_
  refine W_gno rfl rfl rfl ?_
  refine W_gno rfl rfl rfl ?_
  first | refine W_pickt rfl rfl rfl ?_ | refine W_pickf rfl rfl rfl ?_
  refine W_assign rfl rfl ?_
  refine W_nil (W_seq (W_sr ?_))
  refine W_move rfl rfl ?_
  refine W_move rfl rfl ?_
  refine W_gno rfl rfl rfl ?_
  refine W_gno rfl rfl rfl ?_
  refine W_gno rfl rfl rfl ?_
  refine W_gnou rfl rfl rfl ?_
  refine W_gnou rfl rfl rfl ?_
  refine W_gnou rfl rfl rfl ?_
  refine W_gnou rfl rfl rfl ?_
  refine W_gno rfl rfl rfl ?_
  refine W_gno rfl rfl rfl ?_
  refine W_gnou rfl rfl rfl ?_
  refine W_gnou rfl rfl rfl ?_
  refine W_gnou rfl rfl rfl ?_
  refine W_gno rfl rfl rfl ?_
  first | refine W_pickt rfl rfl rfl ?_ | refine W_pickf rfl rfl rfl ?_
  refine W_move rfl rfl ?_
  refine W_gyes rfl rfl ?_
  refine W_move rfl rfl ?_
  refine W_gyes rfl rfl ?_
  refine W_not rfl rfl ?_
  refine W_gyes rfl rfl ?_
  refine W_move rfl rfl ?_
  refine W_gyes rfl rfl ?_
  refine W_move rfl rfl ?_
  refine W_gyes rfl rfl ?_
  refine W_bin rfl rfl b_neq rfl ?_
  refine W_gyes rfl rfl ?_
  refine W_move rfl rfl ?_
  refine W_gyes rfl rfl ?_
  refine W_move rfl rfl ?_
  refine W_gyes rfl rfl ?_
  refine W_x (X_ptrNotNil rfl rfl ty67) (fun _ h => by cases h) rfl ?_
  refine W_gyes rfl rfl ?_
  first | refine W_pickt rfl rfl rfl ?_ | refine W_pickf rfl rfl rfl ?_
  refine W_gyes rfl rfl ?_
  first | refine W_pickt rfl rfl rfl ?_ | refine W_pickf rfl rfl rfl ?_
  first | refine W_pickt rfl rfl rfl ?_ | refine W_pickf rfl rfl rfl ?_
  refine W_nil ?_
  refine W_condF rfl rfl ?_
  refine W_skip (W_seq ?_)
  refine W_anyC [(b7, .cells 47 7 [.int .i64 s0, .int .i64 s1, .int .i64 s2, .int .i64 s3, .int .u64 s4, .int .u64 s5, .slice ad (min n 600) cap])] zk ?_
  refine WC_one 0 (l' := #[true, false, false, false, false, false, false, false, false, false, false, false, false, false, false, false, false, false, false, false, false, false, false, false, false, false, false, false, false, false, false, false, false, false, false, false, false, false, false, false, false, false, false, false, false, false, false, false, false, false, false, false, false]) zH zK rfl zK ?_
  refine W_callp .nil Tryz.call29 rfl hT wknown_pure ?_
  refine W_nil ?_
  refine WC_goal ?_
  refine WC_take 1 (l' := #[true, true, false, false, false, false, false, false, false, false, false, false, false, false, false, false, false, false, false, false, false, false, false, false, false, false, false, false, false, false, false, false, false, false, false, false, false, false, false, false, false, false, false, false, false, false, false, false, false, false, false, false, false]) rfl zK zK zK rfl zK (X_move rfl) rfl ?_
  refine WC_gyes 2 (l' := #[true, true, true, false, false, false, false, false, false, false, false, false, false, false, false, false, false, false, false, false, false, false, false, false, false, false, false, false, false, false, false, false, false, false, false, false, false, false, false, false, false, false, false, false, false, false, false, false, false, false, false, false, false]) rfl zK zK zK rfl zK rfl rfl (X_move rfl) rfl ?_
  refine WC_gyes 3 (l' := #[true, true, true, true, false, false, false, false, false, false, false, false, false, false, false, false, false, false, false, false, false, false, false, false, false, false, false, false, false, false, false, false, false, false, false, false, false, false, false, false, false, false, false, false, false, false, false, false, false, false, false, false, false]) rfl zK zK zK rfl zK rfl rfl (X_move rfl) rfl ?_
  refine WC_one 4 (l' := #[true, true, true, true, true, false, false, false, false, false, false, false, false, false, false, false, false, false, false, false, false, false, false, false, false, false, false, false, false, false, false, false, false, false, false, false, false, false, false, false, false, false, false, false, false, false, false, false, false, false, false, false, false]) zH zK rfl zK ?_
  refine W_gyes rfl rfl ?_
  refine W_buildSlice (l := [.slice adb nb capb]) ty142 ty28 (.cons rfl rfl rfl rfl rfl .nil) rfl rfl rfl rfl rfl rfl rfl (fun b81 => ?_)
  refine W_nil ?_
  refine WC_goal ?_
  refine WC_one 5 (l' := #[true, true, true, true, true, true, false, false, false, false, false, false, false, false, false, false, false, false, false, false, false, false, false, false, false, false, false, false, false, false, false, false, false, false, false, false, false, false, false, false, false, false, false, false, false, false, false, false, false, false, false, false, false]) zH zK rfl zK ?_
  refine W_gyes rfl rfl ?_
  refine W_callq (.cons rfl (.cons rfl .nil)) Tryz.call30 rfl (wRun_nil zM) ?_
  refine W_nil ?_
  refine WC_goal ?_
  refine WC_gyes 6 (l' := #[true, true, true, true, true, true, true, false, false, false, false, false, false, false, false, false, false, false, false, false, false, false, false, false, false, false, false, false, false, false, false, false, false, false, false, false, false, false, false, false, false, false, false, false, false, false, false, false, false, false, false, false, false]) rfl zK zK zK rfl zK rfl rfl (X_len rfl ty73 rfl) rfl ?_
  refine WC_gyes 7 (l' := #[true, true, true, true, true, true, true, true, false, false, false, false, false, false, false, false, false, false, false, false, false, false, false, false, false, false, false, false, false, false, false, false, false, false, false, false, false, false, false, false, false, false, false, false, false, false, false, false, false, false, false, false, false]) rfl zK zK zK rfl zK rfl rfl (X_bin rfl rfl b_eql) rfl ?_
  first | refine WC_take 8 (l' := #[true, true, true, true, true, true, true, true, true, false, false, false, false, false, false, false, false, false, false, false, false, false, false, false, false, false, false, false, false, false, false, false, false, false, false, false, false, false, false, false, false, false, false, false, false, false, false, false, false, false, false, false, false]) rfl zK zK zK rfl zK (X_pickt rfl rfl) rfl ?_ | refine WC_take 8 (l' := #[true, true, true, true, true, true, true, true, true, false, false, false, false, false, false, false, false, false, false, false, false, false, false, false, false, false, false, false, false, false, false, false, false, false, false, false, false, false, false, false, false, false, false, false, false, false, false, false, false, false, false, false, false]) rfl zK zK zK rfl zK (X_pickf rfl rfl) rfl ?_
  refine WC_take 9 (l' := #[true, true, true, true, true, true, true, true, true, true, false, false, false, false, false, false, false, false, false, false, false, false, false, false, false, false, false, false, false, false, false, false, false, false, false, false, false, false, false, false, false, false, false, false, false, false, false, false, false, false, false, false, false]) rfl zK zK zK rfl zK (X_move rfl) rfl ?_
  refine WC_gyes 10 (l' := #[true, true, true, true, true, true, true, true, true, true, true, false, false, false, false, false, false, false, false, false, false, false, false, false, false, false, false, false, false, false, false, false, false, false, false, false, false, false, false, false, false, false, false, false, false, false, false, false, false, false, false, false, false]) rfl zK zK zK rfl zK rfl rfl (X_move rfl) rfl ?_
  refine WC_gyes 11 (l' := #[true, true, true, true, true, true, true, true, true, true, true, true, false, false, false, false, false, false, false, false, false, false, false, false, false, false, false, false, false, false, false, false, false, false, false, false, false, false, false, false, false, false, false, false, false, false, false, false, false, false, false, false, false]) rfl zK zK zK rfl zK rfl rfl (X_loadB (vs := [.int .i64 s0, .int .i64 s1, .int .i64 s2, .int .i64 s3, .int .u64 s4, .int .u64 s5, .slice ad (min n 600) cap]) rfl ty47 rfl (b := b7) zM rfl rfl) rfl ?_
  refine WC_gyes 14 (l' := #[true, true, true, true, true, true, true, true, true, true, true, true, false, false, true, false, false, false, false, false, false, false, false, false, false, false, false, false, false, false, false, false, false, false, false, false, false, false, false, false, false, false, false, false, false, false, false, false, false, false, false, false, false]) rfl zK zK zK rfl zK rfl rfl (X_fieldAddr rfl fld47_0 zd) rfl ?_
  refine WC_gyes 15 (l' := #[true, true, true, true, true, true, true, true, true, true, true, true, false, false, true, true, false, false, false, false, false, false, false, false, false, false, false, false, false, false, false, false, false, false, false, false, false, false, false, false, false, false, false, false, false, false, false, false, false, false, false, false, false]) rfl zK zK zK rfl zK rfl rfl (X_load (v := .int .i64 s0) rfl ty3 rfl (Cell.own (b := b7) zM rfl)) rfl ?_
  refine WC_gyes 16 (l' := #[true, true, true, true, true, true, true, true, true, true, true, true, false, false, true, true, true, false, false, false, false, false, false, false, false, false, false, false, false, false, false, false, false, false, false, false, false, false, false, false, false, false, false, false, false, false, false, false, false, false, false, false, false]) rfl zK zK zK rfl zK rfl rfl (X_build (l := rrC ⟨0, s0, 0, 6⟩) ty76 pl76 (.cons rfl rfl rfl rfl rfl (.cons rfl rfl rfl rfl rfl .nil)) rfl zk) rfl ?_
  refine WC_one 12 (l' := #[true, true, true, true, true, true, true, true, true, true, true, true, true, false, true, true, true, false, false, false, false, false, false, false, false, false, false, false, false, false, false, false, false, false, false, false, false, false, false, false, false, false, false, false, false, false, false, false, false, false, false, false, false]) zH zK rfl zK ?_
  refine W_gyes rfl rfl ?_
  refine W_callp (.cons rfl .nil) Tryz.call13 rfl (T := fun _ => True) trivial (to_nil) ?_
  refine W_nil ?_
  refine WC_goal ?_
  refine WC_one 13 (l' := #[true, true, true, true, true, true, true, true, true, true, true, true, true, true, true, true, true, false, false, false, false, false, false, false, false, false, false, false, false, false, false, false, false, false, false, false, false, false, false, false, false, false, false, false, false, false, false, false, false, false, false, false, false]) zH zK rfl zK ?_
  refine W_gyes rfl rfl ?_
  refine W_callp (v := .agg (rrC ⟨0, s0, 0, 6⟩).toArray) (.cons rfl (.cons rfl .nil)) Tryz.call31 rfl (T := fun _ => True) trivial (wStep_nil) ?_
  refine W_nil ?_
  refine WC_goal ?_
  refine WC_gyes 17 (l' := #[true, true, true, true, true, true, true, true, true, true, true, true, true, true, true, true, true, true, false, false, false, false, false, false, false, false, false, false, false, false, false, false, false, false, false, false, false, false, false, false, false, false, false, false, false, false, false, false, false, false, false, false, false]) rfl zK zK zK rfl zK rfl rfl (X_eqF (f := rrC) rfl rfl flat76 agg76 rrC_like rrC_inj gt76 zd) rfl ?_
  rw [decide_eq_true rfl]
  first | refine WC_take 18 (l' := #[true, true, true, true, true, true, true, true, true, true, true, true, true, true, true, true, true, true, true, false, false, false, false, false, false, false, false, false, false, false, false, false, false, false, false, false, false, false, false, false, false, false, false, false, false, false, false, false, false, false, false, false, false]) rfl zK zK zK rfl zK (X_pickt rfl rfl) rfl ?_ | refine WC_take 18 (l' := #[true, true, true, true, true, true, true, true, true, true, true, true, true, true, true, true, true, true, true, false, false, false, false, false, false, false, false, false, false, false, false, false, false, false, false, false, false, false, false, false, false, false, false, false, false, false, false, false, false, false, false, false, false]) rfl zK zK zK rfl zK (X_pickf rfl rfl) rfl ?_
  refine WC_take 19 (l' := #[true, true, true, true, true, true, true, true, true, true, true, true, true, true, true, true, true, true, true, true, false, false, false, false, false, false, false, false, false, false, false, false, false, false, false, false, false, false, false, false, false, false, false, false, false, false, false, false, false, false, false, false, false]) rfl zK zK zK rfl zK (X_move rfl) rfl ?_
  refine WC_gyes 20 (l' := #[true, true, true, true, true, true, true, true, true, true, true, true, true, true, true, true, true, true, true, true, true, false, false, false, false, false, false, false, false, false, false, false, false, false, false, false, false, false, false, false, false, false, false, false, false, false, false, false, false, false, false, false, false]) rfl zK zK zK rfl zK rfl rfl (X_move rfl) rfl ?_
  refine WC_one 21 (l' := #[true, true, true, true, true, true, true, true, true, true, true, true, true, true, true, true, true, true, true, true, true, true, false, false, false, false, false, false, false, false, false, false, false, false, false, false, false, false, false, false, false, false, false, false, false, false, false, false, false, false, false, false, false]) zH zK rfl zK ?_
  refine W_gyes rfl rfl ?_
  refine W_callp (.cons rfl .nil) Tryz.call32 rfl (T := fun _ => True) trivial (wRound_nil) ?_
  refine W_nil ?_
  refine WC_goal ?_
  refine WC_gyes 22 (l' := #[true, true, true, true, true, true, true, true, true, true, true, true, true, true, true, true, true, true, true, true, true, true, true, false, false, false, false, false, false, false, false, false, false, false, false, false, false, false, false, false, false, false, false, false, false, false, false, false, false, false, false, false, false]) rfl zK zK zK rfl zK rfl rfl (X_bin rfl rfl b_eql) rfl ?_
  first | refine WC_take 23 (l' := #[true, true, true, true, true, true, true, true, true, true, true, true, true, true, true, true, true, true, true, true, true, true, true, true, false, false, false, false, false, false, false, false, false, false, false, false, false, false, false, false, false, false, false, false, false, false, false, false, false, false, false, false, false]) rfl zK zK zK rfl zK (X_pickt rfl rfl) rfl ?_ | refine WC_take 23 (l' := #[true, true, true, true, true, true, true, true, true, true, true, true, true, true, true, true, true, true, true, true, true, true, true, true, false, false, false, false, false, false, false, false, false, false, false, false, false, false, false, false, false, false, false, false, false, false, false, false, false, false, false, false, false]) rfl zK zK zK rfl zK (X_pickf rfl rfl) rfl ?_
  refine WC_take 24 (l' := #[true, true, true, true, true, true, true, true, true, true, true, true, true, true, true, true, true, true, true, true, true, true, true, true, true, false, false, false, false, false, false, false, false, false, false, false, false, false, false, false, false, false, false, false, false, false, false, false, false, false, false, false, false]) rfl zK zK zK rfl zK (X_move rfl) rfl ?_
  refine WC_gyes 25 (l' := #[true, true, true, true, true, true, true, true, true, true, true, true, true, true, true, true, true, true, true, true, true, true, true, true, true, true, false, false, false, false, false, false, false, false, false, false, false, false, false, false, false, false, false, false, false, false, false, false, false, false, false, false, false]) rfl zK zK zK rfl zK rfl rfl (X_move rfl) rfl ?_
  refine WC_gyes 26 (l' := #[true, true, true, true, true, true, true, true, true, true, true, true, true, true, true, true, true, true, true, true, true, true, true, true, true, true, true, false, false, false, false, false, false, false, false, false, false, false, false, false, false, false, false, false, false, false, false, false, false, false, false, false, false]) rfl zK zK zK rfl zK rfl rfl (X_bin rfl rfl b_eql) rfl ?_
  first | refine WC_take 27 (l' := #[true, true, true, true, true, true, true, true, true, true, true, true, true, true, true, true, true, true, true, true, true, true, true, true, true, true, true, true, false, false, false, false, false, false, false, false, false, false, false, false, false, false, false, false, false, false, false, false, false, false, false, false, false]) rfl zK zK zK rfl zK (X_pickt rfl rfl) rfl ?_ | refine WC_take 27 (l' := #[true, true, true, true, true, true, true, true, true, true, true, true, true, true, true, true, true, true, true, true, true, true, true, true, true, true, true, true, false, false, false, false, false, false, false, false, false, false, false, false, false, false, false, false, false, false, false, false, false, false, false, false, false]) rfl zK zK zK rfl zK (X_pickf rfl rfl) rfl ?_
  refine WC_take 28 (l' := #[true, true, true, true, true, true, true, true, true, true, true, true, true, true, true, true, true, true, true, true, true, true, true, true, true, true, true, true, true, false, false, false, false, false, false, false, false, false, false, false, false, false, false, false, false, false, false, false, false, false, false, false, false]) rfl zK zK zK rfl zK (X_move rfl) rfl ?_
  refine WC_gyes 29 (l' := #[true, true, true, true, true, true, true, true, true, true, true, true, true, true, true, true, true, true, true, true, true, true, true, true, true, true, true, true, true, true, false, false, false, false, false, false, false, false, false, false, false, false, false, false, false, false, false, false, false, false, false, false, false]) rfl zK zK zK rfl zK rfl rfl (X_move rfl) rfl ?_
  refine WC_gyes 30 (l' := #[true, true, true, true, true, true, true, true, true, true, true, true, true, true, true, true, true, true, true, true, true, true, true, true, true, true, true, true, true, true, true, false, false, false, false, false, false, false, false, false, false, false, false, false, false, false, false, false, false, false, false, false, false]) rfl zK zK zK rfl zK rfl rfl (X_not rfl) rfl ?_
  first | refine WC_take 31 (l' := #[true, true, true, true, true, true, true, true, true, true, true, true, true, true, true, true, true, true, true, true, true, true, true, true, true, true, true, true, true, true, true, true, false, false, false, false, false, false, false, false, false, false, false, false, false, false, false, false, false, false, false, false, false]) rfl zK zK zK rfl zK (X_pickt rfl rfl) rfl ?_ | refine WC_take 31 (l' := #[true, true, true, true, true, true, true, true, true, true, true, true, true, true, true, true, true, true, true, true, true, true, true, true, true, true, true, true, true, true, true, true, false, false, false, false, false, false, false, false, false, false, false, false, false, false, false, false, false, false, false, false, false]) rfl zK zK zK rfl zK (X_pickf rfl rfl) rfl ?_
  refine WC_take 32 (l' := #[true, true, true, true, true, true, true, true, true, true, true, true, true, true, true, true, true, true, true, true, true, true, true, true, true, true, true, true, true, true, true, true, true, false, false, false, false, false, false, false, false, false, false, false, false, false, false, false, false, false, false, false, false]) rfl zK zK zK rfl zK (X_move rfl) rfl ?_
  refine WC_gyes 33 (l' := #[true, true, true, true, true, true, true, true, true, true, true, true, true, true, true, true, true, true, true, true, true, true, true, true, true, true, true, true, true, true, true, true, true, true, false, false, false, false, false, false, false, false, false, false, false, false, false, false, false, false, false, false, false]) rfl zK zK zK rfl zK rfl rfl (X_move rfl) rfl ?_
  refine WC_one 34 (l' := #[true, true, true, true, true, true, true, true, true, true, true, true, true, true, true, true, true, true, true, true, true, true, true, true, true, true, true, true, true, true, true, true, true, true, true, false, false, false, false, false, false, false, false, false, false, false, false, false, false, false, false, false, false]) zH zK rfl zK ?_
  refine W_gyes rfl rfl ?_
  refine W_callp (.cons rfl .nil) Tryz.call28 rfl (T := fun _ => True) trivial (wQuiet_nil) ?_
  refine W_nil ?_
  refine WC_goal ?_
  first | refine WC_take 35 (l' := #[true, true, true, true, true, true, true, true, true, true, true, true, true, true, true, true, true, true, true, true, true, true, true, true, true, true, true, true, true, true, true, true, true, true, true, true, false, false, false, false, false, false, false, false, false, false, false, false, false, false, false, false, false]) rfl zK zK zK rfl zK (X_pickt rfl rfl) rfl ?_ | refine WC_take 35 (l' := #[true, true, true, true, true, true, true, true, true, true, true, true, true, true, true, true, true, true, true, true, true, true, true, true, true, true, true, true, true, true, true, true, true, true, true, true, false, false, false, false, false, false, false, false, false, false, false, false, false, false, false, false, false]) rfl zK zK zK rfl zK (X_pickf rfl rfl) rfl ?_
  refine WC_take 36 (l' := #[true, true, true, true, true, true, true, true, true, true, true, true, true, true, true, true, true, true, true, true, true, true, true, true, true, true, true, true, true, true, true, true, true, true, true, true, true, false, false, false, false, false, false, false, false, false, false, false, false, false, false, false, false]) rfl zK zK zK rfl zK (X_move rfl) rfl ?_
  refine WC_gyes 37 (l' := #[true, true, true, true, true, true, true, true, true, true, true, true, true, true, true, true, true, true, true, true, true, true, true, true, true, true, true, true, true, true, true, true, true, true, true, true, true, true, false, false, false, false, false, false, false, false, false, false, false, false, false, false, false]) rfl zK zK zK rfl zK rfl rfl (X_move rfl) rfl ?_
  refine WC_one 38 (l' := #[true, true, true, true, true, true, true, true, true, true, true, true, true, true, true, true, true, true, true, true, true, true, true, true, true, true, true, true, true, true, true, true, true, true, true, true, true, true, true, false, false, false, false, false, false, false, false, false, false, false, false, false, false]) zH zK rfl zK ?_
  refine W_gyes rfl rfl ?_
  refine W_callp (.cons rfl (.cons rfl .nil)) Tryz.call33 rfl (T := fun _ => True) trivial (wLines_nil) ?_
  refine W_nil ?_
  refine WC_goal ?_
  refine WC_gyes 39 (l' := #[true, true, true, true, true, true, true, true, true, true, true, true, true, true, true, true, true, true, true, true, true, true, true, true, true, true, true, true, true, true, true, true, true, true, true, true, true, true, true, true, false, false, false, false, false, false, false, false, false, false, false, false, false]) rfl zK zK zK rfl zK rfl rfl (X_len rfl ty78 rfl) rfl ?_
  refine WC_gyes 40 (l' := #[true, true, true, true, true, true, true, true, true, true, true, true, true, true, true, true, true, true, true, true, true, true, true, true, true, true, true, true, true, true, true, true, true, true, true, true, true, true, true, true, true, false, false, false, false, false, false, false, false, false, false, false, false]) rfl zK zK zK rfl zK rfl rfl (X_bin rfl rfl b_eql) rfl ?_
  first | refine WC_take 41 (l' := #[true, true, true, true, true, true, true, true, true, true, true, true, true, true, true, true, true, true, true, true, true, true, true, true, true, true, true, true, true, true, true, true, true, true, true, true, true, true, true, true, true, true, false, false, false, false, false, false, false, false, false, false, false]) rfl zK zK zK rfl zK (X_pickt rfl rfl) rfl ?_ | refine WC_take 41 (l' := #[true, true, true, true, true, true, true, true, true, true, true, true, true, true, true, true, true, true, true, true, true, true, true, true, true, true, true, true, true, true, true, true, true, true, true, true, true, true, true, true, true, true, false, false, false, false, false, false, false, false, false, false, false]) rfl zK zK zK rfl zK (X_pickf rfl rfl) rfl ?_
  refine WC_take 42 (l' := #[true, true, true, true, true, true, true, true, true, true, true, true, true, true, true, true, true, true, true, true, true, true, true, true, true, true, true, true, true, true, true, true, true, true, true, true, true, true, true, true, true, true, true, false, false, false, false, false, false, false, false, false, false]) rfl zK zK zK rfl zK (X_move rfl) rfl ?_
  refine WC_gyes 43 (l' := #[true, true, true, true, true, true, true, true, true, true, true, true, true, true, true, true, true, true, true, true, true, true, true, true, true, true, true, true, true, true, true, true, true, true, true, true, true, true, true, true, true, true, true, true, false, false, false, false, false, false, false, false, false]) rfl zK zK zK rfl zK rfl rfl (X_move rfl) rfl ?_
  refine WC_one 44 (l' := #[true, true, true, true, true, true, true, true, true, true, true, true, true, true, true, true, true, true, true, true, true, true, true, true, true, true, true, true, true, true, true, true, true, true, true, true, true, true, true, true, true, true, true, true, true, false, false, false, false, false, false, false, false]) zH zK rfl zK ?_
  refine W_gyes rfl rfl ?_
  refine W_callp (.cons rfl .nil) Tryz.call27 rfl (T := fun _ => True) trivial (wMachine_nil) ?_
  refine W_nil ?_
  refine WC_goal ?_
  refine WC_gyes 45 (l' := #[true, true, true, true, true, true, true, true, true, true, true, true, true, true, true, true, true, true, true, true, true, true, true, true, true, true, true, true, true, true, true, true, true, true, true, true, true, true, true, true, true, true, true, true, true, true, false, false, false, false, false, false, false]) rfl zK zK zK rfl zK rfl rfl (X_ptrNil rfl rfl ty23) rfl ?_
  first | refine WC_take 46 (l' := #[true, true, true, true, true, true, true, true, true, true, true, true, true, true, true, true, true, true, true, true, true, true, true, true, true, true, true, true, true, true, true, true, true, true, true, true, true, true, true, true, true, true, true, true, true, true, true, false, false, false, false, false, false]) rfl zK zK zK rfl zK (X_pickt rfl rfl) rfl ?_ | refine WC_take 46 (l' := #[true, true, true, true, true, true, true, true, true, true, true, true, true, true, true, true, true, true, true, true, true, true, true, true, true, true, true, true, true, true, true, true, true, true, true, true, true, true, true, true, true, true, true, true, true, true, true, false, false, false, false, false, false]) rfl zK zK zK rfl zK (X_pickf rfl rfl) rfl ?_
  refine WC_take 47 (l' := #[true, true, true, true, true, true, true, true, true, true, true, true, true, true, true, true, true, true, true, true, true, true, true, true, true, true, true, true, true, true, true, true, true, true, true, true, true, true, true, true, true, true, true, true, true, true, true, true, false, false, false, false, false]) rfl zK zK zK rfl zK (X_move rfl) rfl ?_
  refine WC_one 48 (l' := #[true, true, true, true, true, true, true, true, true, true, true, true, true, true, true, true, true, true, true, true, true, true, true, true, true, true, true, true, true, true, true, true, true, true, true, true, true, true, true, true, true, true, true, true, true, true, true, true, true, false, false, false, false]) zH zK rfl zK ?_
  refine W_gyes rfl rfl ?_
  refine W_callp (.cons rfl .nil) Tryz.call34 rfl (T := fun _ => True) trivial (sParse_nil) ?_
  refine W_nil ?_
  refine WC_goal ?_
  refine WC_gyes 49 (l' := #[true, true, true, true, true, true, true, true, true, true, true, true, true, true, true, true, true, true, true, true, true, true, true, true, true, true, true, true, true, true, true, true, true, true, true, true, true, true, true, true, true, true, true, true, true, true, true, true, true, true, false, false, false]) rfl zK zK zK rfl zK rfl rfl (X_len rfl ty80 rfl) rfl ?_
  refine WC_gyes 50 (l' := #[true, true, true, true, true, true, true, true, true, true, true, true, true, true, true, true, true, true, true, true, true, true, true, true, true, true, true, true, true, true, true, true, true, true, true, true, true, true, true, true, true, true, true, true, true, true, true, true, true, true, true, false, false]) rfl zK zK zK rfl zK rfl rfl (X_bin rfl rfl b_eql) rfl ?_
  first | refine WC_take 51 (l' := #[true, true, true, true, true, true, true, true, true, true, true, true, true, true, true, true, true, true, true, true, true, true, true, true, true, true, true, true, true, true, true, true, true, true, true, true, true, true, true, true, true, true, true, true, true, true, true, true, true, true, true, true, false]) rfl zK zK zK rfl zK (X_pickt rfl rfl) rfl ?_ | refine WC_take 51 (l' := #[true, true, true, true, true, true, true, true, true, true, true, true, true, true, true, true, true, true, true, true, true, true, true, true, true, true, true, true, true, true, true, true, true, true, true, true, true, true, true, true, true, true, true, true, true, true, true, true, true, true, true, true, false]) rfl zK zK zK rfl zK (X_pickf rfl rfl) rfl ?_
  refine WC_take 52 (l' := #[true, true, true, true, true, true, true, true, true, true, true, true, true, true, true, true, true, true, true, true, true, true, true, true, true, true, true, true, true, true, true, true, true, true, true, true, true, true, true, true, true, true, true, true, true, true, true, true, true, true, true, true, true]) rfl zK zK zK rfl zK (X_assign rfl) rfl ?_
  refine WC_done zH zK ?_
  refine W_ret1m (H2 := H) Tryz.results5 rfl (.nil _) zH ?_
  exact ⟨rfl, rfl⟩
 ·skip
  refine W_move rfl rfl ?_
  obtain ⟨n1, rfl⟩ : ∃ n1 : Nat, c = (n1 : Int) := ⟨c.toNat, by omega⟩
  refine W_call (.cons rfl (.cons rfl (.cons rfl .nil))) Tryz.call26 rfl ((wdNew_page (n := n1) (now := 5) zO zd zO).hsub (.refl _)) ?_
  rintro v H' ⟨rfl, rfl⟩
  refine W_move rfl rfl ?_
  refine W_extract rfl rfl rfl ?_
  refine W_extract rfl rfl rfl ?_
  refine W_assign rfl rfl ?_
  refine W_assign rfl rfl ?_
  refine W_nil (W_sr ?_)
  refine W_move rfl rfl ?_
  refine W_bin rfl rfl b_geq rfl ?_
  first | rw [decide_eq_true (by omega)] | rw [decide_eq_false (by omega)]
  refine W_move rfl rfl ?_
  refine W_gyes rfl rfl ?_
  refine W_move rfl rfl ?_
  refine W_gyes rfl rfl ?_
  refine W_bin rfl rfl b_leq rfl ?_
  first | rw [decide_eq_true (by omega)] | rw [decide_eq_false (by omega)]
  first | refine W_pickt rfl rfl rfl ?_ | refine W_pickf rfl rfl rfl ?_
  refine W_move rfl rfl ?_
  refine W_gyes rfl rfl ?_
  refine W_move rfl rfl ?_
  refine W_gyes rfl rfl ?_
  refine W_bin rfl rfl b_geq rfl ?_
  first | rw [decide_eq_true (by omega)] | rw [decide_eq_false (by omega)]
  first | refine W_pickt rfl rfl rfl ?_ | refine W_pickf rfl rfl rfl ?_
  refine W_move rfl rfl ?_
  refine W_gno rfl rfl rfl ?_
  refine W_gno rfl rfl rfl ?_
  first | refine W_pickt rfl rfl rfl ?_ | refine W_pickf rfl rfl rfl ?_
  refine W_assign rfl rfl ?_
  refine W_nil (W_seq (W_sr ?_))
  refine W_move rfl rfl ?_
  refine W_move rfl rfl ?_
  refine W_gno rfl rfl rfl ?_
  refine W_gno rfl rfl rfl ?_
  refine W_gno rfl rfl rfl ?_
  refine W_gnou rfl rfl rfl ?_
  refine W_gnou rfl rfl rfl ?_
  refine W_gnou rfl rfl rfl ?_
  refine W_gnou rfl rfl rfl ?_
  refine W_gno rfl rfl rfl ?_
  refine W_gno rfl rfl rfl ?_
  refine W_gnou rfl rfl rfl ?_
  refine W_gnou rfl rfl rfl ?_
  refine W_gnou rfl rfl rfl ?_
  refine W_gno rfl rfl rfl ?_
  first | refine W_pickt rfl rfl rfl ?_ | refine W_pickf rfl rfl rfl ?_
  refine W_move rfl rfl ?_
  refine W_gyes rfl rfl ?_
  refine W_move rfl rfl ?_
  refine W_gyes rfl rfl ?_
  refine W_not rfl rfl ?_
  refine W_gyes rfl rfl ?_
  refine W_move rfl rfl ?_
  refine W_gyes rfl rfl ?_
  refine W_move rfl rfl ?_
  refine W_gyes rfl rfl ?_
  refine W_bin rfl rfl b_neq rfl ?_
  refine W_gyes rfl rfl ?_
  refine W_move rfl rfl ?_
  refine W_gyes rfl rfl ?_
  refine W_move rfl rfl ?_
  refine W_gyes rfl rfl ?_
  refine W_x (X_ptrNotNil rfl rfl ty67) (fun _ h => by cases h) rfl ?_
  refine W_gyes rfl rfl ?_
  first | refine W_pickt rfl rfl rfl ?_ | refine W_pickf rfl rfl rfl ?_
  refine W_gyes rfl rfl ?_
  first | refine W_pickt rfl rfl rfl ?_ | refine W_pickf rfl rfl rfl ?_
  first | refine W_pickt rfl rfl rfl ?_ | refine W_pickf rfl rfl rfl ?_
  refine W_nil ?_
  refine W_condF rfl rfl ?_
  refine W_skip (W_seq ?_)
  refine W_anyC [(b7, .cells 47 7 [.int .i64 s0, .int .i64 s1, .int .i64 s2, .int .i64 s3, .int .u64 s4, .int .u64 s5, .slice ad (min n 600) cap])] zk ?_
  refine WC_one 0 (l' := #[true, false, false, false, false, false, false, false, false, false, false, false, false, false, false, false, false, false, false, false, false, false, false, false, false, false, false, false, false, false, false, false, false, false, false, false, false, false, false, false, false, false, false, false, false, false, false, false, false, false, false, false, false]) zH zK rfl zK ?_
  refine W_callp .nil Tryz.call29 rfl hT wknown_pure ?_
  refine W_nil ?_
  refine WC_goal ?_
  refine WC_take 1 (l' := #[true, true, false, false, false, false, false, false, false, false, false, false, false, false, false, false, false, false, false, false, false, false, false, false, false, false, false, false, false, false, false, false, false, false, false, false, false, false, false, false, false, false, false, false, false, false, false, false, false, false, false, false, false]) rfl zK zK zK rfl zK (X_move rfl) rfl ?_
  refine WC_gyes 2 (l' := #[true, true, true, false, false, false, false, false, false, false, false, false, false, false, false, false, false, false, false, false, false, false, false, false, false, false, false, false, false, false, false, false, false, false, false, false, false, false, false, false, false, false, false, false, false, false, false, false, false, false, false, false, false]) rfl zK zK zK rfl zK rfl rfl (X_move rfl) rfl ?_
  refine WC_gyes 3 (l' := #[true, true, true, true, false, false, false, false, false, false, false, false, false, false, false, false, false, false, false, false, false, false, false, false, false, false, false, false, false, false, false, false, false, false, false, false, false, false, false, false, false, false, false, false, false, false, false, false, false, false, false, false, false]) rfl zK zK zK rfl zK rfl rfl (X_move rfl) rfl ?_
  refine WC_one 4 (l' := #[true, true, true, true, true, false, false, false, false, false, false, false, false, false, false, false, false, false, false, false, false, false, false, false, false, false, false, false, false, false, false, false, false, false, false, false, false, false, false, false, false, false, false, false, false, false, false, false, false, false, false, false, false]) zH zK rfl zK ?_
  refine W_gyes rfl rfl ?_
  refine W_buildSlice (l := [.slice adb nb capb]) ty142 ty28 (.cons rfl rfl rfl rfl rfl .nil) rfl rfl rfl rfl rfl rfl rfl (fun b81 => ?_)
  refine W_nil ?_
  refine WC_goal ?_
  refine WC_one 5 (l' := #[true, true, true, true, true, true, false, false, false, false, false, false, false, false, false, false, false, false, false, false, false, false, false, false, false, false, false, false, false, false, false, false, false, false, false, false, false, false, false, false, false, false, false, false, false, false, false, false, false, false, false, false, false]) zH zK rfl zK ?_
  refine W_gyes rfl rfl ?_
  refine W_callq (.cons rfl (.cons rfl .nil)) Tryz.call30 rfl (wRun_nil zM) ?_
  refine W_nil ?_
  refine WC_goal ?_
  refine WC_gyes 6 (l' := #[true, true, true, true, true, true, true, false, false, false, false, false, false, false, false, false, false, false, false, false, false, false, false, false, false, false, false, false, false, false, false, false, false, false, false, false, false, false, false, false, false, false, false, false, false, false, false, false, false, false, false, false, false]) rfl zK zK zK rfl zK rfl rfl (X_len rfl ty73 rfl) rfl ?_
  refine WC_gyes 7 (l' := #[true, true, true, true, true, true, true, true, false, false, false, false, false, false, false, false, false, false, false, false, false, false, false, false, false, false, false, false, false, false, false, false, false, false, false, false, false, false, false, false, false, false, false, false, false, false, false, false, false, false, false, false, false]) rfl zK zK zK rfl zK rfl rfl (X_bin rfl rfl b_eql) rfl ?_
  first | refine WC_take 8 (l' := #[true, true, true, true, true, true, true, true, true, false, false, false, false, false, false, false, false, false, false, false, false, false, false, false, false, false, false, false, false, false, false, false, false, false, false, false, false, false, false, false, false, false, false, false, false, false, false, false, false, false, false, false, false]) rfl zK zK zK rfl zK (X_pickt rfl rfl) rfl ?_ | refine WC_take 8 (l' := #[true, true, true, true, true, true, true, true, true, false, false, false, false, false, false, false, false, false, false, false, false, false, false, false, false, false, false, false, false, false, false, false, false, false, false, false, false, false, false, false, false, false, false, false, false, false, false, false, false, false, false, false, false]) rfl zK zK zK rfl zK (X_pickf rfl rfl) rfl ?_
  refine WC_take 9 (l' := #[true, true, true, true, true, true, true, true, true, true, false, false, false, false, false, false, false, false, false, false, false, false, false, false, false, false, false, false, false, false, false, false, false, false, false, false, false, false, false, false, false, false, false, false, false, false, false, false, false, false, false, false, false]) rfl zK zK zK rfl zK (X_move rfl) rfl ?_
  refine WC_gyes 10 (l' := #[true, true, true, true, true, true, true, true, true, true, true, false, false, false, false, false, false, false, false, false, false, false, false, false, false, false, false, false, false, false, false, false, false, false, false, false, false, false, false, false, false, false, false, false, false, false, false, false, false, false, false, false, false]) rfl zK zK zK rfl zK rfl rfl (X_move rfl) rfl ?_
  refine WC_gyes 11 (l' := #[true, true, true, true, true, true, true, true, true, true, true, true, false, false, false, false, false, false, false, false, false, false, false, false, false, false, false, false, false, false, false, false, false, false, false, false, false, false, false, false, false, false, false, false, false, false, false, false, false, false, false, false, false]) rfl zK zK zK rfl zK rfl rfl (X_loadB (vs := [.int .i64 s0, .int .i64 s1, .int .i64 s2, .int .i64 s3, .int .u64 s4, .int .u64 s5, .slice ad (min n 600) cap]) rfl ty47 rfl (b := b7) zM rfl rfl) rfl ?_
  refine WC_gyes 14 (l' := #[true, true, true, true, true, true, true, true, true, true, true, true, false, false, true, false, false, false, false, false, false, false, false, false, false, false, false, false, false, false, false, false, false, false, false, false, false, false, false, false, false, false, false, false, false, false, false, false, false, false, false, false, false]) rfl zK zK zK rfl zK rfl rfl (X_fieldAddr rfl fld47_0 zd) rfl ?_
  refine WC_gyes 15 (l' := #[true, true, true, true, true, true, true, true, true, true, true, true, false, false, true, true, false, false, false, false, false, false, false, false, false, false, false, false, false, false, false, false, false, false, false, false, false, false, false, false, false, false, false, false, false, false, false, false, false, false, false, false, false]) rfl zK zK zK rfl zK rfl rfl (X_load (v := .int .i64 s0) rfl ty3 rfl (Cell.own (b := b7) zM rfl)) rfl ?_
  refine WC_gyes 16 (l' := #[true, true, true, true, true, true, true, true, true, true, true, true, false, false, true, true, true, false, false, false, false, false, false, false, false, false, false, false, false, false, false, false, false, false, false, false, false, false, false, false, false, false, false, false, false, false, false, false, false, false, false, false, false]) rfl zK zK zK rfl zK rfl rfl (X_build (l := rrC ⟨0, s0, 0, 6⟩) ty76 pl76 (.cons rfl rfl rfl rfl rfl (.cons rfl rfl rfl rfl rfl .nil)) rfl zk) rfl ?_
  refine WC_one 12 (l' := #[true, true, true, true, true, true, true, true, true, true, true, true, true, false, true, true, true, false, false, false, false, false, false, false, false, false, false, false, false, false, false, false, false, false, false, false, false, false, false, false, false, false, false, false, false, false, false, false, false, false, false, false, false]) zH zK rfl zK ?_
  refine W_gyes rfl rfl ?_
  refine W_callp (.cons rfl .nil) Tryz.call13 rfl (T := fun _ => True) trivial (to_nil) ?_
  refine W_nil ?_
  refine WC_goal ?_
  refine WC_one 13 (l' := #[true, true, true, true, true, true, true, true, true, true, true, true, true, true, true, true, true, false, false, false, false, false, false, false, false, false, false, false, false, false, false, false, false, false, false, false, false, false, false, false, false, false, false, false, false, false, false, false, false, false, false, false, false]) zH zK rfl zK ?_
  refine W_gyes rfl rfl ?_
  refine W_callp (v := .agg (rrC ⟨0, s0, 0, 6⟩).toArray) (.cons rfl (.cons rfl .nil)) Tryz.call31 rfl (T := fun _ => True) trivial (wStep_nil) ?_
  refine W_nil ?_
  refine WC_goal ?_
  refine WC_gyes 17 (l' := #[true, true, true, true, true, true, true, true, true, true, true, true, true, true, true, true, true, true, false, false, false, false, false, false, false, false, false, false, false, false, false, false, false, false, false, false, false, false, false, false, false, false, false, false, false, false, false, false, false, false, false, false, false]) rfl zK zK zK rfl zK rfl rfl (X_eqF (f := rrC) rfl rfl flat76 agg76 rrC_like rrC_inj gt76 zd) rfl ?_
  rw [decide_eq_true rfl]
  first | refine WC_take 18 (l' := #[true, true, true, true, true, true, true, true, true, true, true, true, true, true, true, true, true, true, true, false, false, false, false, false, false, false, false, false, false, false, false, false, false, false, false, false, false, false, false, false, false, false, false, false, false, false, false, false, false, false, false, false, false]) rfl zK zK zK rfl zK (X_pickt rfl rfl) rfl ?_ | refine WC_take 18 (l' := #[true, true, true, true, true, true, true, true, true, true, true, true, true, true, true, true, true, true, true, false, false, false, false, false, false, false, false, false, false, false, false, false, false, false, false, false, false, false, false, false, false, false, false, false, false, false, false, false, false, false, false, false, false]) rfl zK zK zK rfl zK (X_pickf rfl rfl) rfl ?_
  refine WC_take 19 (l' := #[true, true, true, true, true, true, true, true, true, true, true, true, true, true, true, true, true, true, true, true, false, false, false, false, false, false, false, false, false, false, false, false, false, false, false, false, false, false, false, false, false, false, false, false, false, false, false, false, false, false, false, false, false]) rfl zK zK zK rfl zK (X_move rfl) rfl ?_
  refine WC_gyes 20 (l' := #[true, true, true, true, true, true, true, true, true, true, true, true, true, true, true, true, true, true, true, true, true, false, false, false, false, false, false, false, false, false, false, false, false, false, false, false, false, false, false, false, false, false, false, false, false, false, false, false, false, false, false, false, false]) rfl zK zK zK rfl zK rfl rfl (X_move rfl) rfl ?_
  refine WC_one 21 (l' := #[true, true, true, true, true, true, true, true, true, true, true, true, true, true, true, true, true, true, true, true, true, true, false, false, false, false, false, false, false, false, false, false, false, false, false, false, false, false, false, false, false, false, false, false, false, false, false, false, false, false, false, false, false]) zH zK rfl zK ?_
  refine W_gyes rfl rfl ?_
  refine W_callp (.cons rfl .nil) Tryz.call32 rfl (T := fun _ => True) trivial (wRound_nil) ?_
  refine W_nil ?_
  refine WC_goal ?_
  refine WC_gyes 22 (l' := #[true, true, true, true, true, true, true, true, true, true, true, true, true, true, true, true, true, true, true, true, true, true, true, false, false, false, false, false, false, false, false, false, false, false, false, false, false, false, false, false, false, false, false, false, false, false, false, false, false, false, false, false, false]) rfl zK zK zK rfl zK rfl rfl (X_bin rfl rfl b_eql) rfl ?_
  first | refine WC_take 23 (l' := #[true, true, true, true, true, true, true, true, true, true, true, true, true, true, true, true, true, true, true, true, true, true, true, true, false, false, false, false, false, false, false, false, false, false, false, false, false, false, false, false, false, false, false, false, false, false, false, false, false, false, false, false, false]) rfl zK zK zK rfl zK (X_pickt rfl rfl) rfl ?_ | refine WC_take 23 (l' := #[true, true, true, true, true, true, true, true, true, true, true, true, true, true, true, true, true, true, true, true, true, true, true, true, false, false, false, false, false, false, false, false, false, false, false, false, false, false, false, false, false, false, false, false, false, false, false, false, false, false, false, false, false]) rfl zK zK zK rfl zK (X_pickf rfl rfl) rfl ?_
  refine WC_take 24 (l' := #[true, true, true, true, true, true, true, true, true, true, true, true, true, true, true, true, true, true, true, true, true, true, true, true, true, false, false, false, false, false, false, false, false, false, false, false, false, false, false, false, false, false, false, false, false, false, false, false, false, false, false, false, false]) rfl zK zK zK rfl zK (X_move rfl) rfl ?_
  refine WC_gyes 25 (l' := #[true, true, true, true, true, true, true, true, true, true, true, true, true, true, true, true, true, true, true, true, true, true, true, true, true, true, false, false, false, false, false, false, false, false, false, false, false, false, false, false, false, false, false, false, false, false, false, false, false, false, false, false, false]) rfl zK zK zK rfl zK rfl rfl (X_move rfl) rfl ?_
  refine WC_gyes 26 (l' := #[true, true, true, true, true, true, true, true, true, true, true, true, true, true, true, true, true, true, true, true, true, true, true, true, true, true, true, false, false, false, false, false, false, false, false, false, false, false, false, false, false, false, false, false, false, false, false, false, false, false, false, false, false]) rfl zK zK zK rfl zK rfl rfl (X_bin rfl rfl b_eql) rfl ?_
  first | refine WC_take 27 (l' := #[true, true, true, true, true, true, true, true, true, true, true, true, true, true, true, true, true, true, true, true, true, true, true, true, true, true, true, true, false, false, false, false, false, false, false, false, false, false, false, false, false, false, false, false, false, false, false, false, false, false, false, false, false]) rfl zK zK zK rfl zK (X_pickt rfl rfl) rfl ?_ | refine WC_take 27 (l' := #[true, true, true, true, true, true, true, true, true, true, true, true, true, true, true, true, true, true, true, true, true, true, true, true, true, true, true, true, false, false, false, false, false, false, false, false, false, false, false, false, false, false, false, false, false, false, false, false, false, false, false, false, false]) rfl zK zK zK rfl zK (X_pickf rfl rfl) rfl ?_
  refine WC_take 28 (l' := #[true, true, true, true, true, true, true, true, true, true, true, true, true, true, true, true, true, true, true, true, true, true, true, true, true, true, true, true, true, false, false, false, false, false, false, false, false, false, false, false, false, false, false, false, false, false, false, false, false, false, false, false, false]) rfl zK zK zK rfl zK (X_move rfl) rfl ?_
  refine WC_gyes 29 (l' := #[true, true, true, true, true, true, true, true, true, true, true, true, true, true, true, true, true, true, true, true, true, true, true, true, true, true, true, true, true, true, false, false, false, false, false, false, false, false, false, false, false, false, false, false, false, false, false, false, false, false, false, false, false]) rfl zK zK zK rfl zK rfl rfl (X_move rfl) rfl ?_
  refine WC_gyes 30 (l' := #[true, true, true, true, true, true, true, true, true, true, true, true, true, true, true, true, true, true, true, true, true, true, true, true, true, true, true, true, true, true, true, false, false, false, false, false, false, false, false, false, false, false, false, false, false, false, false, false, false, false, false, false, false]) rfl zK zK zK rfl zK rfl rfl (X_not rfl) rfl ?_
  first | refine WC_take 31 (l' := #[true, true, true, true, true, true, true, true, true, true, true, true, true, true, true, true, true, true, true, true, true, true, true, true, true, true, true, true, true, true, true, true, false, false, false, false, false, false, false, false, false, false, false, false, false, false, false, false, false, false, false, false, false]) rfl zK zK zK rfl zK (X_pickt rfl rfl) rfl ?_ | refine WC_take 31 (l' := #[true, true, true, true, true, true, true, true, true, true, true, true, true, true, true, true, true, true, true, true, true, true, true, true, true, true, true, true, true, true, true, true, false, false, false, false, false, false, false, false, false, false, false, false, false, false, false, false, false, false, false, false, false]) rfl zK zK zK rfl zK (X_pickf rfl rfl) rfl ?_
  refine WC_take 32 (l' := #[true, true, true, true, true, true, true, true, true, true, true, true, true, true, true, true, true, true, true, true, true, true, true, true, true, true, true, true, true, true, true, true, true, false, false, false, false, false, false, false, false, false, false, false, false, false, false, false, false, false, false, false, false]) rfl zK zK zK rfl zK (X_move rfl) rfl ?_
  refine WC_gyes 33 (l' := #[true, true, true, true, true, true, true, true, true, true, true, true, true, true, true, true, true, true, true, true, true, true, true, true, true, true, true, true, true, true, true, true, true, true, false, false, false, false, false, false, false, false, false, false, false, false, false, false, false, false, false, false, false]) rfl zK zK zK rfl zK rfl rfl (X_move rfl) rfl ?_
  refine WC_one 34 (l' := #[true, true, true, true, true, true, true, true, true, true, true, true, true, true, true, true, true, true, true, true, true, true, true, true, true, true, true, true, true, true, true, true, true, true, true, false, false, false, false, false, false, false, false, false, false, false, false, false, false, false, false, false, false]) zH zK rfl zK ?_
  refine W_gyes rfl rfl ?_
  refine W_callp (.cons rfl .nil) Tryz.call28 rfl (T := fun _ => True) trivial (wQuiet_nil) ?_
  refine W_nil ?_
  refine WC_goal ?_
  first | refine WC_take 35 (l' := #[true, true, true, true, true, true, true, true, true, true, true, true, true, true, true, true, true, true, true, true, true, true, true, true, true, true, true, true, true, true, true, true, true, true, true, true, false, false, false, false, false, false, false, false, false, false, false, false, false, false, false, false, false]) rfl zK zK zK rfl zK (X_pickt rfl rfl) rfl ?_ | refine WC_take 35 (l' := #[true, true, true, true, true, true, true, true, true, true, true, true, true, true, true, true, true, true, true, true, true, true, true, true, true, true, true, true, true, true, true, true, true, true, true, true, false, false, false, false, false, false, false, false, false, false, false, false, false, false, false, false, false]) rfl zK zK zK rfl zK (X_pickf rfl rfl) rfl ?_
  refine WC_take 36 (l' := #[true, true, true, true, true, true, true, true, true, true, true, true, true, true, true, true, true, true, true, true, true, true, true, true, true, true, true, true, true, true, true, true, true, true, true, true, true, false, false, false, false, false, false, false, false, false, false, false, false, false, false, false, false]) rfl zK zK zK rfl zK (X_move rfl) rfl ?_
  refine WC_gyes 37 (l' := #[true, true, true, true, true, true, true, true, true, true, true, true, true, true, true, true, true, true, true, true, true, true, true, true, true, true, true, true, true, true, true, true, true, true, true, true, true, true, false, false, false, false, false, false, false, false, false, false, false, false, false, false, false]) rfl zK zK zK rfl zK rfl rfl (X_move rfl) rfl ?_
  refine WC_one 38 (l' := #[true, true, true, true, true, true, true, true, true, true, true, true, true, true, true, true, true, true, true, true, true, true, true, true, true, true, true, true, true, true, true, true, true, true, true, true, true, true, true, false, false, false, false, false, false, false, false, false, false, false, false, false, false]) zH zK rfl zK ?_
  refine W_gyes rfl rfl ?_
  refine W_callp (.cons rfl (.cons rfl .nil)) Tryz.call33 rfl (T := fun _ => True) trivial (wLines_nil) ?_
  refine W_nil ?_
  refine WC_goal ?_
  refine WC_gyes 39 (l' := #[true, true, true, true, true, true, true, true, true, true, true, true, true, true, true, true, true, true, true, true, true, true, true, true, true, true, true, true, true, true, true, true, true, true, true, true, true, true, true, true, false, false, false, false, false, false, false, false, false, false, false, false, false]) rfl zK zK zK rfl zK rfl rfl (X_len rfl ty78 rfl) rfl ?_
  refine WC_gyes 40 (l' := #[true, true, true, true, true, true, true, true, true, true, true, true, true, true, true, true, true, true, true, true, true, true, true, true, true, true, true, true, true, true, true, true, true, true, true, true, true, true, true, true, true, false, false, false, false, false, false, false, false, false, false, false, false]) rfl zK zK zK rfl zK rfl rfl (X_bin rfl rfl b_eql) rfl ?_
  first | refine WC_take 41 (l' := #[true, true, true, true, true, true, true, true, true, true, true, true, true, true, true, true, true, true, true, true, true, true, true, true, true, true, true, true, true, true, true, true, true, true, true, true, true, true, true, true, true, true, false, false, false, false, false, false, false, false, false, false, false]) rfl zK zK zK rfl zK (X_pickt rfl rfl) rfl ?_ | refine WC_take 41 (l' := #[true, true, true, true, true, true, true, true, true, true, true, true, true, true, true, true, true, true, true, true, true, true, true, true, true, true, true, true, true, true, true, true, true, true, true, true, true, true, true, true, true, true, false, false, false, false, false, false, false, false, false, false, false]) rfl zK zK zK rfl zK (X_pickf rfl rfl) rfl ?_
  refine WC_take 42 (l' := #[true, true, true, true, true, true, true, true, true, true, true, true, true, true, true, true, true, true, true, true, true, true, true, true, true, true, true, true, true, true, true, true, true, true, true, true, true, true, true, true, true, true, true, false, false, false, false, false, false, false, false, false, false]) rfl zK zK zK rfl zK (X_move rfl) rfl ?_
  refine WC_gyes 43 (l' := #[true, true, true, true, true, true, true, true, true, true, true, true, true, true, true, true, true, true, true, true, true, true, true, true, true, true, true, true, true, true, true, true, true, true, true, true, true, true, true, true, true, true, true, true, false, false, false, false, false, false, false, false, false]) rfl zK zK zK rfl zK rfl rfl (X_move rfl) rfl ?_
  refine WC_one 44 (l' := #[true, true, true, true, true, true, true, true, true, true, true, true, true, true, true, true, true, true, true, true, true, true, true, true, true, true, true, true, true, true, true, true, true, true, true, true, true, true, true, true, true, true, true, true, true, false, false, false, false, false, false, false, false]) zH zK rfl zK ?_
  refine W_gyes rfl rfl ?_
  refine W_callp (.cons rfl .nil) Tryz.call27 rfl (T := fun _ => True) trivial (wMachine_nil) ?_
  refine W_nil ?_
  refine WC_goal ?_
  refine WC_gyes 45 (l' := #[true, true, true, true, true, true, true, true, true, true, true, true, true, true, true, true, true, true, true, true, true, true, true, true, true, true, true, true, true, true, true, true, true, true, true, true, true, true, true, true, true, true, true, true, true, true, false, false, false, false, false, false, false]) rfl zK zK zK rfl zK rfl rfl (X_ptrNil rfl rfl ty23) rfl ?_
  first | refine WC_take 46 (l' := #[true, true, true, true, true, true, true, true, true, true, true, true, true, true, true, true, true, true, true, true, true, true, true, true, true, true, true, true, true, true, true, true, true, true, true, true, true, true, true, true, true, true, true, true, true, true, true, false, false, false, false, false, false]) rfl zK zK zK rfl zK (X_pickt rfl rfl) rfl ?_ | refine WC_take 46 (l' := #[true, true, true, true, true, true, true, true, true, true, true, true, true, true, true, true, true, true, true, true, true, true, true, true, true, true, true, true, true, true, true, true, true, true, true, true, true, true, true, true, true, true, true, true, true, true, true, false, false, false, false, false, false]) rfl zK zK zK rfl zK (X_pickf rfl rfl) rfl ?_
  refine WC_take 47 (l' := #[true, true, true, true, true, true, true, true, true, true, true, true, true, true, true, true, true, true, true, true, true, true, true, true, true, true, true, true, true, true, true, true, true, true, true, true, true, true, true, true, true, true, true, true, true, true, true, true, false, false, false, false, false]) rfl zK zK zK rfl zK (X_move rfl) rfl ?_
  refine WC_one 48 (l' := #[true, true, true, true, true, true, true, true, true, true, true, true, true, true, true, true, true, true, true, true, true, true, true, true, true, true, true, true, true, true, true, true, true, true, true, true, true, true, true, true, true, true, true, true, true, true, true, true, true, false, false, false, false]) zH zK rfl zK ?_
  refine W_gyes rfl rfl ?_
  refine W_callp (.cons rfl .nil) Tryz.call34 rfl (T := fun _ => True) trivial (sParse_nil) ?_
  refine W_nil ?_
  refine WC_goal ?_
  refine WC_gyes 49 (l' := #[true, true, true, true, true, true, true, true, true, true, true, true, true, true, true, true, true, true, true, true, true, true, true, true, true, true, true, true, true, true, true, true, true, true, true, true, true, true, true, true, true, true, true, true, true, true, true, true, true, true, false, false, false]) rfl zK zK zK rfl zK rfl rfl (X_len rfl ty80 rfl) rfl ?_
  refine WC_gyes 50 (l' := #[true, true, true, true, true, true, true, true, true, true, true, true, true, true, true, true, true, true, true, true, true, true, true, true, true, true, true, true, true, true, true, true, true, true, true, true, true, true, true, true, true, true, true, true, true, true, true, true, true, true, true, false, false]) rfl zK zK zK rfl zK rfl rfl (X_bin rfl rfl b_eql) rfl ?_
  first | refine WC_take 51 (l' := #[true, true, true, true, true, true, true, true, true, true, true, true, true, true, true, true, true, true, true, true, true, true, true, true, true, true, true, true, true, true, true, true, true, true, true, true, true, true, true, true, true, true, true, true, true, true, true, true, true, true, true, true, false]) rfl zK zK zK rfl zK (X_pickt rfl rfl) rfl ?_ | refine WC_take 51 (l' := #[true, true, true, true, true, true, true, true, true, true, true, true, true, true, true, true, true, true, true, true, true, true, true, true, true, true, true, true, true, true, true, true, true, true, true, true, true, true, true, true, true, true, true, true, true, true, true, true, true, true, true, true, false]) rfl zK zK zK rfl zK (X_pickf rfl rfl) rfl ?_
  refine WC_take 52 (l' := #[true, true, true, true, true, true, true, true, true, true, true, true, true, true, true, true, true, true, true, true, true, true, true, true, true, true, true, true, true, true, true, true, true, true, true, true, true, true, true, true, true, true, true, true, true, true, true, true, true, true, true, true, true]) rfl zK zK zK rfl zK (X_assign rfl) rfl ?_
  refine WC_done zH zK ?_
  refine W_ret1m (H2 := H) Tryz.results5 rfl (.nil _) zH ?_
  exact ⟨rfl, rfl⟩
 ·skip
  refine W_move rfl rfl ?_
  obtain ⟨n1, rfl⟩ : ∃ n1 : Nat, c = (n1 : Int) := ⟨c.toNat, by omega⟩
  refine W_call (.cons rfl (.cons rfl (.cons rfl .nil))) Tryz.call26 rfl ((wdNew_page (n := n1) (now := 5) zO zd zO).hsub (.refl _)) ?_
  rintro v H' ⟨rfl, rfl⟩
  refine W_move rfl rfl ?_
  refine W_extract rfl rfl rfl ?_
  refine W_extract rfl rfl rfl ?_
  refine W_assign rfl rfl ?_
  refine W_assign rfl rfl ?_
  refine W_nil (W_sr ?_)
  refine W_move rfl rfl ?_
  refine W_bin rfl rfl b_geq rfl ?_
  first | rw [decide_eq_true (by omega)] | rw [decide_eq_false (by omega)]
  refine W_move rfl rfl ?_
  refine W_gyes rfl rfl ?_
  refine W_move rfl rfl ?_
  refine W_gyes rfl rfl ?_
  refine W_bin rfl rfl b_leq rfl ?_
  first | rw [decide_eq_true (by omega)] | rw [decide_eq_false (by omega)]
  first | refine W_pickt rfl rfl rfl ?_ | refine W_pickf rfl rfl rfl ?_
  refine W_move rfl rfl ?_
  refine W_gyes rfl rfl ?_
  refine W_move rfl rfl ?_
  refine W_gyes rfl rfl ?_
  refine W_bin rfl rfl b_geq rfl ?_
  first | rw [decide_eq_true (by omega)] | rw [decide_eq_false (by omega)]
  first | refine W_pickt rfl rfl rfl ?_ | refine W_pickf rfl rfl rfl ?_
  refine W_move rfl rfl ?_
  refine W_gyes rfl rfl ?_
  refine W_move rfl rfl ?_
  refine W_gyes rfl rfl ?_
  refine W_bin rfl rfl b_leq rfl ?_
  first | rw [decide_eq_true (by omega)] | rw [decide_eq_false (by omega)]
  first | refine W_pickt rfl rfl rfl ?_ | refine W_pickf rfl rfl rfl ?_
  refine W_assign rfl rfl ?_
  refine W_nil (W_seq (W_sr ?_))
  refine W_move rfl rfl ?_
  refine W_move rfl rfl ?_
  refine W_gno rfl rfl rfl ?_
  refine W_gno rfl rfl rfl ?_
  refine W_gno rfl rfl rfl ?_
  refine W_gnou rfl rfl rfl ?_
  refine W_gnou rfl rfl rfl ?_
  refine W_gnou rfl rfl rfl ?_
  refine W_gnou rfl rfl rfl ?_
  refine W_gno rfl rfl rfl ?_
  refine W_gno rfl rfl rfl ?_
  refine W_gnou rfl rfl rfl ?_
  refine W_gnou rfl rfl rfl ?_
  refine W_gnou rfl rfl rfl ?_
  refine W_gno rfl rfl rfl ?_
  first | refine W_pickt rfl rfl rfl ?_ | refine W_pickf rfl rfl rfl ?_
  refine W_move rfl rfl ?_
  refine W_gyes rfl rfl ?_
  refine W_move rfl rfl ?_
  refine W_gyes rfl rfl ?_
  refine W_not rfl rfl ?_
  refine W_gyes rfl rfl ?_
  refine W_move rfl rfl ?_
  refine W_gyes rfl rfl ?_
  refine W_move rfl rfl ?_
  refine W_gyes rfl rfl ?_
  refine W_bin rfl rfl b_neq rfl ?_
  refine W_gyes rfl rfl ?_
  refine W_move rfl rfl ?_
  refine W_gyes rfl rfl ?_
  refine W_move rfl rfl ?_
  refine W_gyes rfl rfl ?_
  refine W_x (X_ptrNotNil rfl rfl ty67) (fun _ h => by cases h) rfl ?_
  refine W_gyes rfl rfl ?_
  first | refine W_pickt rfl rfl rfl ?_ | refine W_pickf rfl rfl rfl ?_
  refine W_gyes rfl rfl ?_
  first | refine W_pickt rfl rfl rfl ?_ | refine W_pickf rfl rfl rfl ?_
  first | refine W_pickt rfl rfl rfl ?_ | refine W_pickf rfl rfl rfl ?_
  refine W_nil ?_
  refine W_condF rfl rfl ?_
  refine W_skip (W_seq ?_)
  refine W_anyC [(b7, .cells 47 7 [.int .i64 s0, .int .i64 s1, .int .i64 s2, .int .i64 s3, .int .u64 s4, .int .u64 s5, .slice ad (min n 600) cap])] zk ?_
  refine WC_one 0 (l' := #[true, false, false, false, false, false, false, false, false, false, false, false, false, false, false, false, false, false, false, false, false, false, false, false, false, false, false, false, false, false, false, false, false, false, false, false, false, false, false, false, false, false, false, false, false, false, false, false, false, false, false, false, false]) zH zK rfl zK ?_
  refine W_callp .nil Tryz.call29 rfl hT wknown_pure ?_
  refine W_nil ?_
  refine WC_goal ?_
  refine WC_take 1 (l' := #[true, true, false, false, false, false, false, false, false, false, false, false, false, false, false, false, false, false, false, false, false, false, false, false, false, false, false, false, false, false, false, false, false, false, false, false, false, false, false, false, false, false, false, false, false, false, false, false, false, false, false, false, false]) rfl zK zK zK rfl zK (X_move rfl) rfl ?_
  refine WC_gyes 2 (l' := #[true, true, true, false, false, false, false, false, false, false, false, false, false, false, false, false, false, false, false, false, false, false, false, false, false, false, false, false, false, false, false, false, false, false, false, false, false, false, false, false, false, false, false, false, false, false, false, false, false, false, false, false, false]) rfl zK zK zK rfl zK rfl rfl (X_move rfl) rfl ?_
  refine WC_gyes 3 (l' := #[true, true, true, true, false, false, false, false, false, false, false, false, false, false, false, false, false, false, false, false, false, false, false, false, false, false, false, false, false, false, false, false, false, false, false, false, false, false, false, false, false, false, false, false, false, false, false, false, false, false, false, false, false]) rfl zK zK zK rfl zK rfl rfl (X_move rfl) rfl ?_
  refine WC_one 4 (l' := #[true, true, true, true, true, false, false, false, false, false, false, false, false, false, false, false, false, false, false, false, false, false, false, false, false, false, false, false, false, false, false, false, false, false, false, false, false, false, false, false, false, false, false, false, false, false, false, false, false, false, false, false, false]) zH zK rfl zK ?_
  refine W_gyes rfl rfl ?_
  refine W_buildSlice (l := [.slice adb nb capb]) ty142 ty28 (.cons rfl rfl rfl rfl rfl .nil) rfl rfl rfl rfl rfl rfl rfl (fun b81 => ?_)
  refine W_nil ?_
  refine WC_goal ?_
  refine WC_one 5 (l' := #[true, true, true, true, true, true, false, false, false, false, false, false, false, false, false, false, false, false, false, false, false, false, false, false, false, false, false, false, false, false, false, false, false, false, false, false, false, false, false, false, false, false, false, false, false, false, false, false, false, false, false, false, false]) zH zK rfl zK ?_
  refine W_gyes rfl rfl ?_
  refine W_callq (.cons rfl (.cons rfl .nil)) Tryz.call30 rfl (wRun_nil zM) ?_
  refine W_nil ?_
  refine WC_goal ?_
  refine WC_gyes 6 (l' := #[true, true, true, true, true, true, true, false, false, false, false, false, false, false, false, false, false, false, false, false, false, false, false, false, false, false, false, false, false, false, false, false, false, false, false, false, false, false, false, false, false, false, false, false, false, false, false, false, false, false, false, false, false]) rfl zK zK zK rfl zK rfl rfl (X_len rfl ty73 rfl) rfl ?_
  refine WC_gyes 7 (l' := #[true, true, true, true, true, true, true, true, false, false, false, false, false, false, false, false, false, false, false, false, false, false, false, false, false, false, false, false, false, false, false, false, false, false, false, false, false, false, false, false, false, false, false, false, false, false, false, false, false, false, false, false, false]) rfl zK zK zK rfl zK rfl rfl (X_bin rfl rfl b_eql) rfl ?_
  first | refine WC_take 8 (l' := #[true, true, true, true, true, true, true, true, true, false, false, false, false, false, false, false, false, false, false, false, false, false, false, false, false, false, false, false, false, false, false, false, false, false, false, false, false, false, false, false, false, false, false, false, false, false, false, false, false, false, false, false, false]) rfl zK zK zK rfl zK (X_pickt rfl rfl) rfl ?_ | refine WC_take 8 (l' := #[true, true, true, true, true, true, true, true, true, false, false, false, false, false, false, false, false, false, false, false, false, false, false, false, false, false, false, false, false, false, false, false, false, false, false, false, false, false, false, false, false, false, false, false, false, false, false, false, false, false, false, false, false]) rfl zK zK zK rfl zK (X_pickf rfl rfl) rfl ?_
  refine WC_take 9 (l' := #[true, true, true, true, true, true, true, true, true, true, false, false, false, false, false, false, false, false, false, false, false, false, false, false, false, false, false, false, false, false, false, false, false, false, false, false, false, false, false, false, false, false, false, false, false, false, false, false, false, false, false, false, false]) rfl zK zK zK rfl zK (X_move rfl) rfl ?_
  refine WC_gyes 10 (l' := #[true, true, true, true, true, true, true, true, true, true, true, false, false, false, false, false, false, false, false, false, false, false, false, false, false, false, false, false, false, false, false, false, false, false, false, false, false, false, false, false, false, false, false, false, false, false, false, false, false, false, false, false, false]) rfl zK zK zK rfl zK rfl rfl (X_move rfl) rfl ?_
  refine WC_gyes 11 (l' := #[true, true, true, true, true, true, true, true, true, true, true, true, false, false, false, false, false, false, false, false, false, false, false, false, false, false, false, false, false, false, false, false, false, false, false, false, false, false, false, false, false, false, false, false, false, false, false, false, false, false, false, false, false]) rfl zK zK zK rfl zK rfl rfl (X_loadB (vs := [.int .i64 s0, .int .i64 s1, .int .i64 s2, .int .i64 s3, .int .u64 s4, .int .u64 s5, .slice ad (min n 600) cap]) rfl ty47 rfl (b := b7) zM rfl rfl) rfl ?_
  refine WC_gyes 14 (l' := #[true, true, true, true, true, true, true, true, true, true, true, true, false, false, true, false, false, false, false, false, false, false, false, false, false, false, false, false, false, false, false, false, false, false, false, false, false, false, false, false, false, false, false, false, false, false, false, false, false, false, false, false, false]) rfl zK zK zK rfl zK rfl rfl (X_fieldAddr rfl fld47_0 zd) rfl ?_
  refine WC_gyes 15 (l' := #[true, true, true, true, true, true, true, true, true, true, true, true, false, false, true, true, false, false, false, false, false, false, false, false, false, false, false, false, false, false, false, false, false, false, false, false, false, false, false, false, false, false, false, false, false, false, false, false, false, false, false, false, false]) rfl zK zK zK rfl zK rfl rfl (X_load (v := .int .i64 s0) rfl ty3 rfl (Cell.own (b := b7) zM rfl)) rfl ?_
  refine WC_gyes 16 (l' := #[true, true, true, true, true, true, true, true, true, true, true, true, false, false, true, true, true, false, false, false, false, false, false, false, false, false, false, false, false, false, false, false, false, false, false, false, false, false, false, false, false, false, false, false, false, false, false, false, false, false, false, false, false]) rfl zK zK zK rfl zK rfl rfl (X_build (l := rrC ⟨0, s0, 0, 6⟩) ty76 pl76 (.cons rfl rfl rfl rfl rfl (.cons rfl rfl rfl rfl rfl .nil)) rfl zk) rfl ?_
  refine WC_one 12 (l' := #[true, true, true, true, true, true, true, true, true, true, true, true, true, false, true, true, true, false, false, false, false, false, false, false, false, false, false, false, false, false, false, false, false, false, false, false, false, false, false, false, false, false, false, false, false, false, false, false, false, false, false, false, false]) zH zK rfl zK ?_
  refine W_gyes rfl rfl ?_
  refine W_callp (.cons rfl .nil) Tryz.call13 rfl (T := fun _ => True) trivial (to_nil) ?_
  refine W_nil ?_
  refine WC_goal ?_
  refine WC_one 13 (l' := #[true, true, true, true, true, true, true, true, true, true, true, true, true, true, true, true, true, false, false, false, false, false, false, false, false, false, false, false, false, false, false, false, false, false, false, false, false, false, false, false, false, false, false, false, false, false, false, false, false, false, false, false, false]) zH zK rfl zK ?_
  refine W_gyes rfl rfl ?_
  refine W_callp (v := .agg (rrC ⟨0, s0, 0, 6⟩).toArray) (.cons rfl (.cons rfl .nil)) Tryz.call31 rfl (T := fun _ => True) trivial (wStep_nil) ?_
  refine W_nil ?_
  refine WC_goal ?_
  refine WC_gyes 17 (l' := #[true, true, true, true, true, true, true, true, true, true, true, true, true, true, true, true, true, true, false, false, false, false, false, false, false, false, false, false, false, false, false, false, false, false, false, false, false, false, false, false, false, false, false, false, false, false, false, false, false, false, false, false, false]) rfl zK zK zK rfl zK rfl rfl (X_eqF (f := rrC) rfl rfl flat76 agg76 rrC_like rrC_inj gt76 zd) rfl ?_
  rw [decide_eq_true rfl]
  first | refine WC_take 18 (l' := #[true, true, true, true, true, true, true, true, true, true, true, true, true, true, true, true, true, true, true, false, false, false, false, false, false, false, false, false, false, false, false, false, false, false, false, false, false, false, false, false, false, false, false, false, false, false, false, false, false, false, false, false, false]) rfl zK zK zK rfl zK (X_pickt rfl rfl) rfl ?_ | refine WC_take 18 (l' := #[true, true, true, true, true, true, true, true, true, true, true, true, true, true, true, true, true, true, true, false, false, false, false, false, false, false, false, false, false, false, false, false, false, false, false, false, false, false, false, false, false, false, false, false, false, false, false, false, false, false, false, false, false]) rfl zK zK zK rfl zK (X_pickf rfl rfl) rfl ?_
  refine WC_take 19 (l' := #[true, true, true, true, true, true, true, true, true, true, true, true, true, true, true, true, true, true, true, true, false, false, false, false, false, false, false, false, false, false, false, false, false, false, false, false, false, false, false, false, false, false, false, false, false, false, false, false, false, false, false, false, false]) rfl zK zK zK rfl zK (X_move rfl) rfl ?_
  refine WC_gyes 20 (l' := #[true, true, true, true, true, true, true, true, true, true, true, true, true, true, true, true, true, true, true, true, true, false, false, false, false, false, false, false, false, false, false, false, false, false, false, false, false, false, false, false, false, false, false, false, false, false, false, false, false, false, false, false, false]) rfl zK zK zK rfl zK rfl rfl (X_move rfl) rfl ?_
  refine WC_one 21 (l' := #[true, true, true, true, true, true, true, true, true, true, true, true, true, true, true, true, true, true, true, true, true, true, false, false, false, false, false, false, false, false, false, false, false, false, false, false, false, false, false, false, false, false, false, false, false, false, false, false, false, false, false, false, false]) zH zK rfl zK ?_
  refine W_gyes rfl rfl ?_
  refine W_callp (.cons rfl .nil) Tryz.call32 rfl (T := fun _ => True) trivial (wRound_nil) ?_
  refine W_nil ?_
  refine WC_goal ?_
  refine WC_gyes 22 (l' := #[true, true, true, true, true, true, true, true, true, true, true, true, true, true, true, true, true, true, true, true, true, true, true, false, false, false, false, false, false, false, false, false, false, false, false, false, false, false, false, false, false, false, false, false, false, false, false, false, false, false, false, false, false]) rfl zK zK zK rfl zK rfl rfl (X_bin rfl rfl b_eql) rfl ?_
  first | refine WC_take 23 (l' := #[true, true, true, true, true, true, true, true, true, true, true, true, true, true, true, true, true, true, true, true, true, true, true, true, false, false, false, false, false, false, false, false, false, false, false, false, false, false, false, false, false, false, false, false, false, false, false, false, false, false, false, false, false]) rfl zK zK zK rfl zK (X_pickt rfl rfl) rfl ?_ | refine WC_take 23 (l' := #[true, true, true, true, true, true, true, true, true, true, true, true, true, true, true, true, true, true, true, true, true, true, true, true, false, false, false, false, false, false, false, false, false, false, false, false, false, false, false, false, false, false, false, false, false, false, false, false, false, false, false, false, false]) rfl zK zK zK rfl zK (X_pickf rfl rfl) rfl ?_
  refine WC_take 24 (l' := #[true, true, true, true, true, true, true, true, true, true, true, true, true, true, true, true, true, true, true, true, true, true, true, true, true, false, false, false, false, false, false, false, false, false, false, false, false, false, false, false, false, false, false, false, false, false, false, false, false, false, false, false, false]) rfl zK zK zK rfl zK (X_move rfl) rfl ?_
  refine WC_gyes 25 (l' := #[true, true, true, true, true, true, true, true, true, true, true, true, true, true, true, true, true, true, true, true, true, true, true, true, true, true, false, false, false, false, false, false, false, false, false, false, false, false, false, false, false, false, false, false, false, false, false, false, false, false, false, false, false]) rfl zK zK zK rfl zK rfl rfl (X_move rfl) rfl ?_
  refine WC_gyes 26 (l' := #[true, true, true, true, true, true, true, true, true, true, true, true, true, true, true, true, true, true, true, true, true, true, true, true, true, true, true, false, false, false, false, false, false, false, false, false, false, false, false, false, false, false, false, false, false, false, false, false, false, false, false, false, false]) rfl zK zK zK rfl zK rfl rfl (X_bin rfl rfl b_eql) rfl ?_
  first | refine WC_take 27 (l' := #[true, true, true, true, true, true, true, true, true, true, true, true, true, true, true, true, true, true, true, true, true, true, true, true, true, true, true, true, false, false, false, false, false, false, false, false, false, false, false, false, false, false, false, false, false, false, false, false, false, false, false, false, false]) rfl zK zK zK rfl zK (X_pickt rfl rfl) rfl ?_ | refine WC_take 27 (l' := #[true, true, true, true, true, true, true, true, true, true, true, true, true, true, true, true, true, true, true, true, true, true, true, true, true, true, true, true, false, false, false, false, false, false, false, false, false, false, false, false, false, false, false, false, false, false, false, false, false, false, false, false, false]) rfl zK zK zK rfl zK (X_pickf rfl rfl) rfl ?_
  refine WC_take 28 (l' := #[true, true, true, true, true, true, true, true, true, true, true, true, true, true, true, true, true, true, true, true, true, true, true, true, true, true, true, true, true, false, false, false, false, false, false, false, false, false, false, false, false, false, false, false, false, false, false, false, false, false, false, false, false]) rfl zK zK zK rfl zK (X_move rfl) rfl ?_
  refine WC_gyes 29 (l' := #[true, true, true, true, true, true, true, true, true, true, true, true, true, true, true, true, true, true, true, true, true, true, true, true, true, true, true, true, true, true, false, false, false, false, false, false, false, false, false, false, false, false, false, false, false, false, false, false, false, false, false, false, false]) rfl zK zK zK rfl zK rfl rfl (X_move rfl) rfl ?_
  refine WC_gyes 30 (l' := #[true, true, true, true, true, true, true, true, true, true, true, true, true, true, true, true, true, true, true, true, true, true, true, true, true, true, true, true, true, true, true, false, false, false, false, false, false, false, false, false, false, false, false, false, false, false, false, false, false, false, false, false, false]) rfl zK zK zK rfl zK rfl rfl (X_not rfl) rfl ?_
  first | refine WC_take 31 (l' := #[true, true, true, true, true, true, true, true, true, true, true, true, true, true, true, true, true, true, true, true, true, true, true, true, true, true, true, true, true, true, true, true, false, false, false, false, false, false, false, false, false, false, false, false, false, false, false, false, false, false, false, false, false]) rfl zK zK zK rfl zK (X_pickt rfl rfl) rfl ?_ | refine WC_take 31 (l' := #[true, true, true, true, true, true, true, true, true, true, true, true, true, true, true, true, true, true, true, true, true, true, true, true, true, true, true, true, true, true, true, true, false, false, false, false, false, false, false, false, false, false, false, false, false, false, false, false, false, false, false, false, false]) rfl zK zK zK rfl zK (X_pickf rfl rfl) rfl ?_
  refine WC_take 32 (l' := #[true, true, true, true, true, true, true, true, true, true, true, true, true, true, true, true, true, true, true, true, true, true, true, true, true, true, true, true, true, true, true, true, true, false, false, false, false, false, false, false, false, false, false, false, false, false, false, false, false, false, false, false, false]) rfl zK zK zK rfl zK (X_move rfl) rfl ?_
  refine WC_gyes 33 (l' := #[true, true, true, true, true, true, true, true, true, true, true, true, true, true, true, true, true, true, true, true, true, true, true, true, true, true, true, true, true, true, true, true, true, true, false, false, false, false, false, false, false, false, false, false, false, false, false, false, false, false, false, false, false]) rfl zK zK zK rfl zK rfl rfl (X_move rfl) rfl ?_
  refine WC_one 34 (l' := #[true, true, true, true, true, true, true, true, true, true, true, true, true, true, true, true, true, true, true, true, true, true, true, true, true, true, true, true, true, true, true, true, true, true, true, false, false, false, false, false, false, false, false, false, false, false, false, false, false, false, false, false, false]) zH zK rfl zK ?_
  refine W_gyes rfl rfl ?_
  refine W_callp (.cons rfl .nil) Tryz.call28 rfl (T := fun _ => True) trivial (wQuiet_nil) ?_
  refine W_nil ?_
  refine WC_goal ?_
  first | refine WC_take 35 (l' := #[true, true, true, true, true, true, true, true, true, true, true, true, true, true, true, true, true, true, true, true, true, true, true, true, true, true, true, true, true, true, true, true, true, true, true, true, false, false, false, false, false, false, false, false, false, false, false, false, false, false, false, false, false]) rfl zK zK zK rfl zK (X_pickt rfl rfl) rfl ?_ | refine WC_take 35 (l' := #[true, true, true, true, true, true, true, true, true, true, true, true, true, true, true, true, true, true, true, true, true, true, true, true, true, true, true, true, true, true, true, true, true, true, true, true, false, false, false, false, false, false, false, false, false, false, false, false, false, false, false, false, false]) rfl zK zK zK rfl zK (X_pickf rfl rfl) rfl ?_
  refine WC_take 36 (l' := #[true, true, true, true, true, true, true, true, true, true, true, true, true, true, true, true, true, true, true, true, true, true, true, true, true, true, true, true, true, true, true, true, true, true, true, true, true, false, false, false, false, false, false, false, false, false, false, false, false, false, false, false, false]) rfl zK zK zK rfl zK (X_move rfl) rfl ?_
  refine WC_gyes 37 (l' := #[true, true, true, true, true, true, true, true, true, true, true, true, true, true, true, true, true, true, true, true, true, true, true, true, true, true, true, true, true, true, true, true, true, true, true, true, true, true, false, false, false, false, false, false, false, false, false, false, false, false, false, false, false]) rfl zK zK zK rfl zK rfl rfl (X_move rfl) rfl ?_
  refine WC_one 38 (l' := #[true, true, true, true, true, true, true, true, true, true, true, true, true, true, true, true, true, true, true, true, true, true, true, true, true, true, true, true, true, true, true, true, true, true, true, true, true, true, true, false, false, false, false, false, false, false, false, false, false, false, false, false, false]) zH zK rfl zK ?_
  refine W_gyes rfl rfl ?_
  refine W_callp (.cons rfl (.cons rfl .nil)) Tryz.call33 rfl (T := fun _ => True) trivial (wLines_nil) ?_
  refine W_nil ?_
  refine WC_goal ?_
  refine WC_gyes 39 (l' := #[true, true, true, true, true, true, true, true, true, true, true, true, true, true, true, true, true, true, true, true, true, true, true, true, true, true, true, true, true, true, true, true, true, true, true, true, true, true, true, true, false, false, false, false, false, false, false, false, false, false, false, false, false]) rfl zK zK zK rfl zK rfl rfl (X_len rfl ty78 rfl) rfl ?_
  refine WC_gyes 40 (l' := #[true, true, true, true, true, true, true, true, true, true, true, true, true, true, true, true, true, true, true, true, true, true, true, true, true, true, true, true, true, true, true, true, true, true, true, true, true, true, true, true, true, false, false, false, false, false, false, false, false, false, false, false, false]) rfl zK zK zK rfl zK rfl rfl (X_bin rfl rfl b_eql) rfl ?_
  first | refine WC_take 41 (l' := #[true, true, true, true, true, true, true, true, true, true, true, true, true, true, true, true, true, true, true, true, true, true, true, true, true, true, true, true, true, true, true, true, true, true, true, true, true, true, true, true, true, true, false, false, false, false, false, false, false, false, false, false, false]) rfl zK zK zK rfl zK (X_pickt rfl rfl) rfl ?_ | refine WC_take 41 (l' := #[true, true, true, true, true, true, true, true, true, true, true, true, true, true, true, true, true, true, true, true, true, true, true, true, true, true, true, true, true, true, true, true, true, true, true, true, true, true, true, true, true, true, false, false, false, false, false, false, false, false, false, false, false]) rfl zK zK zK rfl zK (X_pickf rfl rfl) rfl ?_
  refine WC_take 42 (l' := #[true, true, true, true, true, true, true, true, true, true, true, true, true, true, true, true, true, true, true, true, true, true, true, true, true, true, true, true, true, true, true, true, true, true, true, true, true, true, true, true, true, true, true, false, false, false, false, false, false, false, false, false, false]) rfl zK zK zK rfl zK (X_move rfl) rfl ?_
  refine WC_gyes 43 (l' := #[true, true, true, true, true, true, true, true, true, true, true, true, true, true, true, true, true, true, true, true, true, true, true, true, true, true, true, true, true, true, true, true, true, true, true, true, true, true, true, true, true, true, true, true, false, false, false, false, false, false, false, false, false]) rfl zK zK zK rfl zK rfl rfl (X_move rfl) rfl ?_
  refine WC_one 44 (l' := #[true, true, true, true, true, true, true, true, true, true, true, true, true, true, true, true, true, true, true, true, true, true, true, true, true, true, true, true, true, true, true, true, true, true, true, true, true, true, true, true, true, true, true, true, true, false, false, false, false, false, false, false, false]) zH zK rfl zK ?_
  refine W_gyes rfl rfl ?_
  refine W_callp (.cons rfl .nil) Tryz.call27 rfl (T := fun _ => True) trivial (wMachine_nil) ?_
  refine W_nil ?_
  refine WC_goal ?_
  refine WC_gyes 45 (l' := #[true, true, true, true, true, true, true, true, true, true, true, true, true, true, true, true, true, true, true, true, true, true, true, true, true, true, true, true, true, true, true, true, true, true, true, true, true, true, true, true, true, true, true, true, true, true, false, false, false, false, false, false, false]) rfl zK zK zK rfl zK rfl rfl (X_ptrNil rfl rfl ty23) rfl ?_
  first | refine WC_take 46 (l' := #[true, true, true, true, true, true, true, true, true, true, true, true, true, true, true, true, true, true, true, true, true, true, true, true, true, true, true, true, true, true, true, true, true, true, true, true, true, true, true, true, true, true, true, true, true, true, true, false, false, false, false, false, false]) rfl zK zK zK rfl zK (X_pickt rfl rfl) rfl ?_ | refine WC_take 46 (l' := #[true, true, true, true, true, true, true, true, true, true, true, true, true, true, true, true, true, true, true, true, true, true, true, true, true, true, true, true, true, true, true, true, true, true, true, true, true, true, true, true, true, true, true, true, true, true, true, false, false, false, false, false, false]) rfl zK zK zK rfl zK (X_pickf rfl rfl) rfl ?_
  refine WC_take 47 (l' := #[true, true, true, true, true, true, true, true, true, true, true, true, true, true, true, true, true, true, true, true, true, true, true, true, true, true, true, true, true, true, true, true, true, true, true, true, true, true, true, true, true, true, true, true, true, true, true, true, false, false, false, false, false]) rfl zK zK zK rfl zK (X_move rfl) rfl ?_
  refine WC_one 48 (l' := #[true, true, true, true, true, true, true, true, true, true, true, true, true, true, true, true, true, true, true, true, true, true, true, true, true, true, true, true, true, true, true, true, true, true, true, true, true, true, true, true, true, true, true, true, true, true, true, true, true, false, false, false, false]) zH zK rfl zK ?_
  refine W_gyes rfl rfl ?_
  refine W_callp (.cons rfl .nil) Tryz.call34 rfl (T := fun _ => True) trivial (sParse_nil) ?_
  refine W_nil ?_
  refine WC_goal ?_
  refine WC_gyes 49 (l' := #[true, true, true, true, true, true, true, true, true, true, true, true, true, true, true, true, true, true, true, true, true, true, true, true, true, true, true, true, true, true, true, true, true, true, true, true, true, true, true, true, true, true, true, true, true, true, true, true, true, true, false, false, false]) rfl zK zK zK rfl zK rfl rfl (X_len rfl ty80 rfl) rfl ?_
  refine WC_gyes 50 (l' := #[true, true, true, true, true, true, true, true, true, true, true, true, true, true, true, true, true, true, true, true, true, true, true, true, true, true, true, true, true, true, true, true, true, true, true, true, true, true, true, true, true, true, true, true, true, true, true, true, true, true, true, false, false]) rfl zK zK zK rfl zK rfl rfl (X_bin rfl rfl b_eql) rfl ?_
  first | refine WC_take 51 (l' := #[true, true, true, true, true, true, true, true, true, true, true, true, true, true, true, true, true, true, true, true, true, true, true, true, true, true, true, true, true, true, true, true, true, true, true, true, true, true, true, true, true, true, true, true, true, true, true, true, true, true, true, true, false]) rfl zK zK zK rfl zK (X_pickt rfl rfl) rfl ?_ | refine WC_take 51 (l' := #[true, true, true, true, true, true, true, true, true, true, true, true, true, true, true, true, true, true, true, true, true, true, true, true, true, true, true, true, true, true, true, true, true, true, true, true, true, true, true, true, true, true, true, true, true, true, true, true, true, true, true, true, false]) rfl zK zK zK rfl zK (X_pickf rfl rfl) rfl ?_
  refine WC_take 52 (l' := #[true, true, true, true, true, true, true, true, true, true, true, true, true, true, true, true, true, true, true, true, true, true, true, true, true, true, true, true, true, true, true, true, true, true, true, true, true, true, true, true, true, true, true, true, true, true, true, true, true, true, true, true, true]) rfl zK zK zK rfl zK (X_assign rfl) rfl ?_
  refine WC_done zH zK ?_
  refine W_ret1m (H2 := H) Tryz.results5 rfl (.nil _) zH ?_
  exact ⟨rfl, rfl⟩
 ·skip
  refine W_move rfl rfl ?_
  obtain ⟨n1, rfl⟩ : ∃ n1 : Nat, c = (n1 : Int) := ⟨c.toNat, by omega⟩
  obtain ⟨p1, rfl⟩ : ∃ p1 : Nat, p = (p1 : Int) := ⟨p.toNat, by omega⟩
  refine W_call (.cons rfl (.cons rfl (.cons rfl .nil))) Tryz.call26 rfl ((wdNew_L (n := n1) (p := p1) (now := 5) zO zO zd).hsub (.refl _)) ?_
  rintro v H' ⟨wb, kb, cb, lb, gb, mb, Ws, HF, HG, HM, rfl, hF, rfl⟩
  have hr0 := kr0_ok cb lb gb mb n1
  refine W_move rfl rfl ?_
  refine W_extract rfl rfl rfl ?_
  refine W_extract rfl rfl rfl ?_
  refine W_assign rfl rfl ?_
  refine W_assign rfl rfl ?_
  refine W_nil (W_sr ?_)
  refine W_move rfl rfl ?_
  refine W_bin rfl rfl b_geq rfl ?_
  first | rw [decide_eq_true (by omega)] | rw [decide_eq_false (by omega)]
  refine W_move rfl rfl ?_
  refine W_gyes rfl rfl ?_
  refine W_move rfl rfl ?_
  refine W_gyes rfl rfl ?_
  refine W_bin rfl rfl b_leq rfl ?_
  first | rw [decide_eq_true (by omega)] | rw [decide_eq_false (by omega)]
  first | refine W_pickt rfl rfl rfl ?_ | refine W_pickf rfl rfl rfl ?_
  refine W_move rfl rfl ?_
  refine W_gyes rfl rfl ?_
  refine W_move rfl rfl ?_
  refine W_gyes rfl rfl ?_
  refine W_bin rfl rfl b_geq rfl ?_
  first | rw [decide_eq_true (by omega)] | rw [decide_eq_false (by omega)]
  first | refine W_pickt rfl rfl rfl ?_ | refine W_pickf rfl rfl rfl ?_
  refine W_move rfl rfl ?_
  refine W_gyes rfl rfl ?_
  refine W_move rfl rfl ?_
  refine W_gyes rfl rfl ?_
  refine W_bin rfl rfl b_leq rfl ?_
  first | rw [decide_eq_true (by omega)] | rw [decide_eq_false (by omega)]
  first | refine W_pickt rfl rfl rfl ?_ | refine W_pickf rfl rfl rfl ?_
  refine W_assign rfl rfl ?_
  refine W_nil (W_seq (W_sr ?_))
  refine W_move rfl rfl ?_
  refine W_move rfl rfl ?_
  refine W_gyes rfl rfl ?_
  refine W_move rfl rfl ?_
  refine W_gyes rfl rfl ?_
  refine W_bin rfl rfl b_neq rfl ?_
  refine W_gyes rfl rfl ?_
  refine W_move rfl rfl ?_
  refine W_gyes rfl rfl ?_
  refine W_move rfl rfl ?_
  refine W_gyes rfl rfl ?_
  refine W_callq (.cons rfl .nil) Tryz.call27 rfl (wMachine_q zM) ?_
  refine W_gyes rfl rfl ?_
  refine W_callq (.cons rfl .nil) Tryz.call16 rfl (kNow_q (now := 5) hr0 zM zM) ?_
  refine W_gyes rfl rfl ?_
  refine W_bin rfl rfl b_neq rfl ?_
  refine W_gyes rfl rfl ?_
  first | refine W_pickt rfl rfl rfl ?_ | refine W_pickf rfl rfl rfl ?_
  refine W_gyes rfl rfl ?_
  refine W_move rfl rfl ?_
  refine W_gyes rfl rfl ?_
  refine W_move rfl rfl ?_
  refine W_gyes rfl rfl ?_
  refine W_call (.cons rfl .nil) Tryz.call28 rfl ((wQuiet_L (H := (wb, .cells 135 1 [.pointer (some ⟨kb, 0, none⟩)]) :: ((kb, .cells 113 57 (knC (kr0 cb lb gb mb n1))) :: ((cb, .cells 211 1 [.int .u64 ((5 : Nat) : Int)]) :: (HG ++ (HM ++ ((b7, .cells 47 7 [.int .i64 s0, .int .i64 s1, .int .i64 s2, .int .i64 s3, .int .u64 s4, .int .u64 s5, .slice ad (min n 600) cap]) :: H)))))) zM zM hF zO).hsub zH) ?_
  rintro v H' ⟨rfl, rfl⟩
  refine W_gyes rfl rfl ?_
  refine W_not rfl rfl ?_
  refine W_gyes rfl rfl ?_
  first | refine W_pickt rfl rfl rfl ?_ | refine W_pickf rfl rfl rfl ?_
  first | refine W_pickt rfl rfl rfl ?_ | refine W_pickf rfl rfl rfl ?_
  refine W_move rfl rfl ?_
  apply W_or
  iterate 4 exact rfl
  case h1 =>
   intro hg16
   refine W_gyes rfl rfl ?_
   refine W_move rfl rfl ?_
   refine W_gyes rfl rfl ?_
   refine W_not rfl rfl ?_
   refine W_gyes rfl rfl ?_
   refine W_move rfl rfl ?_
   apply W_and
   iterate 4 exact rfl
   case h1 =>
    intro hg19
    refine W_gyes rfl rfl ?_
    refine W_move rfl rfl ?_
    refine W_gyes rfl rfl ?_
    refine W_bin rfl rfl b_neq rfl ?_
    refine W_gyes rfl rfl ?_
    refine W_move rfl rfl ?_
    apply W_or
    iterate 4 exact rfl
    case h1 =>
     intro hg22
     refine W_gyes rfl rfl ?_
     refine W_move rfl rfl ?_
     refine W_gyes rfl rfl ?_
     refine W_x (X_ptrNotNil rfl rfl ty67) (fun _ h => by cases h) rfl ?_
     exact W_met rfl zR
    exact W_met rfl zR
   exact W_met rfl zR
  refine W_nil ?_
  refine W_condF rfl rfl ?_
  refine W_skip (W_seq ?_)
  refine W_anyC [(b7, .cells 47 7 [.int .i64 s0, .int .i64 s1, .int .i64 s2, .int .i64 s3, .int .u64 s4, .int .u64 s5, .slice ad (min n 600) cap])] zk ?_
  refine WC_one 0 (l' := #[true, false, false, false, false, false, false, false, false, false, false, false, false, false, false, false, false, false, false, false, false, false, false, false, false, false, false, false, false, false, false, false, false, false, false, false, false, false, false, false, false, false, false, false, false, false, false, false, false, false, false, false, false]) zH zK rfl zK ?_
  refine W_callp .nil Tryz.call29 rfl hT wknown_pure ?_
  refine W_nil ?_
  refine WC_goal ?_
  refine WC_take 1 (l' := #[true, true, false, false, false, false, false, false, false, false, false, false, false, false, false, false, false, false, false, false, false, false, false, false, false, false, false, false, false, false, false, false, false, false, false, false, false, false, false, false, false, false, false, false, false, false, false, false, false, false, false, false, false]) rfl zK zK zK rfl zK (X_move rfl) rfl ?_
  refine WC_gyes 2 (l' := #[true, true, true, false, false, false, false, false, false, false, false, false, false, false, false, false, false, false, false, false, false, false, false, false, false, false, false, false, false, false, false, false, false, false, false, false, false, false, false, false, false, false, false, false, false, false, false, false, false, false, false, false, false]) rfl zK zK zK rfl zK rfl rfl (X_move rfl) rfl ?_
  refine WC_gyes 3 (l' := #[true, true, true, true, false, false, false, false, false, false, false, false, false, false, false, false, false, false, false, false, false, false, false, false, false, false, false, false, false, false, false, false, false, false, false, false, false, false, false, false, false, false, false, false, false, false, false, false, false, false, false, false, false]) rfl zK zK zK rfl zK rfl rfl (X_move rfl) rfl ?_
  refine WC_one 4 (l' := #[true, true, true, true, true, false, false, false, false, false, false, false, false, false, false, false, false, false, false, false, false, false, false, false, false, false, false, false, false, false, false, false, false, false, false, false, false, false, false, false, false, false, false, false, false, false, false, false, false, false, false, false, false]) zH zK rfl zK ?_
  refine W_gyes rfl rfl ?_
  refine W_buildSlice (l := [.slice adb nb capb]) ty142 ty28 (.cons rfl rfl rfl rfl rfl .nil) rfl rfl rfl rfl rfl rfl rfl (fun b81 => ?_)
  refine W_nil ?_
  refine WC_goal ?_
  refine WC_one 5 (l' := #[true, true, true, true, true, true, false, false, false, false, false, false, false, false, false, false, false, false, false, false, false, false, false, false, false, false, false, false, false, false, false, false, false, false, false, false, false, false, false, false, false, false, false, false, false, false, false, false, false, false, false, false, false]) zH zK rfl zK ?_
  refine W_gyes rfl rfl ?_
  refine W_callq (.cons rfl (.cons rfl .nil)) Tryz.call30 rfl (wRun_nil zM) ?_
  refine W_nil ?_
  refine WC_goal ?_
  refine WC_gyes 6 (l' := #[true, true, true, true, true, true, true, false, false, false, false, false, false, false, false, false, false, false, false, false, false, false, false, false, false, false, false, false, false, false, false, false, false, false, false, false, false, false, false, false, false, false, false, false, false, false, false, false, false, false, false, false, false]) rfl zK zK zK rfl zK rfl rfl (X_len rfl ty73 rfl) rfl ?_
  refine WC_gyes 7 (l' := #[true, true, true, true, true, true, true, true, false, false, false, false, false, false, false, false, false, false, false, false, false, false, false, false, false, false, false, false, false, false, false, false, false, false, false, false, false, false, false, false, false, false, false, false, false, false, false, false, false, false, false, false, false]) rfl zK zK zK rfl zK rfl rfl (X_bin rfl rfl b_eql) rfl ?_
  first | refine WC_take 8 (l' := #[true, true, true, true, true, true, true, true, true, false, false, false, false, false, false, false, false, false, false, false, false, false, false, false, false, false, false, false, false, false, false, false, false, false, false, false, false, false, false, false, false, false, false, false, false, false, false, false, false, false, false, false, false]) rfl zK zK zK rfl zK (X_pickt rfl rfl) rfl ?_ | refine WC_take 8 (l' := #[true, true, true, true, true, true, true, true, true, false, false, false, false, false, false, false, false, false, false, false, false, false, false, false, false, false, false, false, false, false, false, false, false, false, false, false, false, false, false, false, false, false, false, false, false, false, false, false, false, false, false, false, false]) rfl zK zK zK rfl zK (X_pickf rfl rfl) rfl ?_
  refine WC_take 9 (l' := #[true, true, true, true, true, true, true, true, true, true, false, false, false, false, false, false, false, false, false, false, false, false, false, false, false, false, false, false, false, false, false, false, false, false, false, false, false, false, false, false, false, false, false, false, false, false, false, false, false, false, false, false, false]) rfl zK zK zK rfl zK (X_move rfl) rfl ?_
  refine WC_gyes 10 (l' := #[true, true, true, true, true, true, true, true, true, true, true, false, false, false, false, false, false, false, false, false, false, false, false, false, false, false, false, false, false, false, false, false, false, false, false, false, false, false, false, false, false, false, false, false, false, false, false, false, false, false, false, false, false]) rfl zK zK zK rfl zK rfl rfl (X_move rfl) rfl ?_
  refine WC_gyes 11 (l' := #[true, true, true, true, true, true, true, true, true, true, true, true, false, false, false, false, false, false, false, false, false, false, false, false, false, false, false, false, false, false, false, false, false, false, false, false, false, false, false, false, false, false, false, false, false, false, false, false, false, false, false, false, false]) rfl zK zK zK rfl zK rfl rfl (X_loadB (vs := [.int .i64 s0, .int .i64 s1, .int .i64 s2, .int .i64 s3, .int .u64 s4, .int .u64 s5, .slice ad (min n 600) cap]) rfl ty47 rfl (b := b7) zM rfl rfl) rfl ?_
  refine WC_gyes 14 (l' := #[true, true, true, true, true, true, true, true, true, true, true, true, false, false, true, false, false, false, false, false, false, false, false, false, false, false, false, false, false, false, false, false, false, false, false, false, false, false, false, false, false, false, false, false, false, false, false, false, false, false, false, false, false]) rfl zK zK zK rfl zK rfl rfl (X_fieldAddr rfl fld47_0 zd) rfl ?_
  refine WC_gyes 15 (l' := #[true, true, true, true, true, true, true, true, true, true, true, true, false, false, true, true, false, false, false, false, false, false, false, false, false, false, false, false, false, false, false, false, false, false, false, false, false, false, false, false, false, false, false, false, false, false, false, false, false, false, false, false, false]) rfl zK zK zK rfl zK rfl rfl (X_load (v := .int .i64 s0) rfl ty3 rfl (Cell.own (b := b7) zM rfl)) rfl ?_
  refine WC_gyes 16 (l' := #[true, true, true, true, true, true, true, true, true, true, true, true, false, false, true, true, true, false, false, false, false, false, false, false, false, false, false, false, false, false, false, false, false, false, false, false, false, false, false, false, false, false, false, false, false, false, false, false, false, false, false, false, false]) rfl zK zK zK rfl zK rfl rfl (X_build (l := rrC ⟨0, s0, 0, 6⟩) ty76 pl76 (.cons rfl rfl rfl rfl rfl (.cons rfl rfl rfl rfl rfl .nil)) rfl zk) rfl ?_
  refine WC_one 12 (l' := #[true, true, true, true, true, true, true, true, true, true, true, true, true, false, true, true, true, false, false, false, false, false, false, false, false, false, false, false, false, false, false, false, false, false, false, false, false, false, false, false, false, false, false, false, false, false, false, false, false, false, false, false, false]) zH zK rfl zK ?_
  refine W_gyes rfl rfl ?_
  refine W_callp (.cons rfl .nil) Tryz.call13 rfl (T := fun _ => True) trivial (to_nil) ?_
  refine W_nil ?_
  refine WC_goal ?_
  refine WC_one 13 (l' := #[true, true, true, true, true, true, true, true, true, true, true, true, true, true, true, true, true, false, false, false, false, false, false, false, false, false, false, false, false, false, false, false, false, false, false, false, false, false, false, false, false, false, false, false, false, false, false, false, false, false, false, false, false]) zH zK rfl zK ?_
  refine W_gyes rfl rfl ?_
  refine W_callp (v := .agg (rrC ⟨0, s0, 0, 6⟩).toArray) (.cons rfl (.cons rfl .nil)) Tryz.call31 rfl (T := fun _ => True) trivial (wStep_nil) ?_
  refine W_nil ?_
  refine WC_goal ?_
  refine WC_gyes 17 (l' := #[true, true, true, true, true, true, true, true, true, true, true, true, true, true, true, true, true, true, false, false, false, false, false, false, false, false, false, false, false, false, false, false, false, false, false, false, false, false, false, false, false, false, false, false, false, false, false, false, false, false, false, false, false]) rfl zK zK zK rfl zK rfl rfl (X_eqF (f := rrC) rfl rfl flat76 agg76 rrC_like rrC_inj gt76 zd) rfl ?_
  rw [decide_eq_true rfl]
  first | refine WC_take 18 (l' := #[true, true, true, true, true, true, true, true, true, true, true, true, true, true, true, true, true, true, true, false, false, false, false, false, false, false, false, false, false, false, false, false, false, false, false, false, false, false, false, false, false, false, false, false, false, false, false, false, false, false, false, false, false]) rfl zK zK zK rfl zK (X_pickt rfl rfl) rfl ?_ | refine WC_take 18 (l' := #[true, true, true, true, true, true, true, true, true, true, true, true, true, true, true, true, true, true, true, false, false, false, false, false, false, false, false, false, false, false, false, false, false, false, false, false, false, false, false, false, false, false, false, false, false, false, false, false, false, false, false, false, false]) rfl zK zK zK rfl zK (X_pickf rfl rfl) rfl ?_
  refine WC_take 19 (l' := #[true, true, true, true, true, true, true, true, true, true, true, true, true, true, true, true, true, true, true, true, false, false, false, false, false, false, false, false, false, false, false, false, false, false, false, false, false, false, false, false, false, false, false, false, false, false, false, false, false, false, false, false, false]) rfl zK zK zK rfl zK (X_move rfl) rfl ?_
  refine WC_gyes 20 (l' := #[true, true, true, true, true, true, true, true, true, true, true, true, true, true, true, true, true, true, true, true, true, false, false, false, false, false, false, false, false, false, false, false, false, false, false, false, false, false, false, false, false, false, false, false, false, false, false, false, false, false, false, false, false]) rfl zK zK zK rfl zK rfl rfl (X_move rfl) rfl ?_
  refine WC_one 21 (l' := #[true, true, true, true, true, true, true, true, true, true, true, true, true, true, true, true, true, true, true, true, true, true, false, false, false, false, false, false, false, false, false, false, false, false, false, false, false, false, false, false, false, false, false, false, false, false, false, false, false, false, false, false, false]) zH zK rfl zK ?_
  refine W_gyes rfl rfl ?_
  refine W_callp (.cons rfl .nil) Tryz.call32 rfl (T := fun _ => True) trivial (wRound_nil) ?_
  refine W_nil ?_
  refine WC_goal ?_
  refine WC_gyes 22 (l' := #[true, true, true, true, true, true, true, true, true, true, true, true, true, true, true, true, true, true, true, true, true, true, true, false, false, false, false, false, false, false, false, false, false, false, false, false, false, false, false, false, false, false, false, false, false, false, false, false, false, false, false, false, false]) rfl zK zK zK rfl zK rfl rfl (X_bin rfl rfl b_eql) rfl ?_
  first | refine WC_take 23 (l' := #[true, true, true, true, true, true, true, true, true, true, true, true, true, true, true, true, true, true, true, true, true, true, true, true, false, false, false, false, false, false, false, false, false, false, false, false, false, false, false, false, false, false, false, false, false, false, false, false, false, false, false, false, false]) rfl zK zK zK rfl zK (X_pickt rfl rfl) rfl ?_ | refine WC_take 23 (l' := #[true, true, true, true, true, true, true, true, true, true, true, true, true, true, true, true, true, true, true, true, true, true, true, true, false, false, false, false, false, false, false, false, false, false, false, false, false, false, false, false, false, false, false, false, false, false, false, false, false, false, false, false, false]) rfl zK zK zK rfl zK (X_pickf rfl rfl) rfl ?_
  refine WC_take 24 (l' := #[true, true, true, true, true, true, true, true, true, true, true, true, true, true, true, true, true, true, true, true, true, true, true, true, true, false, false, false, false, false, false, false, false, false, false, false, false, false, false, false, false, false, false, false, false, false, false, false, false, false, false, false, false]) rfl zK zK zK rfl zK (X_move rfl) rfl ?_
  refine WC_gyes 25 (l' := #[true, true, true, true, true, true, true, true, true, true, true, true, true, true, true, true, true, true, true, true, true, true, true, true, true, true, false, false, false, false, false, false, false, false, false, false, false, false, false, false, false, false, false, false, false, false, false, false, false, false, false, false, false]) rfl zK zK zK rfl zK rfl rfl (X_move rfl) rfl ?_
  refine WC_gyes 26 (l' := #[true, true, true, true, true, true, true, true, true, true, true, true, true, true, true, true, true, true, true, true, true, true, true, true, true, true, true, false, false, false, false, false, false, false, false, false, false, false, false, false, false, false, false, false, false, false, false, false, false, false, false, false, false]) rfl zK zK zK rfl zK rfl rfl (X_bin rfl rfl b_eql) rfl ?_
  first | refine WC_take 27 (l' := #[true, true, true, true, true, true, true, true, true, true, true, true, true, true, true, true, true, true, true, true, true, true, true, true, true, true, true, true, false, false, false, false, false, false, false, false, false, false, false, false, false, false, false, false, false, false, false, false, false, false, false, false, false]) rfl zK zK zK rfl zK (X_pickt rfl rfl) rfl ?_ | refine WC_take 27 (l' := #[true, true, true, true, true, true, true, true, true, true, true, true, true, true, true, true, true, true, true, true, true, true, true, true, true, true, true, true, false, false, false, false, false, false, false, false, false, false, false, false, false, false, false, false, false, false, false, false, false, false, false, false, false]) rfl zK zK zK rfl zK (X_pickf rfl rfl) rfl ?_
  refine WC_take 28 (l' := #[true, true, true, true, true, true, true, true, true, true, true, true, true, true, true, true, true, true, true, true, true, true, true, true, true, true, true, true, true, false, false, false, false, false, false, false, false, false, false, false, false, false, false, false, false, false, false, false, false, false, false, false, false]) rfl zK zK zK rfl zK (X_move rfl) rfl ?_
  refine WC_gyes 29 (l' := #[true, true, true, true, true, true, true, true, true, true, true, true, true, true, true, true, true, true, true, true, true, true, true, true, true, true, true, true, true, true, false, false, false, false, false, false, false, false, false, false, false, false, false, false, false, false, false, false, false, false, false, false, false]) rfl zK zK zK rfl zK rfl rfl (X_move rfl) rfl ?_
  refine WC_gyes 30 (l' := #[true, true, true, true, true, true, true, true, true, true, true, true, true, true, true, true, true, true, true, true, true, true, true, true, true, true, true, true, true, true, true, false, false, false, false, false, false, false, false, false, false, false, false, false, false, false, false, false, false, false, false, false, false]) rfl zK zK zK rfl zK rfl rfl (X_not rfl) rfl ?_
  first | refine WC_take 31 (l' := #[true, true, true, true, true, true, true, true, true, true, true, true, true, true, true, true, true, true, true, true, true, true, true, true, true, true, true, true, true, true, true, true, false, false, false, false, false, false, false, false, false, false, false, false, false, false, false, false, false, false, false, false, false]) rfl zK zK zK rfl zK (X_pickt rfl rfl) rfl ?_ | refine WC_take 31 (l' := #[true, true, true, true, true, true, true, true, true, true, true, true, true, true, true, true, true, true, true, true, true, true, true, true, true, true, true, true, true, true, true, true, false, false, false, false, false, false, false, false, false, false, false, false, false, false, false, false, false, false, false, false, false]) rfl zK zK zK rfl zK (X_pickf rfl rfl) rfl ?_
  refine WC_take 32 (l' := #[true, true, true, true, true, true, true, true, true, true, true, true, true, true, true, true, true, true, true, true, true, true, true, true, true, true, true, true, true, true, true, true, true, false, false, false, false, false, false, false, false, false, false, false, false, false, false, false, false, false, false, false, false]) rfl zK zK zK rfl zK (X_move rfl) rfl ?_
  refine WC_gyes 33 (l' := #[true, true, true, true, true, true, true, true, true, true, true, true, true, true, true, true, true, true, true, true, true, true, true, true, true, true, true, true, true, true, true, true, true, true, false, false, false, false, false, false, false, false, false, false, false, false, false, false, false, false, false, false, false]) rfl zK zK zK rfl zK rfl rfl (X_move rfl) rfl ?_
  refine WC_one 34 (l' := #[true, true, true, true, true, true, true, true, true, true, true, true, true, true, true, true, true, true, true, true, true, true, true, true, true, true, true, true, true, true, true, true, true, true, true, false, false, false, false, false, false, false, false, false, false, false, false, false, false, false, false, false, false]) zH zK rfl zK ?_
  refine W_gyes rfl rfl ?_
  refine W_callp (.cons rfl .nil) Tryz.call28 rfl (T := fun _ => True) trivial (wQuiet_nil) ?_
  refine W_nil ?_
  refine WC_goal ?_
  first | refine WC_take 35 (l' := #[true, true, true, true, true, true, true, true, true, true, true, true, true, true, true, true, true, true, true, true, true, true, true, true, true, true, true, true, true, true, true, true, true, true, true, true, false, false, false, false, false, false, false, false, false, false, false, false, false, false, false, false, false]) rfl zK zK zK rfl zK (X_pickt rfl rfl) rfl ?_ | refine WC_take 35 (l' := #[true, true, true, true, true, true, true, true, true, true, true, true, true, true, true, true, true, true, true, true, true, true, true, true, true, true, true, true, true, true, true, true, true, true, true, true, false, false, false, false, false, false, false, false, false, false, false, false, false, false, false, false, false]) rfl zK zK zK rfl zK (X_pickf rfl rfl) rfl ?_
  refine WC_take 36 (l' := #[true, true, true, true, true, true, true, true, true, true, true, true, true, true, true, true, true, true, true, true, true, true, true, true, true, true, true, true, true, true, true, true, true, true, true, true, true, false, false, false, false, false, false, false, false, false, false, false, false, false, false, false, false]) rfl zK zK zK rfl zK (X_move rfl) rfl ?_
  refine WC_gyes 37 (l' := #[true, true, true, true, true, true, true, true, true, true, true, true, true, true, true, true, true, true, true, true, true, true, true, true, true, true, true, true, true, true, true, true, true, true, true, true, true, true, false, false, false, false, false, false, false, false, false, false, false, false, false, false, false]) rfl zK zK zK rfl zK rfl rfl (X_move rfl) rfl ?_
  refine WC_one 38 (l' := #[true, true, true, true, true, true, true, true, true, true, true, true, true, true, true, true, true, true, true, true, true, true, true, true, true, true, true, true, true, true, true, true, true, true, true, true, true, true, true, false, false, false, false, false, false, false, false, false, false, false, false, false, false]) zH zK rfl zK ?_
  refine W_gyes rfl rfl ?_
  refine W_callp (.cons rfl (.cons rfl .nil)) Tryz.call33 rfl (T := fun _ => True) trivial (wLines_nil) ?_
  refine W_nil ?_
  refine WC_goal ?_
  refine WC_gyes 39 (l' := #[true, true, true, true, true, true, true, true, true, true, true, true, true, true, true, true, true, true, true, true, true, true, true, true, true, true, true, true, true, true, true, true, true, true, true, true, true, true, true, true, false, false, false, false, false, false, false, false, false, false, false, false, false]) rfl zK zK zK rfl zK rfl rfl (X_len rfl ty78 rfl) rfl ?_
  refine WC_gyes 40 (l' := #[true, true, true, true, true, true, true, true, true, true, true, true, true, true, true, true, true, true, true, true, true, true, true, true, true, true, true, true, true, true, true, true, true, true, true, true, true, true, true, true, true, false, false, false, false, false, false, false, false, false, false, false, false]) rfl zK zK zK rfl zK rfl rfl (X_bin rfl rfl b_eql) rfl ?_
  first | refine WC_take 41 (l' := #[true, true, true, true, true, true, true, true, true, true, true, true, true, true, true, true, true, true, true, true, true, true, true, true, true, true, true, true, true, true, true, true, true, true, true, true, true, true, true, true, true, true, false, false, false, false, false, false, false, false, false, false, false]) rfl zK zK zK rfl zK (X_pickt rfl rfl) rfl ?_ | refine WC_take 41 (l' := #[true, true, true, true, true, true, true, true, true, true, true, true, true, true, true, true, true, true, true, true, true, true, true, true, true, true, true, true, true, true, true, true, true, true, true, true, true, true, true, true, true, true, false, false, false, false, false, false, false, false, false, false, false]) rfl zK zK zK rfl zK (X_pickf rfl rfl) rfl ?_
  refine WC_take 42 (l' := #[true, true, true, true, true, true, true, true, true, true, true, true, true, true, true, true, true, true, true, true, true, true, true, true, true, true, true, true, true, true, true, true, true, true, true, true, true, true, true, true, true, true, true, false, false, false, false, false, false, false, false, false, false]) rfl zK zK zK rfl zK (X_move rfl) rfl ?_
  refine WC_gyes 43 (l' := #[true, true, true, true, true, true, true, true, true, true, true, true, true, true, true, true, true, true, true, true, true, true, true, true, true, true, true, true, true, true, true, true, true, true, true, true, true, true, true, true, true, true, true, true, false, false, false, false, false, false, false, false, false]) rfl zK zK zK rfl zK rfl rfl (X_move rfl) rfl ?_
  refine WC_one 44 (l' := #[true, true, true, true, true, true, true, true, true, true, true, true, true, true, true, true, true, true, true, true, true, true, true, true, true, true, true, true, true, true, true, true, true, true, true, true, true, true, true, true, true, true, true, true, true, false, false, false, false, false, false, false, false]) zH zK rfl zK ?_
  refine W_gyes rfl rfl ?_
  refine W_callp (.cons rfl .nil) Tryz.call27 rfl (T := fun _ => True) trivial (wMachine_nil) ?_
  refine W_nil ?_
  refine WC_goal ?_
  refine WC_gyes 45 (l' := #[true, true, true, true, true, true, true, true, true, true, true, true, true, true, true, true, true, true, true, true, true, true, true, true, true, true, true, true, true, true, true, true, true, true, true, true, true, true, true, true, true, true, true, true, true, true, false, false, false, false, false, false, false]) rfl zK zK zK rfl zK rfl rfl (X_ptrNil rfl rfl ty23) rfl ?_
  first | refine WC_take 46 (l' := #[true, true, true, true, true, true, true, true, true, true, true, true, true, true, true, true, true, true, true, true, true, true, true, true, true, true, true, true, true, true, true, true, true, true, true, true, true, true, true, true, true, true, true, true, true, true, true, false, false, false, false, false, false]) rfl zK zK zK rfl zK (X_pickt rfl rfl) rfl ?_ | refine WC_take 46 (l' := #[true, true, true, true, true, true, true, true, true, true, true, true, true, true, true, true, true, true, true, true, true, true, true, true, true, true, true, true, true, true, true, true, true, true, true, true, true, true, true, true, true, true, true, true, true, true, true, false, false, false, false, false, false]) rfl zK zK zK rfl zK (X_pickf rfl rfl) rfl ?_
  refine WC_take 47 (l' := #[true, true, true, true, true, true, true, true, true, true, true, true, true, true, true, true, true, true, true, true, true, true, true, true, true, true, true, true, true, true, true, true, true, true, true, true, true, true, true, true, true, true, true, true, true, true, true, true, false, false, false, false, false]) rfl zK zK zK rfl zK (X_move rfl) rfl ?_
  refine WC_one 48 (l' := #[true, true, true, true, true, true, true, true, true, true, true, true, true, true, true, true, true, true, true, true, true, true, true, true, true, true, true, true, true, true, true, true, true, true, true, true, true, true, true, true, true, true, true, true, true, true, true, true, true, false, false, false, false]) zH zK rfl zK ?_
  refine W_gyes rfl rfl ?_
  refine W_callp (.cons rfl .nil) Tryz.call34 rfl (T := fun _ => True) trivial (sParse_nil) ?_
  refine W_nil ?_
  refine WC_goal ?_
  refine WC_gyes 49 (l' := #[true, true, true, true, true, true, true, true, true, true, true, true, true, true, true, true, true, true, true, true, true, true, true, true, true, true, true, true, true, true, true, true, true, true, true, true, true, true, true, true, true, true, true, true, true, true, true, true, true, true, false, false, false]) rfl zK zK zK rfl zK rfl rfl (X_len rfl ty80 rfl) rfl ?_
  refine WC_gyes 50 (l' := #[true, true, true, true, true, true, true, true, true, true, true, true, true, true, true, true, true, true, true, true, true, true, true, true, true, true, true, true, true, true, true, true, true, true, true, true, true, true, true, true, true, true, true, true, true, true, true, true, true, true, true, false, false]) rfl zK zK zK rfl zK rfl rfl (X_bin rfl rfl b_eql) rfl ?_
  first | refine WC_take 51 (l' := #[true, true, true, true, true, true, true, true, true, true, true, true, true, true, true, true, true, true, true, true, true, true, true, true, true, true, true, true, true, true, true, true, true, true, true, true, true, true, true, true, true, true, true, true, true, true, true, true, true, true, true, true, false]) rfl zK zK zK rfl zK (X_pickt rfl rfl) rfl ?_ | refine WC_take 51 (l' := #[true, true, true, true, true, true, true, true, true, true, true, true, true, true, true, true, true, true, true, true, true, true, true, true, true, true, true, true, true, true, true, true, true, true, true, true, true, true, true, true, true, true, true, true, true, true, true, true, true, true, true, true, false]) rfl zK zK zK rfl zK (X_pickf rfl rfl) rfl ?_
  refine WC_take 52 (l' := #[true, true, true, true, true, true, true, true, true, true, true, true, true, true, true, true, true, true, true, true, true, true, true, true, true, true, true, true, true, true, true, true, true, true, true, true, true, true, true, true, true, true, true, true, true, true, true, true, true, true, true, true, true]) rfl zK zK zK rfl zK (X_assign rfl) rfl ?_
  refine WC_done zH zK ?_
  refine W_ret1m (H2 := H) Tryz.results5 rfl (.nil _) zH ?_
  exact ⟨rfl, rfl⟩
end Go.Proofs.YtcggkokeggfdkaaGreatDoor
