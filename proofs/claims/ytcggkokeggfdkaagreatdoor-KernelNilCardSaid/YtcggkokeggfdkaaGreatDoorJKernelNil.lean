/-
  Proved: the statement KernelNilCardSaid, as the row gives it, under no condition of its own.
-/
import Derived.Test.YtcggkokeggfdkaaGreatDoorKnT1
import Derived.Test.YtcggkokeggfdkaaGreatDoorKnT2
import Derived.Test.YtcggkokeggfdkaaGreatDoorKnA
set_option linter.all false
set_option linter.unusedSimpArgs false
set_option linter.unusedVariables false
set_option maxHeartbeats 16000000
namespace Go.Proofs.YtcggkokeggfdkaaGreatDoor
open Go Go.Sl Go.ChangeShapes Go.WideShapes Go.ChangeAt Go.RowKit
set_option maxRecDepth 100000
theorem contract_KernelNil (H : Type) (enc : TypeId × Value → H) (W : World) (base : Nat) (args : Array Value) (ds gs : List (DataW H)) (before : List MemPlace)
  (hval : ∀ (j : Nat) t v, Tryz.f4.params[j]? = some t → args[j]? = some v → Value.okWide Tryz.prog W .any base t v)
  (hW : DataW.Whole enc Tryz.prog Tryz.f4.params.toList Rows.kernelNilSpec.vars false W args.toList ds gs before) (hL : laidMetH Tryz.prog Rows.kernelNilRow.laid W) :
  Calls Tryz.prog 4 args W fun e W' => ∃ v, e = .returned v ∧ Rows.kernelNilSpec.post enc Tryz.prog Tryz.f4 false true false false W args v W' := by
 have hT : TabS W := tab_laid hL
 have hW' := hW
 obtain ⟨p, q, hA0, hV, hbef, hfz, hnd⟩ := hW
 have hA : DataW.TrodAll enc Tryz.prog W 0 (fun _ => true) true Tryz.f4.params.toList args.toList ds p := hA0
 have hAk := hA
 rw [Tryz.params4] at hA hval
 obtain ⟨rfl, rfl⟩ := trodVars_none hV
 obtain ⟨v0, vs0, d0, ds0, p0, q0, hargs, rfl, hp, h0, r0⟩ := trodAll_cons hA
 obtain ⟨v1, vs1, d1, ds1, p1, q1, rfl, rfl, rfl, h1, r1⟩ := trodAll_cons r0
 obtain ⟨v2, vs2, d2, ds2, p2, q2, rfl, rfl, rfl, h2, r2⟩ := trodAll_cons r1
 obtain ⟨v3, vs3, d3, ds3, p3, q3, rfl, rfl, rfl, h3, r3⟩ := trodAll_cons r2
 obtain ⟨rfl, rfl, rfl⟩ := trodAll_nil r3
 obtain rfl : args = #[v0, v1, v2, v3] := by cases args; simp_all
 obtain ⟨fuel0, hf0⟩ := h0
 obtain ⟨z0, rfl, hz0⟩ : ∃ z, v0 = .int .i64 z ∧ -9223372036854775808 ≤ z ∧ z ≤ 9223372036854775807 := by
  obtain ⟨z, hzv⟩ := okWide_int u3 (hval 0 3 v0 rfl rfl)
  subst hzv
  obtain ⟨m, e, _, hw⟩ := DataW.trod_int u3 hf0
  cases e
  exact ⟨_, rfl, wf_bd hw⟩
 obtain ⟨fuel1, hf1⟩ := h1
 obtain ⟨z1, rfl, hz1⟩ : ∃ z, v1 = .int .i64 z ∧ -9223372036854775808 ≤ z ∧ z ≤ 9223372036854775807 := by
  obtain ⟨z, hzv⟩ := okWide_int u3 (hval 1 3 v1 rfl rfl)
  subst hzv
  obtain ⟨m, e, _, hw⟩ := DataW.trod_int u3 hf1
  cases e
  exact ⟨_, rfl, wf_bd hw⟩
 obtain ⟨fuel2, hf2⟩ := h2
 obtain ⟨z2, rfl, hz2⟩ : ∃ z, v2 = .int .u64 z ∧ 0 ≤ z ∧ z ≤ 18446744073709551615 := by
  obtain ⟨z, hzv⟩ := okWide_int u33 (hval 2 33 v2 rfl rfl)
  subst hzv
  obtain ⟨m, e, _, hw⟩ := DataW.trod_int u33 hf2
  cases e
  exact ⟨_, rfl, wf_bd hw⟩
 obtain ⟨n2, rfl⟩ : ∃ n : Nat, z2 = (n : Int) := ⟨z2.toNat, by omega⟩
 obtain ⟨s0, s1, s2, s3, s4, s5, ad, n, cap, rfl, hcap⟩ := open_stv0 (hval 3 47 v3 rfl rfl) h3
 have walk := (kernelNil_pure (c := z0) (p := z1) (now := n2) (s0 := s0) (s1 := s1) (s2 := s2) (s3 := s3) (s4 := s4) (s5 := s5) (ad := ad) zO hcap).calls hT
 refine walk.mono fun e W' ⟨he, hb⟩ => ?_
 subst he
 exact ⟨_, rfl, law_post kids full (by rw [Tryz.params4]; decide) hW' hAk rfl hbef rfl rfl rfl rfl u4 hb⟩
theorem lifted_KernelNil (os : Os) (started : os.Started) (H : Type) (enc : TypeId × Value → H) (F : Stop.Interp) :
  ReturnsInHanded {} Tryz.checked os 4 .any ((OpenSpec.ofChange Rows.kernelNilSpec).preRow enc Tryz.prog Tryz.f4 Rows.kernelNilRow.domain false Rows.kernelNilRow.laid) (((OpenSpec.ofChange Rows.kernelNilSpec).at F).post enc Tryz.prog Tryz.f4 false true false false) := by
 have hx : DataW.whole enc Tryz.prog ((laidWorld os).forCall (fun _ _ => 0) ⟨#[], #[.int .i64 0, .int .i64 0, .int .u64 0, .agg #[.int .i64 0, .int .i64 0, .int .i64 0, .int .i64 0, .int .u64 0, .int .u64 0, .slice none 0 0]], []⟩).memory Tryz.f4.params.toList Rows.kernelNilSpec.vars false (#[.int .i64 0, .int .i64 0, .int .u64 0, .agg #[.int .i64 0, .int .i64 0, .int .i64 0, .int .i64 0, .int .u64 0, .int .u64 0, .slice none 0 0]] : Array Value).toList 8 = some ([.lit (.int .i64 0), .lit (.int .i64 0), .lit (.int .u64 0), .agg [.lit (.int .i64 0), .lit (.int .i64 0), .lit (.int .i64 0), .lit (.int .i64 0), .lit (.int .u64 0), .lit (.int .u64 0), .nil]], [], []) := by kernel_rfl
 refine returnsInHanded_of_row (C := Tryz.checked) (s := OpenSpec.ofChange Rows.kernelNilSpec) own started zk Tryz.func4
  (witness_row_atRef (enc := enc) (C := Tryz.checked) false (laidWorld os) #[.int .i64 0, .int .i64 0, .int .u64 0, .agg #[.int .i64 0, .int .i64 0, .int .i64 0, .int .i64 0, .int .u64 0, .int .u64 0, .slice none 0 0]] rfl zk zk zk
   (OpenSpec.preRow_of_cond 8 hx zk (fun k hk => by cases hk) zk (laid_met os _))) ?_
 intro W base args ds gs before hval hW _ _ _ hL _ _
 exact contract_KernelNil H enc W base args ds gs before hval hW hL
theorem ip_KernelNil : (Rows.kernelNilRow.inPlace == Tryz.prog.inPlace 4) = true := by kernel_rfl
theorem uf_KernelNil : (Rows.kernelNilRow.unfollowed == Tryz.prog.unfollowed 4) = true := by kernel_rfl
theorem rc_KernelNil : (Rows.kernelNilRow.recurses == Tryz.prog.recurses 4) = true := by kernel_rfl
theorem vn_KernelNil : (Rows.kernelNilRow.named == Tryz.prog.varsNamed 4) = true := by kernel_rfl
theorem pk_KernelNil : (Rows.kernelNilRow.plainKeys == Tryz.prog.plainKeys) = true := by kernel_rfl
theorem lf_KernelNil : (Rows.kernelNilRow.lifted == Tryz.prog.liftsFinal) = true := by kernel_rfl
theorem mk_KernelNil : (Tryz.prog.make == some Rows.kernelNilRow.make) = true := by kernel_rfl
theorem wr_KernelNil : Tryz.f4.isWrapper Tryz.prog Rows.kernelNilRow.wrapper Rows.kernelNilRow.mainSum := by unfold Func.isWrapper; first | (rw [if_pos (by decide +kernel)]; kernel_rfl) | (rw [if_neg (by decide +kernel)]; exact ⟨rfl, rfl⟩)
theorem nmd_KernelNil : Tryz.prog.funcNamed Rows.kernelNilRow.func = some 4 := by kernel_rfl
theorem jf_KernelNil : joinedFacts Tryz.prog 4 Tryz.f4 Rows.kernelNilSpec Rows.kernelNilRow = true := joined_parts zk p_laid p_rowed zk zk zk p_stops zk p_knobs ip_KernelNil uf_KernelNil rc_KernelNil vn_KernelNil zk zk zk zk zk zk zk zk zk pk_KernelNil zk p_heard p_enter lf_KernelNil mk_KernelNil zk zk zk zk
theorem said_KernelNil : Rows.KernelNilSaid :=
 OpenClaim.holds_of_cond 4 Tryz.f4 rfl rfl rfl rfl rfl rfl rfl ⟨rfl, rfl, rfl, rfl, rfl⟩ rfl rfl rfl rfl rfl nmd_KernelNil Tryz.func4 jf_KernelNil
  (of_decide_eq_true zk) wr_KernelNil
  (fun os started H enc _ F => by rw [OpenClaim.pre_eq_preRow]; exact lifted_KernelNil os started H enc F)
def lookZz (P : Program) (g : FuncId) : Bool := !([] : List FuncId).contains g && (P.funcs[g]?).any fun fn => match fn.body with | some c => c.looks P | none => false
theorem looks_is (P : Program) : P.looks [] = (List.range P.funcs.size).any (lookZz P) := rfl
theorem q_size : (List.range Tryz.prog.funcs.size).length ≤ 60 * 11 := by rw [List.length_range]; decide +kernel
theorem q_k0 : (((List.range Tryz.prog.funcs.size).drop (60 * 0)).take 60).any (lookZz Tryz.prog) = false := by kernel_rfl
theorem q_k1 : (((List.range Tryz.prog.funcs.size).drop (60 * 1)).take 60).any (lookZz Tryz.prog) = false := by kernel_rfl
theorem q_k2 : (((List.range Tryz.prog.funcs.size).drop (60 * 2)).take 60).any (lookZz Tryz.prog) = false := by kernel_rfl
theorem q_k3 : (((List.range Tryz.prog.funcs.size).drop (60 * 3)).take 60).any (lookZz Tryz.prog) = false := by kernel_rfl
theorem q_k4 : (((List.range Tryz.prog.funcs.size).drop (60 * 4)).take 60).any (lookZz Tryz.prog) = false := by kernel_rfl
theorem q_k5 : (((List.range Tryz.prog.funcs.size).drop (60 * 5)).take 60).any (lookZz Tryz.prog) = false := by kernel_rfl
theorem q_k6 : (((List.range Tryz.prog.funcs.size).drop (60 * 6)).take 60).any (lookZz Tryz.prog) = false := by kernel_rfl
theorem q_k7 : (((List.range Tryz.prog.funcs.size).drop (60 * 7)).take 60).any (lookZz Tryz.prog) = false := by kernel_rfl
theorem q_k8 : (((List.range Tryz.prog.funcs.size).drop (60 * 8)).take 60).any (lookZz Tryz.prog) = false := by kernel_rfl
theorem q_k9 : (((List.range Tryz.prog.funcs.size).drop (60 * 9)).take 60).any (lookZz Tryz.prog) = false := by kernel_rfl
theorem q_k10 : (((List.range Tryz.prog.funcs.size).drop (60 * 10)).take 60).any (lookZz Tryz.prog) = false := by kernel_rfl
theorem q_looks : false = Tryz.prog.looks [] := by
 rw [looks_is]
 refine (any_chunks zd q_size fun j hj => ?_).symm
 match j, hj with
 | 0, _ => exact q_k0
 | 1, _ => exact q_k1
 | 2, _ => exact q_k2
 | 3, _ => exact q_k3
 | 4, _ => exact q_k4
 | 5, _ => exact q_k5
 | 6, _ => exact q_k6
 | 7, _ => exact q_k7
 | 8, _ => exact q_k8
 | 9, _ => exact q_k9
 | 10, _ => exact q_k10
 | n + 11, h => exact absurd h zO
theorem q_w3 : Tryz.prog.wantsStandIn 3 = false := by kernel_rfl
theorem q_w33 : Tryz.prog.wantsStandIn 33 = false := by kernel_rfl
theorem q_w47 : Tryz.prog.wantsStandIn 47 = false := by kernel_rfl
theorem plain_KernelNil (f : FuncId) (fn : Func) (hf : Tryz.pinned.checked.prog.funcNamed "detent/detentlaw31.KernelNil" = some f) (hfn : Tryz.pinned.checked.prog.funcs[f]? = some fn) :
  false = Tryz.pinned.checked.prog.looks [] ∧ ∀ (j : Nat) t, fn.params[j]? = some t → Tryz.pinned.checked.prog.wantsStandIn t = false := by
 obtain rfl : f = 4 := Option.some.inj ((show Tryz.prog.funcNamed "detent/detentlaw31.KernelNil" = some 4 from nmd_KernelNil).symm.trans hf) |>.symm
 obtain rfl : fn = Tryz.f4 := (Option.some.inj (Tryz.func4.symm.trans hfn)).symm
 refine ⟨q_looks, fun j t ht => ?_⟩
 rw [Tryz.params4] at ht
 have hm := Array.mem_of_getElem? ht
 have hall : ∀ t ∈ (#[3, 3, 33, 47] : Array TypeId), Tryz.prog.wantsStandIn t = false := by
  intro t ht
  simp only [List.mem_toArray, List.mem_cons, List.not_mem_nil, or_false] at ht
  rcases ht with rfl | rfl | rfl | rfl
  ·exact q_w3
  ·exact q_w3
  ·exact q_w33
  ·exact q_w47
 exact hall t hm
theorem kernelNil_card : Rows.KernelNilCardSaid :=
 Claim7.holds_tied_plain_at .later [] _ _ _ _ said_KernelNil (fun _ h => by cases h) zk (fun _ h => by cases h) kernelNil_row_tie rfl ⟨rfl, rfl⟩ zk rfl plain_KernelNil (goes_none p_goes rfl)
end Go.Proofs.YtcggkokeggfdkaaGreatDoor
