/-
  Own work: contracts of functions that the statement reaches, and plain facts on what they compute; each theorem says its conditions.
-/
import Derived.Test.YtpfoecmianohjaaDoorA7
set_option linter.all false
set_option linter.unusedSimpArgs false
set_option linter.unusedVariables false
namespace Go.Proofs.YtpfoecmianohjaaDoor
open Go Go.Sl
attribute [local irreducible] W

def doV (op a b : Int) : Int := if cls op = 1 then doS (plainOf op) a b else 0
def doE (op : Int) : Int := if cls op = 1 then 0 else 11
def jmpV (op a b : Int) : Bool := if cls op = 2 then jumpS (plainOf op) a b else false
def jmpE (op : Int) : Int := if cls op = 2 then 0 else 11
abbrev I64 (m : Int) : Prop := -9223372036854775808 ≤ m ∧ m ≤ 9223372036854775807
theorem doR_at (op a b : Int) : doR op a b = .tuple #[.int .u64 (doV op a b), .int .i64 (doE op)] := by
  unfold doR doV doE U; split <;> rfl
theorem jumpR_at (op a b : Int) : jumpR op a b = .tuple #[.bool (jmpV op a b), .int .i64 (jmpE op)] := by
  unfold jumpR jmpV jmpE; split <;> rfl
theorem do_p {op a b : Int} (h : I64 op) (hb : 0 ≤ b) : Pure Tryd.prog Tab 14 [.int .i64 op, .int .u64 a, .int .u64 b] (.tuple #[.int .u64 (doV op a b), .int .i64 (doE op)]) :=
  doR_at op a b ▸ do_pure op a b h.1 h.2 hb
theorem refdo_p {op a b : Int} (ha : Wd a) (hb : Wd b) : Pure Tryd.prog Tab 15 [.int .i64 op, .int .u64 a, .int .u64 b] (.tuple #[.int .u64 (doV op a b), .int .i64 (doE op)]) :=
  (doR_at op a b).symm.trans (doR_eq ha hb) ▸ refDo_pure op a b ha.1 ha.2 hb.1 hb.2
theorem jump_p {op a b : Int} (h : I64 op) (hb : 0 ≤ b) : Pure Tryd.prog Tab 17 [.int .i64 op, .int .u64 a, .int .u64 b] (.tuple #[.bool (jmpV op a b), .int .i64 (jmpE op)]) :=
  jumpR_at op a b ▸ jumps_pure op a b h.1 h.2 hb
theorem refjump_p {op a b : Int} (ha : Wd a) (hb : Wd b) : Pure Tryd.prog Tab 18 [.int .i64 op, .int .u64 a, .int .u64 b] (.tuple #[.bool (jmpV op a b), .int .i64 (jmpE op)]) :=
  (jumpR_at op a b).symm.trans (jumpR_eq ha hb) ▸ refJumps_pure op a b ha.1 ha.2 hb.1 hb.2
theorem do_k {op : Int} (p : Int) (h : I64 op) (h1 : cls op = 1) (hp : plainOf op = p) {a b : Int} (hb : 0 ≤ b) : Pure Tryd.prog Tab 14 [.int .i64 op, .int .u64 a, .int .u64 b] (.tuple #[.int .u64 (doS p a b), .int .i64 0]) := by
  have e1 : doV op a b = doS p a b := by unfold doV; rw [if_pos h1, hp]
  have e2 : doE op = 0 := if_pos h1
  rw [← e1, ← e2]; exact do_p h hb
theorem jump_k {op : Int} (p : Int) (h : I64 op) (h1 : cls op = 2) (hp : plainOf op = p) {a b : Int} (hb : 0 ≤ b) : Pure Tryd.prog Tab 17 [.int .i64 op, .int .u64 a, .int .u64 b] (.tuple #[.bool (jumpS p a b), .int .i64 0]) := by
  have e1 : jmpV op a b = jumpS p a b := by unfold jmpV; rw [if_pos h1, hp]
  have e2 : jmpE op = 0 := if_pos h1
  rw [← e1, ← e2]; exact jump_p h hb
theorem doS_wd {p a b : Int} (hp : 0 ≤ p ∧ p ≤ 12) (ha : Wd a) (hb : Wd b) : Wd (doS p a b) := by
  rw [do_eq hp ha hb]
  unfold refDoS
  repeat' split
  all_goals first | exact wd_w _ | exact ha | exact hb | skip
  · exact ⟨by omega, by omega⟩
  · exact ⟨Int.ediv_nonneg ha.1 hb.1, Int.le_trans (Int.ediv_le_self _ ha.1) ha.2⟩
  · have := bitsN_bd 0 64 a b; exact ⟨by omega, by omega⟩
  · have := bitsN_bd 1 64 a b; exact ⟨by omega, by omega⟩
  · have := bitsN_bd 2 64 a b; exact ⟨by omega, by omega⟩
  · exact shiftN_bd _ _ ha _
set_option maxHeartbeats 1000000 in
theorem known_pure  : Pure Tryd.prog Tab 16 [] (.bool true) := by
  intro w0 H hT
  refine L_enter Tryd.func16 rfl Tryd.ntmps16 rfl rfl ?_
  refine W_sr ?_
  refine W_assign rfl rfl ?_
  refine W_nil ?_
  refine W_sr ?_
  refine W_assign rfl rfl ?_
  refine W_nil ?_
  refine W_sr ?_
  refine W_callp (.cons rfl (.cons rfl (.cons rfl .nil))) Tryd.call14 rfl hT (do_k 3 (by decide) (by decide) (by decide +kernel) (by decide)) ?_
  refine W_move rfl rfl ?_
  refine W_extract rfl rfl rfl ?_
  refine W_extract rfl rfl rfl ?_
  refine W_assign rfl rfl ?_
  refine W_assign rfl rfl ?_
  refine W_nil ?_
  refine W_sr ?_
  refine W_callp (.cons rfl (.cons rfl (.cons rfl .nil))) Tryd.call14 rfl hT (do_k 4 (by decide) (by decide) (by decide +kernel) (by decide)) ?_
  refine W_move rfl rfl ?_
  refine W_extract rfl rfl rfl ?_
  refine W_extract rfl rfl rfl ?_
  refine W_assign rfl rfl ?_
  refine W_assign rfl rfl ?_
  refine W_nil ?_
  refine W_sr ?_
  refine W_callp (.cons rfl (.cons rfl (.cons rfl .nil))) Tryd.call14 rfl hT (do_k 10 (by decide) (by decide) (by decide +kernel) (by decide)) ?_
  refine W_move rfl rfl ?_
  refine W_extract rfl rfl rfl ?_
  refine W_extract rfl rfl rfl ?_
  refine W_assign rfl rfl ?_
  refine W_assign rfl rfl ?_
  refine W_nil ?_
  refine W_sr ?_
  refine W_callp (.cons rfl (.cons rfl (.cons rfl .nil))) Tryd.call14 rfl hT (do_k 8 (by decide) (by decide) (by decide +kernel) (by decide)) ?_
  refine W_move rfl rfl ?_
  refine W_extract rfl rfl rfl ?_
  refine W_extract rfl rfl rfl ?_
  refine W_assign rfl rfl ?_
  refine W_assign rfl rfl ?_
  refine W_nil ?_
  refine W_sr ?_
  refine W_move rfl rfl ?_
  refine W_callp (.cons rfl (.cons rfl (.cons rfl .nil))) Tryd.call17 rfl hT (jump_k 40 (by decide) (by decide) (by decide +kernel) (by decide)) ?_
  refine W_move rfl rfl ?_
  refine W_extract rfl rfl rfl ?_
  refine W_extract rfl rfl rfl ?_
  refine W_assign rfl rfl ?_
  refine W_assign rfl rfl ?_
  refine W_nil ?_
  refine W_sr ?_
  refine W_move rfl rfl ?_
  refine W_callp (.cons rfl (.cons rfl (.cons rfl .nil))) Tryd.call17 rfl hT (jump_k 35 (by decide) (by decide) (by decide +kernel) (by decide)) ?_
  refine W_move rfl rfl ?_
  refine W_extract rfl rfl rfl ?_
  refine W_extract rfl rfl rfl ?_
  refine W_assign rfl rfl ?_
  refine W_assign rfl rfl ?_
  refine W_nil ?_
  refine W_sr ?_
  refine W_move rfl rfl ?_
  refine W_bin rfl rfl b_eql rfl ?_
  refine W_move rfl rfl ?_
  apply W_and
  iterate 4 exact rfl
  case h1 =>
    intro hg2
    refine W_gyes rfl rfl ?_
    refine W_move rfl rfl ?_
    refine W_gyes rfl rfl ?_
    refine W_bin rfl rfl b_eql rfl ?_
    exact W_met rfl (by repeat (first | exact .refl | refine .cons rfl ?_))
  refine W_move rfl rfl ?_
  apply W_and
  iterate 4 exact rfl
  case h1 =>
    intro hg6
    refine W_gyes rfl rfl ?_
    refine W_move rfl rfl ?_
    refine W_gyes rfl rfl ?_
    refine W_bin rfl rfl b_eql rfl ?_
    exact W_met rfl (by repeat (first | exact .refl | refine .cons rfl ?_))
  refine W_move rfl rfl ?_
  apply W_and
  iterate 4 exact rfl
  case h1 =>
    intro hg10
    refine W_gyes rfl rfl ?_
    refine W_move rfl rfl ?_
    refine W_gyes rfl rfl ?_
    refine W_bin rfl rfl b_eql rfl ?_
    exact W_met rfl (by repeat (first | exact .refl | refine .cons rfl ?_))
  refine W_move rfl rfl ?_
  apply W_and
  iterate 4 exact rfl
  case h1 =>
    intro hg14
    refine W_gyes rfl rfl ?_
    refine W_move rfl rfl ?_
    refine W_gyes rfl rfl ?_
    refine W_move rfl rfl ?_
    refine W_gyes rfl rfl ?_
    refine W_bin rfl rfl b_eql rfl ?_
    exact W_met rfl (by repeat (first | exact .refl | refine .cons rfl ?_))
  refine W_move rfl rfl ?_
  apply W_and
  iterate 4 exact rfl
  case h1 =>
    intro hg19
    refine W_gyes rfl rfl ?_
    refine W_move rfl rfl ?_
    refine W_gyes rfl rfl ?_
    refine W_bin rfl rfl b_eql rfl ?_
    exact W_met rfl (by repeat (first | exact .refl | refine .cons rfl ?_))
  refine W_move rfl rfl ?_
  apply W_and
  iterate 4 exact rfl
  case h1 =>
    intro hg23
    refine W_gyes rfl rfl ?_
    refine W_move rfl rfl ?_
    exact W_met rfl (by repeat (first | exact .refl | refine .cons rfl ?_))
  refine W_move rfl rfl ?_
  apply W_and
  iterate 4 exact rfl
  case h1 =>
    intro hg26
    refine W_gyes rfl rfl ?_
    refine W_move rfl rfl ?_
    refine W_gyes rfl rfl ?_
    refine W_not rfl rfl ?_
    exact W_met rfl (by repeat (first | exact .refl | refine .cons rfl ?_))
  refine W_assign rfl rfl ?_
  refine W_nil ?_
  refine W_ret1m Tryd.results16 rfl (.nil _) (.refl _) ?_
  exact ⟨by simp only [show doS 3 7 0 = 0 by decide, show doS 4 7 0 = 7 by decide, show doS 10 9223372036854775808 63 = 18446744073709551615 by decide +kernel, show doS 8 1 65 = 2 by decide +kernel, show jumpS 40 0 18446744073709551615 = true by decide +kernel, show jumpS 35 0 18446744073709551615 = false by decide +kernel]; rfl, rfl⟩
set_option maxHeartbeats 1000000 in
theorem aluSums_pure {op a b : Int} (hop : I64 op) (ha : Wd a) (hb : Wd b) : Pure Tryd.prog Tab 3 [.int .i64 op, .int .u64 a, .int .u64 b] (.bool true) := by
  intro w0 H hT
  refine L_enter Tryd.func3 rfl Tryd.ntmps3 rfl rfl ?_
  refine W_sr ?_
  refine W_assign rfl rfl ?_
  refine W_nil ?_
  refine W_seq ?_
  refine W_sr ?_
  refine W_assign rfl rfl ?_
  refine W_nil ?_
  refine W_block ?_
  refine W_loop (X := Nat) (fun i => [(0, .int .i64 op), (1, .int .u64 a), (2, .int .u64 b), (6, .bool false), (7, .int .i64 (i : Int))]) (fun _ => H) (fun i => i ≤ 30) (fun i => 30 - i) 0 (by decide) (sub_cons rfl (sub_cons rfl (sub_cons rfl (sub_cons rfl (sub_cons rfl (sub_nil _)))))) rfl ?_
  intro i hi
  refine W_seq ?_
  refine W_sr ?_
  refine W_move rfl rfl ?_
  refine W_bin rfl rfl b_lss rfl ?_
  refine W_nil ?_
  refine W_condS rfl (fun c0 => ?_) (fun c0 => ?_)
  · simp only [cond_true, cond_false, Bool.and_eq_true, Bool.or_eq_true, Bool.and_eq_false_iff, Bool.or_eq_false_iff, decide_eq_true_eq, decide_eq_false_iff_not, Bool.not_eq_true', Bool.not_eq_false', ne_eq, Decidable.not_not] at c0
    refine W_skip ?_
    refine W_seq ?_
    refine W_block ?_
    refine W_sr ?_
    refine W_move rfl rfl ?_
    refine W_move rfl rfl ?_
    refine W_move rfl rfl ?_
    refine W_callp (.cons rfl (.cons rfl (.cons rfl .nil))) Tryd.call14 rfl hT (do_p ⟨by omega, by omega⟩ hb.1) ?_
    refine W_move rfl rfl ?_
    refine W_extract rfl rfl rfl ?_
    refine W_extract rfl rfl rfl ?_
    refine W_assign rfl rfl ?_
    refine W_assign rfl rfl ?_
    refine W_nil ?_
    refine W_sr ?_
    refine W_move rfl rfl ?_
    refine W_move rfl rfl ?_
    refine W_move rfl rfl ?_
    refine W_callp (.cons rfl (.cons rfl (.cons rfl .nil))) Tryd.call15 rfl hT (refdo_p ha hb) ?_
    refine W_move rfl rfl ?_
    refine W_extract rfl rfl rfl ?_
    refine W_extract rfl rfl rfl ?_
    refine W_assign rfl rfl ?_
    refine W_assign rfl rfl ?_
    refine W_nil ?_
    refine W_sr ?_
    refine W_move rfl rfl ?_
    refine W_move rfl rfl ?_
    refine W_bin rfl rfl b_neq rfl ?_
    refine W_move rfl rfl ?_
    apply W_or
    iterate 4 exact rfl
    case h1 =>
      intro hg3
      refine W_gyes rfl rfl ?_
      refine W_move rfl rfl ?_
      refine W_gyes rfl rfl ?_
      refine W_move rfl rfl ?_
      refine W_gyes rfl rfl ?_
      refine W_bin rfl rfl b_neq rfl ?_
      exact W_met rfl (by repeat (first | exact .refl | refine .cons rfl ?_))
    refine W_nil ?_
    refine W_condF rfl (by simp) ?_
    refine W_skip ?_
    refine W_blk ?_
    refine W_region ?_
    refine W_move rfl rfl ?_
    refine W_bin rfl rfl (b_add (m := ((i + 1 : Nat) : Int)) ((i64w (by omega)).trans (by omega))) rfl ?_
    refine W_assign rfl rfl ?_
    refine W_nil ?_
    exact W_goal fun _ w' ha' hd' hs' => ⟨i + 1, by omega, by omega, ha'.weaken (look_of_sub (sub_cons rfl (sub_cons rfl (sub_cons rfl (sub_cons rfl (sub_cons rfl (sub_nil _))))))), hd', hs'⟩
  · simp only [cond_true, cond_false, Bool.and_eq_true, Bool.or_eq_true, Bool.and_eq_false_iff, Bool.or_eq_false_iff, decide_eq_true_eq, decide_eq_false_iff_not, Bool.not_eq_true', Bool.not_eq_false', ne_eq, Decidable.not_not] at c0
    refine W_exit rfl ?_
    refine W_sr ?_
    refine W_move rfl rfl ?_
    refine W_move rfl rfl ?_
    refine W_move rfl rfl ?_
    refine W_callp (.cons rfl (.cons rfl (.cons rfl .nil))) Tryd.call14 rfl hT (do_p hop hb.1) ?_
    refine W_move rfl rfl ?_
    refine W_extract rfl rfl rfl ?_
    refine W_extract rfl rfl rfl ?_
    refine W_assign rfl rfl ?_
    refine W_assign rfl rfl ?_
    refine W_nil ?_
    refine W_sr ?_
    refine W_move rfl rfl ?_
    refine W_move rfl rfl ?_
    refine W_move rfl rfl ?_
    refine W_callp (.cons rfl (.cons rfl (.cons rfl .nil))) Tryd.call15 rfl hT (refdo_p ha hb) ?_
    refine W_move rfl rfl ?_
    refine W_extract rfl rfl rfl ?_
    refine W_extract rfl rfl rfl ?_
    refine W_assign rfl rfl ?_
    refine W_assign rfl rfl ?_
    refine W_nil ?_
    refine W_sr ?_
    refine W_callp .nil Tryd.call16 rfl hT (known_pure) ?_
    refine W_move rfl rfl ?_
    apply W_and
    iterate 4 exact rfl
    case h1 =>
      intro hg1
      refine W_gyes rfl rfl ?_
      refine W_move rfl rfl ?_
      refine W_gyes rfl rfl ?_
      refine W_move rfl rfl ?_
      refine W_gyes rfl rfl ?_
      refine W_bin rfl rfl b_eql rfl ?_
      exact W_met rfl (by repeat (first | exact .refl | refine .cons rfl ?_))
    refine W_move rfl rfl ?_
    apply W_and
    iterate 4 exact rfl
    case h1 =>
      intro hg6
      refine W_gyes rfl rfl ?_
      refine W_move rfl rfl ?_
      refine W_gyes rfl rfl ?_
      refine W_move rfl rfl ?_
      refine W_gyes rfl rfl ?_
      refine W_bin rfl rfl b_eql rfl ?_
      exact W_met rfl (by repeat (first | exact .refl | refine .cons rfl ?_))
    refine W_assign rfl rfl ?_
    refine W_nil ?_
    refine W_ret1m Tryd.results3 rfl (.nil _) (.refl _) ?_
    exact ⟨by simp, rfl⟩
set_option maxHeartbeats 1000000 in
theorem aluJumps_pure {op a b : Int} (hop : I64 op) (ha : Wd a) (hb : Wd b) : Pure Tryd.prog Tab 4 [.int .i64 op, .int .u64 a, .int .u64 b] (.bool true) := by
  intro w0 H hT
  refine L_enter Tryd.func4 rfl Tryd.ntmps4 rfl rfl ?_
  refine W_sr ?_
  refine W_assign rfl rfl ?_
  refine W_nil ?_
  refine W_seq ?_
  refine W_sr ?_
  refine W_assign rfl rfl ?_
  refine W_nil ?_
  refine W_block ?_
  refine W_loop (X := Nat) (fun i => [(0, .int .i64 op), (1, .int .u64 a), (2, .int .u64 b), (6, .bool false), (7, .int .i64 (i : Int))]) (fun _ => H) (fun i => i ≤ 60) (fun i => 60 - i) 30 (by decide) (sub_cons rfl (sub_cons rfl (sub_cons rfl (sub_cons rfl (sub_cons rfl (sub_nil _)))))) rfl ?_
  intro i hi
  refine W_seq ?_
  refine W_sr ?_
  refine W_move rfl rfl ?_
  refine W_bin rfl rfl b_lss rfl ?_
  refine W_nil ?_
  refine W_condS rfl (fun c0 => ?_) (fun c0 => ?_)
  · simp only [cond_true, cond_false, Bool.and_eq_true, Bool.or_eq_true, Bool.and_eq_false_iff, Bool.or_eq_false_iff, decide_eq_true_eq, decide_eq_false_iff_not, Bool.not_eq_true', Bool.not_eq_false', ne_eq, Decidable.not_not] at c0
    refine W_skip ?_
    refine W_seq ?_
    refine W_block ?_
    refine W_sr ?_
    refine W_move rfl rfl ?_
    refine W_move rfl rfl ?_
    refine W_move rfl rfl ?_
    refine W_callp (.cons rfl (.cons rfl (.cons rfl .nil))) Tryd.call17 rfl hT (jump_p ⟨by omega, by omega⟩ hb.1) ?_
    refine W_move rfl rfl ?_
    refine W_extract rfl rfl rfl ?_
    refine W_extract rfl rfl rfl ?_
    refine W_assign rfl rfl ?_
    refine W_assign rfl rfl ?_
    refine W_nil ?_
    refine W_sr ?_
    refine W_move rfl rfl ?_
    refine W_move rfl rfl ?_
    refine W_move rfl rfl ?_
    refine W_callp (.cons rfl (.cons rfl (.cons rfl .nil))) Tryd.call18 rfl hT (refjump_p ha hb) ?_
    refine W_move rfl rfl ?_
    refine W_extract rfl rfl rfl ?_
    refine W_extract rfl rfl rfl ?_
    refine W_assign rfl rfl ?_
    refine W_assign rfl rfl ?_
    refine W_nil ?_
    refine W_sr ?_
    refine W_move rfl rfl ?_
    refine W_move rfl rfl ?_
    refine W_bne rfl rfl ty4 rfl ?_
    refine W_move rfl rfl ?_
    apply W_or
    iterate 4 exact rfl
    case h1 =>
      intro hg3
      refine W_gyes rfl rfl ?_
      refine W_move rfl rfl ?_
      refine W_gyes rfl rfl ?_
      refine W_move rfl rfl ?_
      refine W_gyes rfl rfl ?_
      refine W_bin rfl rfl b_neq rfl ?_
      exact W_met rfl (by repeat (first | exact .refl | refine .cons rfl ?_))
    refine W_nil ?_
    refine W_condF rfl (by simp) ?_
    refine W_skip ?_
    refine W_blk ?_
    refine W_region ?_
    refine W_move rfl rfl ?_
    refine W_bin rfl rfl (b_add (m := ((i + 1 : Nat) : Int)) ((i64w (by omega)).trans (by omega))) rfl ?_
    refine W_assign rfl rfl ?_
    refine W_nil ?_
    exact W_goal fun _ w' ha' hd' hs' => ⟨i + 1, by omega, by omega, ha'.weaken (look_of_sub (sub_cons rfl (sub_cons rfl (sub_cons rfl (sub_cons rfl (sub_cons rfl (sub_nil _))))))), hd', hs'⟩
  · simp only [cond_true, cond_false, Bool.and_eq_true, Bool.or_eq_true, Bool.and_eq_false_iff, Bool.or_eq_false_iff, decide_eq_true_eq, decide_eq_false_iff_not, Bool.not_eq_true', Bool.not_eq_false', ne_eq, Decidable.not_not] at c0
    refine W_exit rfl ?_
    refine W_sr ?_
    refine W_move rfl rfl ?_
    refine W_move rfl rfl ?_
    refine W_move rfl rfl ?_
    refine W_callp (.cons rfl (.cons rfl (.cons rfl .nil))) Tryd.call17 rfl hT (jump_p hop hb.1) ?_
    refine W_move rfl rfl ?_
    refine W_extract rfl rfl rfl ?_
    refine W_extract rfl rfl rfl ?_
    refine W_assign rfl rfl ?_
    refine W_assign rfl rfl ?_
    refine W_nil ?_
    refine W_sr ?_
    refine W_move rfl rfl ?_
    refine W_move rfl rfl ?_
    refine W_move rfl rfl ?_
    refine W_callp (.cons rfl (.cons rfl (.cons rfl .nil))) Tryd.call18 rfl hT (refjump_p ha hb) ?_
    refine W_move rfl rfl ?_
    refine W_extract rfl rfl rfl ?_
    refine W_extract rfl rfl rfl ?_
    refine W_assign rfl rfl ?_
    refine W_assign rfl rfl ?_
    refine W_nil ?_
    refine W_sr ?_
    refine W_callp .nil Tryd.call16 rfl hT (known_pure) ?_
    refine W_move rfl rfl ?_
    apply W_and
    iterate 4 exact rfl
    case h1 =>
      intro hg1
      refine W_gyes rfl rfl ?_
      refine W_move rfl rfl ?_
      refine W_gyes rfl rfl ?_
      refine W_move rfl rfl ?_
      refine W_gyes rfl rfl ?_
      refine W_beq rfl rfl ty4 rfl ?_
      exact W_met rfl (by repeat (first | exact .refl | refine .cons rfl ?_))
    refine W_move rfl rfl ?_
    apply W_and
    iterate 4 exact rfl
    case h1 =>
      intro hg6
      refine W_gyes rfl rfl ?_
      refine W_move rfl rfl ?_
      refine W_gyes rfl rfl ?_
      refine W_move rfl rfl ?_
      refine W_gyes rfl rfl ?_
      refine W_bin rfl rfl b_eql rfl ?_
      exact W_met rfl (by repeat (first | exact .refl | refine .cons rfl ?_))
    refine W_assign rfl rfl ?_
    refine W_nil ?_
    refine W_ret1m Tryd.results4 rfl (.nil _) (.refl _) ?_
    exact ⟨by simp, rfl⟩

theorem doS0 (a b : Int) : doS 0 a b = IntKind.u64.wrap (a + b) := rfl
theorem doS1 (a b : Int) : doS 1 a b = IntKind.u64.wrap (a - b) := rfl
theorem doS2 (a b : Int) : doS 2 a b = IntKind.u64.wrap (a * b) := rfl
theorem doS3 (a b : Int) : doS 3 a b = if b = 0 then 0 else IntKind.u64.wrap (a.tdiv b) := rfl
theorem doS4 (a b : Int) : doS 4 a b = if b = 0 then a else a.tmod b := rfl
theorem doS12 (a b : Int) : doS 12 a b = IntKind.u64.wrap (0 - a) := rfl
theorem div_plain {a b : Int} (ha : Wd a) (hb : Wd b) : doS 0 (doS 2 (doS 3 a b) b) (doS 4 a b) = a ∧ (b = 0 ∨ doS 4 a b < b) := by
  have hr0 := doS_wd (p := 4) (by omega) ha hb
  rw [doS0, doS2]
  by_cases h : b = 0
  · subst h
    rw [doS3, doS4, if_pos rfl, if_pos rfl]
    rw [show IntKind.u64.wrap (0 * 0) = 0 from rfl, Int.zero_add]
    exact ⟨u64w ha, .inl rfl⟩
  · have hb1 : 0 < b := by have := hb.1; omega
    rw [doS3, doS4, if_neg h, if_neg h]
    rw [IntWalk.u64_quo a b ⟨ha.1, ha.2, by omega⟩, Int.tmod_eq_emod_of_nonneg ha.1]
    have e := Int.mul_ediv_add_emod a b
    have r0 := Int.emod_nonneg a (show b ≠ 0 from h)
    have r1 := Int.emod_lt_of_pos a hb1
    have q0 := Int.ediv_nonneg ha.1 hb.1
    have m0 : 0 ≤ a / b * b := Int.mul_nonneg q0 hb.1
    rw [Int.mul_comm] at e
    have := ha.2; have := ha.1
    rw [u64w (m := a / b * b) ⟨m0, by omega⟩, e]
    exact ⟨u64w ha, .inr r1⟩
theorem opp_plain {a b : Int} (ha : Wd a) (hb : Wd b) : jumpS 33 a b ≠ jumpS 34 a b ∧ jumpS 35 a b ≠ jumpS 38 a b ∧ jumpS 37 a b ≠ jumpS 36 a b ∧ ¬ (jumpS 40 a b = true ∧ jumpS 41 a b = true) ∧
    (jumpS 40 a b || jumpS 41 a b) = jumpS 34 a b ∧ (jumpS 35 a b || jumpS 37 a b) = jumpS 34 a b := by
  have := ha.1; have := ha.2; have := hb.1; have := hb.2
  simp only [jumpS]
  simp only [show ((34:Int) = 33) = False by simp, show ((35:Int) = 33) = False by simp, show ((36:Int) = 33) = False by simp, show ((37:Int) = 33) = False by simp, show ((38:Int) = 33) = False by simp, show ((40:Int) = 33) = False by simp, show ((41:Int) = 33) = False by simp,
    show ((35:Int) = 34) = False by simp, show ((36:Int) = 34) = False by simp, show ((37:Int) = 34) = False by simp, show ((38:Int) = 34) = False by simp, show ((40:Int) = 34) = False by simp, show ((41:Int) = 34) = False by simp,
    show ((36:Int) = 35) = False by simp, show ((37:Int) = 35) = False by simp, show ((38:Int) = 35) = False by simp, show ((40:Int) = 35) = False by simp, show ((41:Int) = 35) = False by simp,
    show ((37:Int) = 36) = False by simp, show ((38:Int) = 36) = False by simp, show ((40:Int) = 36) = False by simp, show ((41:Int) = 36) = False by simp,
    show ((38:Int) = 37) = False by simp, show ((40:Int) = 37) = False by simp, show ((41:Int) = 37) = False by simp, show ((40:Int) = 38) = False by simp, show ((41:Int) = 38) = False by simp,
    show ((40:Int) = 39) = False by simp, show ((41:Int) = 39) = False by simp, show ((41:Int) = 40) = False by simp, if_true, if_false]
  rw [iw, iw]
  have e : (decide ((b + 9223372036854775808) % 18446744073709551616 - 9223372036854775808 < (a + 9223372036854775808) % 18446744073709551616 - 9223372036854775808) || decide ((a + 9223372036854775808) % 18446744073709551616 - 9223372036854775808 < (b + 9223372036854775808) % 18446744073709551616 - 9223372036854775808)) = decide (a ≠ b) := by
    by_cases h : a = b
    · subst h; simp
    · rw [decide_eq_true h, Bool.or_eq_true, decide_eq_true_eq, decide_eq_true_eq]; omega
  refine ⟨?_, ?_, ?_, ?_, e, ?_⟩
  · by_cases h : a = b <;> simp [h]
  · by_cases h : b < a
    · have : ¬ a ≤ b := by omega
      simp [h, this]
    · have : a ≤ b := by omega
      simp [h, this]
  · by_cases h : a < b
    · have : ¬ b ≤ a := by omega
      simp [h, this]
    · have : b ≤ a := by omega
      simp [h, this]
  · simp only [decide_eq_true_eq]; omega
  · by_cases h : a = b
    · subst h; simp
    · rw [decide_eq_true h, Bool.or_eq_true, decide_eq_true_eq, decide_eq_true_eq]; omega
theorem words_plain {i x : Int} (hi : I64 i) (hx : Wd x) : doS 0 (IntKind.u64.wrap i) (doS 12 (IntKind.u64.wrap i) x) = 0 ∧ doS 1 (IntKind.u64.wrap (x + IntKind.u64.wrap i)) (IntKind.u64.wrap i) = x ∧
    jumpS 41 (IntKind.u64.wrap i) 0 = decide (i < 0) ∧ (i < 0 ∨ IntKind.u64.wrap i ≤ 9223372036854775807) := by
  have := hx.1; have := hx.2; have := hi.1; have := hi.2
  have ej : jumpS 41 (IntKind.u64.wrap i) 0 = decide (IntKind.i64.wrap (IntKind.u64.wrap i) < IntKind.i64.wrap 0) := rfl
  rw [doS0, doS12, doS1, ej]
  simp only [uw, iw]
  refine ⟨by omega, by omega, ?_, by omega⟩
  by_cases h : i < 0
  · rw [decide_eq_true h, decide_eq_true_eq]; omega
  · rw [decide_eq_false h, decide_eq_false_iff_not]; omega
set_option maxHeartbeats 1000000 in
theorem aluDivides_pure {a b : Int} (ha : Wd a) (hb : Wd b) : Pure Tryd.prog Tab 5 [.int .u64 a, .int .u64 b] (.bool true) := by
  intro w0 H hT
  refine L_enter Tryd.func5 rfl Tryd.ntmps5 rfl rfl ?_
  refine W_sr ?_
  refine W_assign rfl rfl ?_
  refine W_nil ?_
  refine W_sr ?_
  refine W_move rfl rfl ?_
  refine W_move rfl rfl ?_
  refine W_callp (.cons rfl (.cons rfl (.cons rfl .nil))) Tryd.call14 rfl hT (do_k 3 (by decide) (by decide) (by decide +kernel) hb.1) ?_
  refine W_move rfl rfl ?_
  refine W_extract rfl rfl rfl ?_
  refine W_extract rfl rfl rfl ?_
  refine W_assign rfl rfl ?_
  refine W_assign rfl rfl ?_
  refine W_nil ?_
  refine W_sr ?_
  refine W_move rfl rfl ?_
  refine W_move rfl rfl ?_
  refine W_callp (.cons rfl (.cons rfl (.cons rfl .nil))) Tryd.call14 rfl hT (do_k 4 (by decide) (by decide) (by decide +kernel) hb.1) ?_
  refine W_move rfl rfl ?_
  refine W_extract rfl rfl rfl ?_
  refine W_extract rfl rfl rfl ?_
  refine W_assign rfl rfl ?_
  refine W_assign rfl rfl ?_
  refine W_nil ?_
  refine W_sr ?_
  refine W_move rfl rfl ?_
  refine W_move rfl rfl ?_
  refine W_callp (.cons rfl (.cons rfl (.cons rfl .nil))) Tryd.call14 rfl hT (do_k 2 (by decide) (by decide) (by decide +kernel) hb.1) ?_
  refine W_move rfl rfl ?_
  refine W_extract rfl rfl rfl ?_
  refine W_extract rfl rfl rfl ?_
  refine W_assign rfl rfl ?_
  refine W_assign rfl rfl ?_
  refine W_nil ?_
  refine W_sr ?_
  refine W_move rfl rfl ?_
  refine W_move rfl rfl ?_
  refine W_callp (.cons rfl (.cons rfl (.cons rfl .nil))) Tryd.call14 rfl hT (do_k 0 (by decide) (by decide) (by decide +kernel) (doS_wd (p := 4) (by omega) ha hb).1) ?_
  refine W_move rfl rfl ?_
  refine W_extract rfl rfl rfl ?_
  refine W_extract rfl rfl rfl ?_
  refine W_assign rfl rfl ?_
  refine W_assign rfl rfl ?_
  refine W_nil ?_
  refine W_sr ?_
  refine W_callp .nil Tryd.call16 rfl hT (known_pure) ?_
  refine W_move rfl rfl ?_
  apply W_and
  iterate 4 exact rfl
  case h1 =>
    intro hg1
    refine W_gyes rfl rfl ?_
    refine W_move rfl rfl ?_
    refine W_gyes rfl rfl ?_
    refine W_bin rfl rfl b_eql rfl ?_
    exact W_met rfl (by repeat (first | exact .refl | refine .cons rfl ?_))
  refine W_move rfl rfl ?_
  apply W_and
  iterate 4 exact rfl
  case h1 =>
    intro hg5
    refine W_gyes rfl rfl ?_
    refine W_move rfl rfl ?_
    refine W_gyes rfl rfl ?_
    refine W_bin rfl rfl b_eql rfl ?_
    exact W_met rfl (by repeat (first | exact .refl | refine .cons rfl ?_))
  refine W_move rfl rfl ?_
  apply W_and
  iterate 4 exact rfl
  case h1 =>
    intro hg9
    refine W_gyes rfl rfl ?_
    refine W_move rfl rfl ?_
    refine W_gyes rfl rfl ?_
    refine W_bin rfl rfl b_eql rfl ?_
    exact W_met rfl (by repeat (first | exact .refl | refine .cons rfl ?_))
  refine W_move rfl rfl ?_
  apply W_and
  iterate 4 exact rfl
  case h1 =>
    intro hg13
    refine W_gyes rfl rfl ?_
    refine W_move rfl rfl ?_
    refine W_gyes rfl rfl ?_
    refine W_bin rfl rfl b_eql rfl ?_
    exact W_met rfl (by repeat (first | exact .refl | refine .cons rfl ?_))
  refine W_move rfl rfl ?_
  apply W_and
  iterate 4 exact rfl
  case h1 =>
    intro hg17
    refine W_gyes rfl rfl ?_
    refine W_move rfl rfl ?_
    refine W_gyes rfl rfl ?_
    refine W_move rfl rfl ?_
    refine W_gyes rfl rfl ?_
    refine W_bin rfl rfl b_eql rfl ?_
    exact W_met rfl (by repeat (first | exact .refl | refine .cons rfl ?_))
  refine W_move rfl rfl ?_
  apply W_and
  iterate 4 exact rfl
  case h1 =>
    intro hg22
    refine W_gyes rfl rfl ?_
    refine W_move rfl rfl ?_
    refine W_gyes rfl rfl ?_
    refine W_bin rfl rfl b_eql rfl ?_
    refine W_gyes rfl rfl ?_
    refine W_move rfl rfl ?_
    apply W_or
    iterate 4 exact rfl
    case h1 =>
      intro hg25
      refine W_gyes rfl rfl ?_
      refine W_move rfl rfl ?_
      refine W_gyes rfl rfl ?_
      refine W_move rfl rfl ?_
      refine W_gyes rfl rfl ?_
      refine W_bin rfl rfl b_lss rfl ?_
      exact W_met rfl (by repeat (first | exact .refl | refine .cons rfl ?_))
    exact W_met rfl (by repeat (first | exact .refl | refine .cons rfl ?_))
  refine W_assign rfl rfl ?_
  refine W_nil ?_
  refine W_ret1m Tryd.results5 rfl (.nil _) (.refl _) ?_
  have h := div_plain ha hb
  exact ⟨by simp [h.1, h.2], rfl⟩
set_option maxHeartbeats 1000000 in
theorem aluOpposites_pure {a b : Int} (ha : Wd a) (hb : Wd b) : Pure Tryd.prog Tab 6 [.int .u64 a, .int .u64 b] (.bool true) := by
  intro w0 H hT
  refine L_enter Tryd.func6 rfl Tryd.ntmps6 rfl rfl ?_
  refine W_sr ?_
  refine W_assign rfl rfl ?_
  refine W_nil ?_
  refine W_sr ?_
  refine W_move rfl rfl ?_
  refine W_move rfl rfl ?_
  refine W_callp (.cons rfl (.cons rfl (.cons rfl .nil))) Tryd.call17 rfl hT (jump_k 33 (by decide) (by decide) (by decide +kernel) hb.1) ?_
  refine W_move rfl rfl ?_
  refine W_extract rfl rfl rfl ?_
  refine W_extract rfl rfl rfl ?_
  refine W_assign rfl rfl ?_
  refine W_assign rfl rfl ?_
  refine W_nil ?_
  refine W_sr ?_
  refine W_move rfl rfl ?_
  refine W_move rfl rfl ?_
  refine W_callp (.cons rfl (.cons rfl (.cons rfl .nil))) Tryd.call17 rfl hT (jump_k 34 (by decide) (by decide) (by decide +kernel) hb.1) ?_
  refine W_move rfl rfl ?_
  refine W_extract rfl rfl rfl ?_
  refine W_extract rfl rfl rfl ?_
  refine W_assign rfl rfl ?_
  refine W_assign rfl rfl ?_
  refine W_nil ?_
  refine W_sr ?_
  refine W_move rfl rfl ?_
  refine W_move rfl rfl ?_
  refine W_callp (.cons rfl (.cons rfl (.cons rfl .nil))) Tryd.call17 rfl hT (jump_k 35 (by decide) (by decide) (by decide +kernel) hb.1) ?_
  refine W_move rfl rfl ?_
  refine W_extract rfl rfl rfl ?_
  refine W_extract rfl rfl rfl ?_
  refine W_assign rfl rfl ?_
  refine W_assign rfl rfl ?_
  refine W_nil ?_
  refine W_sr ?_
  refine W_move rfl rfl ?_
  refine W_move rfl rfl ?_
  refine W_callp (.cons rfl (.cons rfl (.cons rfl .nil))) Tryd.call17 rfl hT (jump_k 38 (by decide) (by decide) (by decide +kernel) hb.1) ?_
  refine W_move rfl rfl ?_
  refine W_extract rfl rfl rfl ?_
  refine W_extract rfl rfl rfl ?_
  refine W_assign rfl rfl ?_
  refine W_assign rfl rfl ?_
  refine W_nil ?_
  refine W_sr ?_
  refine W_move rfl rfl ?_
  refine W_move rfl rfl ?_
  refine W_callp (.cons rfl (.cons rfl (.cons rfl .nil))) Tryd.call17 rfl hT (jump_k 37 (by decide) (by decide) (by decide +kernel) hb.1) ?_
  refine W_move rfl rfl ?_
  refine W_extract rfl rfl rfl ?_
  refine W_extract rfl rfl rfl ?_
  refine W_assign rfl rfl ?_
  refine W_assign rfl rfl ?_
  refine W_nil ?_
  refine W_sr ?_
  refine W_move rfl rfl ?_
  refine W_move rfl rfl ?_
  refine W_callp (.cons rfl (.cons rfl (.cons rfl .nil))) Tryd.call17 rfl hT (jump_k 36 (by decide) (by decide) (by decide +kernel) hb.1) ?_
  refine W_move rfl rfl ?_
  refine W_extract rfl rfl rfl ?_
  refine W_extract rfl rfl rfl ?_
  refine W_assign rfl rfl ?_
  refine W_assign rfl rfl ?_
  refine W_nil ?_
  refine W_sr ?_
  refine W_move rfl rfl ?_
  refine W_move rfl rfl ?_
  refine W_callp (.cons rfl (.cons rfl (.cons rfl .nil))) Tryd.call17 rfl hT (jump_k 40 (by decide) (by decide) (by decide +kernel) hb.1) ?_
  refine W_move rfl rfl ?_
  refine W_extract rfl rfl rfl ?_
  refine W_extract rfl rfl rfl ?_
  refine W_assign rfl rfl ?_
  refine W_assign rfl rfl ?_
  refine W_nil ?_
  refine W_sr ?_
  refine W_move rfl rfl ?_
  refine W_move rfl rfl ?_
  refine W_callp (.cons rfl (.cons rfl (.cons rfl .nil))) Tryd.call17 rfl hT (jump_k 41 (by decide) (by decide) (by decide +kernel) hb.1) ?_
  refine W_move rfl rfl ?_
  refine W_extract rfl rfl rfl ?_
  refine W_extract rfl rfl rfl ?_
  refine W_assign rfl rfl ?_
  refine W_assign rfl rfl ?_
  refine W_nil ?_
  refine W_sr ?_
  refine W_callp .nil Tryd.call16 rfl hT (known_pure) ?_
  refine W_move rfl rfl ?_
  apply W_and
  iterate 4 exact rfl
  case h1 =>
    intro hg1
    refine W_gyes rfl rfl ?_
    refine W_move rfl rfl ?_
    refine W_gyes rfl rfl ?_
    refine W_move rfl rfl ?_
    refine W_gyes rfl rfl ?_
    refine W_bne rfl rfl ty4 rfl ?_
    exact W_met rfl (by repeat (first | exact .refl | refine .cons rfl ?_))
  refine W_move rfl rfl ?_
  apply W_and
  iterate 4 exact rfl
  case h1 =>
    intro hg6
    refine W_gyes rfl rfl ?_
    refine W_move rfl rfl ?_
    refine W_gyes rfl rfl ?_
    refine W_move rfl rfl ?_
    refine W_gyes rfl rfl ?_
    refine W_bne rfl rfl ty4 rfl ?_
    exact W_met rfl (by repeat (first | exact .refl | refine .cons rfl ?_))
  refine W_move rfl rfl ?_
  apply W_and
  iterate 4 exact rfl
  case h1 =>
    intro hg11
    refine W_gyes rfl rfl ?_
    refine W_move rfl rfl ?_
    refine W_gyes rfl rfl ?_
    refine W_move rfl rfl ?_
    refine W_gyes rfl rfl ?_
    refine W_bne rfl rfl ty4 rfl ?_
    exact W_met rfl (by repeat (first | exact .refl | refine .cons rfl ?_))
  refine W_move rfl rfl ?_
  apply W_and
  iterate 4 exact rfl
  case h1 =>
    intro hg16
    refine W_gyes rfl rfl ?_
    refine W_move rfl rfl ?_
    refine W_gyes rfl rfl ?_
    refine W_move rfl rfl ?_
    apply W_and
    iterate 4 exact rfl
    case h1 =>
      intro hg18
      refine W_gyes rfl rfl ?_
      refine W_move rfl rfl ?_
      exact W_met rfl (by repeat (first | exact .refl | refine .cons rfl ?_))
    refine W_gyes rfl rfl ?_
    refine W_not rfl rfl ?_
    exact W_met rfl (by repeat (first | exact .refl | refine .cons rfl ?_))
  refine W_move rfl rfl ?_
  apply W_and
  iterate 4 exact rfl
  case h1 =>
    intro hg23
    refine W_gyes rfl rfl ?_
    refine W_move rfl rfl ?_
    refine W_gyes rfl rfl ?_
    refine W_move rfl rfl ?_
    apply W_or
    iterate 4 exact rfl
    case h1 =>
      intro hg25
      refine W_gyes rfl rfl ?_
      refine W_move rfl rfl ?_
      exact W_met rfl (by repeat (first | exact .refl | refine .cons rfl ?_))
    refine W_gyes rfl rfl ?_
    refine W_move rfl rfl ?_
    refine W_gyes rfl rfl ?_
    refine W_beq rfl rfl ty4 rfl ?_
    exact W_met rfl (by repeat (first | exact .refl | refine .cons rfl ?_))
  refine W_move rfl rfl ?_
  apply W_and
  iterate 4 exact rfl
  case h1 =>
    intro hg31
    refine W_gyes rfl rfl ?_
    refine W_move rfl rfl ?_
    refine W_gyes rfl rfl ?_
    refine W_move rfl rfl ?_
    apply W_or
    iterate 4 exact rfl
    case h1 =>
      intro hg33
      refine W_gyes rfl rfl ?_
      refine W_move rfl rfl ?_
      exact W_met rfl (by repeat (first | exact .refl | refine .cons rfl ?_))
    refine W_gyes rfl rfl ?_
    refine W_move rfl rfl ?_
    refine W_gyes rfl rfl ?_
    refine W_beq rfl rfl ty4 rfl ?_
    exact W_met rfl (by repeat (first | exact .refl | refine .cons rfl ?_))
  refine W_assign rfl rfl ?_
  refine W_nil ?_
  refine W_ret1m Tryd.results6 rfl (.nil _) (.refl _) ?_
  obtain ⟨h1, h2, h3, h4, h5, h6⟩ := opp_plain ha hb
  have h4' : (!(jumpS 40 a b && jumpS 41 a b)) = true := by cases h : jumpS 40 a b <;> cases h' : jumpS 41 a b <;> simp [h, h'] at h4 ⊢
  exact ⟨by rw [h4', h5, h6]; simp [h1, h2, h3], rfl⟩
set_option maxHeartbeats 1000000 in
theorem aluWords_pure {i b : Int} (hi : I64 i) (hb : Wd b) : Pure Tryd.prog Tab 7 [.int .i64 i, .int .u64 b] (.bool true) := by
  intro w0 H hT
  refine L_enter Tryd.func7 rfl Tryd.ntmps7 rfl rfl ?_
  refine W_sr ?_
  refine W_assign rfl rfl ?_
  refine W_nil ?_
  refine W_sr ?_
  refine W_move rfl rfl ?_
  refine W_callp (.cons rfl .nil) Tryd.call19 rfl hT (word_pure _) ?_
  refine W_assign rfl rfl ?_
  refine W_nil ?_
  refine W_sr ?_
  refine W_move rfl rfl ?_
  refine W_move rfl rfl ?_
  refine W_callp (.cons rfl (.cons rfl (.cons rfl .nil))) Tryd.call14 rfl hT (do_k 12 (by decide) (by decide) (by decide +kernel) hb.1) ?_
  refine W_move rfl rfl ?_
  refine W_extract rfl rfl rfl ?_
  refine W_extract rfl rfl rfl ?_
  refine W_assign rfl rfl ?_
  refine W_assign rfl rfl ?_
  refine W_nil ?_
  refine W_sr ?_
  refine W_move rfl rfl ?_
  refine W_move rfl rfl ?_
  refine W_callp (.cons rfl (.cons rfl (.cons rfl .nil))) Tryd.call14 rfl hT (do_k 0 (by decide) (by decide) (by decide +kernel) (doS_wd (p := 12) (by omega) (wd_w _) hb).1) ?_
  refine W_move rfl rfl ?_
  refine W_extract rfl rfl rfl ?_
  refine W_extract rfl rfl rfl ?_
  refine W_assign rfl rfl ?_
  refine W_assign rfl rfl ?_
  refine W_nil ?_
  refine W_sr ?_
  refine W_move rfl rfl ?_
  refine W_move rfl rfl ?_
  refine W_bin rfl rfl (b_add rfl) rfl ?_
  refine W_move rfl rfl ?_
  refine W_callp (.cons rfl (.cons rfl (.cons rfl .nil))) Tryd.call14 rfl hT (do_k 1 (by decide) (by decide) (by decide +kernel) (wd_w _).1) ?_
  refine W_move rfl rfl ?_
  refine W_extract rfl rfl rfl ?_
  refine W_extract rfl rfl rfl ?_
  refine W_assign rfl rfl ?_
  refine W_assign rfl rfl ?_
  refine W_nil ?_
  refine W_sr ?_
  refine W_move rfl rfl ?_
  refine W_callp (.cons rfl (.cons rfl (.cons rfl .nil))) Tryd.call17 rfl hT (jump_k 41 (by decide) (by decide) (by decide +kernel) (by decide)) ?_
  refine W_move rfl rfl ?_
  refine W_extract rfl rfl rfl ?_
  refine W_extract rfl rfl rfl ?_
  refine W_assign rfl rfl ?_
  refine W_assign rfl rfl ?_
  refine W_nil ?_
  refine W_sr ?_
  refine W_callp .nil Tryd.call16 rfl hT (known_pure) ?_
  refine W_move rfl rfl ?_
  apply W_and
  iterate 4 exact rfl
  case h1 =>
    intro hg1
    refine W_gyes rfl rfl ?_
    refine W_move rfl rfl ?_
    refine W_gyes rfl rfl ?_
    refine W_bin rfl rfl b_eql rfl ?_
    exact W_met rfl (by repeat (first | exact .refl | refine .cons rfl ?_))
  refine W_move rfl rfl ?_
  apply W_and
  iterate 4 exact rfl
  case h1 =>
    intro hg5
    refine W_gyes rfl rfl ?_
    refine W_move rfl rfl ?_
    refine W_gyes rfl rfl ?_
    refine W_bin rfl rfl b_eql rfl ?_
    exact W_met rfl (by repeat (first | exact .refl | refine .cons rfl ?_))
  refine W_move rfl rfl ?_
  apply W_and
  iterate 4 exact rfl
  case h1 =>
    intro hg9
    refine W_gyes rfl rfl ?_
    refine W_move rfl rfl ?_
    refine W_gyes rfl rfl ?_
    refine W_bin rfl rfl b_eql rfl ?_
    exact W_met rfl (by repeat (first | exact .refl | refine .cons rfl ?_))
  refine W_move rfl rfl ?_
  apply W_and
  iterate 4 exact rfl
  case h1 =>
    intro hg13
    refine W_gyes rfl rfl ?_
    refine W_move rfl rfl ?_
    refine W_gyes rfl rfl ?_
    refine W_bin rfl rfl b_eql rfl ?_
    exact W_met rfl (by repeat (first | exact .refl | refine .cons rfl ?_))
  refine W_move rfl rfl ?_
  apply W_and
  iterate 4 exact rfl
  case h1 =>
    intro hg17
    refine W_gyes rfl rfl ?_
    refine W_move rfl rfl ?_
    refine W_gyes rfl rfl ?_
    refine W_move rfl rfl ?_
    refine W_gyes rfl rfl ?_
    refine W_bin rfl rfl b_eql rfl ?_
    exact W_met rfl (by repeat (first | exact .refl | refine .cons rfl ?_))
  refine W_move rfl rfl ?_
  apply W_and
  iterate 4 exact rfl
  case h1 =>
    intro hg22
    refine W_gyes rfl rfl ?_
    refine W_move rfl rfl ?_
    refine W_gyes rfl rfl ?_
    refine W_move rfl rfl ?_
    refine W_gyes rfl rfl ?_
    refine W_bin rfl rfl b_lss rfl ?_
    refine W_gyes rfl rfl ?_
    refine W_beq rfl rfl ty4 rfl ?_
    exact W_met rfl (by repeat (first | exact .refl | refine .cons rfl ?_))
  refine W_move rfl rfl ?_
  apply W_and
  iterate 4 exact rfl
  case h1 =>
    intro hg28
    refine W_gyes rfl rfl ?_
    refine W_move rfl rfl ?_
    refine W_gyes rfl rfl ?_
    refine W_bin rfl rfl b_lss rfl ?_
    refine W_gyes rfl rfl ?_
    refine W_move rfl rfl ?_
    apply W_or
    iterate 4 exact rfl
    case h1 =>
      intro hg31
      refine W_gyes rfl rfl ?_
      refine W_move rfl rfl ?_
      refine W_gyes rfl rfl ?_
      refine W_bin rfl rfl b_leq rfl ?_
      exact W_met rfl (by repeat (first | exact .refl | refine .cons rfl ?_))
    exact W_met rfl (by repeat (first | exact .refl | refine .cons rfl ?_))
  refine W_assign rfl rfl ?_
  refine W_nil ?_
  refine W_ret1m Tryd.results7 rfl (.nil _) (.refl _) ?_
  obtain ⟨h1, h2, h3, h4⟩ := words_plain hi hb
  exact ⟨by simp [h1, h2, h3, h4], rfl⟩
end Go.Proofs.YtpfoecmianohjaaDoor
