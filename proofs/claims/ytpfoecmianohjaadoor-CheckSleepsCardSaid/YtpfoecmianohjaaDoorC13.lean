/-
  Own work: contracts of functions that the statement reaches, and plain facts on what they compute; each theorem says its conditions.
-/
import Derived.Test.YtpfoecmianohjaaDoorC12
set_option linter.all false
set_option linter.unusedSimpArgs false
set_option linter.unusedVariables false
namespace Go.Proofs.YtpfoecmianohjaaDoor
open Go Go.Sl
attribute [local irreducible] W

/-- is what an instruction names there? -/
def withinB (x : Ins) (n k : Nat) : Bool :=
  if x.op = 64 ∨ x.op = 65 then decide (0 ≤ x.off) && decide (x.off < 8) else if x.op = 66 ∨ x.op = 67 then decide (0 ≤ x.off) && decide (x.off < 4)
  else decide (cls x.op ≠ 2) || (decide (0 ≤ toV x k) && decide (toV x k < (n : Int)))
/-- what is wrong with a right instruction at a place -/
def wrongE (x : Ins) (n k : Nat) (sleeps : Bool) : Int :=
  if (!withinB x n k) = true then 2 else if (decide (x.op = 72) && !helpB x.imm) = true then 4 else if (decide (x.op = 72) && decide (x.imm = 16) && !sleeps) = true then 17
  else if (decide ((k : Int) = (n : Int) - 1) && decide (x.op ≠ 73) && decide (x.op ≠ 32)) = true then 10 else 0
set_option maxHeartbeats 1000000 in
theorem within_q {w0 : World} {H : Heap} {x : Ins} {n k : Nat} {l : List Ins} {ad : Option Addr} {cap : Nat} (hnl : l.length = n) (hk : k < n) (hx : l[k]? = some x) (hrow : Holds w0 H ad (insRow l)) (hT : Tab w0) : PureAt Tryd.prog w0 H 68 [.slice ad n cap, .int .i64 (k : Int)] (.bool (withinB x n k)) := by
  have hx' := hx
  obtain ⟨b, o, rfl, hc⟩ := hrow.row cells_len (by decide) hx
  refine L_enter Tryd.func68 rfl Tryd.ntmps68 rfl rfl ?_
  refine W_sr ?_
  refine W_assign rfl rfl ?_
  refine W_nil ?_
  refine W_sr ?_
  refine W_move rfl rfl ?_
  refine W_move rfl rfl ?_
  refine W_indexAddr (j := k) rfl rfl ty48 ty67 rfl hk rfl rfl ?_
  refine W_loadA rfl ty67 rfl (vs := [.int .i64 x.op, .int .i64 x.dst, .int .i64 x.src, .int .i64 x.off, .int .i64 x.imm]) rfl (hc.up (by repeat (first | exact HSub.refl _ | refine HSub.cons (by repeat (first | exact Take.here _ | apply Take.next | apply Take.app)) ?_ | refine HSub.app (by repeat (first | exact TakeS.here _ | apply TakeS.next | apply TakeS.app)) ?_ | refine HSub.drop ?_ | refine HSub.dropS ?_ | exact HSub.nil _))) rfl ?_
  refine W_alloc ty67 rfl rfl (fun b5 => ?_)
  refine W_storeA rfl rfl ty67 rfl rfl (by repeat (first | exact List.mem_cons_self | apply List.mem_cons_of_mem | apply List.mem_append_right)) (Nat.le_of_ble_eq_true rfl) (by simp only [fillL, spliceL, Value.cells, List.take_zero, List.take_succ_cons, List.take_nil, List.drop_zero, List.drop_succ_cons, List.drop_nil, List.nil_append, List.cons_append, List.append_nil, List.length_cons, List.length_nil, Nat.zero_add, Nat.reduceAdd, List.toList_toArray]; rfl) (by repeat (first | exact Upd.head _ | apply Upd.tail | apply Upd.app)) ?_
  refine W_nil ?_
  refine W_seq ?_
  refine W_sr ?_
  refine W_fieldAddr rfl fld67_0 (by decide) rfl ?_
  refine W_load rfl ty3 rfl (Cell.own (by repeat (first | exact List.mem_cons_self | apply List.mem_cons_of_mem | apply List.mem_append_right)) rfl) rfl ?_
  refine W_nil ?_
  refine W_block ?_
  refine W_seq ?_
  refine W_sr ?_
  refine W_bin rfl rfl b_eql rfl ?_
  refine W_assign rfl rfl ?_
  refine W_nil ?_
  refine W_condPS (p := x.op = 64) rfl (by simp) (fun c0 => ?_) (fun c0 => ?_)
  · skip
    refine W_skip ?_
    refine W_condT rfl rfl ?_
    refine W_sr ?_
    refine W_fieldAddr rfl fld67_3 (by decide) rfl ?_
    refine W_load rfl ty3 rfl (Cell.own (by repeat (first | exact List.mem_cons_self | apply List.mem_cons_of_mem | apply List.mem_append_right)) rfl) rfl ?_
    refine W_bin rfl rfl b_geq rfl ?_
    refine W_move rfl rfl ?_
    apply W_and
    iterate 4 exact rfl
    case h1 =>
      intro hg3
      refine W_gyes rfl rfl ?_
      refine W_fieldAddr rfl fld67_3 (by decide) rfl ?_
      refine W_gyes rfl rfl ?_
      refine W_load rfl ty3 rfl (Cell.own (by repeat (first | exact List.mem_cons_self | apply List.mem_cons_of_mem | apply List.mem_append_right)) rfl) rfl ?_
      refine W_gyes rfl rfl ?_
      refine W_bin rfl rfl b_lss rfl ?_
      exact W_met rfl (by repeat (first | exact .refl | refine .cons rfl ?_))
    refine W_assign rfl rfl ?_
    refine W_nil ?_
    refine W_ret1m (H2 := H) Tryd.results68 rfl (.nil _) (by repeat (first | exact HSub.refl _ | refine HSub.cons (by repeat (first | exact Take.here _ | apply Take.next | apply Take.app)) ?_ | refine HSub.app (by repeat (first | exact TakeS.here _ | apply TakeS.next | apply TakeS.app)) ?_ | refine HSub.drop ?_ | refine HSub.dropS ?_ | exact HSub.nil _)) ?_
    exact ⟨by unfold withinB toV; repeat (first | rw [if_pos (by omega)] | rw [if_neg (by omega)]), rfl⟩
  · skip
    refine W_region ?_
    refine W_bin rfl rfl b_eql rfl ?_
    refine W_assign rfl rfl ?_
    refine W_nil ?_
    refine W_condPS (p := x.op = 65) rfl (by simp) (fun c1 => ?_) (fun c1 => ?_)
    · skip
      refine W_sr ?_
      refine W_fieldAddr rfl fld67_3 (by decide) rfl ?_
      refine W_load rfl ty3 rfl (Cell.own (by repeat (first | exact List.mem_cons_self | apply List.mem_cons_of_mem | apply List.mem_append_right)) rfl) rfl ?_
      refine W_bin rfl rfl b_geq rfl ?_
      refine W_move rfl rfl ?_
      apply W_and
      iterate 4 exact rfl
      case h1 =>
        intro hg3
        refine W_gyes rfl rfl ?_
        refine W_fieldAddr rfl fld67_3 (by decide) rfl ?_
        refine W_gyes rfl rfl ?_
        refine W_load rfl ty3 rfl (Cell.own (by repeat (first | exact List.mem_cons_self | apply List.mem_cons_of_mem | apply List.mem_append_right)) rfl) rfl ?_
        refine W_gyes rfl rfl ?_
        refine W_bin rfl rfl b_lss rfl ?_
        exact W_met rfl (by repeat (first | exact .refl | refine .cons rfl ?_))
      refine W_assign rfl rfl ?_
      refine W_nil ?_
      refine W_ret1m (H2 := H) Tryd.results68 rfl (.nil _) (by repeat (first | exact HSub.refl _ | refine HSub.cons (by repeat (first | exact Take.here _ | apply Take.next | apply Take.app)) ?_ | refine HSub.app (by repeat (first | exact TakeS.here _ | apply TakeS.next | apply TakeS.app)) ?_ | refine HSub.drop ?_ | refine HSub.dropS ?_ | exact HSub.nil _)) ?_
      exact ⟨by unfold withinB toV; repeat (first | rw [if_pos (by omega)] | rw [if_neg (by omega)]), rfl⟩
    · skip
      refine W_seq ?_
      refine W_sr ?_
      refine W_bin rfl rfl b_eql rfl ?_
      refine W_assign rfl rfl ?_
      refine W_nil ?_
      refine W_condPS (p := x.op = 66) rfl (by simp) (fun c2 => ?_) (fun c2 => ?_)
      · skip
        refine W_skip ?_
        refine W_condT rfl rfl ?_
        refine W_sr ?_
        refine W_fieldAddr rfl fld67_3 (by decide) rfl ?_
        refine W_load rfl ty3 rfl (Cell.own (by repeat (first | exact List.mem_cons_self | apply List.mem_cons_of_mem | apply List.mem_append_right)) rfl) rfl ?_
        refine W_bin rfl rfl b_geq rfl ?_
        refine W_move rfl rfl ?_
        apply W_and
        iterate 4 exact rfl
        case h1 =>
          intro hg3
          refine W_gyes rfl rfl ?_
          refine W_fieldAddr rfl fld67_3 (by decide) rfl ?_
          refine W_gyes rfl rfl ?_
          refine W_load rfl ty3 rfl (Cell.own (by repeat (first | exact List.mem_cons_self | apply List.mem_cons_of_mem | apply List.mem_append_right)) rfl) rfl ?_
          refine W_gyes rfl rfl ?_
          refine W_bin rfl rfl b_lss rfl ?_
          exact W_met rfl (by repeat (first | exact .refl | refine .cons rfl ?_))
        refine W_assign rfl rfl ?_
        refine W_nil ?_
        refine W_ret1m (H2 := H) Tryd.results68 rfl (.nil _) (by repeat (first | exact HSub.refl _ | refine HSub.cons (by repeat (first | exact Take.here _ | apply Take.next | apply Take.app)) ?_ | refine HSub.app (by repeat (first | exact TakeS.here _ | apply TakeS.next | apply TakeS.app)) ?_ | refine HSub.drop ?_ | refine HSub.dropS ?_ | exact HSub.nil _)) ?_
        exact ⟨by unfold withinB toV; repeat (first | rw [if_pos (by omega)] | rw [if_neg (by omega)]), rfl⟩
      · skip
        refine W_region ?_
        refine W_bin rfl rfl b_eql rfl ?_
        refine W_assign rfl rfl ?_
        refine W_nil ?_
        refine W_condPS (p := x.op = 67) rfl (by simp) (fun c3 => ?_) (fun c3 => ?_)
        · skip
          refine W_sr ?_
          refine W_fieldAddr rfl fld67_3 (by decide) rfl ?_
          refine W_load rfl ty3 rfl (Cell.own (by repeat (first | exact List.mem_cons_self | apply List.mem_cons_of_mem | apply List.mem_append_right)) rfl) rfl ?_
          refine W_bin rfl rfl b_geq rfl ?_
          refine W_move rfl rfl ?_
          apply W_and
          iterate 4 exact rfl
          case h1 =>
            intro hg3
            refine W_gyes rfl rfl ?_
            refine W_fieldAddr rfl fld67_3 (by decide) rfl ?_
            refine W_gyes rfl rfl ?_
            refine W_load rfl ty3 rfl (Cell.own (by repeat (first | exact List.mem_cons_self | apply List.mem_cons_of_mem | apply List.mem_append_right)) rfl) rfl ?_
            refine W_gyes rfl rfl ?_
            refine W_bin rfl rfl b_lss rfl ?_
            exact W_met rfl (by repeat (first | exact .refl | refine .cons rfl ?_))
          refine W_assign rfl rfl ?_
          refine W_nil ?_
          refine W_ret1m (H2 := H) Tryd.results68 rfl (.nil _) (by repeat (first | exact HSub.refl _ | refine HSub.cons (by repeat (first | exact Take.here _ | apply Take.next | apply Take.app)) ?_ | refine HSub.app (by repeat (first | exact TakeS.here _ | apply TakeS.next | apply TakeS.app)) ?_ | refine HSub.drop ?_ | refine HSub.dropS ?_ | exact HSub.nil _)) ?_
          exact ⟨by unfold withinB toV; repeat (first | rw [if_pos (by omega)] | rw [if_neg (by omega)]), rfl⟩
        · skip
          refine W_skip ?_
          refine W_blk ?_
          refine W_sr ?_
          refine W_loadB rfl ty67 rfl (by repeat (first | exact List.mem_cons_self | apply List.mem_cons_of_mem | apply List.mem_append_right)) rfl (by simp only [fillL, spliceL, Value.cells, List.take_zero, List.take_succ_cons, List.take_nil, List.drop_zero, List.drop_succ_cons, List.drop_nil, List.nil_append, List.cons_append, List.append_nil, List.length_cons, List.length_nil, Nat.zero_add, Nat.reduceAdd, List.toList_toArray]; rfl) rfl ?_
          refine W_move rfl rfl ?_
          refine W_callp (.cons rfl (.cons rfl .nil)) Tryd.call69 rfl hT (target_pure _ _) ?_
          refine W_assign rfl rfl ?_
          refine W_nil ?_
          refine W_sr ?_
          refine W_fieldAddr rfl fld67_0 (by decide) rfl ?_
          refine W_load rfl ty3 rfl (Cell.own (by repeat (first | exact List.mem_cons_self | apply List.mem_cons_of_mem | apply List.mem_append_right)) rfl) rfl ?_
          refine W_callp (.cons rfl .nil) Tryd.call36 rfl hT (class_pure _) ?_
          refine W_bin rfl rfl b_neq rfl ?_
          refine W_move rfl rfl ?_
          apply W_or
          iterate 4 exact rfl
          case h1 =>
            intro hg4
            refine W_gyes rfl rfl ?_
            refine W_move rfl rfl ?_
            refine W_gyes rfl rfl ?_
            refine W_bin rfl rfl b_geq rfl ?_
            refine W_gyes rfl rfl ?_
            refine W_move rfl rfl ?_
            apply W_and
            iterate 4 exact rfl
            case h1 =>
              intro hg7
              refine W_gyes rfl rfl ?_
              refine W_move rfl rfl ?_
              refine W_gyes rfl rfl ?_
              refine W_move rfl rfl ?_
              refine W_gyes rfl rfl ?_
              refine W_len rfl ty48 rfl rfl ?_
              refine W_gyes rfl rfl ?_
              refine W_bin rfl rfl b_lss rfl ?_
              exact W_met rfl (by repeat (first | exact .refl | refine .cons rfl ?_))
            exact W_met rfl (by repeat (first | exact .refl | refine .cons rfl ?_))
          refine W_assign rfl rfl ?_
          refine W_nil ?_
          refine W_ret1m (H2 := H) Tryd.results68 rfl (.nil _) (by repeat (first | exact HSub.refl _ | refine HSub.cons (by repeat (first | exact Take.here _ | apply Take.next | apply Take.app)) ?_ | refine HSub.app (by repeat (first | exact TakeS.here _ | apply TakeS.next | apply TakeS.app)) ?_ | refine HSub.drop ?_ | refine HSub.dropS ?_ | exact HSub.nil _)) ?_
          exact ⟨by unfold withinB toV; repeat (first | rw [if_pos (by omega)] | rw [if_neg (by omega)]), rfl⟩
set_option maxHeartbeats 1000000 in
theorem wrong_q {w0 : World} {H : Heap} {x : Ins} {n k : Nat} {l : List Ins} {ad : Option Addr} {cap : Nat} {sleeps : Bool} (hnl : l.length = n) (hn : n ≤ 1000000) (hk : k < n) (hx : l[k]? = some x) (hxo : x.Ok) (hrow : Holds w0 H ad (insRow l)) (hT : Tab w0) : PureAt Tryd.prog w0 H 51 [.agg #[.slice ad n cap, .bool sleeps], .int .i64 (k : Int)] (.int .i64 (wrongE x n k sleeps)) := by
  have hx' := hx
  have hrow' := hrow
  obtain ⟨b, o, rfl, hc⟩ := hrow.row cells_len (by decide) hx
  refine L_enter Tryd.func51 rfl Tryd.ntmps51 rfl rfl ?_
  refine W_sr ?_
  refine W_box rfl rfl rfl (fun b2 => ?_)
  refine W_assign rfl rfl ?_
  refine W_nil ?_
  refine W_sr ?_
  refine W_fieldAddr rfl fld51_0 (by decide) rfl ?_
  refine W_load rfl ty48 rfl (Cell.own (by repeat (first | exact List.mem_cons_self | apply List.mem_cons_of_mem | apply List.mem_append_right)) rfl) rfl ?_
  refine W_move rfl rfl ?_
  refine W_indexAddr (j := k) rfl rfl ty48 ty67 rfl hk rfl rfl ?_
  refine W_loadA rfl ty67 rfl (vs := [.int .i64 x.op, .int .i64 x.dst, .int .i64 x.src, .int .i64 x.off, .int .i64 x.imm]) rfl (hc.up (by repeat (first | exact HSub.refl _ | refine HSub.cons (by repeat (first | exact Take.here _ | apply Take.next | apply Take.app)) ?_ | refine HSub.app (by repeat (first | exact TakeS.here _ | apply TakeS.next | apply TakeS.app)) ?_ | refine HSub.drop ?_ | refine HSub.dropS ?_ | exact HSub.nil _))) rfl ?_
  refine W_alloc ty67 rfl rfl (fun b5 => ?_)
  refine W_storeA rfl rfl ty67 rfl rfl (by repeat (first | exact List.mem_cons_self | apply List.mem_cons_of_mem | apply List.mem_append_right)) (Nat.le_of_ble_eq_true rfl) (by simp only [fillL, spliceL, Value.cells, List.take_zero, List.take_succ_cons, List.take_nil, List.drop_zero, List.drop_succ_cons, List.drop_nil, List.nil_append, List.cons_append, List.append_nil, List.length_cons, List.length_nil, Nat.zero_add, Nat.reduceAdd, List.toList_toArray]; rfl) (by repeat (first | exact Upd.head _ | apply Upd.tail | apply Upd.app)) ?_
  refine W_nil ?_
  refine W_sr ?_
  refine W_fieldAddr rfl fld67_4 (by decide) rfl ?_
  refine W_load rfl ty3 rfl (Cell.own (by repeat (first | exact List.mem_cons_self | apply List.mem_cons_of_mem | apply List.mem_append_right)) rfl) rfl ?_
  refine W_callp (.cons rfl .nil) Tryd.call21 rfl hT (helper_pure _ hxo.imm) ?_
  refine W_move rfl rfl ?_
  refine W_extract rfl rfl rfl ?_
  refine W_extract rfl rfl rfl ?_
  refine W_extract rfl rfl rfl ?_
  refine W_assign rfl rfl ?_
  refine W_assign rfl rfl ?_
  refine W_assign rfl rfl ?_
  refine W_nil ?_
  refine W_seq ?_
  refine W_block ?_
  refine W_sr ?_
  refine W_fieldAddr rfl fld51_0 (by decide) rfl ?_
  refine W_load rfl ty48 rfl (Cell.own (by repeat (first | exact List.mem_cons_self | apply List.mem_cons_of_mem | apply List.mem_append_right)) rfl) rfl ?_
  refine W_move rfl rfl ?_
  refine W_callq (.cons rfl (.cons rfl .nil)) Tryd.call68 rfl (within_q hnl hk hx' (hrow'.up (by repeat (first | exact HSub.refl _ | refine HSub.cons (by repeat (first | exact Take.here _ | apply Take.next | apply Take.app)) ?_ | refine HSub.app (by repeat (first | exact TakeS.here _ | apply TakeS.next | apply TakeS.app)) ?_ | refine HSub.drop ?_ | refine HSub.dropS ?_ | exact HSub.nil _))) hT) ?_
  refine W_not rfl rfl ?_
  refine W_assign rfl rfl ?_
  refine W_nil ?_
  refine W_condS rfl (fun c0 => ?_) (fun c0 => ?_)
  · skip
    refine W_sr ?_
    refine W_assign rfl rfl ?_
    refine W_nil ?_
    refine W_ret1m (H2 := H) Tryd.results51 rfl (.nil _) (by repeat (first | exact HSub.refl _ | refine HSub.cons (by repeat (first | exact Take.here _ | apply Take.next | apply Take.app)) ?_ | refine HSub.app (by repeat (first | exact TakeS.here _ | apply TakeS.next | apply TakeS.app)) ?_ | refine HSub.drop ?_ | refine HSub.dropS ?_ | exact HSub.nil _)) ?_
    have c0 : (!withinB x n k) = true := c0
    exact ⟨by unfold wrongE; rw [if_pos c0], rfl⟩
  · skip
    refine W_sr ?_
    refine W_fieldAddr rfl fld67_0 (by decide) rfl ?_
    refine W_load rfl ty3 rfl (Cell.own (by repeat (first | exact List.mem_cons_self | apply List.mem_cons_of_mem | apply List.mem_append_right)) rfl) rfl ?_
    refine W_bin rfl rfl b_eql rfl ?_
    refine W_move rfl rfl ?_
    apply W_and
    iterate 4 exact rfl
    case h1 =>
      intro hg3
      refine W_gyes rfl rfl ?_
      refine W_move rfl rfl ?_
      refine W_gyes rfl rfl ?_
      refine W_not rfl rfl ?_
      exact W_met rfl (by repeat (first | exact .refl | refine .cons rfl ?_))
    refine W_assign rfl rfl ?_
    refine W_nil ?_
    refine W_condS rfl (fun c1 => ?_) (fun c1 => ?_)
    · skip
      refine W_sr ?_
      refine W_assign rfl rfl ?_
      refine W_nil ?_
      refine W_ret1m (H2 := H) Tryd.results51 rfl (.nil _) (by repeat (first | exact HSub.refl _ | refine HSub.cons (by repeat (first | exact Take.here _ | apply Take.next | apply Take.app)) ?_ | refine HSub.app (by repeat (first | exact TakeS.here _ | apply TakeS.next | apply TakeS.app)) ?_ | refine HSub.drop ?_ | refine HSub.dropS ?_ | exact HSub.nil _)) ?_
      have c0 : (!withinB x n k) = false := c0
      have c1 : (decide (x.op = 72) && !helpB x.imm) = true := c1
      exact ⟨by unfold wrongE; rw [if_neg (by rw [c0]; simp), if_pos c1], rfl⟩
    · skip
      refine W_sr ?_
      refine W_fieldAddr rfl fld67_0 (by decide) rfl ?_
      refine W_load rfl ty3 rfl (Cell.own (by repeat (first | exact List.mem_cons_self | apply List.mem_cons_of_mem | apply List.mem_append_right)) rfl) rfl ?_
      refine W_bin rfl rfl b_eql rfl ?_
      refine W_move rfl rfl ?_
      apply W_and
      iterate 4 exact rfl
      case h1 =>
        intro hg3
        refine W_gyes rfl rfl ?_
        refine W_fieldAddr rfl fld67_4 (by decide) rfl ?_
        refine W_gyes rfl rfl ?_
        refine W_load rfl ty3 rfl (Cell.own (by repeat (first | exact List.mem_cons_self | apply List.mem_cons_of_mem | apply List.mem_append_right)) rfl) rfl ?_
        refine W_gyes rfl rfl ?_
        refine W_bin rfl rfl b_eql rfl ?_
        exact W_met rfl (by repeat (first | exact .refl | refine .cons rfl ?_))
      refine W_move rfl rfl ?_
      apply W_and
      iterate 4 exact rfl
      case h1 =>
        intro hg8
        refine W_gyes rfl rfl ?_
        refine W_fieldAddr rfl fld51_1 (by decide) rfl ?_
        refine W_gyes rfl rfl ?_
        refine W_load rfl ty4 rfl (Cell.own (by repeat (first | exact List.mem_cons_self | apply List.mem_cons_of_mem | apply List.mem_append_right)) rfl) rfl ?_
        refine W_gyes rfl rfl ?_
        refine W_not rfl rfl ?_
        exact W_met rfl (by repeat (first | exact .refl | refine .cons rfl ?_))
      refine W_assign rfl rfl ?_
      refine W_nil ?_
      refine W_condS rfl (fun c2 => ?_) (fun c2 => ?_)
      · skip
        refine W_sr ?_
        refine W_assign rfl rfl ?_
        refine W_nil ?_
        refine W_ret1m (H2 := H) Tryd.results51 rfl (.nil _) (by repeat (first | exact HSub.refl _ | refine HSub.cons (by repeat (first | exact Take.here _ | apply Take.next | apply Take.app)) ?_ | refine HSub.app (by repeat (first | exact TakeS.here _ | apply TakeS.next | apply TakeS.app)) ?_ | refine HSub.drop ?_ | refine HSub.dropS ?_ | exact HSub.nil _)) ?_
        have c0 : (!withinB x n k) = false := c0
        have c1 : (decide (x.op = 72) && !helpB x.imm) = false := c1
        have c2 : (decide (x.op = 72) && decide (x.imm = 16) && !sleeps) = true := c2
        exact ⟨by unfold wrongE; rw [if_neg (by rw [c0]; simp), if_neg (by rw [c1]; simp), if_pos c2], rfl⟩
      · skip
        refine W_sr ?_
        refine W_move rfl rfl ?_
        refine W_fieldAddr rfl fld51_0 (by decide) rfl ?_
        refine W_load rfl ty48 rfl (Cell.own (by repeat (first | exact List.mem_cons_self | apply List.mem_cons_of_mem | apply List.mem_append_right)) rfl) rfl ?_
        refine W_len rfl ty48 rfl rfl ?_
        refine W_bin rfl rfl (b_sub (m := (n : Int) - 1) (i64w (by omega))) rfl ?_
        refine W_bin rfl rfl b_eql rfl ?_
        refine W_move rfl rfl ?_
        apply W_and
        iterate 4 exact rfl
        case h1 =>
          intro hg6
          refine W_gyes rfl rfl ?_
          refine W_fieldAddr rfl fld67_0 (by decide) rfl ?_
          refine W_gyes rfl rfl ?_
          refine W_load rfl ty3 rfl (Cell.own (by repeat (first | exact List.mem_cons_self | apply List.mem_cons_of_mem | apply List.mem_append_right)) rfl) rfl ?_
          refine W_gyes rfl rfl ?_
          refine W_bin rfl rfl b_neq rfl ?_
          exact W_met rfl (by repeat (first | exact .refl | refine .cons rfl ?_))
        refine W_move rfl rfl ?_
        apply W_and
        iterate 4 exact rfl
        case h1 =>
          intro hg11
          refine W_gyes rfl rfl ?_
          refine W_fieldAddr rfl fld67_0 (by decide) rfl ?_
          refine W_gyes rfl rfl ?_
          refine W_load rfl ty3 rfl (Cell.own (by repeat (first | exact List.mem_cons_self | apply List.mem_cons_of_mem | apply List.mem_append_right)) rfl) rfl ?_
          refine W_gyes rfl rfl ?_
          refine W_bin rfl rfl b_neq rfl ?_
          exact W_met rfl (by repeat (first | exact .refl | refine .cons rfl ?_))
        refine W_assign rfl rfl ?_
        refine W_nil ?_
        refine W_condS rfl (fun c3 => ?_) (fun c3 => ?_)
        · skip
          refine W_sr ?_
          refine W_assign rfl rfl ?_
          refine W_nil ?_
          refine W_ret1m (H2 := H) Tryd.results51 rfl (.nil _) (by repeat (first | exact HSub.refl _ | refine HSub.cons (by repeat (first | exact Take.here _ | apply Take.next | apply Take.app)) ?_ | refine HSub.app (by repeat (first | exact TakeS.here _ | apply TakeS.next | apply TakeS.app)) ?_ | refine HSub.drop ?_ | refine HSub.dropS ?_ | exact HSub.nil _)) ?_
          have c0 : (!withinB x n k) = false := c0
          have c1 : (decide (x.op = 72) && !helpB x.imm) = false := c1
          have c2 : (decide (x.op = 72) && decide (x.imm = 16) && !sleeps) = false := c2
          have c3 : (decide ((k : Int) = (n : Int) - 1) && decide (x.op ≠ 73) && decide (x.op ≠ 32)) = true := c3
          exact ⟨by unfold wrongE; rw [if_neg (by rw [c0]; simp), if_neg (by rw [c1]; simp), if_neg (by rw [c2]; simp), if_pos c3], rfl⟩
        · skip
          refine W_skip ?_
          refine W_blk ?_
          refine W_sr ?_
          refine W_assign rfl rfl ?_
          refine W_nil ?_
          refine W_ret1m (H2 := H) Tryd.results51 rfl (.nil _) (by repeat (first | exact HSub.refl _ | refine HSub.cons (by repeat (first | exact Take.here _ | apply Take.next | apply Take.app)) ?_ | refine HSub.app (by repeat (first | exact TakeS.here _ | apply TakeS.next | apply TakeS.app)) ?_ | refine HSub.drop ?_ | refine HSub.dropS ?_ | exact HSub.nil _)) ?_
          have c0 : (!withinB x n k) = false := c0
          have c1 : (decide (x.op = 72) && !helpB x.imm) = false := c1
          have c2 : (decide (x.op = 72) && decide (x.imm = 16) && !sleeps) = false := c2
          have c3 : (decide ((k : Int) = (n : Int) - 1) && decide (x.op ≠ 73) && decide (x.op ≠ 32)) = false := c3
          exact ⟨by unfold wrongE; rw [if_neg (by rw [c0]; simp), if_neg (by rw [c1]; simp), if_neg (by rw [c2]; simp), if_neg (by rw [c3]; simp)], rfl⟩

def rmost (x : Ins) : Int := bif decide (x.op = 66) || decide (x.op = 67) then 3 else 7
def rwrongE (x : Ins) (n k : Nat) (sleeps : Bool) : Int :=
  if (decide (cls x.op = 3) && (decide (x.off < 0) || decide (rmost x < x.off))) = true then 2 else if (decide (cls x.op = 2) && (decide (toV x k < 0) || decide ((n : Int) ≤ toV x k))) = true then 2
  else if (decide (x.op = 72) && !helpB x.imm) = true then 4 else if (decide (x.op = 72) && decide (x.imm = 16) && !sleeps) = true then 17
  else if (decide ((k : Int) = (n : Int) - 1) && decide (x.op ≠ 73) && decide (x.op ≠ 32)) = true then 10 else 0
set_option maxHeartbeats 1000000 in
theorem rwrong_q {w0 : World} {H : Heap} {x : Ins} {n k : Nat} {l : List Ins} {ad : Option Addr} {cap : Nat} {sleeps : Bool} (hnl : l.length = n) (hn : n ≤ 1000000) (hk : k < n) (hx : l[k]? = some x) (hxo : x.Ok) (hrow : Holds w0 H ad (insRow l)) (hT : Tab w0) : PureAt Tryd.prog w0 H 47 [.slice ad n cap, .bool sleeps, .int .i64 (k : Int)] (.int .i64 (rwrongE x n k sleeps)) := by
  have hx' := hx
  obtain ⟨b, o, rfl, hc⟩ := hrow.row cells_len (by decide) hx
  refine L_enter Tryd.func47 rfl Tryd.ntmps47 rfl rfl ?_
  refine W_sr ?_
  refine W_assign rfl rfl ?_
  refine W_nil ?_
  refine W_sr ?_
  refine W_move rfl rfl ?_
  refine W_move rfl rfl ?_
  refine W_indexAddr (j := k) rfl rfl ty43 ty59 rfl hk rfl rfl ?_
  refine W_loadA rfl ty59 rfl (vs := [.int .i64 x.op, .int .i64 x.dst, .int .i64 x.src, .int .i64 x.off, .int .i64 x.imm]) rfl (hc.up (by repeat (first | exact HSub.refl _ | refine HSub.cons (by repeat (first | exact Take.here _ | apply Take.next | apply Take.app)) ?_ | refine HSub.app (by repeat (first | exact TakeS.here _ | apply TakeS.next | apply TakeS.app)) ?_ | refine HSub.drop ?_ | refine HSub.dropS ?_ | exact HSub.nil _))) rfl ?_
  refine W_alloc ty59 rfl rfl (fun b7 => ?_)
  refine W_storeA rfl rfl ty59 rfl rfl (by repeat (first | exact List.mem_cons_self | apply List.mem_cons_of_mem | apply List.mem_append_right)) (Nat.le_of_ble_eq_true rfl) (by simp only [fillL, spliceL, Value.cells, List.take_zero, List.take_succ_cons, List.take_nil, List.drop_zero, List.drop_succ_cons, List.drop_nil, List.nil_append, List.cons_append, List.append_nil, List.length_cons, List.length_nil, Nat.zero_add, Nat.reduceAdd, List.toList_toArray]; rfl) (by repeat (first | exact Upd.head _ | apply Upd.tail | apply Upd.app)) ?_
  refine W_nil ?_
  refine W_sr ?_
  refine W_fieldAddr rfl fld59_0 (by decide) rfl ?_
  refine W_load rfl ty3 rfl (Cell.own (by repeat (first | exact List.mem_cons_self | apply List.mem_cons_of_mem | apply List.mem_append_right)) rfl) rfl ?_
  refine W_callp (.cons rfl .nil) Tryd.call41 rfl hT (kindp _) ?_
  refine W_move rfl rfl ?_
  refine W_extract rfl rfl rfl ?_
  refine W_extract rfl rfl rfl ?_
  refine W_extract rfl rfl rfl ?_
  refine W_assign rfl rfl ?_
  refine W_assign rfl rfl ?_
  refine W_assign rfl rfl ?_
  refine W_nil ?_
  refine W_sr ?_
  refine W_assign rfl rfl ?_
  refine W_nil ?_
  refine W_seq ?_
  refine W_sr ?_
  refine W_fieldAddr rfl fld59_0 (by decide) rfl ?_
  refine W_load rfl ty3 rfl (Cell.own (by repeat (first | exact List.mem_cons_self | apply List.mem_cons_of_mem | apply List.mem_append_right)) rfl) rfl ?_
  refine W_bin rfl rfl b_eql rfl ?_
  refine W_move rfl rfl ?_
  apply W_or
  iterate 4 exact rfl
  case h1 =>
    intro hg3
    refine W_gyes rfl rfl ?_
    refine W_fieldAddr rfl fld59_0 (by decide) rfl ?_
    refine W_gyes rfl rfl ?_
    refine W_load rfl ty3 rfl (Cell.own (by repeat (first | exact List.mem_cons_self | apply List.mem_cons_of_mem | apply List.mem_append_right)) rfl) rfl ?_
    refine W_gyes rfl rfl ?_
    refine W_bin rfl rfl b_eql rfl ?_
    exact W_met rfl (by repeat (first | exact .refl | refine .cons rfl ?_))
  refine W_nil ?_
  refine W_condJ [(0, .slice (some ⟨b, o, none⟩) n cap), (1, .bool sleeps), (2, .int .i64 (k : Int)), (7, .pointer (some ⟨b7, 0, none⟩)), (10, .int .i64 (cls x.op)), (11, .int .i64 (rmost x))] ((b7, .cells 59 5 [.int .i64 x.op, .int .i64 x.dst, .int .i64 x.src, .int .i64 x.off, .int .i64 x.imm]) :: H) rfl .rfl (fun c0 => ?_) (fun c0 => ?_) ?_
  · skip
    refine W_region ?_
    refine W_assign rfl rfl ?_
    refine W_nil ?_
    refine W_joined (sub_cons rfl (sub_cons rfl (sub_cons rfl (sub_cons rfl (sub_cons rfl (sub_cons (by have c0 : (decide (x.op = 66) || decide (x.op = 67)) = true := c0; unfold rmost; rw [c0]; rfl) (sub_nil _))))))) (by repeat (first | exact HSub.refl _ | refine HSub.cons (by repeat (first | exact Take.here _ | apply Take.next | apply Take.app)) ?_ | refine HSub.app (by repeat (first | exact TakeS.here _ | apply TakeS.next | apply TakeS.app)) ?_ | refine HSub.drop ?_ | refine HSub.dropS ?_ | exact HSub.nil _))
  · skip
    refine W_skip ?_
    refine W_joined (sub_cons rfl (sub_cons rfl (sub_cons rfl (sub_cons rfl (sub_cons rfl (sub_cons (by have c0 : (decide (x.op = 66) || decide (x.op = 67)) = false := (by simpa using c0); unfold rmost; rw [c0]; rfl) (sub_nil _))))))) (by repeat (first | exact HSub.refl _ | refine HSub.cons (by repeat (first | exact Take.here _ | apply Take.next | apply Take.app)) ?_ | refine HSub.app (by repeat (first | exact TakeS.here _ | apply TakeS.next | apply TakeS.app)) ?_ | refine HSub.drop ?_ | refine HSub.dropS ?_ | exact HSub.nil _))
  skip
  refine W_seq ?_
  refine W_sr ?_
  refine W_move rfl rfl ?_
  refine W_bin rfl rfl b_eql rfl ?_
  refine W_move rfl rfl ?_
  apply W_and
  iterate 4 exact rfl
  case h1 =>
    intro hg2
    refine W_gyes rfl rfl ?_
    refine W_fieldAddr rfl fld59_3 (by decide) rfl ?_
    refine W_gyes rfl rfl ?_
    refine W_load rfl ty3 rfl (Cell.own (by repeat (first | exact List.mem_cons_self | apply List.mem_cons_of_mem | apply List.mem_append_right)) rfl) rfl ?_
    refine W_gyes rfl rfl ?_
    refine W_bin rfl rfl b_lss rfl ?_
    refine W_gyes rfl rfl ?_
    refine W_move rfl rfl ?_
    apply W_or
    iterate 4 exact rfl
    case h1 =>
      intro hg6
      refine W_gyes rfl rfl ?_
      refine W_fieldAddr rfl fld59_3 (by decide) rfl ?_
      refine W_gyes rfl rfl ?_
      refine W_load rfl ty3 rfl (Cell.own (by repeat (first | exact List.mem_cons_self | apply List.mem_cons_of_mem | apply List.mem_append_right)) rfl) rfl ?_
      refine W_gyes rfl rfl ?_
      refine W_move rfl rfl ?_
      refine W_gyes rfl rfl ?_
      refine W_bin rfl rfl b_gtr rfl ?_
      exact W_met rfl (by repeat (first | exact .refl | refine .cons rfl ?_))
    exact W_met rfl (by repeat (first | exact .refl | refine .cons rfl ?_))
  refine W_nil ?_
  refine W_condS rfl (fun c1 => ?_) (fun c1 => ?_)
  · skip
    refine W_sr ?_
    refine W_assign rfl rfl ?_
    refine W_nil ?_
    refine W_ret1m (H2 := H) Tryd.results47 rfl (.nil _) (by repeat (first | exact HSub.refl _ | refine HSub.cons (by repeat (first | exact Take.here _ | apply Take.next | apply Take.app)) ?_ | refine HSub.app (by repeat (first | exact TakeS.here _ | apply TakeS.next | apply TakeS.app)) ?_ | refine HSub.drop ?_ | refine HSub.dropS ?_ | exact HSub.nil _)) ?_
    have c1 : (decide (cls x.op = 3) && (decide (x.off < 0) || decide (rmost x < x.off))) = true := c1
    exact ⟨by unfold rwrongE; rw [if_pos c1], rfl⟩
  · skip
    refine W_skip ?_
    refine W_seq ?_
    refine W_sr ?_
    refine W_move rfl rfl ?_
    refine W_bin rfl rfl b_eql rfl ?_
    refine W_move rfl rfl ?_
    apply W_and
    iterate 4 exact rfl
    case h1 =>
      intro hg2
      refine W_gyes rfl rfl ?_
      refine W_move rfl rfl ?_
      refine W_gyes rfl rfl ?_
      refine W_bin rfl rfl (b_add rfl) rfl ?_
      refine W_gyes rfl rfl ?_
      refine W_fieldAddr rfl fld59_3 (by decide) rfl ?_
      refine W_gyes rfl rfl ?_
      refine W_load rfl ty3 rfl (Cell.own (by repeat (first | exact List.mem_cons_self | apply List.mem_cons_of_mem | apply List.mem_append_right)) rfl) rfl ?_
      refine W_gyes rfl rfl ?_
      refine W_bin rfl rfl (b_add rfl) rfl ?_
      refine W_gyes rfl rfl ?_
      refine W_bin rfl rfl b_lss rfl ?_
      refine W_gyes rfl rfl ?_
      refine W_move rfl rfl ?_
      apply W_or
      iterate 4 exact rfl
      case h1 =>
        intro hg9
        refine W_gyes rfl rfl ?_
        refine W_move rfl rfl ?_
        refine W_gyes rfl rfl ?_
        refine W_bin rfl rfl (b_add rfl) rfl ?_
        refine W_gyes rfl rfl ?_
        refine W_fieldAddr rfl fld59_3 (by decide) rfl ?_
        refine W_gyes rfl rfl ?_
        refine W_load rfl ty3 rfl (Cell.own (by repeat (first | exact List.mem_cons_self | apply List.mem_cons_of_mem | apply List.mem_append_right)) rfl) rfl ?_
        refine W_gyes rfl rfl ?_
        refine W_bin rfl rfl (b_add rfl) rfl ?_
        refine W_gyes rfl rfl ?_
        refine W_move rfl rfl ?_
        refine W_gyes rfl rfl ?_
        refine W_len rfl ty43 rfl rfl ?_
        refine W_gyes rfl rfl ?_
        refine W_bin rfl rfl b_geq rfl ?_
        exact W_met rfl (by repeat (first | exact .refl | refine .cons rfl ?_))
      exact W_met rfl (by repeat (first | exact .refl | refine .cons rfl ?_))
    refine W_nil ?_
    refine W_condS rfl (fun c2 => ?_) (fun c2 => ?_)
    · skip
      refine W_sr ?_
      refine W_assign rfl rfl ?_
      refine W_nil ?_
      refine W_ret1m (H2 := H) Tryd.results47 rfl (.nil _) (by repeat (first | exact HSub.refl _ | refine HSub.cons (by repeat (first | exact Take.here _ | apply Take.next | apply Take.app)) ?_ | refine HSub.app (by repeat (first | exact TakeS.here _ | apply TakeS.next | apply TakeS.app)) ?_ | refine HSub.drop ?_ | refine HSub.dropS ?_ | exact HSub.nil _)) ?_
      have c1 : (decide (cls x.op = 3) && (decide (x.off < 0) || decide (rmost x < x.off))) = false := c1
      have c2 : (decide (cls x.op = 2) && (decide (toV x k < 0) || decide ((n : Int) ≤ toV x k))) = true := c2
      exact ⟨by unfold rwrongE; rw [if_neg (by rw [c1]; simp), if_pos c2], rfl⟩
    · skip
      refine W_skip ?_
      refine W_sr ?_
      refine W_fieldAddr rfl fld59_4 (by decide) rfl ?_
      refine W_load rfl ty3 rfl (Cell.own (by repeat (first | exact List.mem_cons_self | apply List.mem_cons_of_mem | apply List.mem_append_right)) rfl) rfl ?_
      refine W_callp (.cons rfl .nil) Tryd.call22 rfl hT (refHelper_pure _ hxo.imm) ?_
      refine W_move rfl rfl ?_
      refine W_extract rfl rfl rfl ?_
      refine W_extract rfl rfl rfl ?_
      refine W_extract rfl rfl rfl ?_
      refine W_assign rfl rfl ?_
      refine W_assign rfl rfl ?_
      refine W_assign rfl rfl ?_
      refine W_nil ?_
      refine W_seq ?_
      refine W_sr ?_
      refine W_fieldAddr rfl fld59_0 (by decide) rfl ?_
      refine W_load rfl ty3 rfl (Cell.own (by repeat (first | exact List.mem_cons_self | apply List.mem_cons_of_mem | apply List.mem_append_right)) rfl) rfl ?_
      refine W_bin rfl rfl b_eql rfl ?_
      refine W_move rfl rfl ?_
      apply W_and
      iterate 4 exact rfl
      case h1 =>
        intro hg3
        refine W_gyes rfl rfl ?_
        refine W_move rfl rfl ?_
        refine W_gyes rfl rfl ?_
        refine W_not rfl rfl ?_
        exact W_met rfl (by repeat (first | exact .refl | refine .cons rfl ?_))
      refine W_nil ?_
      refine W_condS rfl (fun c3 => ?_) (fun c3 => ?_)
      · skip
        refine W_sr ?_
        refine W_assign rfl rfl ?_
        refine W_nil ?_
        refine W_ret1m (H2 := H) Tryd.results47 rfl (.nil _) (by repeat (first | exact HSub.refl _ | refine HSub.cons (by repeat (first | exact Take.here _ | apply Take.next | apply Take.app)) ?_ | refine HSub.app (by repeat (first | exact TakeS.here _ | apply TakeS.next | apply TakeS.app)) ?_ | refine HSub.drop ?_ | refine HSub.dropS ?_ | exact HSub.nil _)) ?_
        have c1 : (decide (cls x.op = 3) && (decide (x.off < 0) || decide (rmost x < x.off))) = false := c1
        have c2 : (decide (cls x.op = 2) && (decide (toV x k < 0) || decide ((n : Int) ≤ toV x k))) = false := c2
        have c3 : (decide (x.op = 72) && !helpB x.imm) = true := c3
        exact ⟨by unfold rwrongE; rw [if_neg (by rw [c1]; simp), if_neg (by rw [c2]; simp), if_pos c3], rfl⟩
      · skip
        refine W_skip ?_
        refine W_seq ?_
        refine W_sr ?_
        refine W_fieldAddr rfl fld59_0 (by decide) rfl ?_
        refine W_load rfl ty3 rfl (Cell.own (by repeat (first | exact List.mem_cons_self | apply List.mem_cons_of_mem | apply List.mem_append_right)) rfl) rfl ?_
        refine W_bin rfl rfl b_eql rfl ?_
        refine W_move rfl rfl ?_
        apply W_and
        iterate 4 exact rfl
        case h1 =>
          intro hg3
          refine W_gyes rfl rfl ?_
          refine W_fieldAddr rfl fld59_4 (by decide) rfl ?_
          refine W_gyes rfl rfl ?_
          refine W_load rfl ty3 rfl (Cell.own (by repeat (first | exact List.mem_cons_self | apply List.mem_cons_of_mem | apply List.mem_append_right)) rfl) rfl ?_
          refine W_gyes rfl rfl ?_
          refine W_bin rfl rfl b_eql rfl ?_
          exact W_met rfl (by repeat (first | exact .refl | refine .cons rfl ?_))
        refine W_move rfl rfl ?_
        apply W_and
        iterate 4 exact rfl
        case h1 =>
          intro hg8
          refine W_gyes rfl rfl ?_
          refine W_move rfl rfl ?_
          refine W_gyes rfl rfl ?_
          refine W_not rfl rfl ?_
          exact W_met rfl (by repeat (first | exact .refl | refine .cons rfl ?_))
        refine W_nil ?_
        refine W_condS rfl (fun c4 => ?_) (fun c4 => ?_)
        · skip
          refine W_sr ?_
          refine W_assign rfl rfl ?_
          refine W_nil ?_
          refine W_ret1m (H2 := H) Tryd.results47 rfl (.nil _) (by repeat (first | exact HSub.refl _ | refine HSub.cons (by repeat (first | exact Take.here _ | apply Take.next | apply Take.app)) ?_ | refine HSub.app (by repeat (first | exact TakeS.here _ | apply TakeS.next | apply TakeS.app)) ?_ | refine HSub.drop ?_ | refine HSub.dropS ?_ | exact HSub.nil _)) ?_
          have c1 : (decide (cls x.op = 3) && (decide (x.off < 0) || decide (rmost x < x.off))) = false := c1
          have c2 : (decide (cls x.op = 2) && (decide (toV x k < 0) || decide ((n : Int) ≤ toV x k))) = false := c2
          have c3 : (decide (x.op = 72) && !helpB x.imm) = false := c3
          have c4 : (decide (x.op = 72) && decide (x.imm = 16) && !sleeps) = true := c4
          exact ⟨by unfold rwrongE; rw [if_neg (by rw [c1]; simp), if_neg (by rw [c2]; simp), if_neg (by rw [c3]; simp), if_pos c4], rfl⟩
        · skip
          refine W_skip ?_
          refine W_seq ?_
          refine W_sr ?_
          refine W_move rfl rfl ?_
          refine W_move rfl rfl ?_
          refine W_len rfl ty43 rfl rfl ?_
          refine W_bin rfl rfl (b_sub (m := (n : Int) - 1) (i64w (by omega))) rfl ?_
          refine W_bin rfl rfl b_eql rfl ?_
          refine W_move rfl rfl ?_
          apply W_and
          iterate 4 exact rfl
          case h1 =>
            intro hg5
            refine W_gyes rfl rfl ?_
            refine W_fieldAddr rfl fld59_0 (by decide) rfl ?_
            refine W_gyes rfl rfl ?_
            refine W_load rfl ty3 rfl (Cell.own (by repeat (first | exact List.mem_cons_self | apply List.mem_cons_of_mem | apply List.mem_append_right)) rfl) rfl ?_
            refine W_gyes rfl rfl ?_
            refine W_bin rfl rfl b_neq rfl ?_
            exact W_met rfl (by repeat (first | exact .refl | refine .cons rfl ?_))
          refine W_move rfl rfl ?_
          apply W_and
          iterate 4 exact rfl
          case h1 =>
            intro hg10
            refine W_gyes rfl rfl ?_
            refine W_fieldAddr rfl fld59_0 (by decide) rfl ?_
            refine W_gyes rfl rfl ?_
            refine W_load rfl ty3 rfl (Cell.own (by repeat (first | exact List.mem_cons_self | apply List.mem_cons_of_mem | apply List.mem_append_right)) rfl) rfl ?_
            refine W_gyes rfl rfl ?_
            refine W_bin rfl rfl b_neq rfl ?_
            exact W_met rfl (by repeat (first | exact .refl | refine .cons rfl ?_))
          refine W_nil ?_
          refine W_condS rfl (fun c5 => ?_) (fun c5 => ?_)
          · skip
            refine W_sr ?_
            refine W_assign rfl rfl ?_
            refine W_nil ?_
            refine W_ret1m (H2 := H) Tryd.results47 rfl (.nil _) (by repeat (first | exact HSub.refl _ | refine HSub.cons (by repeat (first | exact Take.here _ | apply Take.next | apply Take.app)) ?_ | refine HSub.app (by repeat (first | exact TakeS.here _ | apply TakeS.next | apply TakeS.app)) ?_ | refine HSub.drop ?_ | refine HSub.dropS ?_ | exact HSub.nil _)) ?_
            have c1 : (decide (cls x.op = 3) && (decide (x.off < 0) || decide (rmost x < x.off))) = false := c1
            have c2 : (decide (cls x.op = 2) && (decide (toV x k < 0) || decide ((n : Int) ≤ toV x k))) = false := c2
            have c3 : (decide (x.op = 72) && !helpB x.imm) = false := c3
            have c4 : (decide (x.op = 72) && decide (x.imm = 16) && !sleeps) = false := c4
            have c5 : (decide ((k : Int) = (n : Int) - 1) && decide (x.op ≠ 73) && decide (x.op ≠ 32)) = true := c5
            exact ⟨by unfold rwrongE; rw [if_neg (by rw [c1]; simp), if_neg (by rw [c2]; simp), if_neg (by rw [c3]; simp), if_neg (by rw [c4]; simp), if_pos c5], rfl⟩
          · skip
            refine W_skip ?_
            refine W_sr ?_
            refine W_assign rfl rfl ?_
            refine W_nil ?_
            refine W_ret1m (H2 := H) Tryd.results47 rfl (.nil _) (by repeat (first | exact HSub.refl _ | refine HSub.cons (by repeat (first | exact Take.here _ | apply Take.next | apply Take.app)) ?_ | refine HSub.app (by repeat (first | exact TakeS.here _ | apply TakeS.next | apply TakeS.app)) ?_ | refine HSub.drop ?_ | refine HSub.dropS ?_ | exact HSub.nil _)) ?_
            have c1 : (decide (cls x.op = 3) && (decide (x.off < 0) || decide (rmost x < x.off))) = false := c1
            have c2 : (decide (cls x.op = 2) && (decide (toV x k < 0) || decide ((n : Int) ≤ toV x k))) = false := c2
            have c3 : (decide (x.op = 72) && !helpB x.imm) = false := c3
            have c4 : (decide (x.op = 72) && decide (x.imm = 16) && !sleeps) = false := c4
            have c5 : (decide ((k : Int) = (n : Int) - 1) && decide (x.op ≠ 73) && decide (x.op ≠ 32)) = false := c5
            exact ⟨by unfold rwrongE; rw [if_neg (by rw [c1]; simp), if_neg (by rw [c2]; simp), if_neg (by rw [c3]; simp), if_neg (by rw [c4]; simp), if_neg (by rw [c5]; simp)], rfl⟩

theorem wrong_eq (x : Ins) (n k : Nat) (s : Bool) : wrongE x n k s = rwrongE x n k s := by
  have h3 := cls3 (op := x.op)
  have h2 := cls2 (op := x.op)
  unfold wrongE rwrongE
  have e : (!withinB x n k) = ((decide (cls x.op = 3) && (decide (x.off < 0) || decide (rmost x < x.off))) || (decide (cls x.op = 2) && (decide (toV x k < 0) || decide ((n : Int) ≤ toV x k)))) := by
    rw [Bool.eq_iff_iff]
    unfold withinB rmost
    by_cases hA : x.op = 64 ∨ x.op = 65
    · have hn : (decide (x.op = 66) || decide (x.op = 67)) = false := by simp; omega
      rw [if_pos hA, hn]
      simp only [cond_false, Bool.not_eq_true', Bool.and_eq_false_iff, decide_eq_false_iff_not, Bool.or_eq_true, Bool.and_eq_true, decide_eq_true_eq]
      omega
    · by_cases hB : x.op = 66 ∨ x.op = 67
      · have hn : (decide (x.op = 66) || decide (x.op = 67)) = true := by simpa using hB
        rw [if_neg hA, if_pos hB, hn]
        simp only [cond_true, Bool.not_eq_true', Bool.and_eq_false_iff, decide_eq_false_iff_not, Bool.or_eq_true, Bool.and_eq_true, decide_eq_true_eq]
        omega
      · rw [if_neg hA, if_neg hB]
        simp only [Bool.not_eq_true', Bool.or_eq_false_iff, Bool.and_eq_false_iff, decide_eq_false_iff_not, Bool.or_eq_true, Bool.and_eq_true, decide_eq_true_eq, ne_eq, Decidable.not_not]
        omega
  rw [e]
  cases (decide (cls x.op = 3) && (decide (x.off < 0) || decide (rmost x < x.off))) <;> cases (decide (cls x.op = 2) && (decide (toV x k < 0) || decide ((n : Int) ≤ toV x k))) <;> simp
end Go.Proofs.YtpfoecmianohjaaDoor
