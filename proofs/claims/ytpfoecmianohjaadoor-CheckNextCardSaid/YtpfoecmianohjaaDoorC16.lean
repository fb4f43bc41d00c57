/-
  Own work: contracts of functions that the statement reaches, and plain facts on what they compute; each theorem says its conditions.
-/
import Derived.Test.YtpfoecmianohjaaDoorC15
set_option linter.all false
set_option linter.unusedSimpArgs false
set_option linter.unusedVariables false
namespace Go.Proofs.YtpfoecmianohjaaDoor
open Go Go.Sl
attribute [local irreducible] W

def okI (m : Int) : Bool := decide (-9223372036854775808 ≤ m) && decide (m ≤ 9223372036854775807)
def okX (x : Ins) : Bool := okI x.op && okI x.dst && okI x.src && okI x.off && okI x.imm
theorem okI_of {m : Int} (h : okI m = true) : I64 m := by unfold okI at h; simpa using h
theorem insOk_of {l : List Ins} (h : l.all okX = true) : InsOk l := fun x hx => by
  have := List.all_eq_true.1 h x hx
  unfold okX at this
  simp only [Bool.and_eq_true] at this
  obtain ⟨⟨⟨⟨h1, h2⟩, h3⟩, h4⟩, h5⟩ := this
  exact ⟨okI_of h1, okI_of h2, okI_of h3, okI_of h4, okI_of h5⟩
def s1 : List Ins := [⟨11, 0, 0, 0, 7⟩, ⟨73, 0, 0, 0, 0⟩]
theorem s1_r : chkR s1 false = (0, 0) := by decide +kernel
theorem s1_ok : InsOk s1 := insOk_of (by decide +kernel)
theorem s1_q {w0 : World} {H : Heap} {b tot : Nat} (hm : (b, Blk.cells 67 tot (insRow s1)) ∈ H) (hT : Tab w0) : PureAt Tryd.prog w0 H 25 [.agg #[.slice (some ⟨b, 0, none⟩) 2 2, .bool false]] (.tuple #[.int .i64 0, .int .i64 0]) := by
  have h := check_q (l := s1) (s := false) (cap := 2) s1_ok (by decide) (by decide) (Holds.own hm) hT
  rw [s1_r] at h
  exact h
def s2 : List Ins := [⟨73, 0, 0, 0, 0⟩, ⟨73, 0, 0, 0, 0⟩]
theorem s2_r : chkR s2 false = (1, 19) := by decide +kernel
theorem s2_ok : InsOk s2 := insOk_of (by decide +kernel)
theorem s2_q {w0 : World} {H : Heap} {b tot : Nat} (hm : (b, Blk.cells 67 tot (insRow s2)) ∈ H) (hT : Tab w0) : PureAt Tryd.prog w0 H 25 [.agg #[.slice (some ⟨b, 0, none⟩) 2 2, .bool false]] (.tuple #[.int .i64 1, .int .i64 19]) := by
  have h := check_q (l := s2) (s := false) (cap := 2) s2_ok (by decide) (by decide) (Holds.own hm) hT
  rw [s2_r] at h
  exact h
def s3 : List Ins := [⟨32, 0, 0, 0, 0⟩]
theorem s3_r : chkR s3 false = (0, 2) := by decide +kernel
theorem s3_ok : InsOk s3 := insOk_of (by decide +kernel)
theorem s3_q {w0 : World} {H : Heap} {b tot : Nat} (hm : (b, Blk.cells 67 tot (insRow s3)) ∈ H) (hT : Tab w0) : PureAt Tryd.prog w0 H 25 [.agg #[.slice (some ⟨b, 0, none⟩) 1 1, .bool false]] (.tuple #[.int .i64 0, .int .i64 2]) := by
  have h := check_q (l := s3) (s := false) (cap := 1) s3_ok (by decide) (by decide) (Holds.own hm) hT
  rw [s3_r] at h
  exact h
def s4 : List Ins := [⟨32, 0, 0, -1, 0⟩]
theorem s4_r : chkR s4 false = (0, 0) := by decide +kernel
theorem s4_ok : InsOk s4 := insOk_of (by decide +kernel)
theorem s4_q {w0 : World} {H : Heap} {b tot : Nat} (hm : (b, Blk.cells 67 tot (insRow s4)) ∈ H) (hT : Tab w0) : PureAt Tryd.prog w0 H 25 [.agg #[.slice (some ⟨b, 0, none⟩) 1 1, .bool false]] (.tuple #[.int .i64 0, .int .i64 0]) := by
  have h := check_q (l := s4) (s := false) (cap := 1) s4_ok (by decide) (by decide) (Holds.own hm) hT
  rw [s4_r] at h
  exact h
def s5 : List Ins := [⟨33, 1, 0, -1, 0⟩]
theorem s5_r : chkR s5 false = (0, 10) := by decide +kernel
theorem s5_ok : InsOk s5 := insOk_of (by decide +kernel)
theorem s5_q {w0 : World} {H : Heap} {b tot : Nat} (hm : (b, Blk.cells 67 tot (insRow s5)) ∈ H) (hT : Tab w0) : PureAt Tryd.prog w0 H 25 [.agg #[.slice (some ⟨b, 0, none⟩) 1 1, .bool false]] (.tuple #[.int .i64 0, .int .i64 10]) := by
  have h := check_q (l := s5) (s := false) (cap := 1) s5_ok (by decide) (by decide) (Holds.own hm) hT
  rw [s5_r] at h
  exact h
set_option maxHeartbeats 1000000 in
theorem known17_pure  : Pure Tryd.prog Tab 23 [] (.bool true) := by
  intro w0 H hT
  refine L_enter Tryd.func23 rfl Tryd.ntmps23 rfl rfl ?_
  refine W_sr ?_
  refine W_assign rfl rfl ?_
  refine W_nil ?_
  refine W_sr ?_
  refine W_build ty67 pl67 (.cons rfl rfl rfl rfl rfl (.cons rfl rfl rfl rfl rfl .nil)) rfl (by simp only [fillL, spliceL, Value.cells, List.take_zero, List.take_succ_cons, List.take_nil, List.drop_zero, List.drop_succ_cons, List.drop_nil, List.nil_append, List.cons_append, List.append_nil, List.length_cons, List.length_nil, Nat.zero_add, Nat.reduceAdd, List.toList_toArray]; rfl) rfl ?_
  refine W_build ty67 pl67 (.cons rfl rfl rfl rfl rfl .nil) rfl (by simp only [fillL, spliceL, Value.cells, List.take_zero, List.take_succ_cons, List.take_nil, List.drop_zero, List.drop_succ_cons, List.drop_nil, List.nil_append, List.cons_append, List.append_nil, List.length_cons, List.length_nil, Nat.zero_add, Nat.reduceAdd, List.toList_toArray]; rfl) rfl ?_
  refine W_alloc ty67 rfl rfl (fun b1 => ?_)
  refine W_alloc ty67 rfl rfl (fun b2 => ?_)
  refine W_storeA rfl rfl ty67 rfl rfl (by repeat (first | exact List.mem_cons_self | apply List.mem_cons_of_mem | apply List.mem_append_right)) (Nat.le_of_ble_eq_true rfl) (by simp only [fillL, spliceL, Value.cells, List.take_zero, List.take_succ_cons, List.take_nil, List.drop_zero, List.drop_succ_cons, List.drop_nil, List.nil_append, List.cons_append, List.append_nil, List.length_cons, List.length_nil, Nat.zero_add, Nat.reduceAdd, List.toList_toArray]; rfl) (by repeat (first | exact Upd.head _ | apply Upd.tail | apply Upd.app)) ?_
  refine W_storeA rfl rfl ty67 rfl rfl (by repeat (first | exact List.mem_cons_self | apply List.mem_cons_of_mem | apply List.mem_append_right)) (Nat.le_of_ble_eq_true rfl) (by simp only [fillL, spliceL, Value.cells, List.take_zero, List.take_succ_cons, List.take_nil, List.drop_zero, List.drop_succ_cons, List.drop_nil, List.nil_append, List.cons_append, List.append_nil, List.length_cons, List.length_nil, Nat.zero_add, Nat.reduceAdd, List.toList_toArray]; rfl) (by repeat (first | exact Upd.head _ | apply Upd.tail | apply Upd.app)) ?_
  refine W_nil ?_
  refine W_sr ?_
  refine W_loadB rfl ty67 rfl (by repeat (first | exact List.mem_cons_self | apply List.mem_cons_of_mem | apply List.mem_append_right)) rfl (by simp only [fillL, spliceL, Value.cells, List.take_zero, List.take_succ_cons, List.take_nil, List.drop_zero, List.drop_succ_cons, List.drop_nil, List.nil_append, List.cons_append, List.append_nil, List.length_cons, List.length_nil, Nat.zero_add, Nat.reduceAdd, List.toList_toArray]; rfl) rfl ?_
  refine W_loadB rfl ty67 rfl (by repeat (first | exact List.mem_cons_self | apply List.mem_cons_of_mem | apply List.mem_append_right)) rfl (by simp only [fillL, spliceL, Value.cells, List.take_zero, List.take_succ_cons, List.take_nil, List.drop_zero, List.drop_succ_cons, List.drop_nil, List.nil_append, List.cons_append, List.append_nil, List.length_cons, List.length_nil, Nat.zero_add, Nat.reduceAdd, List.toList_toArray]; rfl) rfl ?_
  refine W_buildSlice (l := insRow s1) ty48 ty67 (.cons rfl rfl rfl rfl rfl (.cons rfl rfl rfl rfl rfl .nil)) rfl rfl rfl rfl rfl rfl rfl (fun b18 => ?_)
  refine W_build ty51 pl51 (.cons rfl rfl rfl rfl rfl .nil) rfl (by simp only [fillL, spliceL, Value.cells, List.take_zero, List.take_succ_cons, List.take_nil, List.drop_zero, List.drop_succ_cons, List.drop_nil, List.nil_append, List.cons_append, List.append_nil, List.length_cons, List.length_nil, Nat.zero_add, Nat.reduceAdd, List.toList_toArray]; rfl) rfl ?_
  refine W_callq (.cons rfl .nil) Tryd.call25 rfl (s1_q (by repeat (first | exact List.mem_cons_self | apply List.mem_cons_of_mem | apply List.mem_append_right)) hT) ?_
  refine W_move rfl rfl ?_
  refine W_extract rfl rfl rfl ?_
  refine W_extract rfl rfl rfl ?_
  refine W_assign rfl rfl ?_
  refine W_assign rfl rfl ?_
  refine W_nil ?_
  refine W_sr ?_
  refine W_loadB rfl ty67 rfl (by repeat (first | exact List.mem_cons_self | apply List.mem_cons_of_mem | apply List.mem_append_right)) rfl (by simp only [fillL, spliceL, Value.cells, List.take_zero, List.take_succ_cons, List.take_nil, List.drop_zero, List.drop_succ_cons, List.drop_nil, List.nil_append, List.cons_append, List.append_nil, List.length_cons, List.length_nil, Nat.zero_add, Nat.reduceAdd, List.toList_toArray]; rfl) rfl ?_
  refine W_loadB rfl ty67 rfl (by repeat (first | exact List.mem_cons_self | apply List.mem_cons_of_mem | apply List.mem_append_right)) rfl (by simp only [fillL, spliceL, Value.cells, List.take_zero, List.take_succ_cons, List.take_nil, List.drop_zero, List.drop_succ_cons, List.drop_nil, List.nil_append, List.cons_append, List.append_nil, List.length_cons, List.length_nil, Nat.zero_add, Nat.reduceAdd, List.toList_toArray]; rfl) rfl ?_
  refine W_buildSlice (l := insRow s2) ty48 ty67 (.cons rfl rfl rfl rfl rfl (.cons rfl rfl rfl rfl rfl .nil)) rfl rfl rfl rfl rfl rfl rfl (fun b26 => ?_)
  refine W_build ty51 pl51 (.cons rfl rfl rfl rfl rfl .nil) rfl (by simp only [fillL, spliceL, Value.cells, List.take_zero, List.take_succ_cons, List.take_nil, List.drop_zero, List.drop_succ_cons, List.drop_nil, List.nil_append, List.cons_append, List.append_nil, List.length_cons, List.length_nil, Nat.zero_add, Nat.reduceAdd, List.toList_toArray]; rfl) rfl ?_
  refine W_callq (.cons rfl .nil) Tryd.call25 rfl (s2_q (by repeat (first | exact List.mem_cons_self | apply List.mem_cons_of_mem | apply List.mem_append_right)) hT) ?_
  refine W_move rfl rfl ?_
  refine W_extract rfl rfl rfl ?_
  refine W_extract rfl rfl rfl ?_
  refine W_assign rfl rfl ?_
  refine W_assign rfl rfl ?_
  refine W_nil ?_
  refine W_sr ?_
  refine W_build ty67 pl67 (.cons rfl rfl rfl rfl rfl .nil) rfl (by simp only [fillL, spliceL, Value.cells, List.take_zero, List.take_succ_cons, List.take_nil, List.drop_zero, List.drop_succ_cons, List.drop_nil, List.nil_append, List.cons_append, List.append_nil, List.length_cons, List.length_nil, Nat.zero_add, Nat.reduceAdd, List.toList_toArray]; rfl) rfl ?_
  refine W_buildSlice (l := insRow s3) ty48 ty67 (.cons rfl rfl rfl rfl rfl .nil) rfl rfl rfl rfl rfl rfl rfl (fun b33 => ?_)
  refine W_build ty51 pl51 (.cons rfl rfl rfl rfl rfl .nil) rfl (by simp only [fillL, spliceL, Value.cells, List.take_zero, List.take_succ_cons, List.take_nil, List.drop_zero, List.drop_succ_cons, List.drop_nil, List.nil_append, List.cons_append, List.append_nil, List.length_cons, List.length_nil, Nat.zero_add, Nat.reduceAdd, List.toList_toArray]; rfl) rfl ?_
  refine W_callq (.cons rfl .nil) Tryd.call25 rfl (s3_q (by repeat (first | exact List.mem_cons_self | apply List.mem_cons_of_mem | apply List.mem_append_right)) hT) ?_
  refine W_move rfl rfl ?_
  refine W_extract rfl rfl rfl ?_
  refine W_extract rfl rfl rfl ?_
  refine W_assign rfl rfl ?_
  refine W_assign rfl rfl ?_
  refine W_nil ?_
  refine W_sr ?_
  refine W_build ty67 pl67 (.cons rfl rfl rfl rfl rfl (.cons rfl rfl rfl rfl rfl .nil)) rfl (by simp only [fillL, spliceL, Value.cells, List.take_zero, List.take_succ_cons, List.take_nil, List.drop_zero, List.drop_succ_cons, List.drop_nil, List.nil_append, List.cons_append, List.append_nil, List.length_cons, List.length_nil, Nat.zero_add, Nat.reduceAdd, List.toList_toArray]; rfl) rfl ?_
  refine W_buildSlice (l := insRow s4) ty48 ty67 (.cons rfl rfl rfl rfl rfl .nil) rfl rfl rfl rfl rfl rfl rfl (fun b40 => ?_)
  refine W_build ty51 pl51 (.cons rfl rfl rfl rfl rfl .nil) rfl (by simp only [fillL, spliceL, Value.cells, List.take_zero, List.take_succ_cons, List.take_nil, List.drop_zero, List.drop_succ_cons, List.drop_nil, List.nil_append, List.cons_append, List.append_nil, List.length_cons, List.length_nil, Nat.zero_add, Nat.reduceAdd, List.toList_toArray]; rfl) rfl ?_
  refine W_callq (.cons rfl .nil) Tryd.call25 rfl (s4_q (by repeat (first | exact List.mem_cons_self | apply List.mem_cons_of_mem | apply List.mem_append_right)) hT) ?_
  refine W_move rfl rfl ?_
  refine W_extract rfl rfl rfl ?_
  refine W_extract rfl rfl rfl ?_
  refine W_assign rfl rfl ?_
  refine W_assign rfl rfl ?_
  refine W_nil ?_
  refine W_sr ?_
  refine W_build ty67 pl67 (.cons rfl rfl rfl rfl rfl (.cons rfl rfl rfl rfl rfl (.cons rfl rfl rfl rfl rfl .nil))) rfl (by simp only [fillL, spliceL, Value.cells, List.take_zero, List.take_succ_cons, List.take_nil, List.drop_zero, List.drop_succ_cons, List.drop_nil, List.nil_append, List.cons_append, List.append_nil, List.length_cons, List.length_nil, Nat.zero_add, Nat.reduceAdd, List.toList_toArray]; rfl) rfl ?_
  refine W_buildSlice (l := insRow s5) ty48 ty67 (.cons rfl rfl rfl rfl rfl .nil) rfl rfl rfl rfl rfl rfl rfl (fun b47 => ?_)
  refine W_build ty51 pl51 (.cons rfl rfl rfl rfl rfl .nil) rfl (by simp only [fillL, spliceL, Value.cells, List.take_zero, List.take_succ_cons, List.take_nil, List.drop_zero, List.drop_succ_cons, List.drop_nil, List.nil_append, List.cons_append, List.append_nil, List.length_cons, List.length_nil, Nat.zero_add, Nat.reduceAdd, List.toList_toArray]; rfl) rfl ?_
  refine W_callq (.cons rfl .nil) Tryd.call25 rfl (s5_q (by repeat (first | exact List.mem_cons_self | apply List.mem_cons_of_mem | apply List.mem_append_right)) hT) ?_
  refine W_move rfl rfl ?_
  refine W_extract rfl rfl rfl ?_
  refine W_extract rfl rfl rfl ?_
  refine W_assign rfl rfl ?_
  refine W_assign rfl rfl ?_
  refine W_nil ?_
  refine W_sr ?_
  refine W_move rfl rfl ?_
  refine W_bin rfl rfl b_eql rfl ?_
  refine W_move rfl rfl ?_
  apply W_and
  iterate 4 exact rfl
  case h1 =>
    intro hg2
    refine W_gyes rfl rfl ?_
    refine W_move rfl rfl ?_
    refine W_gyes rfl rfl ?_
    refine W_bin rfl rfl b_eql rfl ?_
    exact W_met rfl (by repeat (first | exact .refl | refine .cons rfl ?_))
  refine W_move rfl rfl ?_
  apply W_and
  iterate 4 exact rfl
  case h1 =>
    intro hg6
    refine W_gyes rfl rfl ?_
    refine W_move rfl rfl ?_
    refine W_gyes rfl rfl ?_
    refine W_bin rfl rfl b_eql rfl ?_
    exact W_met rfl (by repeat (first | exact .refl | refine .cons rfl ?_))
  refine W_move rfl rfl ?_
  apply W_and
  iterate 4 exact rfl
  case h1 =>
    intro hg10
    refine W_gyes rfl rfl ?_
    refine W_move rfl rfl ?_
    refine W_gyes rfl rfl ?_
    refine W_bin rfl rfl b_eql rfl ?_
    exact W_met rfl (by repeat (first | exact .refl | refine .cons rfl ?_))
  refine W_move rfl rfl ?_
  apply W_and
  iterate 4 exact rfl
  case h1 =>
    intro hg14
    refine W_gyes rfl rfl ?_
    refine W_move rfl rfl ?_
    refine W_gyes rfl rfl ?_
    refine W_bin rfl rfl b_eql rfl ?_
    exact W_met rfl (by repeat (first | exact .refl | refine .cons rfl ?_))
  refine W_move rfl rfl ?_
  apply W_and
  iterate 4 exact rfl
  case h1 =>
    intro hg18
    refine W_gyes rfl rfl ?_
    refine W_move rfl rfl ?_
    refine W_gyes rfl rfl ?_
    refine W_bin rfl rfl b_eql rfl ?_
    exact W_met rfl (by repeat (first | exact .refl | refine .cons rfl ?_))
  refine W_assign rfl rfl ?_
  refine W_nil ?_
  refine W_ret1m (H2 := H) Tryd.results23 rfl (.nil _) (by repeat (first | exact HSub.refl _ | refine HSub.cons (by repeat (first | exact Take.here _ | apply Take.next | apply Take.app)) ?_ | refine HSub.app (by repeat (first | exact TakeS.here _ | apply TakeS.next | apply TakeS.app)) ?_ | refine HSub.drop ?_ | refine HSub.dropS ?_ | exact HSub.nil _)) ?_
  exact ⟨rfl, rfl⟩
set_option maxHeartbeats 1000000 in
theorem checkHelpers_pure {id : Int} (hid : I64 id) : Pure Tryd.prog Tab 9 [.int .i64 id] (.bool true) := by
  intro w0 H hT
  refine L_enter Tryd.func9 rfl Tryd.ntmps9 rfl rfl ?_
  refine W_sr ?_
  refine W_assign rfl rfl ?_
  refine W_nil ?_
  refine W_seq ?_
  refine W_sr ?_
  refine W_assign rfl rfl ?_
  refine W_nil ?_
  refine W_block ?_
  refine W_loopD (X := Nat) (fun i => [(0, .int .i64 id), (2, .bool false), (3, .int .i64 ((i : Int) - 2))]) (fun _ => []) (fun _ => H) (fun i => i ≤ 72) (fun i => 72 - i) 0 (by omega) (sub_cons rfl (sub_cons rfl (sub_cons rfl (sub_nil _)))) rfl (by repeat (first | exact HSub.refl _ | refine HSub.cons (by repeat (first | exact Take.here _ | apply Take.next | apply Take.app)) ?_ | refine HSub.app (by repeat (first | exact TakeS.here _ | apply TakeS.next | apply TakeS.app)) ?_ | refine HSub.drop ?_ | refine HSub.dropS ?_ | exact HSub.nil _)) ?_
  intro i hi
  refine W_seq ?_
  refine W_sr ?_
  refine W_move rfl rfl ?_
  refine W_bin rfl rfl b_lss rfl ?_
  refine W_nil ?_
  refine W_condPS (p := (i : Int) - 2 < 70) rfl (by simp) (fun c0 => ?_) (fun c0 => ?_)
  · skip
    refine W_skip ?_
    refine W_seq ?_
    refine W_block ?_
    refine W_sr ?_
    refine W_move rfl rfl ?_
    refine W_callp (.cons rfl .nil) Tryd.call21 rfl hT (helper_pure _ ⟨by omega, by omega⟩) ?_
    refine W_move rfl rfl ?_
    refine W_extract rfl rfl rfl ?_
    refine W_extract rfl rfl rfl ?_
    refine W_extract rfl rfl rfl ?_
    refine W_assign rfl rfl ?_
    refine W_assign rfl rfl ?_
    refine W_assign rfl rfl ?_
    refine W_nil ?_
    refine W_sr ?_
    refine W_move rfl rfl ?_
    refine W_callp (.cons rfl .nil) Tryd.call22 rfl hT (refHelper_pure _ ⟨by omega, by omega⟩) ?_
    refine W_move rfl rfl ?_
    refine W_extract rfl rfl rfl ?_
    refine W_extract rfl rfl rfl ?_
    refine W_extract rfl rfl rfl ?_
    refine W_assign rfl rfl ?_
    refine W_assign rfl rfl ?_
    refine W_assign rfl rfl ?_
    refine W_nil ?_
    refine W_sr ?_
    refine W_move rfl rfl ?_
    refine W_move rfl rfl ?_
    refine W_sne_s rfl rfl rfl ?_
    refine W_move rfl rfl ?_
    apply W_or
    iterate 4 exact rfl
    case h1 =>
      intro hg3
      refine W_gyes rfl rfl ?_
      refine W_move rfl rfl ?_
      refine W_gyes rfl rfl ?_
      refine W_move rfl rfl ?_
      refine W_gyes rfl rfl ?_
      refine W_bin rfl rfl b_neq rfl ?_
      exact W_met rfl (by repeat (first | exact .refl | refine .cons rfl ?_))
    refine W_move rfl rfl ?_
    apply W_or
    iterate 4 exact rfl
    case h1 =>
      intro hg8
      refine W_gyes rfl rfl ?_
      refine W_move rfl rfl ?_
      refine W_gyes rfl rfl ?_
      refine W_move rfl rfl ?_
      refine W_gyes rfl rfl ?_
      refine W_bne rfl rfl ty4 rfl ?_
      exact W_met rfl (by repeat (first | exact .refl | refine .cons rfl ?_))
    refine W_nil ?_
    refine W_condF rfl (by simp) ?_
    refine W_skip ?_
    refine W_blk ?_
    refine W_region ?_
    refine W_move rfl rfl ?_
    refine W_bin rfl rfl (b_add (m := ((i + 1 : Nat) : Int) - 2) ((i64w (by omega)).trans (by omega))) rfl ?_
    refine W_assign rfl rfl ?_
    refine W_nil ?_
    refine W_again (i + 1) (by omega) (by omega) (sub_cons rfl (sub_cons rfl (sub_cons rfl (sub_nil _)))) rfl (by repeat (first | exact HSub.refl _ | refine HSub.cons (by repeat (first | exact Take.here _ | apply Take.next | apply Take.app)) ?_ | refine HSub.app (by repeat (first | exact TakeS.here _ | apply TakeS.next | apply TakeS.app)) ?_ | refine HSub.drop ?_ | refine HSub.dropS ?_ | exact HSub.nil _))
  · skip
    refine W_exit rfl ?_
    refine W_sr ?_
    refine W_move rfl rfl ?_
    refine W_callp (.cons rfl .nil) Tryd.call21 rfl hT (helper_pure _ hid) ?_
    refine W_move rfl rfl ?_
    refine W_extract rfl rfl rfl ?_
    refine W_extract rfl rfl rfl ?_
    refine W_extract rfl rfl rfl ?_
    refine W_assign rfl rfl ?_
    refine W_assign rfl rfl ?_
    refine W_assign rfl rfl ?_
    refine W_nil ?_
    refine W_sr ?_
    refine W_move rfl rfl ?_
    refine W_callp (.cons rfl .nil) Tryd.call22 rfl hT (refHelper_pure _ hid) ?_
    refine W_move rfl rfl ?_
    refine W_extract rfl rfl rfl ?_
    refine W_extract rfl rfl rfl ?_
    refine W_extract rfl rfl rfl ?_
    refine W_assign rfl rfl ?_
    refine W_assign rfl rfl ?_
    refine W_assign rfl rfl ?_
    refine W_nil ?_
    refine W_sr ?_
    refine W_callp .nil Tryd.call23 rfl hT known17_pure ?_
    refine W_move rfl rfl ?_
    apply W_and
    iterate 4 exact rfl
    case h1 =>
      intro hg1
      refine W_gyes rfl rfl ?_
      refine W_move rfl rfl ?_
      refine W_gyes rfl rfl ?_
      refine W_move rfl rfl ?_
      refine W_gyes rfl rfl ?_
      refine W_seq_s rfl rfl rfl ?_
      exact W_met rfl (by repeat (first | exact .refl | refine .cons rfl ?_))
    refine W_move rfl rfl ?_
    apply W_and
    iterate 4 exact rfl
    case h1 =>
      intro hg6
      refine W_gyes rfl rfl ?_
      refine W_move rfl rfl ?_
      refine W_gyes rfl rfl ?_
      refine W_move rfl rfl ?_
      refine W_gyes rfl rfl ?_
      refine W_bin rfl rfl b_eql rfl ?_
      exact W_met rfl (by repeat (first | exact .refl | refine .cons rfl ?_))
    refine W_move rfl rfl ?_
    apply W_and
    iterate 4 exact rfl
    case h1 =>
      intro hg11
      refine W_gyes rfl rfl ?_
      refine W_move rfl rfl ?_
      refine W_gyes rfl rfl ?_
      refine W_move rfl rfl ?_
      refine W_gyes rfl rfl ?_
      refine W_beq rfl rfl ty4 rfl ?_
      exact W_met rfl (by repeat (first | exact .refl | refine .cons rfl ?_))
    refine W_assign rfl rfl ?_
    refine W_nil ?_
    refine W_ret1m (H2 := H) Tryd.results9 rfl (.nil _) (by repeat (first | exact HSub.refl _ | refine HSub.cons (by repeat (first | exact Take.here _ | apply Take.next | apply Take.app)) ?_ | refine HSub.app (by repeat (first | exact TakeS.here _ | apply TakeS.next | apply TakeS.app)) ?_ | refine HSub.drop ?_ | refine HSub.dropS ?_ | exact HSub.nil _)) ?_
    exact ⟨by simp, rfl⟩

theorem min70 (l : List Ins) (k : Nat) : (if (k : Int) < (l.length : Int) then (k : Int) else (l.length : Int)) = ((l.take k).length : Int) := by
  rw [List.length_take]; split <;> omega
set_option maxHeartbeats 1000000 in
theorem checkPlaces_pure {l : List Ins} {ad : Option Addr} {cap : Nat} {s : Bool} (hl : InsOk l) (hcap : l.length ≤ cap) : Pure Tryd.prog (fun w => Tab w ∧ InRow w ad (insRow l)) 10 [.slice ad l.length cap, .bool s] (.bool true) := by
  intro w0 H hT
  have hTT := hT
  obtain ⟨hT, hrow0⟩ := hTT
  obtain ⟨c, hc⟩ : ∃ c, c = l.take 70 := ⟨_, rfl⟩
  have hcl : c.length = min 70 l.length := by rw [hc, List.length_take]
  have hcok : InsOk c := by rw [hc]; exact fun x hx => hl x (List.mem_of_mem_take hx)
  have hrow : Holds w0 H ad (insRow c) := by rw [hc]; exact insRow_take (Holds.old hrow0) 70
  refine L_enter Tryd.func10 rfl Tryd.ntmps10 rfl rfl ?_
  refine W_sr ?_
  refine W_assign rfl rfl ?_
  refine W_nil ?_
  refine W_sr ?_
  refine W_move rfl rfl ?_
  refine W_move rfl rfl ?_
  refine W_len rfl ty43 rfl rfl ?_
  refine W_min2 rfl rfl (m := (c.length : Int)) (by rw [hcl]; split <;> omega) rfl ?_
  refine W_slice0 (hh := c.length) rfl ty43 ty59 rfl ⟨_, rfl⟩ (by omega) rfl ?_
  refine W_assign rfl rfl ?_
  refine W_nil ?_
  refine W_sr ?_
  refine W_move rfl rfl ?_
  refine W_move rfl rfl ?_
  refine W_callq (.cons rfl (.cons rfl .nil)) Tryd.call24 rfl (rcheck_q (s := s) hcok (by omega) hrow hT) ?_
  refine W_move rfl rfl ?_
  refine W_extract rfl rfl rfl ?_
  refine W_extract rfl rfl rfl ?_
  refine W_assign rfl rfl ?_
  refine W_assign rfl rfl ?_
  refine W_nil ?_
  refine W_sr ?_
  refine W_move rfl rfl ?_
  refine W_call (.cons rfl (.cons rfl .nil)) Tryd.call26 rfl (code_L c 70 (by omega) (hrow.up (by repeat (first | exact HSub.refl _ | refine HSub.cons (by repeat (first | exact Take.here _ | apply Take.next | apply Take.app)) ?_ | refine HSub.app (by repeat (first | exact TakeS.here _ | apply TakeS.next | apply TakeS.app)) ?_ | refine HSub.drop ?_ | refine HSub.dropS ?_ | exact HSub.nil _))) hT) ?_
  rintro v H' ⟨HBc, hOc, rfl⟩
  rw [show c.take ((70 : Int)).toNat = c from List.take_of_length_le (by omega)] at hOc
  obtain ⟨adc, capc, rfl, hcc, hcm, _⟩ := Holds.of_own (w0 := w0) (H := HBc ++ H) hOc (fun p hp => List.mem_append_left _ hp)
  have hrc : ∀ {H'}, HSub H' (HBc ++ H) → Holds w0 H' adc (insRow c) := fun hs => by
    obtain ⟨ad', cap', he, _, _, hh⟩ := Holds.of_own (w0 := w0) (H := HBc ++ H) hOc (fun p hp => List.mem_append_left _ hp)
    cases he; exact hh.up hs
  refine W_move rfl rfl ?_
  refine W_build ty51 pl51 (.cons rfl rfl rfl rfl rfl (.cons rfl rfl rfl rfl rfl .nil)) rfl (by simp only [fillL, spliceL, Value.cells, List.take_zero, List.take_succ_cons, List.take_nil, List.drop_zero, List.drop_succ_cons, List.drop_nil, List.nil_append, List.cons_append, List.append_nil, List.length_cons, List.length_nil, Nat.zero_add, Nat.reduceAdd, List.toList_toArray]; rfl) rfl ?_
  refine W_callq (.cons rfl .nil) Tryd.call25 rfl (check_q (s := s) hcok (by omega) hcc (hrc (.refl _)) hT) ?_
  refine W_move rfl rfl ?_
  refine W_extract rfl rfl rfl ?_
  refine W_extract rfl rfl rfl ?_
  refine W_assign rfl rfl ?_
  refine W_assign rfl rfl ?_
  refine W_nil ?_
  refine W_sr ?_
  refine W_callp .nil Tryd.call23 rfl hT known17_pure ?_
  refine W_move rfl rfl ?_
  apply W_and
  iterate 4 exact rfl
  case h1 =>
    intro hg1
    refine W_gyes rfl rfl ?_
    refine W_move rfl rfl ?_
    refine W_gyes rfl rfl ?_
    refine W_move rfl rfl ?_
    refine W_gyes rfl rfl ?_
    refine W_bin rfl rfl b_eql rfl ?_
    exact W_met rfl (by repeat (first | exact .refl | refine .cons rfl ?_))
  refine W_move rfl rfl ?_
  apply W_and
  iterate 4 exact rfl
  case h1 =>
    intro hg6
    refine W_gyes rfl rfl ?_
    refine W_move rfl rfl ?_
    refine W_gyes rfl rfl ?_
    refine W_move rfl rfl ?_
    refine W_gyes rfl rfl ?_
    refine W_bin rfl rfl b_eql rfl ?_
    exact W_met rfl (by repeat (first | exact .refl | refine .cons rfl ?_))
  refine W_assign rfl rfl ?_
  refine W_nil ?_
  refine W_ret1m (H2 := H) Tryd.results10 rfl (.nil _) (by repeat (first | exact HSub.refl _ | refine HSub.cons (by repeat (first | exact Take.here _ | apply Take.next | apply Take.app)) ?_ | refine HSub.app (by repeat (first | exact TakeS.here _ | apply TakeS.next | apply TakeS.app)) ?_ | refine HSub.drop ?_ | refine HSub.dropS ?_ | exact HSub.nil _)) ?_
  exact ⟨by simp, rfl⟩
end Go.Proofs.YtpfoecmianohjaaDoor
