/-
  Own work: contracts of functions that the statement reaches, and plain facts on what they compute; each theorem says its conditions.
-/
import Derived.Test.YtpfoecmianohjaaDoorC2
set_option linter.all false
set_option linter.unusedSimpArgs false
set_option linter.unusedVariables false
namespace Go.Proofs.YtpfoecmianohjaaDoor
open Go Go.Sl
attribute [local irreducible] W

def usesB (s : ByteArray) (c : Int) : Bool := s.data.toList.any fun b => decide ((b.toNat : Int) = c)
theorem ba_at {s : ByteArray} {i : Nat} (h : i < s.size) : ∃ r, s[i]? = some r ∧ s.data.toList[i]? = some r := by
  have h' : i < s.data.toList.length := by rw [Array.length_toList]; exact h
  refine ⟨s[i], by simp [h], ?_⟩
  rw [List.getElem?_eq_getElem h']
  rfl
theorem any_take_succ {α : Type} {p : α → Bool} {l : List α} {i : Nat} {x : α} (h : l[i]? = some x) : (l.take (i + 1)).any p = ((l.take i).any p || p x) := by
  rw [List.take_add_one, h, List.any_append]; simp
theorem any_of_at {α : Type} {p : α → Bool} {l : List α} {i : Nat} {x : α} (h : l[i]? = some x) (hp : p x = true) : l.any p = true :=
  List.any_eq_true.2 ⟨x, List.mem_of_getElem? h, hp⟩
set_option maxHeartbeats 1000000 in
theorem uses_pure (s : ByteArray) (c : Int) (hs : s.size ≤ 4611686018427387904) : Pure Tryd.prog Tab 63 [.string s, .int .u8 c] (.bool (usesB s c)) := by
  intro w0 H hT
  refine L_enter Tryd.func63 rfl Tryd.ntmps63 rfl rfl ?_
  refine W_sr ?_
  refine W_assign rfl rfl ?_
  refine W_nil ?_
  refine W_seq ?_
  refine W_sr ?_
  refine W_assign rfl rfl ?_
  refine W_nil ?_
  refine W_block ?_
  refine W_loopD (X := Nat) (fun i => [(0, .string s), (1, .int .u8 c), (5, .int .i64 (i : Int))]) (fun _ => []) (fun _ => H) (fun i => i ≤ s.size ∧ (s.data.toList.take i).any (fun b => decide ((b.toNat : Int) = c)) = false) (fun i => s.size - i) 0 ⟨by omega, by simp⟩ (sub_cons rfl (sub_cons rfl (sub_cons rfl (sub_nil _)))) rfl (by repeat (first | exact HSub.refl _ | refine HSub.cons (by repeat (first | exact Take.here _ | apply Take.next | apply Take.app)) ?_ | refine HSub.app (by repeat (first | exact TakeS.here _ | apply TakeS.next | apply TakeS.app)) ?_ | refine HSub.drop ?_ | refine HSub.dropS ?_ | exact HSub.nil _)) ?_
  rintro i ⟨hi, hn⟩
  refine W_seq ?_
  refine W_sr ?_
  refine W_move rfl rfl ?_
  refine W_move rfl rfl ?_
  refine W_lens rfl ty9 rfl rfl ?_
  refine W_bin rfl rfl b_lss rfl ?_
  refine W_nil ?_
  refine W_condPS (p := (i : Int) < (s.size : Int)) rfl (by simp) (fun c0 => ?_) (fun c0 => ?_)
  · skip
    refine W_skip ?_
    refine W_seq ?_
    refine W_block ?_
    refine W_sr ?_
    refine W_move rfl rfl ?_
    refine W_move rfl rfl ?_
    obtain ⟨r, hr, hr'⟩ := ba_at (s := s) (i := i) (by omega)
    refine W_indexS (j := i) rfl rfl ty9 rfl hr rfl rfl ?_
    refine W_move rfl rfl ?_
    refine W_bin rfl rfl b_eql rfl ?_
    refine W_nil ?_
    refine W_condPS (p := (r.toNat : Int) = c) rfl (by simp) (fun c1 => ?_) (fun c1 => ?_)
    · skip
      refine W_sr ?_
      refine W_assign rfl rfl ?_
      refine W_nil ?_
      refine W_ret1m Tryd.results63 rfl (.nil _) (.refl _) ?_
      exact ⟨by rw [show usesB s c = true from any_of_at hr' (by simpa using c1)], rfl⟩
    · skip
      refine W_skip ?_
      refine W_blk ?_
      refine W_region ?_
      refine W_move rfl rfl ?_
      refine W_bin rfl rfl (b_add (m := ((i + 1 : Nat) : Int)) ((i64w (by omega)).trans (by omega))) rfl ?_
      refine W_assign rfl rfl ?_
      refine W_nil ?_
      refine W_again (i + 1) ⟨by omega, by rw [any_take_succ hr', hn]; simpa using c1⟩ (by omega) (sub_cons rfl (sub_cons rfl (sub_cons rfl (sub_nil _)))) rfl (by repeat (first | exact HSub.refl _ | refine HSub.cons (by repeat (first | exact Take.here _ | apply Take.next | apply Take.app)) ?_ | refine HSub.app (by repeat (first | exact TakeS.here _ | apply TakeS.next | apply TakeS.app)) ?_ | refine HSub.drop ?_ | refine HSub.dropS ?_ | exact HSub.nil _))
  · skip
    refine W_exit rfl ?_
    refine W_sr ?_
    refine W_assign rfl rfl ?_
    refine W_nil ?_
    refine W_ret1m Tryd.results63 rfl (.nil _) (.refl _) ?_
    obtain rfl : i = s.size := by omega
    have hl : s.data.toList.length = s.size := Array.length_toList
    exact ⟨by rw [show usesB s c = false by unfold usesB; rwa [List.take_of_length_le (by omega)] at hn], rfl⟩

def refRng (x : Ins) : Bool := ((((((decide (x.dst < 0) || decide (9 < x.dst)) || decide (x.src < 0)) || decide (9 < x.src)) || decide (x.off < -32768)) || decide (32767 < x.off)) || decide (x.imm < -2147483648)) || decide (2147483647 < x.imm)
def refFrm (x : Ins) : Bool := ((((decide (x.dst ≠ 0) && !usesB (kShape x.op) 100) || (decide (x.src ≠ 0) && !usesB (kShape x.op) 115)) || (decide (x.off ≠ 0) && !usesB (kShape x.op) 111)) || (decide (x.imm ≠ 0) && !usesB (kShape x.op) 105))
def refChk (x : Ins) : Int := if cls x.op = 0 then 11 else if refRng x = true then 2 else if refFrm x = true then 9 else 0
theorem ite_size {p : Prop} [Decidable p] {a b : ByteArray} {n : Nat} (ha : a.size ≤ n) (hb : b.size ≤ n) : (if p then a else b).size ≤ n := by split <;> assumption
theorem kShape_size (op : Int) : (kShape op).size ≤ 4611686018427387904 := by
  unfold kShape
  repeat (refine ite_size (by decide) ?_)
  decide
set_option maxHeartbeats 1000000 in
theorem refChk_pure (x : Ins) : Pure Tryd.prog Tab 46 [.agg #[.int .i64 x.op, .int .i64 x.dst, .int .i64 x.src, .int .i64 x.off, .int .i64 x.imm]] (.int .i64 (refChk x)) := by
  intro w0 H hT
  refine L_enter Tryd.func46 rfl Tryd.ntmps46 rfl rfl ?_
  refine W_sr ?_
  refine W_box rfl rfl rfl (fun b1 => ?_)
  refine W_assign rfl rfl ?_
  refine W_nil ?_
  refine W_sr ?_
  refine W_fieldAddr rfl fld59_0 (by decide) rfl ?_
  refine W_load rfl ty3 rfl (Cell.own (by repeat (first | exact List.mem_cons_self | apply List.mem_cons_of_mem | apply List.mem_append_right)) rfl) rfl ?_
  refine W_callp (.cons rfl .nil) Tryd.call41 rfl hT (kindp _) ?_
  refine W_move rfl rfl ?_
  refine W_extract rfl rfl rfl ?_
  refine W_extract rfl rfl rfl ?_
  refine W_extract rfl rfl rfl ?_
  refine W_assign rfl rfl ?_
  refine W_assign rfl rfl ?_
  refine W_assign rfl rfl ?_
  refine W_nil ?_
  refine W_seq ?_
  refine W_sr ?_
  refine W_move rfl rfl ?_
  refine W_bin rfl rfl b_eql rfl ?_
  refine W_nil ?_
  refine W_condPS (p := cls x.op = 0) rfl (by simp) (fun c0 => ?_) (fun c0 => ?_)
  · skip
    refine W_sr ?_
    refine W_assign rfl rfl ?_
    refine W_nil ?_
    refine W_ret1m (H2 := H) Tryd.results46 rfl (.nil _) (by repeat (first | exact HSub.refl _ | refine HSub.cons (by repeat (first | exact Take.here _ | apply Take.next | apply Take.app)) ?_ | refine HSub.app (by repeat (first | exact TakeS.here _ | apply TakeS.next | apply TakeS.app)) ?_ | refine HSub.drop ?_ | refine HSub.dropS ?_ | exact HSub.nil _)) ?_
    exact ⟨by unfold refChk; rw [if_pos c0], rfl⟩
  · skip
    refine W_skip ?_
    refine W_seq ?_
    refine W_sr ?_
    refine W_fieldAddr rfl fld59_1 (by decide) rfl ?_
    refine W_load rfl ty3 rfl (Cell.own (by repeat (first | exact List.mem_cons_self | apply List.mem_cons_of_mem | apply List.mem_append_right)) rfl) rfl ?_
    refine W_bin rfl rfl b_lss rfl ?_
    refine W_move rfl rfl ?_
    apply W_or
    iterate 4 exact rfl
    case h1 =>
      intro hg3
      refine W_gyes rfl rfl ?_
      refine W_fieldAddr rfl fld59_1 (by decide) rfl ?_
      refine W_gyes rfl rfl ?_
      refine W_load rfl ty3 rfl (Cell.own (by repeat (first | exact List.mem_cons_self | apply List.mem_cons_of_mem | apply List.mem_append_right)) rfl) rfl ?_
      refine W_gyes rfl rfl ?_
      refine W_bin rfl rfl b_gtr rfl ?_
      exact W_met rfl (by repeat (first | exact .refl | refine .cons rfl ?_))
    refine W_move rfl rfl ?_
    apply W_or
    iterate 4 exact rfl
    case h1 =>
      intro hg8
      refine W_gyes rfl rfl ?_
      refine W_fieldAddr rfl fld59_2 (by decide) rfl ?_
      refine W_gyes rfl rfl ?_
      refine W_load rfl ty3 rfl (Cell.own (by repeat (first | exact List.mem_cons_self | apply List.mem_cons_of_mem | apply List.mem_append_right)) rfl) rfl ?_
      refine W_gyes rfl rfl ?_
      refine W_bin rfl rfl b_lss rfl ?_
      exact W_met rfl (by repeat (first | exact .refl | refine .cons rfl ?_))
    refine W_move rfl rfl ?_
    apply W_or
    iterate 4 exact rfl
    case h1 =>
      intro hg13
      refine W_gyes rfl rfl ?_
      refine W_fieldAddr rfl fld59_2 (by decide) rfl ?_
      refine W_gyes rfl rfl ?_
      refine W_load rfl ty3 rfl (Cell.own (by repeat (first | exact List.mem_cons_self | apply List.mem_cons_of_mem | apply List.mem_append_right)) rfl) rfl ?_
      refine W_gyes rfl rfl ?_
      refine W_bin rfl rfl b_gtr rfl ?_
      exact W_met rfl (by repeat (first | exact .refl | refine .cons rfl ?_))
    refine W_move rfl rfl ?_
    apply W_or
    iterate 4 exact rfl
    case h1 =>
      intro hg18
      refine W_gyes rfl rfl ?_
      refine W_fieldAddr rfl fld59_3 (by decide) rfl ?_
      refine W_gyes rfl rfl ?_
      refine W_load rfl ty3 rfl (Cell.own (by repeat (first | exact List.mem_cons_self | apply List.mem_cons_of_mem | apply List.mem_append_right)) rfl) rfl ?_
      refine W_gyes rfl rfl ?_
      refine W_bin rfl rfl b_lss rfl ?_
      exact W_met rfl (by repeat (first | exact .refl | refine .cons rfl ?_))
    refine W_move rfl rfl ?_
    apply W_or
    iterate 4 exact rfl
    case h1 =>
      intro hg23
      refine W_gyes rfl rfl ?_
      refine W_fieldAddr rfl fld59_3 (by decide) rfl ?_
      refine W_gyes rfl rfl ?_
      refine W_load rfl ty3 rfl (Cell.own (by repeat (first | exact List.mem_cons_self | apply List.mem_cons_of_mem | apply List.mem_append_right)) rfl) rfl ?_
      refine W_gyes rfl rfl ?_
      refine W_bin rfl rfl b_gtr rfl ?_
      exact W_met rfl (by repeat (first | exact .refl | refine .cons rfl ?_))
    refine W_move rfl rfl ?_
    apply W_or
    iterate 4 exact rfl
    case h1 =>
      intro hg28
      refine W_gyes rfl rfl ?_
      refine W_fieldAddr rfl fld59_4 (by decide) rfl ?_
      refine W_gyes rfl rfl ?_
      refine W_load rfl ty3 rfl (Cell.own (by repeat (first | exact List.mem_cons_self | apply List.mem_cons_of_mem | apply List.mem_append_right)) rfl) rfl ?_
      refine W_gyes rfl rfl ?_
      refine W_bin rfl rfl b_lss rfl ?_
      exact W_met rfl (by repeat (first | exact .refl | refine .cons rfl ?_))
    refine W_move rfl rfl ?_
    apply W_or
    iterate 4 exact rfl
    case h1 =>
      intro hg33
      refine W_gyes rfl rfl ?_
      refine W_fieldAddr rfl fld59_4 (by decide) rfl ?_
      refine W_gyes rfl rfl ?_
      refine W_load rfl ty3 rfl (Cell.own (by repeat (first | exact List.mem_cons_self | apply List.mem_cons_of_mem | apply List.mem_append_right)) rfl) rfl ?_
      refine W_gyes rfl rfl ?_
      refine W_bin rfl rfl b_gtr rfl ?_
      exact W_met rfl (by repeat (first | exact .refl | refine .cons rfl ?_))
    refine W_nil ?_
    refine W_condS rfl (fun c1 => ?_) (fun c1 => ?_)
    · skip
      refine W_sr ?_
      refine W_assign rfl rfl ?_
      refine W_nil ?_
      refine W_ret1m (H2 := H) Tryd.results46 rfl (.nil _) (by repeat (first | exact HSub.refl _ | refine HSub.cons (by repeat (first | exact Take.here _ | apply Take.next | apply Take.app)) ?_ | refine HSub.app (by repeat (first | exact TakeS.here _ | apply TakeS.next | apply TakeS.app)) ?_ | refine HSub.drop ?_ | refine HSub.dropS ?_ | exact HSub.nil _)) ?_
      have c1 : refRng x = true := c1
      exact ⟨by unfold refChk; rw [if_neg c0, if_pos c1], rfl⟩
    · skip
      refine W_skip ?_
      refine W_seq ?_
      refine W_sr ?_
      refine W_fieldAddr rfl fld59_1 (by decide) rfl ?_
      refine W_load rfl ty3 rfl (Cell.own (by repeat (first | exact List.mem_cons_self | apply List.mem_cons_of_mem | apply List.mem_append_right)) rfl) rfl ?_
      refine W_bin rfl rfl b_neq rfl ?_
      refine W_move rfl rfl ?_
      apply W_and
      iterate 4 exact rfl
      case h1 =>
        intro hg3
        refine W_gyes rfl rfl ?_
        refine W_move rfl rfl ?_
        refine W_gyes rfl rfl ?_
        refine W_callp (.cons rfl (.cons rfl .nil)) Tryd.call63 rfl hT (uses_pure _ _ (kShape_size _)) ?_
        refine W_gyes rfl rfl ?_
        refine W_not rfl rfl ?_
        exact W_met rfl (by repeat (first | exact .refl | refine .cons rfl ?_))
      refine W_move rfl rfl ?_
      apply W_or
      iterate 4 exact rfl
      case h1 =>
        intro hg8
        refine W_gyes rfl rfl ?_
        refine W_fieldAddr rfl fld59_2 (by decide) rfl ?_
        refine W_gyes rfl rfl ?_
        refine W_load rfl ty3 rfl (Cell.own (by repeat (first | exact List.mem_cons_self | apply List.mem_cons_of_mem | apply List.mem_append_right)) rfl) rfl ?_
        refine W_gyes rfl rfl ?_
        refine W_bin rfl rfl b_neq rfl ?_
        refine W_gyes rfl rfl ?_
        refine W_move rfl rfl ?_
        apply W_and
        iterate 4 exact rfl
        case h1 =>
          intro hg12
          refine W_gyes rfl rfl ?_
          refine W_move rfl rfl ?_
          refine W_gyes rfl rfl ?_
          refine W_callp (.cons rfl (.cons rfl .nil)) Tryd.call63 rfl hT (uses_pure _ _ (kShape_size _)) ?_
          refine W_gyes rfl rfl ?_
          refine W_not rfl rfl ?_
          exact W_met rfl (by repeat (first | exact .refl | refine .cons rfl ?_))
        exact W_met rfl (by repeat (first | exact .refl | refine .cons rfl ?_))
      refine W_move rfl rfl ?_
      apply W_or
      iterate 4 exact rfl
      case h1 =>
        intro hg18
        refine W_gyes rfl rfl ?_
        refine W_fieldAddr rfl fld59_3 (by decide) rfl ?_
        refine W_gyes rfl rfl ?_
        refine W_load rfl ty3 rfl (Cell.own (by repeat (first | exact List.mem_cons_self | apply List.mem_cons_of_mem | apply List.mem_append_right)) rfl) rfl ?_
        refine W_gyes rfl rfl ?_
        refine W_bin rfl rfl b_neq rfl ?_
        refine W_gyes rfl rfl ?_
        refine W_move rfl rfl ?_
        apply W_and
        iterate 4 exact rfl
        case h1 =>
          intro hg22
          refine W_gyes rfl rfl ?_
          refine W_move rfl rfl ?_
          refine W_gyes rfl rfl ?_
          refine W_callp (.cons rfl (.cons rfl .nil)) Tryd.call63 rfl hT (uses_pure _ _ (kShape_size _)) ?_
          refine W_gyes rfl rfl ?_
          refine W_not rfl rfl ?_
          exact W_met rfl (by repeat (first | exact .refl | refine .cons rfl ?_))
        exact W_met rfl (by repeat (first | exact .refl | refine .cons rfl ?_))
      refine W_move rfl rfl ?_
      apply W_or
      iterate 4 exact rfl
      case h1 =>
        intro hg28
        refine W_gyes rfl rfl ?_
        refine W_fieldAddr rfl fld59_4 (by decide) rfl ?_
        refine W_gyes rfl rfl ?_
        refine W_load rfl ty3 rfl (Cell.own (by repeat (first | exact List.mem_cons_self | apply List.mem_cons_of_mem | apply List.mem_append_right)) rfl) rfl ?_
        refine W_gyes rfl rfl ?_
        refine W_bin rfl rfl b_neq rfl ?_
        refine W_gyes rfl rfl ?_
        refine W_move rfl rfl ?_
        apply W_and
        iterate 4 exact rfl
        case h1 =>
          intro hg32
          refine W_gyes rfl rfl ?_
          refine W_move rfl rfl ?_
          refine W_gyes rfl rfl ?_
          refine W_callp (.cons rfl (.cons rfl .nil)) Tryd.call63 rfl hT (uses_pure _ _ (kShape_size _)) ?_
          refine W_gyes rfl rfl ?_
          refine W_not rfl rfl ?_
          exact W_met rfl (by repeat (first | exact .refl | refine .cons rfl ?_))
        exact W_met rfl (by repeat (first | exact .refl | refine .cons rfl ?_))
      refine W_nil ?_
      refine W_condS rfl (fun c2 => ?_) (fun c2 => ?_)
      · skip
        refine W_sr ?_
        refine W_assign rfl rfl ?_
        refine W_nil ?_
        refine W_ret1m (H2 := H) Tryd.results46 rfl (.nil _) (by repeat (first | exact HSub.refl _ | refine HSub.cons (by repeat (first | exact Take.here _ | apply Take.next | apply Take.app)) ?_ | refine HSub.app (by repeat (first | exact TakeS.here _ | apply TakeS.next | apply TakeS.app)) ?_ | refine HSub.drop ?_ | refine HSub.dropS ?_ | exact HSub.nil _)) ?_
        have c1 : refRng x = false := c1
        have c2 : refFrm x = true := c2
        exact ⟨by unfold refChk; rw [if_neg c0, if_neg (by rw [c1]; simp), if_pos c2], rfl⟩
      · skip
        refine W_skip ?_
        refine W_sr ?_
        refine W_assign rfl rfl ?_
        refine W_nil ?_
        refine W_ret1m (H2 := H) Tryd.results46 rfl (.nil _) (by repeat (first | exact HSub.refl _ | refine HSub.cons (by repeat (first | exact Take.here _ | apply Take.next | apply Take.app)) ?_ | refine HSub.app (by repeat (first | exact TakeS.here _ | apply TakeS.next | apply TakeS.app)) ?_ | refine HSub.drop ?_ | refine HSub.dropS ?_ | exact HSub.nil _)) ?_
        have c1 : refRng x = false := c1
        have c2 : refFrm x = false := c2
        exact ⟨by unfold refChk; rw [if_neg c0, if_neg (by rw [c1]; simp), if_neg (by rw [c2]; simp)], rfl⟩

theorem shape_fin : ∀ k : Fin 74, cls k.val ≠ 0 → usesB (kShape k.val) 100 = (usedU k.val).d ∧ usesB (kShape k.val) 115 = (usedU k.val).s ∧ usesB (kShape k.val) 111 = (usedU k.val).o ∧ usesB (kShape k.val) 105 = (usedU k.val).i := by decide +kernel
theorem cls_range {op : Int} (h : cls op ≠ 0) : 0 ≤ op ∧ op ≤ 73 := by
  have := cls_cases op
  have h1 := cls1 (op := op); have h2 := cls2 (op := op); have h3 := cls3 (op := op); have h4 := cls4 (op := op)
  omega
theorem shape_used {op : Int} (h : cls op ≠ 0) : usesB (kShape op) 100 = (usedU op).d ∧ usesB (kShape op) 115 = (usedU op).s ∧ usesB (kShape op) 111 = (usedU op).o ∧ usesB (kShape op) 105 = (usedU op).i :=
  fin74 (p := fun op => cls op ≠ 0 → usesB (kShape op) 100 = (usedU op).d ∧ usesB (kShape op) 115 = (usedU op).s ∧ usesB (kShape op) 111 = (usedU op).o ∧ usesB (kShape op) 105 = (usedU op).i) shape_fin (cls_range h) h
theorem bool_use (p q : Bool) : (p == (p && q)) = !(p && !q) := by cases p <;> cases q <;> rfl
theorem chk_eq (x : Ins) : isaChk x = refChk x := by
  unfold isaChk refChk
  by_cases h : cls x.op = 0
  · rw [if_pos h, if_pos h]
  · rw [if_neg h, if_neg h]
    have e1 : (outB x.dst 0 10 || outB x.src 0 10 || outB x.off (-32768) 32768 || outB x.imm (-2147483648) 2147483648) = refRng x := by
      unfold outB refRng
      rw [Bool.eq_iff_iff]
      simp only [Bool.or_eq_true, decide_eq_true_eq]
      omega
    have e2 : (!(eqU (hasU x) (andU (hasU x) (usedU x.op)))) = refFrm x := by
      obtain ⟨h1, h2, h3, h4⟩ := shape_used h
      unfold eqU refFrm andU
      rw [h1, h2, h3, h4]
      simp only [bool_use, hasU]
      simp only [Bool.and_true, Bool.not_and, Bool.not_not, Bool.not_or, Bool.or_assoc]
    rw [e1, e2]
end Go.Proofs.YtpfoecmianohjaaDoor
