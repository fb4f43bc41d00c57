/-
  Own work: contracts of functions that the statement reaches, and plain facts on what they compute; each theorem says its conditions.
-/
import Derived.Test.YtpfoecmianohjaaDoorC6
set_option linter.all false
set_option linter.unusedSimpArgs false
set_option linter.unusedVariables false
namespace Go.Proofs.YtpfoecmianohjaaDoor
open Go Go.Sl
attribute [local irreducible] W

def jumpB (x : Ins) : Bool := decide (cls x.op = 2)
def nextB (x : Ins) : Bool := decide (x.op ≠ 73) && decide (x.op ≠ 32)
def toV (x : Ins) (at_ : Int) : Int := IntKind.i64.wrap (IntKind.i64.wrap (at_ + 1) + x.off)
/-- the places behind an instruction, out of what it is -/
def seqOf (jump next : Bool) (tv at1 : Int) (le gt : Bool) : List Int :=
  (bif jump && (le || !next) then [tv] else []) ++ ((bif next then [at1] else []) ++ (bif jump && next && gt then [tv] else []))
def seqB (x : Ins) (at_ : Int) : List Int :=
  seqOf (jumpB x) (nextB x) (toV x at_) (IntKind.i64.wrap (at_ + 1)) (decide (toV x at_ ≤ at_)) (decide (IntKind.i64.wrap (at_ + 1) < toV x at_))
/-- what the iterator has caught -/
abbrev behC (bj bt ba bn : Nat) (jump next : Bool) (tv at_ : Int) : Heap := [(bj, .cells 4 1 [.bool jump]), (bt, .cells 3 1 [.int .i64 tv]), (ba, .cells 3 1 [.int .i64 at_]), (bn, .cells 4 1 [.bool next])]
theorem b_leq' {q : IntKind} {t : TypeId} {i j : Int} {b : Bool} (h : decide (i ≤ j) = b) (P : Program) (w : World) : (Go.binOp .leq t (.int q i) (.int q j)).run P w = .ok (.bool b) w := h ▸ b_leq P w
theorem b_gtr' {q : IntKind} {t : TypeId} {i j : Int} {b : Bool} (h : decide (j < i) = b) (P : Program) (w : World) : (Go.binOp .gtr t (.int q i) (.int q j)).run P w = .ok (.bool b) w := h ▸ b_gtr P w
set_option maxHeartbeats 1000000 in
theorem behind_L {w0 : World} {H : Heap} (x : Ins) (at_ : Int) (hT : Tab w0) : LCalls Tryd.prog w0 54 #[.agg #[.int .i64 x.op, .int .i64 x.dst, .int .i64 x.src, .int .i64 x.off, .int .i64 x.imm], .int .i64 at_] H (fun v H' => ∃ bj bt ba bn, v = .func (.func 70) #[] #[.pointer (some ⟨bj, 0, none⟩), .pointer (some ⟨bt, 0, none⟩), .pointer (some ⟨ba, 0, none⟩), .pointer (some ⟨bn, 0, none⟩)] ∧ H' = behC bj bt ba bn (jumpB x) (nextB x) (toV x at_) at_ ++ H) := by
  refine L_enter (l := [.agg #[.int .i64 x.op, .int .i64 x.dst, .int .i64 x.src, .int .i64 x.off, .int .i64 x.imm], .int .i64 at_]) Tryd.func54 rfl Tryd.ntmps54 rfl rfl ?_
  refine W_sr ?_
  refine W_box rfl rfl rfl (fun b2 => ?_)
  refine W_box rfl rfl rfl (fun b3 => ?_)
  refine W_assign rfl rfl ?_
  refine W_nil ?_
  refine W_sr ?_
  refine W_fieldAddr rfl fld67_0 (by decide) rfl ?_
  refine W_load rfl ty3 rfl (Cell.own (by repeat (first | exact List.mem_cons_self | apply List.mem_cons_of_mem | apply List.mem_append_right)) rfl) rfl ?_
  refine W_callp (.cons rfl .nil) Tryd.call36 rfl hT (class_pure _) ?_
  refine W_bin rfl rfl b_eql rfl ?_
  refine W_alloc ty4 rfl rfl (fun b5 => ?_)
  refine W_store rfl rfl ty4 rfl rfl (by repeat (first | exact List.mem_cons_self | apply List.mem_cons_of_mem | apply List.mem_append_right)) rfl rfl (by repeat (first | exact Upd.head _ | apply Upd.tail | apply Upd.app)) ?_
  refine W_nil ?_
  refine W_sr ?_
  refine W_fieldAddr rfl fld67_0 (by decide) rfl ?_
  refine W_load rfl ty3 rfl (Cell.own (by repeat (first | exact List.mem_cons_self | apply List.mem_cons_of_mem | apply List.mem_append_right)) rfl) rfl ?_
  refine W_bin rfl rfl b_neq rfl ?_
  refine W_move rfl rfl ?_
  apply W_and
  iterate 4 exact rfl
  case h1 =>
    intro hg3
    refine W_gyes rfl rfl ?_
    refine W_fieldAddr rfl fld67_0 (by decide) rfl ?_
    refine W_gyes rfl rfl ?_
    refine W_load rfl ty3 rfl (Cell.own (by repeat (first | exact List.mem_cons_self | apply List.mem_cons_of_mem | apply List.mem_append_right)) rfl) rfl ?_
    refine W_gyes rfl rfl ?_
    refine W_bin rfl rfl b_neq rfl ?_
    exact W_met rfl (by repeat (first | exact .refl | refine .cons rfl ?_))
  refine W_alloc ty4 rfl rfl (fun b6 => ?_)
  refine W_store rfl rfl ty4 rfl rfl (by repeat (first | exact List.mem_cons_self | apply List.mem_cons_of_mem | apply List.mem_append_right)) rfl rfl (by repeat (first | exact Upd.head _ | apply Upd.tail | apply Upd.app)) ?_
  refine W_nil ?_
  refine W_sr ?_
  refine W_loadB rfl ty67 rfl (by repeat (first | exact List.mem_cons_self | apply List.mem_cons_of_mem | apply List.mem_append_right)) rfl (by simp only [fillL, spliceL, Value.cells, List.take_zero, List.take_succ_cons, List.take_nil, List.drop_zero, List.drop_succ_cons, List.drop_nil, List.nil_append, List.cons_append, List.append_nil, List.length_cons, List.length_nil, Nat.zero_add, Nat.reduceAdd, List.toList_toArray]; rfl) rfl ?_
  refine W_load rfl ty3 rfl (Cell.own (by repeat (first | exact List.mem_cons_self | apply List.mem_cons_of_mem | apply List.mem_append_right)) rfl) rfl ?_
  refine W_callp (.cons rfl (.cons rfl .nil)) Tryd.call69 rfl hT (target_pure _ _) ?_
  refine W_alloc ty3 rfl rfl (fun b7 => ?_)
  refine W_store rfl rfl ty3 rfl rfl (by repeat (first | exact List.mem_cons_self | apply List.mem_cons_of_mem | apply List.mem_append_right)) rfl rfl (by repeat (first | exact Upd.head _ | apply Upd.tail | apply Upd.app)) ?_
  refine W_nil ?_
  refine W_sr ?_
  refine W_makeFunc .nil (.cons rfl (.cons rfl (.cons rfl (.cons rfl .nil)))) rfl ?_
  refine W_assign rfl rfl ?_
  refine W_nil ?_
  refine W_ret1m (H2 := behC b5 b7 b3 b6 (jumpB x) (nextB x) (toV x at_) at_ ++ H) Tryd.results54 rfl (.nil _) (by repeat (first | exact HSub.refl _ | refine HSub.cons (by repeat (first | exact Take.here _ | apply Take.next | apply Take.app)) ?_ | refine HSub.app (by repeat (first | exact TakeS.here _ | apply TakeS.next | apply TakeS.app)) ?_ | refine HSub.drop ?_ | refine HSub.dropS ?_ | exact HSub.nil _)) ?_
  exact ⟨b5, b7, b3, b6, rfl, rfl⟩
set_option maxHeartbeats 4000000 in
theorem behind_iter {w0 : World} {H : Heap} {l bj bt ba bn : Nat} {jump next le gt : Bool} {tv at_ : Int} (hle : decide (tv ≤ at_) = le) (hgt : decide (IntKind.i64.wrap (at_ + 1) < tv) = gt) (J : Nat → Heap → Prop) (S : Heap → Prop)
    (hround : ∀ i z Hi, (seqOf jump next tv (IntKind.i64.wrap (at_ + 1)) le gt)[i]? = some z → J i Hi → RoundC Tryd.prog w0 l #[.int .i64 z] (behC bj bt ba bn jump next tv at_ ++ Hi)
      (fun v H' => ∃ Hi', HSub H' (behC bj bt ba bn jump next tv at_ ++ Hi') ∧ (v = .bool true ∧ J (i + 1) Hi' ∨ v = .bool false ∧ S Hi'))) (hJ : J 0 H) (hT : Tab w0) : LCalls Tryd.prog w0 70 #[.func (.yield l) #[] #[], .pointer (some ⟨bj, 0, none⟩), .pointer (some ⟨bt, 0, none⟩), .pointer (some ⟨ba, 0, none⟩), .pointer (some ⟨bn, 0, none⟩)] (behC bj bt ba bn jump next tv at_ ++ H) (fun _ H' => ∃ Hi', HSub H' (behC bj bt ba bn jump next tv at_ ++ Hi') ∧ (J (seqOf jump next tv (IntKind.i64.wrap (at_ + 1)) le gt).length Hi' ∨ S Hi')) := by
  refine L_enter (l := [.func (.yield l) #[] #[], .pointer (some ⟨bj, 0, none⟩), .pointer (some ⟨bt, 0, none⟩), .pointer (some ⟨ba, 0, none⟩), .pointer (some ⟨bn, 0, none⟩)]) Tryd.func70 rfl Tryd.ntmps70 rfl rfl ?_
  cases jump
  · skip
    cases next
    · skip
      cases le
      · skip
        cases gt
        · skip
          refine W_seq ?_
          refine W_sr ?_
          refine W_load rfl ty4 rfl (Cell.own (by repeat (first | exact List.mem_cons_self | apply List.mem_cons_of_mem | apply List.mem_append_right)) rfl) rfl ?_
          refine W_move rfl rfl ?_
          refine W_gno rfl rfl rfl ?_
          refine W_gno rfl rfl rfl ?_
          refine W_gno rfl rfl rfl ?_
          refine W_gno rfl rfl rfl ?_
          refine W_gnou rfl rfl rfl ?_
          refine W_gnou rfl rfl rfl ?_
          refine W_gno rfl rfl rfl ?_
          first | refine W_pickt rfl rfl rfl ?_ | refine W_pickf rfl rfl rfl ?_
          refine W_move rfl rfl ?_
          refine W_gno rfl rfl rfl ?_
          refine W_gno rfl rfl rfl ?_
          refine W_gno rfl rfl rfl ?_
          refine W_gno rfl rfl rfl ?_
          first | refine W_pickt rfl rfl rfl ?_ | refine W_pickf rfl rfl rfl ?_
          refine W_nil ?_
          refine W_condF rfl rfl ?_
          refine W_skip ?_
          refine W_seq ?_
          refine W_sr ?_
          refine W_load rfl ty4 rfl (Cell.own (by repeat (first | exact List.mem_cons_self | apply List.mem_cons_of_mem | apply List.mem_append_right)) rfl) rfl ?_
          refine W_move rfl rfl ?_
          refine W_gno rfl rfl rfl ?_
          refine W_gno rfl rfl rfl ?_
          refine W_gno rfl rfl rfl ?_
          refine W_gno rfl rfl rfl ?_
          refine W_gno rfl rfl rfl ?_
          first | refine W_pickt rfl rfl rfl ?_ | refine W_pickf rfl rfl rfl ?_
          refine W_nil ?_
          refine W_condF rfl rfl ?_
          refine W_skip ?_
          refine W_sr ?_
          refine W_load rfl ty4 rfl (Cell.own (by repeat (first | exact List.mem_cons_self | apply List.mem_cons_of_mem | apply List.mem_append_right)) rfl) rfl ?_
          refine W_move rfl rfl ?_
          refine W_gno rfl rfl rfl ?_
          first | refine W_pickt rfl rfl rfl ?_ | refine W_pickf rfl rfl rfl ?_
          refine W_move rfl rfl ?_
          refine W_gno rfl rfl rfl ?_
          refine W_gno rfl rfl rfl ?_
          refine W_gno rfl rfl rfl ?_
          refine W_gno rfl rfl rfl ?_
          first | refine W_pickt rfl rfl rfl ?_ | refine W_pickf rfl rfl rfl ?_
          refine W_nil ?_
          refine W_condF rfl rfl ?_
          refine W_skip ?_
          refine W_end0m Tryd.results70 (.nil _) (.refl _) ?_
          exact ⟨H, .refl _, .inl hJ⟩
        · skip
          refine W_seq ?_
          refine W_sr ?_
          refine W_load rfl ty4 rfl (Cell.own (by repeat (first | exact List.mem_cons_self | apply List.mem_cons_of_mem | apply List.mem_append_right)) rfl) rfl ?_
          refine W_move rfl rfl ?_
          refine W_gno rfl rfl rfl ?_
          refine W_gno rfl rfl rfl ?_
          refine W_gno rfl rfl rfl ?_
          refine W_gno rfl rfl rfl ?_
          refine W_gnou rfl rfl rfl ?_
          refine W_gnou rfl rfl rfl ?_
          refine W_gno rfl rfl rfl ?_
          first | refine W_pickt rfl rfl rfl ?_ | refine W_pickf rfl rfl rfl ?_
          refine W_move rfl rfl ?_
          refine W_gno rfl rfl rfl ?_
          refine W_gno rfl rfl rfl ?_
          refine W_gno rfl rfl rfl ?_
          refine W_gno rfl rfl rfl ?_
          first | refine W_pickt rfl rfl rfl ?_ | refine W_pickf rfl rfl rfl ?_
          refine W_nil ?_
          refine W_condF rfl rfl ?_
          refine W_skip ?_
          refine W_seq ?_
          refine W_sr ?_
          refine W_load rfl ty4 rfl (Cell.own (by repeat (first | exact List.mem_cons_self | apply List.mem_cons_of_mem | apply List.mem_append_right)) rfl) rfl ?_
          refine W_move rfl rfl ?_
          refine W_gno rfl rfl rfl ?_
          refine W_gno rfl rfl rfl ?_
          refine W_gno rfl rfl rfl ?_
          refine W_gno rfl rfl rfl ?_
          refine W_gno rfl rfl rfl ?_
          first | refine W_pickt rfl rfl rfl ?_ | refine W_pickf rfl rfl rfl ?_
          refine W_nil ?_
          refine W_condF rfl rfl ?_
          refine W_skip ?_
          refine W_sr ?_
          refine W_load rfl ty4 rfl (Cell.own (by repeat (first | exact List.mem_cons_self | apply List.mem_cons_of_mem | apply List.mem_append_right)) rfl) rfl ?_
          refine W_move rfl rfl ?_
          refine W_gno rfl rfl rfl ?_
          first | refine W_pickt rfl rfl rfl ?_ | refine W_pickf rfl rfl rfl ?_
          refine W_move rfl rfl ?_
          refine W_gno rfl rfl rfl ?_
          refine W_gno rfl rfl rfl ?_
          refine W_gno rfl rfl rfl ?_
          refine W_gno rfl rfl rfl ?_
          first | refine W_pickt rfl rfl rfl ?_ | refine W_pickf rfl rfl rfl ?_
          refine W_nil ?_
          refine W_condF rfl rfl ?_
          refine W_skip ?_
          refine W_end0m Tryd.results70 (.nil _) (.refl _) ?_
          exact ⟨H, .refl _, .inl hJ⟩
      · skip
        cases gt
        · skip
          refine W_seq ?_
          refine W_sr ?_
          refine W_load rfl ty4 rfl (Cell.own (by repeat (first | exact List.mem_cons_self | apply List.mem_cons_of_mem | apply List.mem_append_right)) rfl) rfl ?_
          refine W_move rfl rfl ?_
          refine W_gno rfl rfl rfl ?_
          refine W_gno rfl rfl rfl ?_
          refine W_gno rfl rfl rfl ?_
          refine W_gno rfl rfl rfl ?_
          refine W_gnou rfl rfl rfl ?_
          refine W_gnou rfl rfl rfl ?_
          refine W_gno rfl rfl rfl ?_
          first | refine W_pickt rfl rfl rfl ?_ | refine W_pickf rfl rfl rfl ?_
          refine W_move rfl rfl ?_
          refine W_gno rfl rfl rfl ?_
          refine W_gno rfl rfl rfl ?_
          refine W_gno rfl rfl rfl ?_
          refine W_gno rfl rfl rfl ?_
          first | refine W_pickt rfl rfl rfl ?_ | refine W_pickf rfl rfl rfl ?_
          refine W_nil ?_
          refine W_condF rfl rfl ?_
          refine W_skip ?_
          refine W_seq ?_
          refine W_sr ?_
          refine W_load rfl ty4 rfl (Cell.own (by repeat (first | exact List.mem_cons_self | apply List.mem_cons_of_mem | apply List.mem_append_right)) rfl) rfl ?_
          refine W_move rfl rfl ?_
          refine W_gno rfl rfl rfl ?_
          refine W_gno rfl rfl rfl ?_
          refine W_gno rfl rfl rfl ?_
          refine W_gno rfl rfl rfl ?_
          refine W_gno rfl rfl rfl ?_
          first | refine W_pickt rfl rfl rfl ?_ | refine W_pickf rfl rfl rfl ?_
          refine W_nil ?_
          refine W_condF rfl rfl ?_
          refine W_skip ?_
          refine W_sr ?_
          refine W_load rfl ty4 rfl (Cell.own (by repeat (first | exact List.mem_cons_self | apply List.mem_cons_of_mem | apply List.mem_append_right)) rfl) rfl ?_
          refine W_move rfl rfl ?_
          refine W_gno rfl rfl rfl ?_
          first | refine W_pickt rfl rfl rfl ?_ | refine W_pickf rfl rfl rfl ?_
          refine W_move rfl rfl ?_
          refine W_gno rfl rfl rfl ?_
          refine W_gno rfl rfl rfl ?_
          refine W_gno rfl rfl rfl ?_
          refine W_gno rfl rfl rfl ?_
          first | refine W_pickt rfl rfl rfl ?_ | refine W_pickf rfl rfl rfl ?_
          refine W_nil ?_
          refine W_condF rfl rfl ?_
          refine W_skip ?_
          refine W_end0m Tryd.results70 (.nil _) (.refl _) ?_
          exact ⟨H, .refl _, .inl hJ⟩
        · skip
          refine W_seq ?_
          refine W_sr ?_
          refine W_load rfl ty4 rfl (Cell.own (by repeat (first | exact List.mem_cons_self | apply List.mem_cons_of_mem | apply List.mem_append_right)) rfl) rfl ?_
          refine W_move rfl rfl ?_
          refine W_gno rfl rfl rfl ?_
          refine W_gno rfl rfl rfl ?_
          refine W_gno rfl rfl rfl ?_
          refine W_gno rfl rfl rfl ?_
          refine W_gnou rfl rfl rfl ?_
          refine W_gnou rfl rfl rfl ?_
          refine W_gno rfl rfl rfl ?_
          first | refine W_pickt rfl rfl rfl ?_ | refine W_pickf rfl rfl rfl ?_
          refine W_move rfl rfl ?_
          refine W_gno rfl rfl rfl ?_
          refine W_gno rfl rfl rfl ?_
          refine W_gno rfl rfl rfl ?_
          refine W_gno rfl rfl rfl ?_
          first | refine W_pickt rfl rfl rfl ?_ | refine W_pickf rfl rfl rfl ?_
          refine W_nil ?_
          refine W_condF rfl rfl ?_
          refine W_skip ?_
          refine W_seq ?_
          refine W_sr ?_
          refine W_load rfl ty4 rfl (Cell.own (by repeat (first | exact List.mem_cons_self | apply List.mem_cons_of_mem | apply List.mem_append_right)) rfl) rfl ?_
          refine W_move rfl rfl ?_
          refine W_gno rfl rfl rfl ?_
          refine W_gno rfl rfl rfl ?_
          refine W_gno rfl rfl rfl ?_
          refine W_gno rfl rfl rfl ?_
          refine W_gno rfl rfl rfl ?_
          first | refine W_pickt rfl rfl rfl ?_ | refine W_pickf rfl rfl rfl ?_
          refine W_nil ?_
          refine W_condF rfl rfl ?_
          refine W_skip ?_
          refine W_sr ?_
          refine W_load rfl ty4 rfl (Cell.own (by repeat (first | exact List.mem_cons_self | apply List.mem_cons_of_mem | apply List.mem_append_right)) rfl) rfl ?_
          refine W_move rfl rfl ?_
          refine W_gno rfl rfl rfl ?_
          first | refine W_pickt rfl rfl rfl ?_ | refine W_pickf rfl rfl rfl ?_
          refine W_move rfl rfl ?_
          refine W_gno rfl rfl rfl ?_
          refine W_gno rfl rfl rfl ?_
          refine W_gno rfl rfl rfl ?_
          refine W_gno rfl rfl rfl ?_
          first | refine W_pickt rfl rfl rfl ?_ | refine W_pickf rfl rfl rfl ?_
          refine W_nil ?_
          refine W_condF rfl rfl ?_
          refine W_skip ?_
          refine W_end0m Tryd.results70 (.nil _) (.refl _) ?_
          exact ⟨H, .refl _, .inl hJ⟩
    · skip
      cases le
      · skip
        cases gt
        · skip
          refine W_seq ?_
          refine W_sr ?_
          refine W_load rfl ty4 rfl (Cell.own (by repeat (first | exact List.mem_cons_self | apply List.mem_cons_of_mem | apply List.mem_append_right)) rfl) rfl ?_
          refine W_move rfl rfl ?_
          refine W_gno rfl rfl rfl ?_
          refine W_gno rfl rfl rfl ?_
          refine W_gno rfl rfl rfl ?_
          refine W_gno rfl rfl rfl ?_
          refine W_gnou rfl rfl rfl ?_
          refine W_gnou rfl rfl rfl ?_
          refine W_gno rfl rfl rfl ?_
          first | refine W_pickt rfl rfl rfl ?_ | refine W_pickf rfl rfl rfl ?_
          refine W_move rfl rfl ?_
          refine W_gno rfl rfl rfl ?_
          refine W_gno rfl rfl rfl ?_
          refine W_gno rfl rfl rfl ?_
          refine W_gno rfl rfl rfl ?_
          first | refine W_pickt rfl rfl rfl ?_ | refine W_pickf rfl rfl rfl ?_
          refine W_nil ?_
          refine W_condF rfl rfl ?_
          refine W_skip ?_
          refine W_seq ?_
          refine W_sr ?_
          refine W_load rfl ty4 rfl (Cell.own (by repeat (first | exact List.mem_cons_self | apply List.mem_cons_of_mem | apply List.mem_append_right)) rfl) rfl ?_
          refine W_move rfl rfl ?_
          refine W_gyes rfl rfl ?_
          refine W_move rfl rfl ?_
          refine W_gyes rfl rfl ?_
          refine W_load rfl ty3 rfl (Cell.own (by repeat (first | exact List.mem_cons_self | apply List.mem_cons_of_mem | apply List.mem_append_right)) rfl) rfl ?_
          refine W_gyes rfl rfl ?_
          refine W_bin rfl rfl (b_add rfl) rfl ?_
          refine W_gyes rfl rfl ?_
          refine W_yield rfl (.cons rfl .nil) rfl (hround 0 _ H rfl hJ) ?_
          rintro v H' ⟨H1, hs, ⟨rfl, hJ1⟩ | ⟨rfl, hS⟩⟩
          · refine W_hsub hs ?_
            refine W_gyes rfl rfl ?_
            refine W_not rfl rfl ?_
            first | refine W_pickt rfl rfl rfl ?_ | refine W_pickf rfl rfl rfl ?_
            refine W_nil ?_
            refine W_condF rfl rfl ?_
            refine W_skip ?_
            refine W_sr ?_
            refine W_load rfl ty4 rfl (Cell.own (by repeat (first | exact List.mem_cons_self | apply List.mem_cons_of_mem | apply List.mem_append_right)) rfl) rfl ?_
            refine W_move rfl rfl ?_
            refine W_gno rfl rfl rfl ?_
            first | refine W_pickt rfl rfl rfl ?_ | refine W_pickf rfl rfl rfl ?_
            refine W_move rfl rfl ?_
            refine W_gno rfl rfl rfl ?_
            refine W_gno rfl rfl rfl ?_
            refine W_gno rfl rfl rfl ?_
            refine W_gno rfl rfl rfl ?_
            first | refine W_pickt rfl rfl rfl ?_ | refine W_pickf rfl rfl rfl ?_
            refine W_nil ?_
            refine W_condF rfl rfl ?_
            refine W_skip ?_
            refine W_end0m Tryd.results70 (.nil _) (.refl _) ?_
            exact ⟨H1, .refl _, .inl hJ1⟩
          · refine W_hsub hs ?_
            refine W_gyes rfl rfl ?_
            refine W_not rfl rfl ?_
            first | refine W_pickt rfl rfl rfl ?_ | refine W_pickf rfl rfl rfl ?_
            refine W_nil ?_
            refine W_condT rfl rfl ?_
            refine W_ret0m Tryd.results70 (.nil _) (.refl _) ?_
            exact ⟨H1, .refl _, .inr hS⟩
        · skip
          refine W_seq ?_
          refine W_sr ?_
          refine W_load rfl ty4 rfl (Cell.own (by repeat (first | exact List.mem_cons_self | apply List.mem_cons_of_mem | apply List.mem_append_right)) rfl) rfl ?_
          refine W_move rfl rfl ?_
          refine W_gno rfl rfl rfl ?_
          refine W_gno rfl rfl rfl ?_
          refine W_gno rfl rfl rfl ?_
          refine W_gno rfl rfl rfl ?_
          refine W_gnou rfl rfl rfl ?_
          refine W_gnou rfl rfl rfl ?_
          refine W_gno rfl rfl rfl ?_
          first | refine W_pickt rfl rfl rfl ?_ | refine W_pickf rfl rfl rfl ?_
          refine W_move rfl rfl ?_
          refine W_gno rfl rfl rfl ?_
          refine W_gno rfl rfl rfl ?_
          refine W_gno rfl rfl rfl ?_
          refine W_gno rfl rfl rfl ?_
          first | refine W_pickt rfl rfl rfl ?_ | refine W_pickf rfl rfl rfl ?_
          refine W_nil ?_
          refine W_condF rfl rfl ?_
          refine W_skip ?_
          refine W_seq ?_
          refine W_sr ?_
          refine W_load rfl ty4 rfl (Cell.own (by repeat (first | exact List.mem_cons_self | apply List.mem_cons_of_mem | apply List.mem_append_right)) rfl) rfl ?_
          refine W_move rfl rfl ?_
          refine W_gyes rfl rfl ?_
          refine W_move rfl rfl ?_
          refine W_gyes rfl rfl ?_
          refine W_load rfl ty3 rfl (Cell.own (by repeat (first | exact List.mem_cons_self | apply List.mem_cons_of_mem | apply List.mem_append_right)) rfl) rfl ?_
          refine W_gyes rfl rfl ?_
          refine W_bin rfl rfl (b_add rfl) rfl ?_
          refine W_gyes rfl rfl ?_
          refine W_yield rfl (.cons rfl .nil) rfl (hround 0 _ H rfl hJ) ?_
          rintro v H' ⟨H1, hs, ⟨rfl, hJ1⟩ | ⟨rfl, hS⟩⟩
          · refine W_hsub hs ?_
            refine W_gyes rfl rfl ?_
            refine W_not rfl rfl ?_
            first | refine W_pickt rfl rfl rfl ?_ | refine W_pickf rfl rfl rfl ?_
            refine W_nil ?_
            refine W_condF rfl rfl ?_
            refine W_skip ?_
            refine W_sr ?_
            refine W_load rfl ty4 rfl (Cell.own (by repeat (first | exact List.mem_cons_self | apply List.mem_cons_of_mem | apply List.mem_append_right)) rfl) rfl ?_
            refine W_move rfl rfl ?_
            refine W_gno rfl rfl rfl ?_
            first | refine W_pickt rfl rfl rfl ?_ | refine W_pickf rfl rfl rfl ?_
            refine W_move rfl rfl ?_
            refine W_gno rfl rfl rfl ?_
            refine W_gno rfl rfl rfl ?_
            refine W_gno rfl rfl rfl ?_
            refine W_gno rfl rfl rfl ?_
            first | refine W_pickt rfl rfl rfl ?_ | refine W_pickf rfl rfl rfl ?_
            refine W_nil ?_
            refine W_condF rfl rfl ?_
            refine W_skip ?_
            refine W_end0m Tryd.results70 (.nil _) (.refl _) ?_
            exact ⟨H1, .refl _, .inl hJ1⟩
          · refine W_hsub hs ?_
            refine W_gyes rfl rfl ?_
            refine W_not rfl rfl ?_
            first | refine W_pickt rfl rfl rfl ?_ | refine W_pickf rfl rfl rfl ?_
            refine W_nil ?_
            refine W_condT rfl rfl ?_
            refine W_ret0m Tryd.results70 (.nil _) (.refl _) ?_
            exact ⟨H1, .refl _, .inr hS⟩
      · skip
        cases gt
        · skip
          refine W_seq ?_
          refine W_sr ?_
          refine W_load rfl ty4 rfl (Cell.own (by repeat (first | exact List.mem_cons_self | apply List.mem_cons_of_mem | apply List.mem_append_right)) rfl) rfl ?_
          refine W_move rfl rfl ?_
          refine W_gno rfl rfl rfl ?_
          refine W_gno rfl rfl rfl ?_
          refine W_gno rfl rfl rfl ?_
          refine W_gno rfl rfl rfl ?_
          refine W_gnou rfl rfl rfl ?_
          refine W_gnou rfl rfl rfl ?_
          refine W_gno rfl rfl rfl ?_
          first | refine W_pickt rfl rfl rfl ?_ | refine W_pickf rfl rfl rfl ?_
          refine W_move rfl rfl ?_
          refine W_gno rfl rfl rfl ?_
          refine W_gno rfl rfl rfl ?_
          refine W_gno rfl rfl rfl ?_
          refine W_gno rfl rfl rfl ?_
          first | refine W_pickt rfl rfl rfl ?_ | refine W_pickf rfl rfl rfl ?_
          refine W_nil ?_
          refine W_condF rfl rfl ?_
          refine W_skip ?_
          refine W_seq ?_
          refine W_sr ?_
          refine W_load rfl ty4 rfl (Cell.own (by repeat (first | exact List.mem_cons_self | apply List.mem_cons_of_mem | apply List.mem_append_right)) rfl) rfl ?_
          refine W_move rfl rfl ?_
          refine W_gyes rfl rfl ?_
          refine W_move rfl rfl ?_
          refine W_gyes rfl rfl ?_
          refine W_load rfl ty3 rfl (Cell.own (by repeat (first | exact List.mem_cons_self | apply List.mem_cons_of_mem | apply List.mem_append_right)) rfl) rfl ?_
          refine W_gyes rfl rfl ?_
          refine W_bin rfl rfl (b_add rfl) rfl ?_
          refine W_gyes rfl rfl ?_
          refine W_yield rfl (.cons rfl .nil) rfl (hround 0 _ H rfl hJ) ?_
          rintro v H' ⟨H1, hs, ⟨rfl, hJ1⟩ | ⟨rfl, hS⟩⟩
          · refine W_hsub hs ?_
            refine W_gyes rfl rfl ?_
            refine W_not rfl rfl ?_
            first | refine W_pickt rfl rfl rfl ?_ | refine W_pickf rfl rfl rfl ?_
            refine W_nil ?_
            refine W_condF rfl rfl ?_
            refine W_skip ?_
            refine W_sr ?_
            refine W_load rfl ty4 rfl (Cell.own (by repeat (first | exact List.mem_cons_self | apply List.mem_cons_of_mem | apply List.mem_append_right)) rfl) rfl ?_
            refine W_move rfl rfl ?_
            refine W_gno rfl rfl rfl ?_
            first | refine W_pickt rfl rfl rfl ?_ | refine W_pickf rfl rfl rfl ?_
            refine W_move rfl rfl ?_
            refine W_gno rfl rfl rfl ?_
            refine W_gno rfl rfl rfl ?_
            refine W_gno rfl rfl rfl ?_
            refine W_gno rfl rfl rfl ?_
            first | refine W_pickt rfl rfl rfl ?_ | refine W_pickf rfl rfl rfl ?_
            refine W_nil ?_
            refine W_condF rfl rfl ?_
            refine W_skip ?_
            refine W_end0m Tryd.results70 (.nil _) (.refl _) ?_
            exact ⟨H1, .refl _, .inl hJ1⟩
          · refine W_hsub hs ?_
            refine W_gyes rfl rfl ?_
            refine W_not rfl rfl ?_
            first | refine W_pickt rfl rfl rfl ?_ | refine W_pickf rfl rfl rfl ?_
            refine W_nil ?_
            refine W_condT rfl rfl ?_
            refine W_ret0m Tryd.results70 (.nil _) (.refl _) ?_
            exact ⟨H1, .refl _, .inr hS⟩
        · skip
          refine W_seq ?_
          refine W_sr ?_
          refine W_load rfl ty4 rfl (Cell.own (by repeat (first | exact List.mem_cons_self | apply List.mem_cons_of_mem | apply List.mem_append_right)) rfl) rfl ?_
          refine W_move rfl rfl ?_
          refine W_gno rfl rfl rfl ?_
          refine W_gno rfl rfl rfl ?_
          refine W_gno rfl rfl rfl ?_
          refine W_gno rfl rfl rfl ?_
          refine W_gnou rfl rfl rfl ?_
          refine W_gnou rfl rfl rfl ?_
          refine W_gno rfl rfl rfl ?_
          first | refine W_pickt rfl rfl rfl ?_ | refine W_pickf rfl rfl rfl ?_
          refine W_move rfl rfl ?_
          refine W_gno rfl rfl rfl ?_
          refine W_gno rfl rfl rfl ?_
          refine W_gno rfl rfl rfl ?_
          refine W_gno rfl rfl rfl ?_
          first | refine W_pickt rfl rfl rfl ?_ | refine W_pickf rfl rfl rfl ?_
          refine W_nil ?_
          refine W_condF rfl rfl ?_
          refine W_skip ?_
          refine W_seq ?_
          refine W_sr ?_
          refine W_load rfl ty4 rfl (Cell.own (by repeat (first | exact List.mem_cons_self | apply List.mem_cons_of_mem | apply List.mem_append_right)) rfl) rfl ?_
          refine W_move rfl rfl ?_
          refine W_gyes rfl rfl ?_
          refine W_move rfl rfl ?_
          refine W_gyes rfl rfl ?_
          refine W_load rfl ty3 rfl (Cell.own (by repeat (first | exact List.mem_cons_self | apply List.mem_cons_of_mem | apply List.mem_append_right)) rfl) rfl ?_
          refine W_gyes rfl rfl ?_
          refine W_bin rfl rfl (b_add rfl) rfl ?_
          refine W_gyes rfl rfl ?_
          refine W_yield rfl (.cons rfl .nil) rfl (hround 0 _ H rfl hJ) ?_
          rintro v H' ⟨H1, hs, ⟨rfl, hJ1⟩ | ⟨rfl, hS⟩⟩
          · refine W_hsub hs ?_
            refine W_gyes rfl rfl ?_
            refine W_not rfl rfl ?_
            first | refine W_pickt rfl rfl rfl ?_ | refine W_pickf rfl rfl rfl ?_
            refine W_nil ?_
            refine W_condF rfl rfl ?_
            refine W_skip ?_
            refine W_sr ?_
            refine W_load rfl ty4 rfl (Cell.own (by repeat (first | exact List.mem_cons_self | apply List.mem_cons_of_mem | apply List.mem_append_right)) rfl) rfl ?_
            refine W_move rfl rfl ?_
            refine W_gno rfl rfl rfl ?_
            first | refine W_pickt rfl rfl rfl ?_ | refine W_pickf rfl rfl rfl ?_
            refine W_move rfl rfl ?_
            refine W_gno rfl rfl rfl ?_
            refine W_gno rfl rfl rfl ?_
            refine W_gno rfl rfl rfl ?_
            refine W_gno rfl rfl rfl ?_
            first | refine W_pickt rfl rfl rfl ?_ | refine W_pickf rfl rfl rfl ?_
            refine W_nil ?_
            refine W_condF rfl rfl ?_
            refine W_skip ?_
            refine W_end0m Tryd.results70 (.nil _) (.refl _) ?_
            exact ⟨H1, .refl _, .inl hJ1⟩
          · refine W_hsub hs ?_
            refine W_gyes rfl rfl ?_
            refine W_not rfl rfl ?_
            first | refine W_pickt rfl rfl rfl ?_ | refine W_pickf rfl rfl rfl ?_
            refine W_nil ?_
            refine W_condT rfl rfl ?_
            refine W_ret0m Tryd.results70 (.nil _) (.refl _) ?_
            exact ⟨H1, .refl _, .inr hS⟩
  · skip
    cases next
    · skip
      cases le
      · skip
        cases gt
        · skip
          refine W_seq ?_
          refine W_sr ?_
          refine W_load rfl ty4 rfl (Cell.own (by repeat (first | exact List.mem_cons_self | apply List.mem_cons_of_mem | apply List.mem_append_right)) rfl) rfl ?_
          refine W_move rfl rfl ?_
          refine W_gyes rfl rfl ?_
          refine W_load rfl ty3 rfl (Cell.own (by repeat (first | exact List.mem_cons_self | apply List.mem_cons_of_mem | apply List.mem_append_right)) rfl) rfl ?_
          refine W_gyes rfl rfl ?_
          refine W_load rfl ty3 rfl (Cell.own (by repeat (first | exact List.mem_cons_self | apply List.mem_cons_of_mem | apply List.mem_append_right)) rfl) rfl ?_
          refine W_gyes rfl rfl ?_
          refine W_bin rfl rfl (b_leq' hle) rfl ?_
          refine W_gyes rfl rfl ?_
          refine W_move rfl rfl ?_
          refine W_gyes rfl rfl ?_
          refine W_load rfl ty4 rfl (Cell.own (by repeat (first | exact List.mem_cons_self | apply List.mem_cons_of_mem | apply List.mem_append_right)) rfl) rfl ?_
          refine W_gyes rfl rfl ?_
          refine W_not rfl rfl ?_
          refine W_gyes rfl rfl ?_
          first | refine W_pickt rfl rfl rfl ?_ | refine W_pickf rfl rfl rfl ?_
          first | refine W_pickt rfl rfl rfl ?_ | refine W_pickf rfl rfl rfl ?_
          refine W_move rfl rfl ?_
          refine W_gyes rfl rfl ?_
          refine W_move rfl rfl ?_
          refine W_gyes rfl rfl ?_
          refine W_load rfl ty3 rfl (Cell.own (by repeat (first | exact List.mem_cons_self | apply List.mem_cons_of_mem | apply List.mem_append_right)) rfl) rfl ?_
          refine W_gyes rfl rfl ?_
          refine W_yield rfl (.cons rfl .nil) rfl (hround 0 _ H rfl hJ) ?_
          rintro v H' ⟨H1, hs, ⟨rfl, hJ1⟩ | ⟨rfl, hS⟩⟩
          · refine W_hsub hs ?_
            refine W_gyes rfl rfl ?_
            refine W_not rfl rfl ?_
            first | refine W_pickt rfl rfl rfl ?_ | refine W_pickf rfl rfl rfl ?_
            refine W_nil ?_
            refine W_condF rfl rfl ?_
            refine W_skip ?_
            refine W_seq ?_
            refine W_sr ?_
            refine W_load rfl ty4 rfl (Cell.own (by repeat (first | exact List.mem_cons_self | apply List.mem_cons_of_mem | apply List.mem_append_right)) rfl) rfl ?_
            refine W_move rfl rfl ?_
            refine W_gno rfl rfl rfl ?_
            refine W_gno rfl rfl rfl ?_
            refine W_gno rfl rfl rfl ?_
            refine W_gno rfl rfl rfl ?_
            refine W_gno rfl rfl rfl ?_
            first | refine W_pickt rfl rfl rfl ?_ | refine W_pickf rfl rfl rfl ?_
            refine W_nil ?_
            refine W_condF rfl rfl ?_
            refine W_skip ?_
            refine W_sr ?_
            refine W_load rfl ty4 rfl (Cell.own (by repeat (first | exact List.mem_cons_self | apply List.mem_cons_of_mem | apply List.mem_append_right)) rfl) rfl ?_
            refine W_move rfl rfl ?_
            refine W_gyes rfl rfl ?_
            refine W_load rfl ty4 rfl (Cell.own (by repeat (first | exact List.mem_cons_self | apply List.mem_cons_of_mem | apply List.mem_append_right)) rfl) rfl ?_
            first | refine W_pickt rfl rfl rfl ?_ | refine W_pickf rfl rfl rfl ?_
            refine W_move rfl rfl ?_
            refine W_gno rfl rfl rfl ?_
            refine W_gno rfl rfl rfl ?_
            refine W_gno rfl rfl rfl ?_
            refine W_gno rfl rfl rfl ?_
            first | refine W_pickt rfl rfl rfl ?_ | refine W_pickf rfl rfl rfl ?_
            refine W_nil ?_
            refine W_condF rfl rfl ?_
            refine W_skip ?_
            refine W_end0m Tryd.results70 (.nil _) (.refl _) ?_
            exact ⟨H1, .refl _, .inl hJ1⟩
          · refine W_hsub hs ?_
            refine W_gyes rfl rfl ?_
            refine W_not rfl rfl ?_
            first | refine W_pickt rfl rfl rfl ?_ | refine W_pickf rfl rfl rfl ?_
            refine W_nil ?_
            refine W_condT rfl rfl ?_
            refine W_ret0m Tryd.results70 (.nil _) (.refl _) ?_
            exact ⟨H1, .refl _, .inr hS⟩
        · skip
          refine W_seq ?_
          refine W_sr ?_
          refine W_load rfl ty4 rfl (Cell.own (by repeat (first | exact List.mem_cons_self | apply List.mem_cons_of_mem | apply List.mem_append_right)) rfl) rfl ?_
          refine W_move rfl rfl ?_
          refine W_gyes rfl rfl ?_
          refine W_load rfl ty3 rfl (Cell.own (by repeat (first | exact List.mem_cons_self | apply List.mem_cons_of_mem | apply List.mem_append_right)) rfl) rfl ?_
          refine W_gyes rfl rfl ?_
          refine W_load rfl ty3 rfl (Cell.own (by repeat (first | exact List.mem_cons_self | apply List.mem_cons_of_mem | apply List.mem_append_right)) rfl) rfl ?_
          refine W_gyes rfl rfl ?_
          refine W_bin rfl rfl (b_leq' hle) rfl ?_
          refine W_gyes rfl rfl ?_
          refine W_move rfl rfl ?_
          refine W_gyes rfl rfl ?_
          refine W_load rfl ty4 rfl (Cell.own (by repeat (first | exact List.mem_cons_self | apply List.mem_cons_of_mem | apply List.mem_append_right)) rfl) rfl ?_
          refine W_gyes rfl rfl ?_
          refine W_not rfl rfl ?_
          refine W_gyes rfl rfl ?_
          first | refine W_pickt rfl rfl rfl ?_ | refine W_pickf rfl rfl rfl ?_
          first | refine W_pickt rfl rfl rfl ?_ | refine W_pickf rfl rfl rfl ?_
          refine W_move rfl rfl ?_
          refine W_gyes rfl rfl ?_
          refine W_move rfl rfl ?_
          refine W_gyes rfl rfl ?_
          refine W_load rfl ty3 rfl (Cell.own (by repeat (first | exact List.mem_cons_self | apply List.mem_cons_of_mem | apply List.mem_append_right)) rfl) rfl ?_
          refine W_gyes rfl rfl ?_
          refine W_yield rfl (.cons rfl .nil) rfl (hround 0 _ H rfl hJ) ?_
          rintro v H' ⟨H1, hs, ⟨rfl, hJ1⟩ | ⟨rfl, hS⟩⟩
          · refine W_hsub hs ?_
            refine W_gyes rfl rfl ?_
            refine W_not rfl rfl ?_
            first | refine W_pickt rfl rfl rfl ?_ | refine W_pickf rfl rfl rfl ?_
            refine W_nil ?_
            refine W_condF rfl rfl ?_
            refine W_skip ?_
            refine W_seq ?_
            refine W_sr ?_
            refine W_load rfl ty4 rfl (Cell.own (by repeat (first | exact List.mem_cons_self | apply List.mem_cons_of_mem | apply List.mem_append_right)) rfl) rfl ?_
            refine W_move rfl rfl ?_
            refine W_gno rfl rfl rfl ?_
            refine W_gno rfl rfl rfl ?_
            refine W_gno rfl rfl rfl ?_
            refine W_gno rfl rfl rfl ?_
            refine W_gno rfl rfl rfl ?_
            first | refine W_pickt rfl rfl rfl ?_ | refine W_pickf rfl rfl rfl ?_
            refine W_nil ?_
            refine W_condF rfl rfl ?_
            refine W_skip ?_
            refine W_sr ?_
            refine W_load rfl ty4 rfl (Cell.own (by repeat (first | exact List.mem_cons_self | apply List.mem_cons_of_mem | apply List.mem_append_right)) rfl) rfl ?_
            refine W_move rfl rfl ?_
            refine W_gyes rfl rfl ?_
            refine W_load rfl ty4 rfl (Cell.own (by repeat (first | exact List.mem_cons_self | apply List.mem_cons_of_mem | apply List.mem_append_right)) rfl) rfl ?_
            first | refine W_pickt rfl rfl rfl ?_ | refine W_pickf rfl rfl rfl ?_
            refine W_move rfl rfl ?_
            refine W_gno rfl rfl rfl ?_
            refine W_gno rfl rfl rfl ?_
            refine W_gno rfl rfl rfl ?_
            refine W_gno rfl rfl rfl ?_
            first | refine W_pickt rfl rfl rfl ?_ | refine W_pickf rfl rfl rfl ?_
            refine W_nil ?_
            refine W_condF rfl rfl ?_
            refine W_skip ?_
            refine W_end0m Tryd.results70 (.nil _) (.refl _) ?_
            exact ⟨H1, .refl _, .inl hJ1⟩
          · refine W_hsub hs ?_
            refine W_gyes rfl rfl ?_
            refine W_not rfl rfl ?_
            first | refine W_pickt rfl rfl rfl ?_ | refine W_pickf rfl rfl rfl ?_
            refine W_nil ?_
            refine W_condT rfl rfl ?_
            refine W_ret0m Tryd.results70 (.nil _) (.refl _) ?_
            exact ⟨H1, .refl _, .inr hS⟩
      · skip
        cases gt
        · skip
          refine W_seq ?_
          refine W_sr ?_
          refine W_load rfl ty4 rfl (Cell.own (by repeat (first | exact List.mem_cons_self | apply List.mem_cons_of_mem | apply List.mem_append_right)) rfl) rfl ?_
          refine W_move rfl rfl ?_
          refine W_gyes rfl rfl ?_
          refine W_load rfl ty3 rfl (Cell.own (by repeat (first | exact List.mem_cons_self | apply List.mem_cons_of_mem | apply List.mem_append_right)) rfl) rfl ?_
          refine W_gyes rfl rfl ?_
          refine W_load rfl ty3 rfl (Cell.own (by repeat (first | exact List.mem_cons_self | apply List.mem_cons_of_mem | apply List.mem_append_right)) rfl) rfl ?_
          refine W_gyes rfl rfl ?_
          refine W_bin rfl rfl (b_leq' hle) rfl ?_
          refine W_gyes rfl rfl ?_
          refine W_move rfl rfl ?_
          refine W_gno rfl rfl rfl ?_
          refine W_gno rfl rfl rfl ?_
          refine W_gyes rfl rfl ?_
          first | refine W_pickt rfl rfl rfl ?_ | refine W_pickf rfl rfl rfl ?_
          first | refine W_pickt rfl rfl rfl ?_ | refine W_pickf rfl rfl rfl ?_
          refine W_move rfl rfl ?_
          refine W_gyes rfl rfl ?_
          refine W_move rfl rfl ?_
          refine W_gyes rfl rfl ?_
          refine W_load rfl ty3 rfl (Cell.own (by repeat (first | exact List.mem_cons_self | apply List.mem_cons_of_mem | apply List.mem_append_right)) rfl) rfl ?_
          refine W_gyes rfl rfl ?_
          refine W_yield rfl (.cons rfl .nil) rfl (hround 0 _ H rfl hJ) ?_
          rintro v H' ⟨H1, hs, ⟨rfl, hJ1⟩ | ⟨rfl, hS⟩⟩
          · refine W_hsub hs ?_
            refine W_gyes rfl rfl ?_
            refine W_not rfl rfl ?_
            first | refine W_pickt rfl rfl rfl ?_ | refine W_pickf rfl rfl rfl ?_
            refine W_nil ?_
            refine W_condF rfl rfl ?_
            refine W_skip ?_
            refine W_seq ?_
            refine W_sr ?_
            refine W_load rfl ty4 rfl (Cell.own (by repeat (first | exact List.mem_cons_self | apply List.mem_cons_of_mem | apply List.mem_append_right)) rfl) rfl ?_
            refine W_move rfl rfl ?_
            refine W_gno rfl rfl rfl ?_
            refine W_gno rfl rfl rfl ?_
            refine W_gno rfl rfl rfl ?_
            refine W_gno rfl rfl rfl ?_
            refine W_gno rfl rfl rfl ?_
            first | refine W_pickt rfl rfl rfl ?_ | refine W_pickf rfl rfl rfl ?_
            refine W_nil ?_
            refine W_condF rfl rfl ?_
            refine W_skip ?_
            refine W_sr ?_
            refine W_load rfl ty4 rfl (Cell.own (by repeat (first | exact List.mem_cons_self | apply List.mem_cons_of_mem | apply List.mem_append_right)) rfl) rfl ?_
            refine W_move rfl rfl ?_
            refine W_gyes rfl rfl ?_
            refine W_load rfl ty4 rfl (Cell.own (by repeat (first | exact List.mem_cons_self | apply List.mem_cons_of_mem | apply List.mem_append_right)) rfl) rfl ?_
            first | refine W_pickt rfl rfl rfl ?_ | refine W_pickf rfl rfl rfl ?_
            refine W_move rfl rfl ?_
            refine W_gno rfl rfl rfl ?_
            refine W_gno rfl rfl rfl ?_
            refine W_gno rfl rfl rfl ?_
            refine W_gno rfl rfl rfl ?_
            first | refine W_pickt rfl rfl rfl ?_ | refine W_pickf rfl rfl rfl ?_
            refine W_nil ?_
            refine W_condF rfl rfl ?_
            refine W_skip ?_
            refine W_end0m Tryd.results70 (.nil _) (.refl _) ?_
            exact ⟨H1, .refl _, .inl hJ1⟩
          · refine W_hsub hs ?_
            refine W_gyes rfl rfl ?_
            refine W_not rfl rfl ?_
            first | refine W_pickt rfl rfl rfl ?_ | refine W_pickf rfl rfl rfl ?_
            refine W_nil ?_
            refine W_condT rfl rfl ?_
            refine W_ret0m Tryd.results70 (.nil _) (.refl _) ?_
            exact ⟨H1, .refl _, .inr hS⟩
        · skip
          refine W_seq ?_
          refine W_sr ?_
          refine W_load rfl ty4 rfl (Cell.own (by repeat (first | exact List.mem_cons_self | apply List.mem_cons_of_mem | apply List.mem_append_right)) rfl) rfl ?_
          refine W_move rfl rfl ?_
          refine W_gyes rfl rfl ?_
          refine W_load rfl ty3 rfl (Cell.own (by repeat (first | exact List.mem_cons_self | apply List.mem_cons_of_mem | apply List.mem_append_right)) rfl) rfl ?_
          refine W_gyes rfl rfl ?_
          refine W_load rfl ty3 rfl (Cell.own (by repeat (first | exact List.mem_cons_self | apply List.mem_cons_of_mem | apply List.mem_append_right)) rfl) rfl ?_
          refine W_gyes rfl rfl ?_
          refine W_bin rfl rfl (b_leq' hle) rfl ?_
          refine W_gyes rfl rfl ?_
          refine W_move rfl rfl ?_
          refine W_gno rfl rfl rfl ?_
          refine W_gno rfl rfl rfl ?_
          refine W_gyes rfl rfl ?_
          first | refine W_pickt rfl rfl rfl ?_ | refine W_pickf rfl rfl rfl ?_
          first | refine W_pickt rfl rfl rfl ?_ | refine W_pickf rfl rfl rfl ?_
          refine W_move rfl rfl ?_
          refine W_gyes rfl rfl ?_
          refine W_move rfl rfl ?_
          refine W_gyes rfl rfl ?_
          refine W_load rfl ty3 rfl (Cell.own (by repeat (first | exact List.mem_cons_self | apply List.mem_cons_of_mem | apply List.mem_append_right)) rfl) rfl ?_
          refine W_gyes rfl rfl ?_
          refine W_yield rfl (.cons rfl .nil) rfl (hround 0 _ H rfl hJ) ?_
          rintro v H' ⟨H1, hs, ⟨rfl, hJ1⟩ | ⟨rfl, hS⟩⟩
          · refine W_hsub hs ?_
            refine W_gyes rfl rfl ?_
            refine W_not rfl rfl ?_
            first | refine W_pickt rfl rfl rfl ?_ | refine W_pickf rfl rfl rfl ?_
            refine W_nil ?_
            refine W_condF rfl rfl ?_
            refine W_skip ?_
            refine W_seq ?_
            refine W_sr ?_
            refine W_load rfl ty4 rfl (Cell.own (by repeat (first | exact List.mem_cons_self | apply List.mem_cons_of_mem | apply List.mem_append_right)) rfl) rfl ?_
            refine W_move rfl rfl ?_
            refine W_gno rfl rfl rfl ?_
            refine W_gno rfl rfl rfl ?_
            refine W_gno rfl rfl rfl ?_
            refine W_gno rfl rfl rfl ?_
            refine W_gno rfl rfl rfl ?_
            first | refine W_pickt rfl rfl rfl ?_ | refine W_pickf rfl rfl rfl ?_
            refine W_nil ?_
            refine W_condF rfl rfl ?_
            refine W_skip ?_
            refine W_sr ?_
            refine W_load rfl ty4 rfl (Cell.own (by repeat (first | exact List.mem_cons_self | apply List.mem_cons_of_mem | apply List.mem_append_right)) rfl) rfl ?_
            refine W_move rfl rfl ?_
            refine W_gyes rfl rfl ?_
            refine W_load rfl ty4 rfl (Cell.own (by repeat (first | exact List.mem_cons_self | apply List.mem_cons_of_mem | apply List.mem_append_right)) rfl) rfl ?_
            first | refine W_pickt rfl rfl rfl ?_ | refine W_pickf rfl rfl rfl ?_
            refine W_move rfl rfl ?_
            refine W_gno rfl rfl rfl ?_
            refine W_gno rfl rfl rfl ?_
            refine W_gno rfl rfl rfl ?_
            refine W_gno rfl rfl rfl ?_
            first | refine W_pickt rfl rfl rfl ?_ | refine W_pickf rfl rfl rfl ?_
            refine W_nil ?_
            refine W_condF rfl rfl ?_
            refine W_skip ?_
            refine W_end0m Tryd.results70 (.nil _) (.refl _) ?_
            exact ⟨H1, .refl _, .inl hJ1⟩
          · refine W_hsub hs ?_
            refine W_gyes rfl rfl ?_
            refine W_not rfl rfl ?_
            first | refine W_pickt rfl rfl rfl ?_ | refine W_pickf rfl rfl rfl ?_
            refine W_nil ?_
            refine W_condT rfl rfl ?_
            refine W_ret0m Tryd.results70 (.nil _) (.refl _) ?_
            exact ⟨H1, .refl _, .inr hS⟩
    · skip
      cases le
      · skip
        cases gt
        · skip
          refine W_seq ?_
          refine W_sr ?_
          refine W_load rfl ty4 rfl (Cell.own (by repeat (first | exact List.mem_cons_self | apply List.mem_cons_of_mem | apply List.mem_append_right)) rfl) rfl ?_
          refine W_move rfl rfl ?_
          refine W_gyes rfl rfl ?_
          refine W_load rfl ty3 rfl (Cell.own (by repeat (first | exact List.mem_cons_self | apply List.mem_cons_of_mem | apply List.mem_append_right)) rfl) rfl ?_
          refine W_gyes rfl rfl ?_
          refine W_load rfl ty3 rfl (Cell.own (by repeat (first | exact List.mem_cons_self | apply List.mem_cons_of_mem | apply List.mem_append_right)) rfl) rfl ?_
          refine W_gyes rfl rfl ?_
          refine W_bin rfl rfl (b_leq' hle) rfl ?_
          refine W_gyes rfl rfl ?_
          refine W_move rfl rfl ?_
          refine W_gyes rfl rfl ?_
          refine W_load rfl ty4 rfl (Cell.own (by repeat (first | exact List.mem_cons_self | apply List.mem_cons_of_mem | apply List.mem_append_right)) rfl) rfl ?_
          refine W_gyes rfl rfl ?_
          refine W_not rfl rfl ?_
          refine W_gyes rfl rfl ?_
          first | refine W_pickt rfl rfl rfl ?_ | refine W_pickf rfl rfl rfl ?_
          first | refine W_pickt rfl rfl rfl ?_ | refine W_pickf rfl rfl rfl ?_
          refine W_move rfl rfl ?_
          refine W_gno rfl rfl rfl ?_
          refine W_gno rfl rfl rfl ?_
          refine W_gno rfl rfl rfl ?_
          refine W_gno rfl rfl rfl ?_
          first | refine W_pickt rfl rfl rfl ?_ | refine W_pickf rfl rfl rfl ?_
          refine W_nil ?_
          refine W_condF rfl rfl ?_
          refine W_skip ?_
          refine W_seq ?_
          refine W_sr ?_
          refine W_load rfl ty4 rfl (Cell.own (by repeat (first | exact List.mem_cons_self | apply List.mem_cons_of_mem | apply List.mem_append_right)) rfl) rfl ?_
          refine W_move rfl rfl ?_
          refine W_gyes rfl rfl ?_
          refine W_move rfl rfl ?_
          refine W_gyes rfl rfl ?_
          refine W_load rfl ty3 rfl (Cell.own (by repeat (first | exact List.mem_cons_self | apply List.mem_cons_of_mem | apply List.mem_append_right)) rfl) rfl ?_
          refine W_gyes rfl rfl ?_
          refine W_bin rfl rfl (b_add rfl) rfl ?_
          refine W_gyes rfl rfl ?_
          refine W_yield rfl (.cons rfl .nil) rfl (hround 0 _ H rfl hJ) ?_
          rintro v H' ⟨H1, hs, ⟨rfl, hJ1⟩ | ⟨rfl, hS⟩⟩
          · refine W_hsub hs ?_
            refine W_gyes rfl rfl ?_
            refine W_not rfl rfl ?_
            first | refine W_pickt rfl rfl rfl ?_ | refine W_pickf rfl rfl rfl ?_
            refine W_nil ?_
            refine W_condF rfl rfl ?_
            refine W_skip ?_
            refine W_sr ?_
            refine W_load rfl ty4 rfl (Cell.own (by repeat (first | exact List.mem_cons_self | apply List.mem_cons_of_mem | apply List.mem_append_right)) rfl) rfl ?_
            refine W_move rfl rfl ?_
            refine W_gyes rfl rfl ?_
            refine W_load rfl ty4 rfl (Cell.own (by repeat (first | exact List.mem_cons_self | apply List.mem_cons_of_mem | apply List.mem_append_right)) rfl) rfl ?_
            first | refine W_pickt rfl rfl rfl ?_ | refine W_pickf rfl rfl rfl ?_
            refine W_move rfl rfl ?_
            refine W_gyes rfl rfl ?_
            refine W_load rfl ty3 rfl (Cell.own (by repeat (first | exact List.mem_cons_self | apply List.mem_cons_of_mem | apply List.mem_append_right)) rfl) rfl ?_
            refine W_gyes rfl rfl ?_
            refine W_load rfl ty3 rfl (Cell.own (by repeat (first | exact List.mem_cons_self | apply List.mem_cons_of_mem | apply List.mem_append_right)) rfl) rfl ?_
            refine W_gyes rfl rfl ?_
            refine W_bin rfl rfl (b_add rfl) rfl ?_
            refine W_gyes rfl rfl ?_
            refine W_bin rfl rfl (b_gtr' hgt) rfl ?_
            first | refine W_pickt rfl rfl rfl ?_ | refine W_pickf rfl rfl rfl ?_
            refine W_nil ?_
            refine W_condF rfl rfl ?_
            refine W_skip ?_
            refine W_end0m Tryd.results70 (.nil _) (.refl _) ?_
            exact ⟨H1, .refl _, .inl hJ1⟩
          · refine W_hsub hs ?_
            refine W_gyes rfl rfl ?_
            refine W_not rfl rfl ?_
            first | refine W_pickt rfl rfl rfl ?_ | refine W_pickf rfl rfl rfl ?_
            refine W_nil ?_
            refine W_condT rfl rfl ?_
            refine W_ret0m Tryd.results70 (.nil _) (.refl _) ?_
            exact ⟨H1, .refl _, .inr hS⟩
        · skip
          refine W_seq ?_
          refine W_sr ?_
          refine W_load rfl ty4 rfl (Cell.own (by repeat (first | exact List.mem_cons_self | apply List.mem_cons_of_mem | apply List.mem_append_right)) rfl) rfl ?_
          refine W_move rfl rfl ?_
          refine W_gyes rfl rfl ?_
          refine W_load rfl ty3 rfl (Cell.own (by repeat (first | exact List.mem_cons_self | apply List.mem_cons_of_mem | apply List.mem_append_right)) rfl) rfl ?_
          refine W_gyes rfl rfl ?_
          refine W_load rfl ty3 rfl (Cell.own (by repeat (first | exact List.mem_cons_self | apply List.mem_cons_of_mem | apply List.mem_append_right)) rfl) rfl ?_
          refine W_gyes rfl rfl ?_
          refine W_bin rfl rfl (b_leq' hle) rfl ?_
          refine W_gyes rfl rfl ?_
          refine W_move rfl rfl ?_
          refine W_gyes rfl rfl ?_
          refine W_load rfl ty4 rfl (Cell.own (by repeat (first | exact List.mem_cons_self | apply List.mem_cons_of_mem | apply List.mem_append_right)) rfl) rfl ?_
          refine W_gyes rfl rfl ?_
          refine W_not rfl rfl ?_
          refine W_gyes rfl rfl ?_
          first | refine W_pickt rfl rfl rfl ?_ | refine W_pickf rfl rfl rfl ?_
          first | refine W_pickt rfl rfl rfl ?_ | refine W_pickf rfl rfl rfl ?_
          refine W_move rfl rfl ?_
          refine W_gno rfl rfl rfl ?_
          refine W_gno rfl rfl rfl ?_
          refine W_gno rfl rfl rfl ?_
          refine W_gno rfl rfl rfl ?_
          first | refine W_pickt rfl rfl rfl ?_ | refine W_pickf rfl rfl rfl ?_
          refine W_nil ?_
          refine W_condF rfl rfl ?_
          refine W_skip ?_
          refine W_seq ?_
          refine W_sr ?_
          refine W_load rfl ty4 rfl (Cell.own (by repeat (first | exact List.mem_cons_self | apply List.mem_cons_of_mem | apply List.mem_append_right)) rfl) rfl ?_
          refine W_move rfl rfl ?_
          refine W_gyes rfl rfl ?_
          refine W_move rfl rfl ?_
          refine W_gyes rfl rfl ?_
          refine W_load rfl ty3 rfl (Cell.own (by repeat (first | exact List.mem_cons_self | apply List.mem_cons_of_mem | apply List.mem_append_right)) rfl) rfl ?_
          refine W_gyes rfl rfl ?_
          refine W_bin rfl rfl (b_add rfl) rfl ?_
          refine W_gyes rfl rfl ?_
          refine W_yield rfl (.cons rfl .nil) rfl (hround 0 _ H rfl hJ) ?_
          rintro v H' ⟨H1, hs, ⟨rfl, hJ1⟩ | ⟨rfl, hS⟩⟩
          · refine W_hsub hs ?_
            refine W_gyes rfl rfl ?_
            refine W_not rfl rfl ?_
            first | refine W_pickt rfl rfl rfl ?_ | refine W_pickf rfl rfl rfl ?_
            refine W_nil ?_
            refine W_condF rfl rfl ?_
            refine W_skip ?_
            refine W_sr ?_
            refine W_load rfl ty4 rfl (Cell.own (by repeat (first | exact List.mem_cons_self | apply List.mem_cons_of_mem | apply List.mem_append_right)) rfl) rfl ?_
            refine W_move rfl rfl ?_
            refine W_gyes rfl rfl ?_
            refine W_load rfl ty4 rfl (Cell.own (by repeat (first | exact List.mem_cons_self | apply List.mem_cons_of_mem | apply List.mem_append_right)) rfl) rfl ?_
            first | refine W_pickt rfl rfl rfl ?_ | refine W_pickf rfl rfl rfl ?_
            refine W_move rfl rfl ?_
            refine W_gyes rfl rfl ?_
            refine W_load rfl ty3 rfl (Cell.own (by repeat (first | exact List.mem_cons_self | apply List.mem_cons_of_mem | apply List.mem_append_right)) rfl) rfl ?_
            refine W_gyes rfl rfl ?_
            refine W_load rfl ty3 rfl (Cell.own (by repeat (first | exact List.mem_cons_self | apply List.mem_cons_of_mem | apply List.mem_append_right)) rfl) rfl ?_
            refine W_gyes rfl rfl ?_
            refine W_bin rfl rfl (b_add rfl) rfl ?_
            refine W_gyes rfl rfl ?_
            refine W_bin rfl rfl (b_gtr' hgt) rfl ?_
            first | refine W_pickt rfl rfl rfl ?_ | refine W_pickf rfl rfl rfl ?_
            refine W_nil ?_
            refine W_condT rfl rfl ?_
            refine W_region ?_
            refine W_move rfl rfl ?_
            refine W_load rfl ty3 rfl (Cell.own (by repeat (first | exact List.mem_cons_self | apply List.mem_cons_of_mem | apply List.mem_append_right)) rfl) rfl ?_
            refine W_yield rfl (.cons rfl .nil) rfl (hround 1 _ H1 rfl hJ1) ?_
            rintro v H' ⟨H2, hs, ⟨rfl, hJ2⟩ | ⟨rfl, hS⟩⟩
            · refine W_hsub hs ?_
              refine W_nil ?_
              refine W_end0m Tryd.results70 (.nil _) (.refl _) ?_
              exact ⟨H2, .refl _, .inl hJ2⟩
            · refine W_hsub hs ?_
              refine W_nil ?_
              refine W_end0m Tryd.results70 (.nil _) (.refl _) ?_
              exact ⟨H2, .refl _, .inr hS⟩
          · refine W_hsub hs ?_
            refine W_gyes rfl rfl ?_
            refine W_not rfl rfl ?_
            first | refine W_pickt rfl rfl rfl ?_ | refine W_pickf rfl rfl rfl ?_
            refine W_nil ?_
            refine W_condT rfl rfl ?_
            refine W_ret0m Tryd.results70 (.nil _) (.refl _) ?_
            exact ⟨H1, .refl _, .inr hS⟩
      · skip
        cases gt
        · skip
          refine W_seq ?_
          refine W_sr ?_
          refine W_load rfl ty4 rfl (Cell.own (by repeat (first | exact List.mem_cons_self | apply List.mem_cons_of_mem | apply List.mem_append_right)) rfl) rfl ?_
          refine W_move rfl rfl ?_
          refine W_gyes rfl rfl ?_
          refine W_load rfl ty3 rfl (Cell.own (by repeat (first | exact List.mem_cons_self | apply List.mem_cons_of_mem | apply List.mem_append_right)) rfl) rfl ?_
          refine W_gyes rfl rfl ?_
          refine W_load rfl ty3 rfl (Cell.own (by repeat (first | exact List.mem_cons_self | apply List.mem_cons_of_mem | apply List.mem_append_right)) rfl) rfl ?_
          refine W_gyes rfl rfl ?_
          refine W_bin rfl rfl (b_leq' hle) rfl ?_
          refine W_gyes rfl rfl ?_
          refine W_move rfl rfl ?_
          refine W_gno rfl rfl rfl ?_
          refine W_gno rfl rfl rfl ?_
          refine W_gyes rfl rfl ?_
          first | refine W_pickt rfl rfl rfl ?_ | refine W_pickf rfl rfl rfl ?_
          first | refine W_pickt rfl rfl rfl ?_ | refine W_pickf rfl rfl rfl ?_
          refine W_move rfl rfl ?_
          refine W_gyes rfl rfl ?_
          refine W_move rfl rfl ?_
          refine W_gyes rfl rfl ?_
          refine W_load rfl ty3 rfl (Cell.own (by repeat (first | exact List.mem_cons_self | apply List.mem_cons_of_mem | apply List.mem_append_right)) rfl) rfl ?_
          refine W_gyes rfl rfl ?_
          refine W_yield rfl (.cons rfl .nil) rfl (hround 0 _ H rfl hJ) ?_
          rintro v H' ⟨H1, hs, ⟨rfl, hJ1⟩ | ⟨rfl, hS⟩⟩
          · refine W_hsub hs ?_
            refine W_gyes rfl rfl ?_
            refine W_not rfl rfl ?_
            first | refine W_pickt rfl rfl rfl ?_ | refine W_pickf rfl rfl rfl ?_
            refine W_nil ?_
            refine W_condF rfl rfl ?_
            refine W_skip ?_
            refine W_seq ?_
            refine W_sr ?_
            refine W_load rfl ty4 rfl (Cell.own (by repeat (first | exact List.mem_cons_self | apply List.mem_cons_of_mem | apply List.mem_append_right)) rfl) rfl ?_
            refine W_move rfl rfl ?_
            refine W_gyes rfl rfl ?_
            refine W_move rfl rfl ?_
            refine W_gyes rfl rfl ?_
            refine W_load rfl ty3 rfl (Cell.own (by repeat (first | exact List.mem_cons_self | apply List.mem_cons_of_mem | apply List.mem_append_right)) rfl) rfl ?_
            refine W_gyes rfl rfl ?_
            refine W_bin rfl rfl (b_add rfl) rfl ?_
            refine W_gyes rfl rfl ?_
            refine W_yield rfl (.cons rfl .nil) rfl (hround 1 _ H1 rfl hJ1) ?_
            rintro v H' ⟨H2, hs, ⟨rfl, hJ2⟩ | ⟨rfl, hS⟩⟩
            · refine W_hsub hs ?_
              refine W_gyes rfl rfl ?_
              refine W_not rfl rfl ?_
              first | refine W_pickt rfl rfl rfl ?_ | refine W_pickf rfl rfl rfl ?_
              refine W_nil ?_
              refine W_condF rfl rfl ?_
              refine W_skip ?_
              refine W_sr ?_
              refine W_load rfl ty4 rfl (Cell.own (by repeat (first | exact List.mem_cons_self | apply List.mem_cons_of_mem | apply List.mem_append_right)) rfl) rfl ?_
              refine W_move rfl rfl ?_
              refine W_gyes rfl rfl ?_
              refine W_load rfl ty4 rfl (Cell.own (by repeat (first | exact List.mem_cons_self | apply List.mem_cons_of_mem | apply List.mem_append_right)) rfl) rfl ?_
              first | refine W_pickt rfl rfl rfl ?_ | refine W_pickf rfl rfl rfl ?_
              refine W_move rfl rfl ?_
              refine W_gyes rfl rfl ?_
              refine W_load rfl ty3 rfl (Cell.own (by repeat (first | exact List.mem_cons_self | apply List.mem_cons_of_mem | apply List.mem_append_right)) rfl) rfl ?_
              refine W_gyes rfl rfl ?_
              refine W_load rfl ty3 rfl (Cell.own (by repeat (first | exact List.mem_cons_self | apply List.mem_cons_of_mem | apply List.mem_append_right)) rfl) rfl ?_
              refine W_gyes rfl rfl ?_
              refine W_bin rfl rfl (b_add rfl) rfl ?_
              refine W_gyes rfl rfl ?_
              refine W_bin rfl rfl (b_gtr' hgt) rfl ?_
              first | refine W_pickt rfl rfl rfl ?_ | refine W_pickf rfl rfl rfl ?_
              refine W_nil ?_
              refine W_condF rfl rfl ?_
              refine W_skip ?_
              refine W_end0m Tryd.results70 (.nil _) (.refl _) ?_
              exact ⟨H2, .refl _, .inl hJ2⟩
            · refine W_hsub hs ?_
              refine W_gyes rfl rfl ?_
              refine W_not rfl rfl ?_
              first | refine W_pickt rfl rfl rfl ?_ | refine W_pickf rfl rfl rfl ?_
              refine W_nil ?_
              refine W_condT rfl rfl ?_
              refine W_ret0m Tryd.results70 (.nil _) (.refl _) ?_
              exact ⟨H2, .refl _, .inr hS⟩
          · refine W_hsub hs ?_
            refine W_gyes rfl rfl ?_
            refine W_not rfl rfl ?_
            first | refine W_pickt rfl rfl rfl ?_ | refine W_pickf rfl rfl rfl ?_
            refine W_nil ?_
            refine W_condT rfl rfl ?_
            refine W_ret0m Tryd.results70 (.nil _) (.refl _) ?_
            exact ⟨H1, .refl _, .inr hS⟩
        · skip
          refine W_seq ?_
          refine W_sr ?_
          refine W_load rfl ty4 rfl (Cell.own (by repeat (first | exact List.mem_cons_self | apply List.mem_cons_of_mem | apply List.mem_append_right)) rfl) rfl ?_
          refine W_move rfl rfl ?_
          refine W_gyes rfl rfl ?_
          refine W_load rfl ty3 rfl (Cell.own (by repeat (first | exact List.mem_cons_self | apply List.mem_cons_of_mem | apply List.mem_append_right)) rfl) rfl ?_
          refine W_gyes rfl rfl ?_
          refine W_load rfl ty3 rfl (Cell.own (by repeat (first | exact List.mem_cons_self | apply List.mem_cons_of_mem | apply List.mem_append_right)) rfl) rfl ?_
          refine W_gyes rfl rfl ?_
          refine W_bin rfl rfl (b_leq' hle) rfl ?_
          refine W_gyes rfl rfl ?_
          refine W_move rfl rfl ?_
          refine W_gno rfl rfl rfl ?_
          refine W_gno rfl rfl rfl ?_
          refine W_gyes rfl rfl ?_
          first | refine W_pickt rfl rfl rfl ?_ | refine W_pickf rfl rfl rfl ?_
          first | refine W_pickt rfl rfl rfl ?_ | refine W_pickf rfl rfl rfl ?_
          refine W_move rfl rfl ?_
          refine W_gyes rfl rfl ?_
          refine W_move rfl rfl ?_
          refine W_gyes rfl rfl ?_
          refine W_load rfl ty3 rfl (Cell.own (by repeat (first | exact List.mem_cons_self | apply List.mem_cons_of_mem | apply List.mem_append_right)) rfl) rfl ?_
          refine W_gyes rfl rfl ?_
          refine W_yield rfl (.cons rfl .nil) rfl (hround 0 _ H rfl hJ) ?_
          rintro v H' ⟨H1, hs, ⟨rfl, hJ1⟩ | ⟨rfl, hS⟩⟩
          · refine W_hsub hs ?_
            refine W_gyes rfl rfl ?_
            refine W_not rfl rfl ?_
            first | refine W_pickt rfl rfl rfl ?_ | refine W_pickf rfl rfl rfl ?_
            refine W_nil ?_
            refine W_condF rfl rfl ?_
            refine W_skip ?_
            refine W_seq ?_
            refine W_sr ?_
            refine W_load rfl ty4 rfl (Cell.own (by repeat (first | exact List.mem_cons_self | apply List.mem_cons_of_mem | apply List.mem_append_right)) rfl) rfl ?_
            refine W_move rfl rfl ?_
            refine W_gyes rfl rfl ?_
            refine W_move rfl rfl ?_
            refine W_gyes rfl rfl ?_
            refine W_load rfl ty3 rfl (Cell.own (by repeat (first | exact List.mem_cons_self | apply List.mem_cons_of_mem | apply List.mem_append_right)) rfl) rfl ?_
            refine W_gyes rfl rfl ?_
            refine W_bin rfl rfl (b_add rfl) rfl ?_
            refine W_gyes rfl rfl ?_
            refine W_yield rfl (.cons rfl .nil) rfl (hround 1 _ H1 rfl hJ1) ?_
            rintro v H' ⟨H2, hs, ⟨rfl, hJ2⟩ | ⟨rfl, hS⟩⟩
            · refine W_hsub hs ?_
              refine W_gyes rfl rfl ?_
              refine W_not rfl rfl ?_
              first | refine W_pickt rfl rfl rfl ?_ | refine W_pickf rfl rfl rfl ?_
              refine W_nil ?_
              refine W_condF rfl rfl ?_
              refine W_skip ?_
              refine W_sr ?_
              refine W_load rfl ty4 rfl (Cell.own (by repeat (first | exact List.mem_cons_self | apply List.mem_cons_of_mem | apply List.mem_append_right)) rfl) rfl ?_
              refine W_move rfl rfl ?_
              refine W_gyes rfl rfl ?_
              refine W_load rfl ty4 rfl (Cell.own (by repeat (first | exact List.mem_cons_self | apply List.mem_cons_of_mem | apply List.mem_append_right)) rfl) rfl ?_
              first | refine W_pickt rfl rfl rfl ?_ | refine W_pickf rfl rfl rfl ?_
              refine W_move rfl rfl ?_
              refine W_gyes rfl rfl ?_
              refine W_load rfl ty3 rfl (Cell.own (by repeat (first | exact List.mem_cons_self | apply List.mem_cons_of_mem | apply List.mem_append_right)) rfl) rfl ?_
              refine W_gyes rfl rfl ?_
              refine W_load rfl ty3 rfl (Cell.own (by repeat (first | exact List.mem_cons_self | apply List.mem_cons_of_mem | apply List.mem_append_right)) rfl) rfl ?_
              refine W_gyes rfl rfl ?_
              refine W_bin rfl rfl (b_add rfl) rfl ?_
              refine W_gyes rfl rfl ?_
              refine W_bin rfl rfl (b_gtr' hgt) rfl ?_
              first | refine W_pickt rfl rfl rfl ?_ | refine W_pickf rfl rfl rfl ?_
              refine W_nil ?_
              refine W_condT rfl rfl ?_
              refine W_region ?_
              refine W_move rfl rfl ?_
              refine W_load rfl ty3 rfl (Cell.own (by repeat (first | exact List.mem_cons_self | apply List.mem_cons_of_mem | apply List.mem_append_right)) rfl) rfl ?_
              refine W_yield rfl (.cons rfl .nil) rfl (hround 2 _ H2 rfl hJ2) ?_
              rintro v H' ⟨H3, hs, ⟨rfl, hJ3⟩ | ⟨rfl, hS⟩⟩
              · refine W_hsub hs ?_
                refine W_nil ?_
                refine W_end0m Tryd.results70 (.nil _) (.refl _) ?_
                exact ⟨H3, .refl _, .inl hJ3⟩
              · refine W_hsub hs ?_
                refine W_nil ?_
                refine W_end0m Tryd.results70 (.nil _) (.refl _) ?_
                exact ⟨H3, .refl _, .inr hS⟩
            · refine W_hsub hs ?_
              refine W_gyes rfl rfl ?_
              refine W_not rfl rfl ?_
              first | refine W_pickt rfl rfl rfl ?_ | refine W_pickf rfl rfl rfl ?_
              refine W_nil ?_
              refine W_condT rfl rfl ?_
              refine W_ret0m Tryd.results70 (.nil _) (.refl _) ?_
              exact ⟨H2, .refl _, .inr hS⟩
          · refine W_hsub hs ?_
            refine W_gyes rfl rfl ?_
            refine W_not rfl rfl ?_
            first | refine W_pickt rfl rfl rfl ?_ | refine W_pickf rfl rfl rfl ?_
            refine W_nil ?_
            refine W_condT rfl rfl ?_
            refine W_ret0m Tryd.results70 (.nil _) (.refl _) ?_
            exact ⟨H1, .refl _, .inr hS⟩
end Go.Proofs.YtpfoecmianohjaaDoor
