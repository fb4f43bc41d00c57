/-
  Own work: contracts of functions that the statement reaches, and plain facts on what they compute; each theorem says its conditions.
-/
import Derived.Test.YtcmfldfeakmdoaaDoorVbT3
import Derived.Test.YtcmfldfeakmdoaaDoorVbS2
import Derived.Test.YtcmfldfeakmdoaaDoorVbA
set_option linter.all false
set_option linter.unusedSimpArgs false
set_option linter.unusedVariables false
namespace Go.Proofs.YtcmfldfeakmdoaaDoor
open Go Go.Sl
attribute [local irreducible] W
def jumpB (x : Ins) : Bool := decide (cls x.op = 2)
def nextB (x : Ins) : Bool := decide (x.op ≠ 73) && decide (x.op ≠ 32)
def toV (x : Ins) (at_ : Int) : Int := IntKind.i64.wrap (IntKind.i64.wrap (at_ + 1) + x.off)
def seqOf (jump next : Bool) (tv at1 : Int) (le gt : Bool) : List Int :=
  (bif jump && (le || !next) then [tv] else []) ++ ((bif next then [at1] else []) ++ (bif jump && next && gt then [tv] else []))
def seqB (x : Ins) (at_ : Int) : List Int :=
  seqOf (jumpB x) (nextB x) (toV x at_) (IntKind.i64.wrap (at_ + 1)) (decide (toV x at_ ≤ at_)) (decide (IntKind.i64.wrap (at_ + 1) < toV x at_))
abbrev behC (bj bt ba bn : Nat) (jump next : Bool) (tv at_ : Int) : Heap := [(bj, .cells 4 1 [.bool jump]), (bt, .cells 3 1 [.int .i64 tv]), (ba, .cells 3 1 [.int .i64 at_]), (bn, .cells 4 1 [.bool next])]
theorem b_leq' {q : IntKind} {t : TypeId} {i j : Int} {b : Bool} (h : decide (i ≤ j) = b) (P : Program) (w : World) : (Go.binOp .leq t (.int q i) (.int q j)).run P w = .ok (.bool b) w := h ▸ b_leq P w
theorem b_gtr' {q : IntKind} {t : TypeId} {i j : Int} {b : Bool} (h : decide (j < i) = b) (P : Program) (w : World) : (Go.binOp .gtr t (.int q i) (.int q j)).run P w = .ok (.bool b) w := h ▸ b_gtr P w
set_option maxHeartbeats 1000000 in
theorem behind_L {w0 : World} {H : Heap} (x : Ins) (at_ : Int) (hT : Tab w0) : LCalls Tryd.prog w0 70 #[.agg #[.int .i64 x.op, .int .i64 x.dst, .int .i64 x.src, .int .i64 x.off, .int .i64 x.imm], .int .i64 at_] (H) (fun v H' => ∃ bj bt ba bn, v = .func (.func 81) #[] #[.pointer (some ⟨bj, 0, none⟩), .pointer (some ⟨bt, 0, none⟩), .pointer (some ⟨ba, 0, none⟩), .pointer (some ⟨bn, 0, none⟩)] ∧ H' = behC bj bt ba bn (jumpB x) (nextB x) (toV x at_) at_ ++ H) := by
  refine L_enter (l := [.agg #[.int .i64 x.op, .int .i64 x.dst, .int .i64 x.src, .int .i64 x.off, .int .i64 x.imm], .int .i64 at_]) Tryd.func70 rfl Tryd.ntmps70 rfl rfl ?_
  refine W_sr ?_
  refine W_box rfl rfl rfl (fun b2 => ?_)
  refine W_box rfl rfl rfl (fun b3 => ?_)
  refine W_assign rfl rfl ?_
  refine W_nil ?_
  refine W_sr ?_
  refine W_fieldAddr rfl fld59_0 (by decide) rfl ?_
  refine W_load rfl ty3 rfl (Cell.own zM rfl) rfl ?_
  refine W_callp (.cons rfl .nil) Tryd.call49 rfl hT (class_pure _) ?_
  refine W_bin rfl rfl b_eql rfl ?_
  refine W_alloc ty4 rfl rfl (fun b5 => ?_)
  refine W_store rfl rfl ty4 rfl rfl zM rfl rfl zU ?_
  refine W_nil ?_
  refine W_sr ?_
  refine W_fieldAddr rfl fld59_0 (by decide) rfl ?_
  refine W_load rfl ty3 rfl (Cell.own zM rfl) rfl ?_
  refine W_bin rfl rfl b_neq rfl ?_
  refine W_move rfl rfl ?_
  apply W_and
  iterate 4 exact rfl
  case h1 =>
    intro hg3
    refine W_gyes rfl rfl ?_
    refine W_fieldAddr rfl fld59_0 (by decide) rfl ?_
    refine W_gyes rfl rfl ?_
    refine W_load rfl ty3 rfl (Cell.own zM rfl) rfl ?_
    refine W_gyes rfl rfl ?_
    refine W_bin rfl rfl b_neq rfl ?_
    exact W_met rfl zR
  refine W_alloc ty4 rfl rfl (fun b6 => ?_)
  refine W_store rfl rfl ty4 rfl rfl zM rfl rfl zU ?_
  refine W_nil ?_
  refine W_sr ?_
  refine W_loadB rfl ty59 rfl zM rfl zF rfl ?_
  refine W_load rfl ty3 rfl (Cell.own zM rfl) rfl ?_
  refine W_callp (.cons rfl (.cons rfl .nil)) Tryd.call68 rfl hT (target_pure _ _) ?_
  refine W_alloc ty3 rfl rfl (fun b7 => ?_)
  refine W_store rfl rfl ty3 rfl rfl zM rfl rfl zU ?_
  refine W_nil ?_
  refine W_sr ?_
  refine W_makeFunc .nil (.cons rfl (.cons rfl (.cons rfl (.cons rfl .nil)))) rfl ?_
  refine W_assign rfl rfl ?_
  refine W_nil ?_
  refine W_ret1m (H2 := behC b5 b7 b3 b6 (jumpB x) (nextB x) (toV x at_) at_ ++ H) Tryd.results70 rfl (.nil _) (by first | exact hsubI | (repeat (first | exact HSub.refl _ | refine HSub.cons zT ?_ | refine HSub.app (by repeat (first | exact TakeS.here _ | apply TakeS.next | apply TakeS.app)) ?_ | refine HSub.drop ?_ | refine HSub.dropS ?_ | exact HSub.nil _))) ?_
  exact ⟨b5, b7, b3, b6, rfl, rfl⟩
set_option maxHeartbeats 4000000 in
theorem behind_iter {w0 : World} {H : Heap} {l bj bt ba bn : Nat} {jump next le gt : Bool} {tv at_ : Int} (hle : decide (tv ≤ at_) = le) (hgt : decide (IntKind.i64.wrap (at_ + 1) < tv) = gt) (J : Nat → Heap → Prop) (S : Heap → Prop)
    (hround : ∀ i z Hi, (seqOf jump next tv (IntKind.i64.wrap (at_ + 1)) le gt)[i]? = some z → J i Hi → RoundC Tryd.prog w0 l #[.int .i64 z] (behC bj bt ba bn jump next tv at_ ++ Hi)
      (fun v H' => ∃ Hi', HSub H' (behC bj bt ba bn jump next tv at_ ++ Hi') ∧ (v = .bool true ∧ J (i + 1) Hi' ∨ v = .bool false ∧ S Hi'))) (hJ : J 0 H) (hT : Tab w0) : LCalls Tryd.prog w0 81 #[.func (.yield l) #[] #[], .pointer (some ⟨bj, 0, none⟩), .pointer (some ⟨bt, 0, none⟩), .pointer (some ⟨ba, 0, none⟩), .pointer (some ⟨bn, 0, none⟩)] ((behC bj bt ba bn jump next tv at_ ++ H)) (fun _ H' => ∃ Hi', HSub H' (behC bj bt ba bn jump next tv at_ ++ Hi') ∧ (J (seqOf jump next tv (IntKind.i64.wrap (at_ + 1)) le gt).length Hi' ∨ S Hi')) := by
  refine L_enter (l := [.func (.yield l) #[] #[], .pointer (some ⟨bj, 0, none⟩), .pointer (some ⟨bt, 0, none⟩), .pointer (some ⟨ba, 0, none⟩), .pointer (some ⟨bn, 0, none⟩)]) Tryd.func81 rfl Tryd.ntmps81 rfl rfl ?_
  cases jump
  · skip
    cases next
    · skip
      cases le
      · skip
        cases gt
        · skip
          refine W_seq ?_
          refine W_sr ?_
          refine W_load rfl ty4 rfl (Cell.own zM rfl) rfl ?_
          refine W_move rfl rfl ?_
          refine W_gno rfl rfl rfl ?_
          refine W_gno rfl rfl rfl ?_
          refine W_gno rfl rfl rfl ?_
          refine W_gno rfl rfl rfl ?_
          refine W_gnou rfl rfl rfl ?_
          refine W_gnou rfl rfl rfl ?_
          refine W_gno rfl rfl rfl ?_
          first | refine W_pickt rfl rfl rfl ?_ | refine W_pickf rfl rfl rfl ?_
          refine W_move rfl rfl ?_
          refine W_gno rfl rfl rfl ?_
          refine W_gno rfl rfl rfl ?_
          refine W_gno rfl rfl rfl ?_
          refine W_gno rfl rfl rfl ?_
          first | refine W_pickt rfl rfl rfl ?_ | refine W_pickf rfl rfl rfl ?_
          refine W_nil ?_
          refine W_condF rfl rfl ?_
          refine W_skip ?_
          refine W_seq ?_
          refine W_sr ?_
          refine W_load rfl ty4 rfl (Cell.own zM rfl) rfl ?_
          refine W_move rfl rfl ?_
          refine W_gno rfl rfl rfl ?_
          refine W_gno rfl rfl rfl ?_
          refine W_gno rfl rfl rfl ?_
          refine W_gno rfl rfl rfl ?_
          refine W_gno rfl rfl rfl ?_
          first | refine W_pickt rfl rfl rfl ?_ | refine W_pickf rfl rfl rfl ?_
          refine W_nil ?_
          refine W_condF rfl rfl ?_
          refine W_skip ?_
          refine W_sr ?_
          refine W_load rfl ty4 rfl (Cell.own zM rfl) rfl ?_
          refine W_move rfl rfl ?_
          refine W_gno rfl rfl rfl ?_
          first | refine W_pickt rfl rfl rfl ?_ | refine W_pickf rfl rfl rfl ?_
          refine W_move rfl rfl ?_
          refine W_gno rfl rfl rfl ?_
          refine W_gno rfl rfl rfl ?_
          refine W_gno rfl rfl rfl ?_
          refine W_gno rfl rfl rfl ?_
          first | refine W_pickt rfl rfl rfl ?_ | refine W_pickf rfl rfl rfl ?_
          refine W_nil ?_
          refine W_condF rfl rfl ?_
          refine W_skip ?_
          refine W_end0m Tryd.results81 (.nil _) (.refl _) ?_
          exact ⟨H, .refl _, .inl hJ⟩
        · skip
          refine W_seq ?_
          refine W_sr ?_
          refine W_load rfl ty4 rfl (Cell.own zM rfl) rfl ?_
          refine W_move rfl rfl ?_
          refine W_gno rfl rfl rfl ?_
          refine W_gno rfl rfl rfl ?_
          refine W_gno rfl rfl rfl ?_
          refine W_gno rfl rfl rfl ?_
          refine W_gnou rfl rfl rfl ?_
          refine W_gnou rfl rfl rfl ?_
          refine W_gno rfl rfl rfl ?_
          first | refine W_pickt rfl rfl rfl ?_ | refine W_pickf rfl rfl rfl ?_
          refine W_move rfl rfl ?_
          refine W_gno rfl rfl rfl ?_
          refine W_gno rfl rfl rfl ?_
          refine W_gno rfl rfl rfl ?_
          refine W_gno rfl rfl rfl ?_
          first | refine W_pickt rfl rfl rfl ?_ | refine W_pickf rfl rfl rfl ?_
          refine W_nil ?_
          refine W_condF rfl rfl ?_
          refine W_skip ?_
          refine W_seq ?_
          refine W_sr ?_
          refine W_load rfl ty4 rfl (Cell.own zM rfl) rfl ?_
          refine W_move rfl rfl ?_
          refine W_gno rfl rfl rfl ?_
          refine W_gno rfl rfl rfl ?_
          refine W_gno rfl rfl rfl ?_
          refine W_gno rfl rfl rfl ?_
          refine W_gno rfl rfl rfl ?_
          first | refine W_pickt rfl rfl rfl ?_ | refine W_pickf rfl rfl rfl ?_
          refine W_nil ?_
          refine W_condF rfl rfl ?_
          refine W_skip ?_
          refine W_sr ?_
          refine W_load rfl ty4 rfl (Cell.own zM rfl) rfl ?_
          refine W_move rfl rfl ?_
          refine W_gno rfl rfl rfl ?_
          first | refine W_pickt rfl rfl rfl ?_ | refine W_pickf rfl rfl rfl ?_
          refine W_move rfl rfl ?_
          refine W_gno rfl rfl rfl ?_
          refine W_gno rfl rfl rfl ?_
          refine W_gno rfl rfl rfl ?_
          refine W_gno rfl rfl rfl ?_
          first | refine W_pickt rfl rfl rfl ?_ | refine W_pickf rfl rfl rfl ?_
          refine W_nil ?_
          refine W_condF rfl rfl ?_
          refine W_skip ?_
          refine W_end0m Tryd.results81 (.nil _) (.refl _) ?_
          exact ⟨H, .refl _, .inl hJ⟩
      · skip
        cases gt
        · skip
          refine W_seq ?_
          refine W_sr ?_
          refine W_load rfl ty4 rfl (Cell.own zM rfl) rfl ?_
          refine W_move rfl rfl ?_
          refine W_gno rfl rfl rfl ?_
          refine W_gno rfl rfl rfl ?_
          refine W_gno rfl rfl rfl ?_
          refine W_gno rfl rfl rfl ?_
          refine W_gnou rfl rfl rfl ?_
          refine W_gnou rfl rfl rfl ?_
          refine W_gno rfl rfl rfl ?_
          first | refine W_pickt rfl rfl rfl ?_ | refine W_pickf rfl rfl rfl ?_
          refine W_move rfl rfl ?_
          refine W_gno rfl rfl rfl ?_
          refine W_gno rfl rfl rfl ?_
          refine W_gno rfl rfl rfl ?_
          refine W_gno rfl rfl rfl ?_
          first | refine W_pickt rfl rfl rfl ?_ | refine W_pickf rfl rfl rfl ?_
          refine W_nil ?_
          refine W_condF rfl rfl ?_
          refine W_skip ?_
          refine W_seq ?_
          refine W_sr ?_
          refine W_load rfl ty4 rfl (Cell.own zM rfl) rfl ?_
          refine W_move rfl rfl ?_
          refine W_gno rfl rfl rfl ?_
          refine W_gno rfl rfl rfl ?_
          refine W_gno rfl rfl rfl ?_
          refine W_gno rfl rfl rfl ?_
          refine W_gno rfl rfl rfl ?_
          first | refine W_pickt rfl rfl rfl ?_ | refine W_pickf rfl rfl rfl ?_
          refine W_nil ?_
          refine W_condF rfl rfl ?_
          refine W_skip ?_
          refine W_sr ?_
          refine W_load rfl ty4 rfl (Cell.own zM rfl) rfl ?_
          refine W_move rfl rfl ?_
          refine W_gno rfl rfl rfl ?_
          first | refine W_pickt rfl rfl rfl ?_ | refine W_pickf rfl rfl rfl ?_
          refine W_move rfl rfl ?_
          refine W_gno rfl rfl rfl ?_
          refine W_gno rfl rfl rfl ?_
          refine W_gno rfl rfl rfl ?_
          refine W_gno rfl rfl rfl ?_
          first | refine W_pickt rfl rfl rfl ?_ | refine W_pickf rfl rfl rfl ?_
          refine W_nil ?_
          refine W_condF rfl rfl ?_
          refine W_skip ?_
          refine W_end0m Tryd.results81 (.nil _) (.refl _) ?_
          exact ⟨H, .refl _, .inl hJ⟩
        · skip
          refine W_seq ?_
          refine W_sr ?_
          refine W_load rfl ty4 rfl (Cell.own zM rfl) rfl ?_
          refine W_move rfl rfl ?_
          refine W_gno rfl rfl rfl ?_
          refine W_gno rfl rfl rfl ?_
          refine W_gno rfl rfl rfl ?_
          refine W_gno rfl rfl rfl ?_
          refine W_gnou rfl rfl rfl ?_
          refine W_gnou rfl rfl rfl ?_
          refine W_gno rfl rfl rfl ?_
          first | refine W_pickt rfl rfl rfl ?_ | refine W_pickf rfl rfl rfl ?_
          refine W_move rfl rfl ?_
          refine W_gno rfl rfl rfl ?_
          refine W_gno rfl rfl rfl ?_
          refine W_gno rfl rfl rfl ?_
          refine W_gno rfl rfl rfl ?_
          first | refine W_pickt rfl rfl rfl ?_ | refine W_pickf rfl rfl rfl ?_
          refine W_nil ?_
          refine W_condF rfl rfl ?_
          refine W_skip ?_
          refine W_seq ?_
          refine W_sr ?_
          refine W_load rfl ty4 rfl (Cell.own zM rfl) rfl ?_
          refine W_move rfl rfl ?_
          refine W_gno rfl rfl rfl ?_
          refine W_gno rfl rfl rfl ?_
          refine W_gno rfl rfl rfl ?_
          refine W_gno rfl rfl rfl ?_
          refine W_gno rfl rfl rfl ?_
          first | refine W_pickt rfl rfl rfl ?_ | refine W_pickf rfl rfl rfl ?_
          refine W_nil ?_
          refine W_condF rfl rfl ?_
          refine W_skip ?_
          refine W_sr ?_
          refine W_load rfl ty4 rfl (Cell.own zM rfl) rfl ?_
          refine W_move rfl rfl ?_
          refine W_gno rfl rfl rfl ?_
          first | refine W_pickt rfl rfl rfl ?_ | refine W_pickf rfl rfl rfl ?_
          refine W_move rfl rfl ?_
          refine W_gno rfl rfl rfl ?_
          refine W_gno rfl rfl rfl ?_
          refine W_gno rfl rfl rfl ?_
          refine W_gno rfl rfl rfl ?_
          first | refine W_pickt rfl rfl rfl ?_ | refine W_pickf rfl rfl rfl ?_
          refine W_nil ?_
          refine W_condF rfl rfl ?_
          refine W_skip ?_
          refine W_end0m Tryd.results81 (.nil _) (.refl _) ?_
          exact ⟨H, .refl _, .inl hJ⟩
    · skip
      cases le
      · skip
        cases gt
        · skip
          refine W_seq ?_
          refine W_sr ?_
          refine W_load rfl ty4 rfl (Cell.own zM rfl) rfl ?_
          refine W_move rfl rfl ?_
          refine W_gno rfl rfl rfl ?_
          refine W_gno rfl rfl rfl ?_
          refine W_gno rfl rfl rfl ?_
          refine W_gno rfl rfl rfl ?_
          refine W_gnou rfl rfl rfl ?_
          refine W_gnou rfl rfl rfl ?_
          refine W_gno rfl rfl rfl ?_
          first | refine W_pickt rfl rfl rfl ?_ | refine W_pickf rfl rfl rfl ?_
          refine W_move rfl rfl ?_
          refine W_gno rfl rfl rfl ?_
          refine W_gno rfl rfl rfl ?_
          refine W_gno rfl rfl rfl ?_
          refine W_gno rfl rfl rfl ?_
          first | refine W_pickt rfl rfl rfl ?_ | refine W_pickf rfl rfl rfl ?_
          refine W_nil ?_
          refine W_condF rfl rfl ?_
          refine W_skip ?_
          refine W_seq ?_
          refine W_sr ?_
          refine W_load rfl ty4 rfl (Cell.own zM rfl) rfl ?_
          refine W_move rfl rfl ?_
          refine W_gyes rfl rfl ?_
          refine W_move rfl rfl ?_
          refine W_gyes rfl rfl ?_
          refine W_load rfl ty3 rfl (Cell.own zM rfl) rfl ?_
          refine W_gyes rfl rfl ?_
          refine W_bin rfl rfl (b_add rfl) rfl ?_
          refine W_gyes rfl rfl ?_
          refine W_yield rfl (.cons rfl .nil) rfl (hround 0 _ H rfl hJ) ?_
          rintro v H' ⟨H1, hs, ⟨rfl, hJ1⟩ | ⟨rfl, hS⟩⟩
          · skip
            refine W_hsub hs ?_
            refine W_gyes rfl rfl ?_
            refine W_not rfl rfl ?_
            first | refine W_pickt rfl rfl rfl ?_ | refine W_pickf rfl rfl rfl ?_
            refine W_nil ?_
            refine W_condF rfl rfl ?_
            refine W_skip ?_
            refine W_sr ?_
            refine W_load rfl ty4 rfl (Cell.own zM rfl) rfl ?_
            refine W_move rfl rfl ?_
            refine W_gno rfl rfl rfl ?_
            first | refine W_pickt rfl rfl rfl ?_ | refine W_pickf rfl rfl rfl ?_
            refine W_move rfl rfl ?_
            refine W_gno rfl rfl rfl ?_
            refine W_gno rfl rfl rfl ?_
            refine W_gno rfl rfl rfl ?_
            refine W_gno rfl rfl rfl ?_
            first | refine W_pickt rfl rfl rfl ?_ | refine W_pickf rfl rfl rfl ?_
            refine W_nil ?_
            refine W_condF rfl rfl ?_
            refine W_skip ?_
            refine W_end0m Tryd.results81 (.nil _) (.refl _) ?_
            exact ⟨H1, .refl _, .inl hJ1⟩
          · skip
            refine W_hsub hs ?_
            refine W_gyes rfl rfl ?_
            refine W_not rfl rfl ?_
            first | refine W_pickt rfl rfl rfl ?_ | refine W_pickf rfl rfl rfl ?_
            refine W_nil ?_
            refine W_condT rfl rfl ?_
            refine W_ret0m Tryd.results81 (.nil _) (.refl _) ?_
            exact ⟨H1, .refl _, .inr hS⟩
        · skip
          refine W_seq ?_
          refine W_sr ?_
          refine W_load rfl ty4 rfl (Cell.own zM rfl) rfl ?_
          refine W_move rfl rfl ?_
          refine W_gno rfl rfl rfl ?_
          refine W_gno rfl rfl rfl ?_
          refine W_gno rfl rfl rfl ?_
          refine W_gno rfl rfl rfl ?_
          refine W_gnou rfl rfl rfl ?_
          refine W_gnou rfl rfl rfl ?_
          refine W_gno rfl rfl rfl ?_
          first | refine W_pickt rfl rfl rfl ?_ | refine W_pickf rfl rfl rfl ?_
          refine W_move rfl rfl ?_
          refine W_gno rfl rfl rfl ?_
          refine W_gno rfl rfl rfl ?_
          refine W_gno rfl rfl rfl ?_
          refine W_gno rfl rfl rfl ?_
          first | refine W_pickt rfl rfl rfl ?_ | refine W_pickf rfl rfl rfl ?_
          refine W_nil ?_
          refine W_condF rfl rfl ?_
          refine W_skip ?_
          refine W_seq ?_
          refine W_sr ?_
          refine W_load rfl ty4 rfl (Cell.own zM rfl) rfl ?_
          refine W_move rfl rfl ?_
          refine W_gyes rfl rfl ?_
          refine W_move rfl rfl ?_
          refine W_gyes rfl rfl ?_
          refine W_load rfl ty3 rfl (Cell.own zM rfl) rfl ?_
          refine W_gyes rfl rfl ?_
          refine W_bin rfl rfl (b_add rfl) rfl ?_
          refine W_gyes rfl rfl ?_
          refine W_yield rfl (.cons rfl .nil) rfl (hround 0 _ H rfl hJ) ?_
          rintro v H' ⟨H1, hs, ⟨rfl, hJ1⟩ | ⟨rfl, hS⟩⟩
          · skip
            refine W_hsub hs ?_
            refine W_gyes rfl rfl ?_
            refine W_not rfl rfl ?_
            first | refine W_pickt rfl rfl rfl ?_ | refine W_pickf rfl rfl rfl ?_
            refine W_nil ?_
            refine W_condF rfl rfl ?_
            refine W_skip ?_
            refine W_sr ?_
            refine W_load rfl ty4 rfl (Cell.own zM rfl) rfl ?_
            refine W_move rfl rfl ?_
            refine W_gno rfl rfl rfl ?_
            first | refine W_pickt rfl rfl rfl ?_ | refine W_pickf rfl rfl rfl ?_
            refine W_move rfl rfl ?_
            refine W_gno rfl rfl rfl ?_
            refine W_gno rfl rfl rfl ?_
            refine W_gno rfl rfl rfl ?_
            refine W_gno rfl rfl rfl ?_
            first | refine W_pickt rfl rfl rfl ?_ | refine W_pickf rfl rfl rfl ?_
            refine W_nil ?_
            refine W_condF rfl rfl ?_
            refine W_skip ?_
            refine W_end0m Tryd.results81 (.nil _) (.refl _) ?_
            exact ⟨H1, .refl _, .inl hJ1⟩
          · skip
            refine W_hsub hs ?_
            refine W_gyes rfl rfl ?_
            refine W_not rfl rfl ?_
            first | refine W_pickt rfl rfl rfl ?_ | refine W_pickf rfl rfl rfl ?_
            refine W_nil ?_
            refine W_condT rfl rfl ?_
            refine W_ret0m Tryd.results81 (.nil _) (.refl _) ?_
            exact ⟨H1, .refl _, .inr hS⟩
      · skip
        cases gt
        · skip
          refine W_seq ?_
          refine W_sr ?_
          refine W_load rfl ty4 rfl (Cell.own zM rfl) rfl ?_
          refine W_move rfl rfl ?_
          refine W_gno rfl rfl rfl ?_
          refine W_gno rfl rfl rfl ?_
          refine W_gno rfl rfl rfl ?_
          refine W_gno rfl rfl rfl ?_
          refine W_gnou rfl rfl rfl ?_
          refine W_gnou rfl rfl rfl ?_
          refine W_gno rfl rfl rfl ?_
          first | refine W_pickt rfl rfl rfl ?_ | refine W_pickf rfl rfl rfl ?_
          refine W_move rfl rfl ?_
          refine W_gno rfl rfl rfl ?_
          refine W_gno rfl rfl rfl ?_
          refine W_gno rfl rfl rfl ?_
          refine W_gno rfl rfl rfl ?_
          first | refine W_pickt rfl rfl rfl ?_ | refine W_pickf rfl rfl rfl ?_
          refine W_nil ?_
          refine W_condF rfl rfl ?_
          refine W_skip ?_
          refine W_seq ?_
          refine W_sr ?_
          refine W_load rfl ty4 rfl (Cell.own zM rfl) rfl ?_
          refine W_move rfl rfl ?_
          refine W_gyes rfl rfl ?_
          refine W_move rfl rfl ?_
          refine W_gyes rfl rfl ?_
          refine W_load rfl ty3 rfl (Cell.own zM rfl) rfl ?_
          refine W_gyes rfl rfl ?_
          refine W_bin rfl rfl (b_add rfl) rfl ?_
          refine W_gyes rfl rfl ?_
          refine W_yield rfl (.cons rfl .nil) rfl (hround 0 _ H rfl hJ) ?_
          rintro v H' ⟨H1, hs, ⟨rfl, hJ1⟩ | ⟨rfl, hS⟩⟩
          · skip
            refine W_hsub hs ?_
            refine W_gyes rfl rfl ?_
            refine W_not rfl rfl ?_
            first | refine W_pickt rfl rfl rfl ?_ | refine W_pickf rfl rfl rfl ?_
            refine W_nil ?_
            refine W_condF rfl rfl ?_
            refine W_skip ?_
            refine W_sr ?_
            refine W_load rfl ty4 rfl (Cell.own zM rfl) rfl ?_
            refine W_move rfl rfl ?_
            refine W_gno rfl rfl rfl ?_
            first | refine W_pickt rfl rfl rfl ?_ | refine W_pickf rfl rfl rfl ?_
            refine W_move rfl rfl ?_
            refine W_gno rfl rfl rfl ?_
            refine W_gno rfl rfl rfl ?_
            refine W_gno rfl rfl rfl ?_
            refine W_gno rfl rfl rfl ?_
            first | refine W_pickt rfl rfl rfl ?_ | refine W_pickf rfl rfl rfl ?_
            refine W_nil ?_
            refine W_condF rfl rfl ?_
            refine W_skip ?_
            refine W_end0m Tryd.results81 (.nil _) (.refl _) ?_
            exact ⟨H1, .refl _, .inl hJ1⟩
          · skip
            refine W_hsub hs ?_
            refine W_gyes rfl rfl ?_
            refine W_not rfl rfl ?_
            first | refine W_pickt rfl rfl rfl ?_ | refine W_pickf rfl rfl rfl ?_
            refine W_nil ?_
            refine W_condT rfl rfl ?_
            refine W_ret0m Tryd.results81 (.nil _) (.refl _) ?_
            exact ⟨H1, .refl _, .inr hS⟩
        · skip
          refine W_seq ?_
          refine W_sr ?_
          refine W_load rfl ty4 rfl (Cell.own zM rfl) rfl ?_
          refine W_move rfl rfl ?_
          refine W_gno rfl rfl rfl ?_
          refine W_gno rfl rfl rfl ?_
          refine W_gno rfl rfl rfl ?_
          refine W_gno rfl rfl rfl ?_
          refine W_gnou rfl rfl rfl ?_
          refine W_gnou rfl rfl rfl ?_
          refine W_gno rfl rfl rfl ?_
          first | refine W_pickt rfl rfl rfl ?_ | refine W_pickf rfl rfl rfl ?_
          refine W_move rfl rfl ?_
          refine W_gno rfl rfl rfl ?_
          refine W_gno rfl rfl rfl ?_
          refine W_gno rfl rfl rfl ?_
          refine W_gno rfl rfl rfl ?_
          first | refine W_pickt rfl rfl rfl ?_ | refine W_pickf rfl rfl rfl ?_
          refine W_nil ?_
          refine W_condF rfl rfl ?_
          refine W_skip ?_
          refine W_seq ?_
          refine W_sr ?_
          refine W_load rfl ty4 rfl (Cell.own zM rfl) rfl ?_
          refine W_move rfl rfl ?_
          refine W_gyes rfl rfl ?_
          refine W_move rfl rfl ?_
          refine W_gyes rfl rfl ?_
          refine W_load rfl ty3 rfl (Cell.own zM rfl) rfl ?_
          refine W_gyes rfl rfl ?_
          refine W_bin rfl rfl (b_add rfl) rfl ?_
          refine W_gyes rfl rfl ?_
          refine W_yield rfl (.cons rfl .nil) rfl (hround 0 _ H rfl hJ) ?_
          rintro v H' ⟨H1, hs, ⟨rfl, hJ1⟩ | ⟨rfl, hS⟩⟩
          · skip
            refine W_hsub hs ?_
            refine W_gyes rfl rfl ?_
            refine W_not rfl rfl ?_
            first | refine W_pickt rfl rfl rfl ?_ | refine W_pickf rfl rfl rfl ?_
            refine W_nil ?_
            refine W_condF rfl rfl ?_
            refine W_skip ?_
            refine W_sr ?_
            refine W_load rfl ty4 rfl (Cell.own zM rfl) rfl ?_
            refine W_move rfl rfl ?_
            refine W_gno rfl rfl rfl ?_
            first | refine W_pickt rfl rfl rfl ?_ | refine W_pickf rfl rfl rfl ?_
            refine W_move rfl rfl ?_
            refine W_gno rfl rfl rfl ?_
            refine W_gno rfl rfl rfl ?_
            refine W_gno rfl rfl rfl ?_
            refine W_gno rfl rfl rfl ?_
            first | refine W_pickt rfl rfl rfl ?_ | refine W_pickf rfl rfl rfl ?_
            refine W_nil ?_
            refine W_condF rfl rfl ?_
            refine W_skip ?_
            refine W_end0m Tryd.results81 (.nil _) (.refl _) ?_
            exact ⟨H1, .refl _, .inl hJ1⟩
          · skip
            refine W_hsub hs ?_
            refine W_gyes rfl rfl ?_
            refine W_not rfl rfl ?_
            first | refine W_pickt rfl rfl rfl ?_ | refine W_pickf rfl rfl rfl ?_
            refine W_nil ?_
            refine W_condT rfl rfl ?_
            refine W_ret0m Tryd.results81 (.nil _) (.refl _) ?_
            exact ⟨H1, .refl _, .inr hS⟩
  · skip
    cases next
    · skip
      cases le
      · skip
        cases gt
        · skip
          refine W_seq ?_
          refine W_sr ?_
          refine W_load rfl ty4 rfl (Cell.own zM rfl) rfl ?_
          refine W_move rfl rfl ?_
          refine W_gyes rfl rfl ?_
          refine W_load rfl ty3 rfl (Cell.own zM rfl) rfl ?_
          refine W_gyes rfl rfl ?_
          refine W_load rfl ty3 rfl (Cell.own zM rfl) rfl ?_
          refine W_gyes rfl rfl ?_
          refine W_bin rfl rfl (b_leq' hle) rfl ?_
          refine W_gyes rfl rfl ?_
          refine W_move rfl rfl ?_
          refine W_gyes rfl rfl ?_
          refine W_load rfl ty4 rfl (Cell.own zM rfl) rfl ?_
          refine W_gyes rfl rfl ?_
          refine W_not rfl rfl ?_
          refine W_gyes rfl rfl ?_
          first | refine W_pickt rfl rfl rfl ?_ | refine W_pickf rfl rfl rfl ?_
          first | refine W_pickt rfl rfl rfl ?_ | refine W_pickf rfl rfl rfl ?_
          refine W_move rfl rfl ?_
          refine W_gyes rfl rfl ?_
          refine W_move rfl rfl ?_
          refine W_gyes rfl rfl ?_
          refine W_load rfl ty3 rfl (Cell.own zM rfl) rfl ?_
          refine W_gyes rfl rfl ?_
          refine W_yield rfl (.cons rfl .nil) rfl (hround 0 _ H rfl hJ) ?_
          rintro v H' ⟨H1, hs, ⟨rfl, hJ1⟩ | ⟨rfl, hS⟩⟩
          · skip
            refine W_hsub hs ?_
            refine W_gyes rfl rfl ?_
            refine W_not rfl rfl ?_
            first | refine W_pickt rfl rfl rfl ?_ | refine W_pickf rfl rfl rfl ?_
            refine W_nil ?_
            refine W_condF rfl rfl ?_
            refine W_skip ?_
            refine W_seq ?_
            refine W_sr ?_
            refine W_load rfl ty4 rfl (Cell.own zM rfl) rfl ?_
            refine W_move rfl rfl ?_
            refine W_gno rfl rfl rfl ?_
            refine W_gno rfl rfl rfl ?_
            refine W_gno rfl rfl rfl ?_
            refine W_gno rfl rfl rfl ?_
            refine W_gno rfl rfl rfl ?_
            first | refine W_pickt rfl rfl rfl ?_ | refine W_pickf rfl rfl rfl ?_
            refine W_nil ?_
            refine W_condF rfl rfl ?_
            refine W_skip ?_
            refine W_sr ?_
            refine W_load rfl ty4 rfl (Cell.own zM rfl) rfl ?_
            refine W_move rfl rfl ?_
            refine W_gyes rfl rfl ?_
            refine W_load rfl ty4 rfl (Cell.own zM rfl) rfl ?_
            first | refine W_pickt rfl rfl rfl ?_ | refine W_pickf rfl rfl rfl ?_
            refine W_move rfl rfl ?_
            refine W_gno rfl rfl rfl ?_
            refine W_gno rfl rfl rfl ?_
            refine W_gno rfl rfl rfl ?_
            refine W_gno rfl rfl rfl ?_
            first | refine W_pickt rfl rfl rfl ?_ | refine W_pickf rfl rfl rfl ?_
            refine W_nil ?_
            refine W_condF rfl rfl ?_
            refine W_skip ?_
            refine W_end0m Tryd.results81 (.nil _) (.refl _) ?_
            exact ⟨H1, .refl _, .inl hJ1⟩
          · skip
            refine W_hsub hs ?_
            refine W_gyes rfl rfl ?_
            refine W_not rfl rfl ?_
            first | refine W_pickt rfl rfl rfl ?_ | refine W_pickf rfl rfl rfl ?_
            refine W_nil ?_
            refine W_condT rfl rfl ?_
            refine W_ret0m Tryd.results81 (.nil _) (.refl _) ?_
            exact ⟨H1, .refl _, .inr hS⟩
        · skip
          refine W_seq ?_
          refine W_sr ?_
          refine W_load rfl ty4 rfl (Cell.own zM rfl) rfl ?_
          refine W_move rfl rfl ?_
          refine W_gyes rfl rfl ?_
          refine W_load rfl ty3 rfl (Cell.own zM rfl) rfl ?_
          refine W_gyes rfl rfl ?_
          refine W_load rfl ty3 rfl (Cell.own zM rfl) rfl ?_
          refine W_gyes rfl rfl ?_
          refine W_bin rfl rfl (b_leq' hle) rfl ?_
          refine W_gyes rfl rfl ?_
          refine W_move rfl rfl ?_
          refine W_gyes rfl rfl ?_
          refine W_load rfl ty4 rfl (Cell.own zM rfl) rfl ?_
          refine W_gyes rfl rfl ?_
          refine W_not rfl rfl ?_
          refine W_gyes rfl rfl ?_
          first | refine W_pickt rfl rfl rfl ?_ | refine W_pickf rfl rfl rfl ?_
          first | refine W_pickt rfl rfl rfl ?_ | refine W_pickf rfl rfl rfl ?_
          refine W_move rfl rfl ?_
          refine W_gyes rfl rfl ?_
          refine W_move rfl rfl ?_
          refine W_gyes rfl rfl ?_
          refine W_load rfl ty3 rfl (Cell.own zM rfl) rfl ?_
          refine W_gyes rfl rfl ?_
          refine W_yield rfl (.cons rfl .nil) rfl (hround 0 _ H rfl hJ) ?_
          rintro v H' ⟨H1, hs, ⟨rfl, hJ1⟩ | ⟨rfl, hS⟩⟩
          · skip
            refine W_hsub hs ?_
            refine W_gyes rfl rfl ?_
            refine W_not rfl rfl ?_
            first | refine W_pickt rfl rfl rfl ?_ | refine W_pickf rfl rfl rfl ?_
            refine W_nil ?_
            refine W_condF rfl rfl ?_
            refine W_skip ?_
            refine W_seq ?_
            refine W_sr ?_
            refine W_load rfl ty4 rfl (Cell.own zM rfl) rfl ?_
            refine W_move rfl rfl ?_
            refine W_gno rfl rfl rfl ?_
            refine W_gno rfl rfl rfl ?_
            refine W_gno rfl rfl rfl ?_
            refine W_gno rfl rfl rfl ?_
            refine W_gno rfl rfl rfl ?_
            first | refine W_pickt rfl rfl rfl ?_ | refine W_pickf rfl rfl rfl ?_
            refine W_nil ?_
            refine W_condF rfl rfl ?_
            refine W_skip ?_
            refine W_sr ?_
            refine W_load rfl ty4 rfl (Cell.own zM rfl) rfl ?_
            refine W_move rfl rfl ?_
            refine W_gyes rfl rfl ?_
            refine W_load rfl ty4 rfl (Cell.own zM rfl) rfl ?_
            first | refine W_pickt rfl rfl rfl ?_ | refine W_pickf rfl rfl rfl ?_
            refine W_move rfl rfl ?_
            refine W_gno rfl rfl rfl ?_
            refine W_gno rfl rfl rfl ?_
            refine W_gno rfl rfl rfl ?_
            refine W_gno rfl rfl rfl ?_
            first | refine W_pickt rfl rfl rfl ?_ | refine W_pickf rfl rfl rfl ?_
            refine W_nil ?_
            refine W_condF rfl rfl ?_
            refine W_skip ?_
            refine W_end0m Tryd.results81 (.nil _) (.refl _) ?_
            exact ⟨H1, .refl _, .inl hJ1⟩
          · skip
            refine W_hsub hs ?_
            refine W_gyes rfl rfl ?_
            refine W_not rfl rfl ?_
            first | refine W_pickt rfl rfl rfl ?_ | refine W_pickf rfl rfl rfl ?_
            refine W_nil ?_
            refine W_condT rfl rfl ?_
            refine W_ret0m Tryd.results81 (.nil _) (.refl _) ?_
            exact ⟨H1, .refl _, .inr hS⟩
      · skip
        cases gt
        · skip
          refine W_seq ?_
          refine W_sr ?_
          refine W_load rfl ty4 rfl (Cell.own zM rfl) rfl ?_
          refine W_move rfl rfl ?_
          refine W_gyes rfl rfl ?_
          refine W_load rfl ty3 rfl (Cell.own zM rfl) rfl ?_
          refine W_gyes rfl rfl ?_
          refine W_load rfl ty3 rfl (Cell.own zM rfl) rfl ?_
          refine W_gyes rfl rfl ?_
          refine W_bin rfl rfl (b_leq' hle) rfl ?_
          refine W_gyes rfl rfl ?_
          refine W_move rfl rfl ?_
          refine W_gno rfl rfl rfl ?_
          refine W_gno rfl rfl rfl ?_
          refine W_gyes rfl rfl ?_
          first | refine W_pickt rfl rfl rfl ?_ | refine W_pickf rfl rfl rfl ?_
          first | refine W_pickt rfl rfl rfl ?_ | refine W_pickf rfl rfl rfl ?_
          refine W_move rfl rfl ?_
          refine W_gyes rfl rfl ?_
          refine W_move rfl rfl ?_
          refine W_gyes rfl rfl ?_
          refine W_load rfl ty3 rfl (Cell.own zM rfl) rfl ?_
          refine W_gyes rfl rfl ?_
          refine W_yield rfl (.cons rfl .nil) rfl (hround 0 _ H rfl hJ) ?_
          rintro v H' ⟨H1, hs, ⟨rfl, hJ1⟩ | ⟨rfl, hS⟩⟩
          · skip
            refine W_hsub hs ?_
            refine W_gyes rfl rfl ?_
            refine W_not rfl rfl ?_
            first | refine W_pickt rfl rfl rfl ?_ | refine W_pickf rfl rfl rfl ?_
            refine W_nil ?_
            refine W_condF rfl rfl ?_
            refine W_skip ?_
            refine W_seq ?_
            refine W_sr ?_
            refine W_load rfl ty4 rfl (Cell.own zM rfl) rfl ?_
            refine W_move rfl rfl ?_
            refine W_gno rfl rfl rfl ?_
            refine W_gno rfl rfl rfl ?_
            refine W_gno rfl rfl rfl ?_
            refine W_gno rfl rfl rfl ?_
            refine W_gno rfl rfl rfl ?_
            first | refine W_pickt rfl rfl rfl ?_ | refine W_pickf rfl rfl rfl ?_
            refine W_nil ?_
            refine W_condF rfl rfl ?_
            refine W_skip ?_
            refine W_sr ?_
            refine W_load rfl ty4 rfl (Cell.own zM rfl) rfl ?_
            refine W_move rfl rfl ?_
            refine W_gyes rfl rfl ?_
            refine W_load rfl ty4 rfl (Cell.own zM rfl) rfl ?_
            first | refine W_pickt rfl rfl rfl ?_ | refine W_pickf rfl rfl rfl ?_
            refine W_move rfl rfl ?_
            refine W_gno rfl rfl rfl ?_
            refine W_gno rfl rfl rfl ?_
            refine W_gno rfl rfl rfl ?_
            refine W_gno rfl rfl rfl ?_
            first | refine W_pickt rfl rfl rfl ?_ | refine W_pickf rfl rfl rfl ?_
            refine W_nil ?_
            refine W_condF rfl rfl ?_
            refine W_skip ?_
            refine W_end0m Tryd.results81 (.nil _) (.refl _) ?_
            exact ⟨H1, .refl _, .inl hJ1⟩
          · skip
            refine W_hsub hs ?_
            refine W_gyes rfl rfl ?_
            refine W_not rfl rfl ?_
            first | refine W_pickt rfl rfl rfl ?_ | refine W_pickf rfl rfl rfl ?_
            refine W_nil ?_
            refine W_condT rfl rfl ?_
            refine W_ret0m Tryd.results81 (.nil _) (.refl _) ?_
            exact ⟨H1, .refl _, .inr hS⟩
        · skip
          refine W_seq ?_
          refine W_sr ?_
          refine W_load rfl ty4 rfl (Cell.own zM rfl) rfl ?_
          refine W_move rfl rfl ?_
          refine W_gyes rfl rfl ?_
          refine W_load rfl ty3 rfl (Cell.own zM rfl) rfl ?_
          refine W_gyes rfl rfl ?_
          refine W_load rfl ty3 rfl (Cell.own zM rfl) rfl ?_
          refine W_gyes rfl rfl ?_
          refine W_bin rfl rfl (b_leq' hle) rfl ?_
          refine W_gyes rfl rfl ?_
          refine W_move rfl rfl ?_
          refine W_gno rfl rfl rfl ?_
          refine W_gno rfl rfl rfl ?_
          refine W_gyes rfl rfl ?_
          first | refine W_pickt rfl rfl rfl ?_ | refine W_pickf rfl rfl rfl ?_
          first | refine W_pickt rfl rfl rfl ?_ | refine W_pickf rfl rfl rfl ?_
          refine W_move rfl rfl ?_
          refine W_gyes rfl rfl ?_
          refine W_move rfl rfl ?_
          refine W_gyes rfl rfl ?_
          refine W_load rfl ty3 rfl (Cell.own zM rfl) rfl ?_
          refine W_gyes rfl rfl ?_
          refine W_yield rfl (.cons rfl .nil) rfl (hround 0 _ H rfl hJ) ?_
          rintro v H' ⟨H1, hs, ⟨rfl, hJ1⟩ | ⟨rfl, hS⟩⟩
          · skip
            refine W_hsub hs ?_
            refine W_gyes rfl rfl ?_
            refine W_not rfl rfl ?_
            first | refine W_pickt rfl rfl rfl ?_ | refine W_pickf rfl rfl rfl ?_
            refine W_nil ?_
            refine W_condF rfl rfl ?_
            refine W_skip ?_
            refine W_seq ?_
            refine W_sr ?_
            refine W_load rfl ty4 rfl (Cell.own zM rfl) rfl ?_
            refine W_move rfl rfl ?_
            refine W_gno rfl rfl rfl ?_
            refine W_gno rfl rfl rfl ?_
            refine W_gno rfl rfl rfl ?_
            refine W_gno rfl rfl rfl ?_
            refine W_gno rfl rfl rfl ?_
            first | refine W_pickt rfl rfl rfl ?_ | refine W_pickf rfl rfl rfl ?_
            refine W_nil ?_
            refine W_condF rfl rfl ?_
            refine W_skip ?_
            refine W_sr ?_
            refine W_load rfl ty4 rfl (Cell.own zM rfl) rfl ?_
            refine W_move rfl rfl ?_
            refine W_gyes rfl rfl ?_
            refine W_load rfl ty4 rfl (Cell.own zM rfl) rfl ?_
            first | refine W_pickt rfl rfl rfl ?_ | refine W_pickf rfl rfl rfl ?_
            refine W_move rfl rfl ?_
            refine W_gno rfl rfl rfl ?_
            refine W_gno rfl rfl rfl ?_
            refine W_gno rfl rfl rfl ?_
            refine W_gno rfl rfl rfl ?_
            first | refine W_pickt rfl rfl rfl ?_ | refine W_pickf rfl rfl rfl ?_
            refine W_nil ?_
            refine W_condF rfl rfl ?_
            refine W_skip ?_
            refine W_end0m Tryd.results81 (.nil _) (.refl _) ?_
            exact ⟨H1, .refl _, .inl hJ1⟩
          · skip
            refine W_hsub hs ?_
            refine W_gyes rfl rfl ?_
            refine W_not rfl rfl ?_
            first | refine W_pickt rfl rfl rfl ?_ | refine W_pickf rfl rfl rfl ?_
            refine W_nil ?_
            refine W_condT rfl rfl ?_
            refine W_ret0m Tryd.results81 (.nil _) (.refl _) ?_
            exact ⟨H1, .refl _, .inr hS⟩
    · skip
      cases le
      · skip
        cases gt
        · skip
          refine W_seq ?_
          refine W_sr ?_
          refine W_load rfl ty4 rfl (Cell.own zM rfl) rfl ?_
          refine W_move rfl rfl ?_
          refine W_gyes rfl rfl ?_
          refine W_load rfl ty3 rfl (Cell.own zM rfl) rfl ?_
          refine W_gyes rfl rfl ?_
          refine W_load rfl ty3 rfl (Cell.own zM rfl) rfl ?_
          refine W_gyes rfl rfl ?_
          refine W_bin rfl rfl (b_leq' hle) rfl ?_
          refine W_gyes rfl rfl ?_
          refine W_move rfl rfl ?_
          refine W_gyes rfl rfl ?_
          refine W_load rfl ty4 rfl (Cell.own zM rfl) rfl ?_
          refine W_gyes rfl rfl ?_
          refine W_not rfl rfl ?_
          refine W_gyes rfl rfl ?_
          first | refine W_pickt rfl rfl rfl ?_ | refine W_pickf rfl rfl rfl ?_
          first | refine W_pickt rfl rfl rfl ?_ | refine W_pickf rfl rfl rfl ?_
          refine W_move rfl rfl ?_
          refine W_gno rfl rfl rfl ?_
          refine W_gno rfl rfl rfl ?_
          refine W_gno rfl rfl rfl ?_
          refine W_gno rfl rfl rfl ?_
          first | refine W_pickt rfl rfl rfl ?_ | refine W_pickf rfl rfl rfl ?_
          refine W_nil ?_
          refine W_condF rfl rfl ?_
          refine W_skip ?_
          refine W_seq ?_
          refine W_sr ?_
          refine W_load rfl ty4 rfl (Cell.own zM rfl) rfl ?_
          refine W_move rfl rfl ?_
          refine W_gyes rfl rfl ?_
          refine W_move rfl rfl ?_
          refine W_gyes rfl rfl ?_
          refine W_load rfl ty3 rfl (Cell.own zM rfl) rfl ?_
          refine W_gyes rfl rfl ?_
          refine W_bin rfl rfl (b_add rfl) rfl ?_
          refine W_gyes rfl rfl ?_
          refine W_yield rfl (.cons rfl .nil) rfl (hround 0 _ H rfl hJ) ?_
          rintro v H' ⟨H1, hs, ⟨rfl, hJ1⟩ | ⟨rfl, hS⟩⟩
          · skip
            refine W_hsub hs ?_
            refine W_gyes rfl rfl ?_
            refine W_not rfl rfl ?_
            first | refine W_pickt rfl rfl rfl ?_ | refine W_pickf rfl rfl rfl ?_
            refine W_nil ?_
            refine W_condF rfl rfl ?_
            refine W_skip ?_
            refine W_sr ?_
            refine W_load rfl ty4 rfl (Cell.own zM rfl) rfl ?_
            refine W_move rfl rfl ?_
            refine W_gyes rfl rfl ?_
            refine W_load rfl ty4 rfl (Cell.own zM rfl) rfl ?_
            first | refine W_pickt rfl rfl rfl ?_ | refine W_pickf rfl rfl rfl ?_
            refine W_move rfl rfl ?_
            refine W_gyes rfl rfl ?_
            refine W_load rfl ty3 rfl (Cell.own zM rfl) rfl ?_
            refine W_gyes rfl rfl ?_
            refine W_load rfl ty3 rfl (Cell.own zM rfl) rfl ?_
            refine W_gyes rfl rfl ?_
            refine W_bin rfl rfl (b_add rfl) rfl ?_
            refine W_gyes rfl rfl ?_
            refine W_bin rfl rfl (b_gtr' hgt) rfl ?_
            first | refine W_pickt rfl rfl rfl ?_ | refine W_pickf rfl rfl rfl ?_
            refine W_nil ?_
            refine W_condF rfl rfl ?_
            refine W_skip ?_
            refine W_end0m Tryd.results81 (.nil _) (.refl _) ?_
            exact ⟨H1, .refl _, .inl hJ1⟩
          · skip
            refine W_hsub hs ?_
            refine W_gyes rfl rfl ?_
            refine W_not rfl rfl ?_
            first | refine W_pickt rfl rfl rfl ?_ | refine W_pickf rfl rfl rfl ?_
            refine W_nil ?_
            refine W_condT rfl rfl ?_
            refine W_ret0m Tryd.results81 (.nil _) (.refl _) ?_
            exact ⟨H1, .refl _, .inr hS⟩
        · skip
          refine W_seq ?_
          refine W_sr ?_
          refine W_load rfl ty4 rfl (Cell.own zM rfl) rfl ?_
          refine W_move rfl rfl ?_
          refine W_gyes rfl rfl ?_
          refine W_load rfl ty3 rfl (Cell.own zM rfl) rfl ?_
          refine W_gyes rfl rfl ?_
          refine W_load rfl ty3 rfl (Cell.own zM rfl) rfl ?_
          refine W_gyes rfl rfl ?_
          refine W_bin rfl rfl (b_leq' hle) rfl ?_
          refine W_gyes rfl rfl ?_
          refine W_move rfl rfl ?_
          refine W_gyes rfl rfl ?_
          refine W_load rfl ty4 rfl (Cell.own zM rfl) rfl ?_
          refine W_gyes rfl rfl ?_
          refine W_not rfl rfl ?_
          refine W_gyes rfl rfl ?_
          first | refine W_pickt rfl rfl rfl ?_ | refine W_pickf rfl rfl rfl ?_
          first | refine W_pickt rfl rfl rfl ?_ | refine W_pickf rfl rfl rfl ?_
          refine W_move rfl rfl ?_
          refine W_gno rfl rfl rfl ?_
          refine W_gno rfl rfl rfl ?_
          refine W_gno rfl rfl rfl ?_
          refine W_gno rfl rfl rfl ?_
          first | refine W_pickt rfl rfl rfl ?_ | refine W_pickf rfl rfl rfl ?_
          refine W_nil ?_
          refine W_condF rfl rfl ?_
          refine W_skip ?_
          refine W_seq ?_
          refine W_sr ?_
          refine W_load rfl ty4 rfl (Cell.own zM rfl) rfl ?_
          refine W_move rfl rfl ?_
          refine W_gyes rfl rfl ?_
          refine W_move rfl rfl ?_
          refine W_gyes rfl rfl ?_
          refine W_load rfl ty3 rfl (Cell.own zM rfl) rfl ?_
          refine W_gyes rfl rfl ?_
          refine W_bin rfl rfl (b_add rfl) rfl ?_
          refine W_gyes rfl rfl ?_
          refine W_yield rfl (.cons rfl .nil) rfl (hround 0 _ H rfl hJ) ?_
          rintro v H' ⟨H1, hs, ⟨rfl, hJ1⟩ | ⟨rfl, hS⟩⟩
          · skip
            refine W_hsub hs ?_
            refine W_gyes rfl rfl ?_
            refine W_not rfl rfl ?_
            first | refine W_pickt rfl rfl rfl ?_ | refine W_pickf rfl rfl rfl ?_
            refine W_nil ?_
            refine W_condF rfl rfl ?_
            refine W_skip ?_
            refine W_sr ?_
            refine W_load rfl ty4 rfl (Cell.own zM rfl) rfl ?_
            refine W_move rfl rfl ?_
            refine W_gyes rfl rfl ?_
            refine W_load rfl ty4 rfl (Cell.own zM rfl) rfl ?_
            first | refine W_pickt rfl rfl rfl ?_ | refine W_pickf rfl rfl rfl ?_
            refine W_move rfl rfl ?_
            refine W_gyes rfl rfl ?_
            refine W_load rfl ty3 rfl (Cell.own zM rfl) rfl ?_
            refine W_gyes rfl rfl ?_
            refine W_load rfl ty3 rfl (Cell.own zM rfl) rfl ?_
            refine W_gyes rfl rfl ?_
            refine W_bin rfl rfl (b_add rfl) rfl ?_
            refine W_gyes rfl rfl ?_
            refine W_bin rfl rfl (b_gtr' hgt) rfl ?_
            first | refine W_pickt rfl rfl rfl ?_ | refine W_pickf rfl rfl rfl ?_
            refine W_nil ?_
            refine W_condT rfl rfl ?_
            refine W_region ?_
            refine W_move rfl rfl ?_
            refine W_load rfl ty3 rfl (Cell.own zM rfl) rfl ?_
            refine W_yield rfl (.cons rfl .nil) rfl (hround 1 _ H1 rfl hJ1) ?_
            rintro v H' ⟨H2, hs, ⟨rfl, hJ2⟩ | ⟨rfl, hS⟩⟩
            · skip
              refine W_hsub hs ?_
              refine W_nil ?_
              refine W_end0m Tryd.results81 (.nil _) (.refl _) ?_
              exact ⟨H2, .refl _, .inl hJ2⟩
            · skip
              refine W_hsub hs ?_
              refine W_nil ?_
              refine W_end0m Tryd.results81 (.nil _) (.refl _) ?_
              exact ⟨H2, .refl _, .inr hS⟩
          · skip
            refine W_hsub hs ?_
            refine W_gyes rfl rfl ?_
            refine W_not rfl rfl ?_
            first | refine W_pickt rfl rfl rfl ?_ | refine W_pickf rfl rfl rfl ?_
            refine W_nil ?_
            refine W_condT rfl rfl ?_
            refine W_ret0m Tryd.results81 (.nil _) (.refl _) ?_
            exact ⟨H1, .refl _, .inr hS⟩
      · skip
        cases gt
        · skip
          refine W_seq ?_
          refine W_sr ?_
          refine W_load rfl ty4 rfl (Cell.own zM rfl) rfl ?_
          refine W_move rfl rfl ?_
          refine W_gyes rfl rfl ?_
          refine W_load rfl ty3 rfl (Cell.own zM rfl) rfl ?_
          refine W_gyes rfl rfl ?_
          refine W_load rfl ty3 rfl (Cell.own zM rfl) rfl ?_
          refine W_gyes rfl rfl ?_
          refine W_bin rfl rfl (b_leq' hle) rfl ?_
          refine W_gyes rfl rfl ?_
          refine W_move rfl rfl ?_
          refine W_gno rfl rfl rfl ?_
          refine W_gno rfl rfl rfl ?_
          refine W_gyes rfl rfl ?_
          first | refine W_pickt rfl rfl rfl ?_ | refine W_pickf rfl rfl rfl ?_
          first | refine W_pickt rfl rfl rfl ?_ | refine W_pickf rfl rfl rfl ?_
          refine W_move rfl rfl ?_
          refine W_gyes rfl rfl ?_
          refine W_move rfl rfl ?_
          refine W_gyes rfl rfl ?_
          refine W_load rfl ty3 rfl (Cell.own zM rfl) rfl ?_
          refine W_gyes rfl rfl ?_
          refine W_yield rfl (.cons rfl .nil) rfl (hround 0 _ H rfl hJ) ?_
          rintro v H' ⟨H1, hs, ⟨rfl, hJ1⟩ | ⟨rfl, hS⟩⟩
          · skip
            refine W_hsub hs ?_
            refine W_gyes rfl rfl ?_
            refine W_not rfl rfl ?_
            first | refine W_pickt rfl rfl rfl ?_ | refine W_pickf rfl rfl rfl ?_
            refine W_nil ?_
            refine W_condF rfl rfl ?_
            refine W_skip ?_
            refine W_seq ?_
            refine W_sr ?_
            refine W_load rfl ty4 rfl (Cell.own zM rfl) rfl ?_
            refine W_move rfl rfl ?_
            refine W_gyes rfl rfl ?_
            refine W_move rfl rfl ?_
            refine W_gyes rfl rfl ?_
            refine W_load rfl ty3 rfl (Cell.own zM rfl) rfl ?_
            refine W_gyes rfl rfl ?_
            refine W_bin rfl rfl (b_add rfl) rfl ?_
            refine W_gyes rfl rfl ?_
            refine W_yield rfl (.cons rfl .nil) rfl (hround 1 _ H1 rfl hJ1) ?_
            rintro v H' ⟨H2, hs, ⟨rfl, hJ2⟩ | ⟨rfl, hS⟩⟩
            · skip
              refine W_hsub hs ?_
              refine W_gyes rfl rfl ?_
              refine W_not rfl rfl ?_
              first | refine W_pickt rfl rfl rfl ?_ | refine W_pickf rfl rfl rfl ?_
              refine W_nil ?_
              refine W_condF rfl rfl ?_
              refine W_skip ?_
              refine W_sr ?_
              refine W_load rfl ty4 rfl (Cell.own zM rfl) rfl ?_
              refine W_move rfl rfl ?_
              refine W_gyes rfl rfl ?_
              refine W_load rfl ty4 rfl (Cell.own zM rfl) rfl ?_
              first | refine W_pickt rfl rfl rfl ?_ | refine W_pickf rfl rfl rfl ?_
              refine W_move rfl rfl ?_
              refine W_gyes rfl rfl ?_
              refine W_load rfl ty3 rfl (Cell.own zM rfl) rfl ?_
              refine W_gyes rfl rfl ?_
              refine W_load rfl ty3 rfl (Cell.own zM rfl) rfl ?_
              refine W_gyes rfl rfl ?_
              refine W_bin rfl rfl (b_add rfl) rfl ?_
              refine W_gyes rfl rfl ?_
              refine W_bin rfl rfl (b_gtr' hgt) rfl ?_
              first | refine W_pickt rfl rfl rfl ?_ | refine W_pickf rfl rfl rfl ?_
              refine W_nil ?_
              refine W_condF rfl rfl ?_
              refine W_skip ?_
              refine W_end0m Tryd.results81 (.nil _) (.refl _) ?_
              exact ⟨H2, .refl _, .inl hJ2⟩
            · skip
              refine W_hsub hs ?_
              refine W_gyes rfl rfl ?_
              refine W_not rfl rfl ?_
              first | refine W_pickt rfl rfl rfl ?_ | refine W_pickf rfl rfl rfl ?_
              refine W_nil ?_
              refine W_condT rfl rfl ?_
              refine W_ret0m Tryd.results81 (.nil _) (.refl _) ?_
              exact ⟨H2, .refl _, .inr hS⟩
          · skip
            refine W_hsub hs ?_
            refine W_gyes rfl rfl ?_
            refine W_not rfl rfl ?_
            first | refine W_pickt rfl rfl rfl ?_ | refine W_pickf rfl rfl rfl ?_
            refine W_nil ?_
            refine W_condT rfl rfl ?_
            refine W_ret0m Tryd.results81 (.nil _) (.refl _) ?_
            exact ⟨H1, .refl _, .inr hS⟩
        · skip
          refine W_seq ?_
          refine W_sr ?_
          refine W_load rfl ty4 rfl (Cell.own zM rfl) rfl ?_
          refine W_move rfl rfl ?_
          refine W_gyes rfl rfl ?_
          refine W_load rfl ty3 rfl (Cell.own zM rfl) rfl ?_
          refine W_gyes rfl rfl ?_
          refine W_load rfl ty3 rfl (Cell.own zM rfl) rfl ?_
          refine W_gyes rfl rfl ?_
          refine W_bin rfl rfl (b_leq' hle) rfl ?_
          refine W_gyes rfl rfl ?_
          refine W_move rfl rfl ?_
          refine W_gno rfl rfl rfl ?_
          refine W_gno rfl rfl rfl ?_
          refine W_gyes rfl rfl ?_
          first | refine W_pickt rfl rfl rfl ?_ | refine W_pickf rfl rfl rfl ?_
          first | refine W_pickt rfl rfl rfl ?_ | refine W_pickf rfl rfl rfl ?_
          refine W_move rfl rfl ?_
          refine W_gyes rfl rfl ?_
          refine W_move rfl rfl ?_
          refine W_gyes rfl rfl ?_
          refine W_load rfl ty3 rfl (Cell.own zM rfl) rfl ?_
          refine W_gyes rfl rfl ?_
          refine W_yield rfl (.cons rfl .nil) rfl (hround 0 _ H rfl hJ) ?_
          rintro v H' ⟨H1, hs, ⟨rfl, hJ1⟩ | ⟨rfl, hS⟩⟩
          · skip
            refine W_hsub hs ?_
            refine W_gyes rfl rfl ?_
            refine W_not rfl rfl ?_
            first | refine W_pickt rfl rfl rfl ?_ | refine W_pickf rfl rfl rfl ?_
            refine W_nil ?_
            refine W_condF rfl rfl ?_
            refine W_skip ?_
            refine W_seq ?_
            refine W_sr ?_
            refine W_load rfl ty4 rfl (Cell.own zM rfl) rfl ?_
            refine W_move rfl rfl ?_
            refine W_gyes rfl rfl ?_
            refine W_move rfl rfl ?_
            refine W_gyes rfl rfl ?_
            refine W_load rfl ty3 rfl (Cell.own zM rfl) rfl ?_
            refine W_gyes rfl rfl ?_
            refine W_bin rfl rfl (b_add rfl) rfl ?_
            refine W_gyes rfl rfl ?_
            refine W_yield rfl (.cons rfl .nil) rfl (hround 1 _ H1 rfl hJ1) ?_
            rintro v H' ⟨H2, hs, ⟨rfl, hJ2⟩ | ⟨rfl, hS⟩⟩
            · skip
              refine W_hsub hs ?_
              refine W_gyes rfl rfl ?_
              refine W_not rfl rfl ?_
              first | refine W_pickt rfl rfl rfl ?_ | refine W_pickf rfl rfl rfl ?_
              refine W_nil ?_
              refine W_condF rfl rfl ?_
              refine W_skip ?_
              refine W_sr ?_
              refine W_load rfl ty4 rfl (Cell.own zM rfl) rfl ?_
              refine W_move rfl rfl ?_
              refine W_gyes rfl rfl ?_
              refine W_load rfl ty4 rfl (Cell.own zM rfl) rfl ?_
              first | refine W_pickt rfl rfl rfl ?_ | refine W_pickf rfl rfl rfl ?_
              refine W_move rfl rfl ?_
              refine W_gyes rfl rfl ?_
              refine W_load rfl ty3 rfl (Cell.own zM rfl) rfl ?_
              refine W_gyes rfl rfl ?_
              refine W_load rfl ty3 rfl (Cell.own zM rfl) rfl ?_
              refine W_gyes rfl rfl ?_
              refine W_bin rfl rfl (b_add rfl) rfl ?_
              refine W_gyes rfl rfl ?_
              refine W_bin rfl rfl (b_gtr' hgt) rfl ?_
              first | refine W_pickt rfl rfl rfl ?_ | refine W_pickf rfl rfl rfl ?_
              refine W_nil ?_
              refine W_condT rfl rfl ?_
              refine W_region ?_
              refine W_move rfl rfl ?_
              refine W_load rfl ty3 rfl (Cell.own zM rfl) rfl ?_
              refine W_yield rfl (.cons rfl .nil) rfl (hround 2 _ H2 rfl hJ2) ?_
              rintro v H' ⟨H3, hs, ⟨rfl, hJ3⟩ | ⟨rfl, hS⟩⟩
              · skip
                refine W_hsub hs ?_
                refine W_nil ?_
                refine W_end0m Tryd.results81 (.nil _) (.refl _) ?_
                exact ⟨H3, .refl _, .inl hJ3⟩
              · skip
                refine W_hsub hs ?_
                refine W_nil ?_
                refine W_end0m Tryd.results81 (.nil _) (.refl _) ?_
                exact ⟨H3, .refl _, .inr hS⟩
            · skip
              refine W_hsub hs ?_
              refine W_gyes rfl rfl ?_
              refine W_not rfl rfl ?_
              first | refine W_pickt rfl rfl rfl ?_ | refine W_pickf rfl rfl rfl ?_
              refine W_nil ?_
              refine W_condT rfl rfl ?_
              refine W_ret0m Tryd.results81 (.nil _) (.refl _) ?_
              exact ⟨H2, .refl _, .inr hS⟩
          · skip
            refine W_hsub hs ?_
            refine W_gyes rfl rfl ?_
            refine W_not rfl rfl ?_
            first | refine W_pickt rfl rfl rfl ?_ | refine W_pickf rfl rfl rfl ?_
            refine W_nil ?_
            refine W_condT rfl rfl ?_
            refine W_ret0m Tryd.results81 (.nil _) (.refl _) ?_
            exact ⟨H1, .refl _, .inr hS⟩
end Go.Proofs.YtcmfldfeakmdoaaDoor
namespace Go.Proofs.YtcmfldfeakmdoaaDoor
open Go Go.Sl
attribute [local irreducible] W
def inB (n : Nat) (z : Int) : Bool := decide (0 ≤ z) && decide (z < (n : Int))
def nextL (l : List Ins) (at_ : Int) : List Int :=
  if at_ < 0 ∨ (l.length : Int) ≤ at_ then [] else match l[at_.toNat]? with
    | some x => (seqB x at_).filter (inB l.length)
    | none => []
theorem nextL_at {l : List Ins} {i : Nat} {x : Ins} (hi : i < l.length) (hx : l[i]? = some x) : nextL l i = (seqB x i).filter (inB l.length) := by
  unfold nextL
  rw [if_neg (by omega), Int.toNat_natCast, hx]
theorem filter_at {p : Int → Bool} {l : List Int} {i : Nat} {z : Int} (h : l[i]? = some z) : (l.take (i + 1)).filter p = (l.take i).filter p ++ (bif p z then [z] else []) := by
  rw [takeAt h, List.filter_append]; cases hp : p z <;> simp [hp]
theorem i64s_append (l r : List Int) : i64s (l ++ r) = i64s l ++ i64s r := by simp [i64s]
theorem seqOf_len (j n : Bool) (t a : Int) (le gt : Bool) : (seqOf j n t a le gt).length ≤ 3 := by cases j <;> cases n <;> cases le <;> cases gt <;> simp [seqOf]
set_option maxHeartbeats 4000000 in
theorem next_L {w0 : World} {H : Heap} (l : List Ins) (at_ : Int) {ad : Option Addr} {cap : Nat} (hat : I64 at_) (hrow : Holds w0 H ad (insRow l)) (hT : Tab w0) : LCalls Tryd.prog w0 56 #[.slice ad l.length cap, .int .i64 at_] (H) (fun v H' => ∃ HB, OwnS 3 1 v (nextL l at_).length (i64s (nextL l at_)) HB ∧ H' = HB ++ H) := by
  refine L_enter (l := [.slice ad l.length cap, .int .i64 at_]) Tryd.func56 rfl Tryd.ntmps56 rfl rfl ?_
  refine W_sr ?_
  refine W_box rfl rfl rfl (fun b2 => ?_)
  refine W_assign rfl rfl ?_
  refine W_nil ?_
  refine W_seq ?_
  refine W_sr ?_
  refine W_move rfl rfl ?_
  refine W_bin rfl rfl b_lss rfl ?_
  refine W_move rfl rfl ?_
  apply W_or
  iterate 4 exact rfl
  case h1 =>
    intro hg2
    refine W_gyes rfl rfl ?_
    refine W_move rfl rfl ?_
    refine W_gyes rfl rfl ?_
    refine W_load rfl ty24 rfl (Cell.own zM rfl) rfl ?_
    refine W_gyes rfl rfl ?_
    refine W_len rfl ty24 rfl rfl ?_
    refine W_gyes rfl rfl ?_
    refine W_bin rfl rfl b_geq rfl ?_
    exact W_met rfl zR
  refine W_nil ?_
  refine W_condPS (p := at_ < 0 ∨ (l.length : Int) ≤ at_) rfl (by simp) (fun c0 => ?_) (fun c0 => ?_)
  · skip
    refine W_sr ?_
    refine W_assign rfl rfl ?_
    refine W_nil ?_
    refine W_ret1m (H2 := H) Tryd.results56 rfl (.nil _) (by first | exact hsubI | (repeat (first | exact HSub.refl _ | refine HSub.cons zT ?_ | refine HSub.app (by repeat (first | exact TakeS.here _ | apply TakeS.next | apply TakeS.app)) ?_ | refine HSub.drop ?_ | refine HSub.dropS ?_ | exact HSub.nil _))) ?_
    have e : nextL l at_ = [] := if_pos c0
    exact ⟨[], by rw [e]; exact .nil, rfl⟩
  · skip
    refine W_skip ?_
    refine W_sr ?_
    obtain ⟨i, rfl, hi⟩ : ∃ i : Nat, at_ = (i : Int) ∧ i < l.length := ⟨at_.toNat, by omega, by omega⟩
    obtain ⟨x, hx⟩ : ∃ x, l[i]? = some x := ⟨_, List.getElem?_eq_getElem hi⟩
    obtain ⟨b, o, rfl, hc⟩ := hrow.row cells_len (by decide) hx
    refine W_alloc ty113 rfl rfl (fun b5 => ?_)
    refine W_nil ?_
    refine W_seq ?_
    refine W_sr ?_
    refine W_load rfl ty24 rfl (Cell.own zM rfl) rfl ?_
    refine W_move rfl rfl ?_
    refine W_indexAddr (j := i) rfl rfl ty24 ty59 rfl hi rfl rfl ?_
    refine W_loadA rfl ty59 rfl (vs := x.cells) rfl (hc.up (by first | exact hsubI | (repeat (first | exact HSub.refl _ | refine HSub.cons zT ?_ | refine HSub.app (by repeat (first | exact TakeS.here _ | apply TakeS.next | apply TakeS.app)) ?_ | refine HSub.drop ?_ | refine HSub.dropS ?_ | exact HSub.nil _)))) rfl ?_
    refine W_move rfl rfl ?_
    refine W_call (.cons rfl (.cons rfl .nil)) Tryd.call70 rfl (behind_L x i hT) ?_
    rintro v' H' ⟨bj, bt, ba, bn, rfl, rfl⟩
    refine W_nil ?_
    refine W_block ?_
    refine W_rangeFunc rfl Tryd.call81 ?_
    intro lp D r hst hpd hps hasg hbody hA
    have hr := loop_ready hst hpd
    show LCalls _ _ _ #[_, _, _, _, _] _ _
    refine ((behind_iter (H := (lp, .obj (.loop r)) :: (D, .obj (.deferred (some []))) :: (b5, .cells 113 1 [.slice none 0 0]) :: (b2, .cells 24 1 [.slice (some ⟨b, o, none⟩) l.length cap]) :: H) rfl rfl
      (fun j Hi => ∃ v HB, OwnS 3 1 v (((seqB x i).take j).filter (inB l.length)).length (i64s (((seqB x i).take j).filter (inB l.length))) HB ∧ Hi = (lp, .obj (.loop r)) :: (D, .obj (.deferred (some []))) :: (b5, .cells 113 1 [v]) :: (b2, .cells 24 1 [.slice (some ⟨b, o, none⟩) l.length cap]) :: (HB ++ H)) (fun _ => False) ?_ ⟨_, [], .nil, rfl⟩ hT).hsub (by first | exact hsubI | (repeat (first | exact HSub.refl _ | refine HSub.cons zT ?_ | refine HSub.app (by repeat (first | exact TakeS.here _ | apply TakeS.next | apply TakeS.app)) ?_ | refine HSub.drop ?_ | refine HSub.dropS ?_ | exact HSub.nil _)))).mono ?_
    · intro j z Hi hz hJ
      obtain ⟨v, HB, hO, rfl⟩ := hJ
      have hz : (seqB x i)[j]? = some z := hz
      have hlen : (((seqB x i).take j).filter (inB l.length)).length ≤ 3 := Nat.le_trans (List.length_filter_le _ _) (Nat.le_trans (List.length_take_le' _ _) (seqOf_len _ _ _ _ _ _))
      refine round_intro hst hpd hA hps rfl hasg rfl rfl rfl zT ?_
      refine W_region ?_
      refine W_assign rfl rfl ?_
      refine W_nil ?_
      refine W_begin hst hpd zT hbody ?_
      refine W_block ?_
      refine W_sr ?_
      refine W_move rfl rfl ?_
      refine W_bin rfl rfl b_geq rfl ?_
      refine W_move rfl rfl ?_
      apply W_and
      iterate 4 exact rfl
      case h1 =>
        intro hg2
        refine W_gyes rfl rfl ?_
        refine W_move rfl rfl ?_
        refine W_gyes rfl rfl ?_
        refine W_load rfl ty24 rfl (Cell.own zM rfl) rfl ?_
        refine W_gyes rfl rfl ?_
        refine W_len rfl ty24 rfl rfl ?_
        refine W_gyes rfl rfl ?_
        refine W_bin rfl rfl b_lss rfl ?_
        exact W_met rfl zR
      refine W_nil ?_
      refine W_condPS (p := 0 ≤ z ∧ z < (l.length : Int)) rfl (by simp) (fun c1 => ?_) (fun c1 => ?_)
      · skip
        refine W_region ?_
        refine W_load rfl ty113 rfl (Cell.own zM rfl) rfl ?_
        refine W_move rfl rfl ?_
        refine W_buildSlice ty113 ty3 (.cons rfl rfl rfl rfl rfl .nil) rfl rfl rfl rfl rfl rfl rfl (fun b32 => ?_)
        refine W_append (news := [.int .i64 z]) (m := 1) (HB := HB) (H0 := ?H0) rfl rfl ty113 ty3 rfl (by decide) hO rfl (Holds.own List.mem_cons_self) rfl (by simp only [maxLen]; omega) (by omega) ?hs rfl (fun v' HB' hO' => ?_)
        case H0 => exact (behC bj bt ba bn (jumpB x) (nextB x) (toV x i) i ++ (lp, .obj (.loop (Loop.at r .busy none))) :: (D, .obj (.deferred (some []))) :: (b5, .cells 113 1 [v]) :: (b2, .cells 24 1 [.slice (some ⟨b, o, none⟩) l.length cap]) :: H)
        case hs => exact (by first | exact hsubI | (repeat (first | exact HSub.refl _ | refine HSub.cons zT ?_ | refine HSub.app (by repeat (first | exact TakeS.here _ | apply TakeS.next | apply TakeS.app)) ?_ | refine HSub.drop ?_ | refine HSub.dropS ?_ | exact HSub.nil _)))
        obtain ⟨adv, capv, rfl, _, _⟩ := hO'.shape
        refine W_store rfl rfl ty113 rfl rfl zM rfl rfl zU ?_
        refine W_nil ?_
        refine W_blk ?_
        refine W_endround zT ?_
        rw [hr]
        have hin : inB l.length z = true := by simpa [inB] using c1
        exact ⟨_, (by first | exact hsubI | (repeat (first | exact HSub.refl _ | refine HSub.cons zT ?_ | refine HSub.app (by repeat (first | exact TakeS.here _ | apply TakeS.next | apply TakeS.app)) ?_ | refine HSub.drop ?_ | refine HSub.dropS ?_ | exact HSub.nil _))), .inl ⟨rfl, _, HB', by rw [filter_at hz, hin]; simpa [i64s_append, i64s] using hO', rfl⟩⟩
      · skip
        refine W_skip ?_
        refine W_blk ?_
        refine W_endround zT ?_
        rw [hr]
        have hin : inB l.length z = false := by rw [← Bool.not_eq_true]; simpa [inB] using c1
        exact ⟨_, (by first | exact hsubI | (repeat (first | exact HSub.refl _ | refine HSub.cons zT ?_ | refine HSub.app (by repeat (first | exact TakeS.here _ | apply TakeS.next | apply TakeS.app)) ?_ | refine HSub.drop ?_ | refine HSub.dropS ?_ | exact HSub.nil _))), .inl ⟨rfl, v, HB, by rw [filter_at hz, hin]; simpa using hO, rfl⟩⟩
    · intro _ H' hp
      obtain ⟨Hi', hs, hJS⟩ := hp
      obtain ⟨v, HB, hO, rfl⟩ := hJS.resolve_right id
      refine ⟨.ready, none, (D, .obj (.deferred (some []))) :: (b5, .cells 113 1 [v]) :: (b2, .cells 24 1 [.slice (some ⟨b, o, none⟩) l.length cap]) :: (HB ++ H), by rw [hr]; exact hs.trans (by first | exact hsubI | (repeat (first | exact HSub.refl _ | refine HSub.cons zT ?_ | refine HSub.app (by repeat (first | exact TakeS.here _ | apply TakeS.next | apply TakeS.app)) ?_ | refine HSub.drop ?_ | refine HSub.dropS ?_ | exact HSub.nil _))), by decide, ?_⟩
      show W _ _ _ _ _ _ _ _ _
      refine W_blk ?_
      refine W_sr ?_
      refine W_load rfl ty113 rfl (Cell.own zM rfl) rfl ?_
      refine W_assign rfl rfl ?_
      refine W_nil ?_
      refine W_ret1m (H2 := HB ++ H) Tryd.results56 rfl (.cons zT (.nil _)) (by first | exact hsubI | (repeat (first | exact HSub.refl _ | refine HSub.cons zT ?_ | refine HSub.app (by repeat (first | exact TakeS.here _ | apply TakeS.next | apply TakeS.app)) ?_ | refine HSub.drop ?_ | refine HSub.dropS ?_ | exact HSub.nil _))) ?_
      exact ⟨HB, by rw [nextL_at hi hx]; have h2 := hO; rw [show (seqOf (jumpB x) (nextB x) (toV x i) (IntKind.i64.wrap ((i : Int) + 1)) _ _) = seqB x i from rfl, List.take_length] at h2; exact h2, rfl⟩
end Go.Proofs.YtcmfldfeakmdoaaDoor
namespace Go.Proofs.YtcmfldfeakmdoaaDoor
open Go Go.Sl
attribute [local irreducible] W
def InsOk (l : List Ins) : Prop := ∀ x ∈ l, x.Ok
def rbehB (x : Ins) (at_ tt : Int) : Bool :=
  if x.op = 73 then false else if (decide (cls x.op = 2) && decide (IntKind.i64.wrap (IntKind.i64.wrap (tt - at_) - 1) = x.off)) = true then true else decide (x.op ≠ 32) && decide (tt = IntKind.i64.wrap (at_ + 1))
end Go.Proofs.YtcmfldfeakmdoaaDoor
namespace Go.Proofs.YtcmfldfeakmdoaaDoor
open Go Go.Sl
def stepB (E : Nat → Nat → Bool) (k : Nat) (o : List Bool) (t : Nat) : List Bool := bif o.getD k false && E k t then o.set t true else o
def rowB (E : Nat → Nat → Bool) (n : Nat) (o : List Bool) (k : Nat) : List Bool := (List.range n).foldl (stepB E k) o
def sweepB (E : Nat → Nat → Bool) (n : Nat) (o : List Bool) : List Bool := (List.range n).foldl (rowB E n) o
def roundsB (E : Nat → Nat → Bool) (n : Nat) : Nat → List Bool → List Bool
  | 0, o => o
  | r + 1, o => sweepB E n (roundsB E n r o)
def SubB (o p : List Bool) : Prop := o.length = p.length ∧ ∀ i, o.getD i false = true → p.getD i false = true
theorem SubB.refl (o : List Bool) : SubB o o := ⟨rfl, fun _ h => h⟩
theorem SubB.trans {o p q : List Bool} (h : SubB o p) (k : SubB p q) : SubB o q := ⟨h.1.trans k.1, fun i hi => k.2 i (h.2 i hi)⟩
theorem SubB.tail {a b : Bool} {o p : List Bool} (h : SubB (a :: o) (b :: p)) : (a = true → b = true) ∧ SubB o p :=
  ⟨fun ha => by have := h.2 0; simpa [ha] using this, by have := h.1; simpa using this, fun i hi => by have := h.2 (i + 1); simpa using this (by simpa using hi)⟩
theorem SubB.antisymm : ∀ {o p : List Bool}, SubB o p → SubB p o → o = p
  | [], [], _, _ => rfl
  | [], _ :: _, h, _ => by have := h.1; simp at this
  | _ :: _, [], h, _ => by have := h.1; simp at this
  | a :: o, b :: p, h, k => by
    obtain ⟨h1, h2⟩ := h.tail
    obtain ⟨k1, k2⟩ := k.tail
    rw [SubB.antisymm h2 k2]
    cases a <;> cases b <;> simp_all
def cntB : List Bool → Nat
  | [] => 0
  | b :: l => (if b = true then 1 else 0) + cntB l
theorem SubB.cnt_lt : ∀ {o p : List Bool}, SubB o p → o ≠ p → cntB o < cntB p
  | [], [], _, hne => absurd rfl hne
  | [], _ :: _, h, _ => by have := h.1; simp at this
  | _ :: _, [], h, _ => by have := h.1; simp at this
  | a :: o, b :: p, h, hne => by
    obtain ⟨h1, h2⟩ := h.tail
    by_cases e : o = p
    · subst e
      cases a <;> cases b <;> simp_all [cntB] <;> omega
    · have := h2.cnt_lt e
      simp only [cntB]
      cases a <;> cases b <;> simp_all <;> omega
theorem cnt_bound : ∀ (o : List Bool) (n : Nat), (∀ i, o.getD i false = true → i < n) → cntB o ≤ n
  | [], _, _ => Nat.zero_le _
  | b :: o, 0, h => by
    have hb : b = false := by cases b with
      | false => rfl
      | true => exact absurd (h 0 rfl) (by omega)
    subst hb
    have := cnt_bound o 0 (fun i hi => by have := h (i + 1) (by simpa using hi); omega)
    simpa [cntB] using this
  | b :: o, n + 1, h => by
    have := cnt_bound o n (fun i hi => by have := h (i + 1) (by simpa using hi); omega)
    simp only [cntB]; split <;> omega
theorem getD_set {o : List Bool} {t i : Nat} : (o.set t true).getD i false = (bif decide (i = t) && decide (t < o.length) then true else o.getD i false) := by
  simp only [List.getD, List.getElem?_set]
  by_cases h : t = i
  · subst h
    by_cases h2 : t < o.length
    · simp [h2]
    · simp [h2, List.getElem?_eq_none (Nat.le_of_not_lt h2)]
  · have : ¬ i = t := fun e => h e.symm
    simp [h, this]
theorem step_sub {E : Nat → Nat → Bool} {k t : Nat} (o : List Bool) : SubB o (stepB E k o t) := by
  unfold stepB
  cases o.getD k false && E k t with
  | false => exact .refl _
  | true => exact ⟨by simp, fun i hi => by
      show (o.set t true).getD i false = true
      rw [getD_set, hi]; cases decide (i = t) && decide (t < o.length) <;> rfl⟩
theorem fold_sub {f : List Bool → Nat → List Bool} (hf : ∀ o x, SubB o (f o x)) : ∀ (l : List Nat) (o : List Bool), SubB o (l.foldl f o)
  | [], o => .refl o
  | x :: l, o => (hf o x).trans (fold_sub hf l (f o x))
theorem fold_fix {f : List Bool → Nat → List Bool} (hf : ∀ o x, SubB o (f o x)) : ∀ (l : List Nat) (o : List Bool), l.foldl f o = o → ∀ x ∈ l, f o x = o
  | [], _, _, _, h => by cases h
  | y :: l, o, he, x, hx => by
    have h1 : SubB (f o y) o := by
      have := fold_sub hf l (f o y)
      rw [show l.foldl f (f o y) = o from he] at this
      exact this
    have h2 : f o y = o := h1.antisymm (hf o y)
    rcases List.mem_cons.1 hx with rfl | hx
    · exact h2
    · exact fold_fix hf l o (by rw [← h2]; rw [List.foldl_cons] at he; rw [he, h2]) x hx
theorem row_sub {E : Nat → Nat → Bool} {n k : Nat} (o : List Bool) : SubB o (rowB E n o k) := fold_sub (fun o _ => step_sub o) _ o
theorem sweep_sub {E : Nat → Nat → Bool} {n : Nat} (o : List Bool) : SubB o (sweepB E n o) := fold_sub (fun o _ => row_sub o) _ o
theorem closed_of_fix {E : Nat → Nat → Bool} {n : Nat} {o : List Bool} (h : sweepB E n o = o) (hl : n ≤ o.length) {k t : Nat} (hk : k < n) (ht : t < n) (hm : o.getD k false = true) (he : E k t = true) : o.getD t false = true := by
  have h1 : rowB E n o k = o := fold_fix (fun o _ => row_sub o) _ o h k (List.mem_range.2 hk)
  have h2 : stepB E k o t = o := fold_fix (fun o _ => step_sub o) _ o h1 t (List.mem_range.2 ht)
  unfold stepB at h2
  rw [hm, he] at h2
  have h3 : o.set t true = o := h2
  rw [← h3, getD_set]
  have : decide (t < o.length) = true := decide_eq_true (by omega)
  rw [this]; simp
theorem fold_sound {P : Nat → Prop} {f : List Bool → Nat → List Bool} : ∀ (l : List Nat) (o : List Bool), (∀ o, ∀ x ∈ l, (∀ i, o.getD i false = true → P i) → ∀ i, (f o x).getD i false = true → P i) → (∀ i, o.getD i false = true → P i) → ∀ i, (l.foldl f o).getD i false = true → P i
  | [], _, _, h => h
  | x :: l, o, hf, h => fold_sound l (f o x) (fun o y hy => hf o y (List.mem_cons_of_mem _ hy)) (hf o x List.mem_cons_self h)
theorem sweep_sound {E : Nat → Nat → Bool} {n : Nat} {P : Nat → Prop} (hE : ∀ k t, k < n → t < n → P k → E k t = true → P t) (o : List Bool) (h : ∀ i, o.getD i false = true → P i) : ∀ i, (sweepB E n o).getD i false = true → P i :=
  fold_sound _ _ (fun o k hk h => fold_sound _ _ (fun o t ht h i hi => by
    unfold stepB at hi
    cases hc : o.getD k false && E k t with
    | false => rw [hc] at hi; exact h i hi
    | true =>
      rw [hc] at hi
      simp only [Bool.and_eq_true] at hc
      have hi' : (o.set t true).getD i false = true := hi
      rw [getD_set] at hi'
      by_cases e : i = t
      · subst e; exact hE k i (List.mem_range.1 hk) (List.mem_range.1 ht) (h k hc.1) hc.2
      · rw [decide_eq_false e] at hi'; exact h i hi') h) h
theorem rounds_sub {E : Nat → Nat → Bool} {n : Nat} (o : List Bool) : ∀ r, SubB o (roundsB E n r o)
  | 0 => .refl o
  | r + 1 => (rounds_sub o r).trans (sweep_sub _)
theorem rounds_sound {E : Nat → Nat → Bool} {n : Nat} {P : Nat → Prop} (hE : ∀ k t, k < n → t < n → P k → E k t = true → P t) (o : List Bool) (h : ∀ i, o.getD i false = true → P i) : ∀ r i, (roundsB E n r o).getD i false = true → P i
  | 0, i, hi => h i hi
  | r + 1, i, hi => sweep_sound hE _ (rounds_sound hE o h r) i hi
theorem rounds_cnt {E : Nat → Nat → Bool} {n : Nat} (o : List Bool) (h1 : 1 ≤ cntB o) : ∀ r, sweepB E n (roundsB E n r o) = roundsB E n r o ∨ r + 1 ≤ cntB (roundsB E n r o)
  | 0 => .inr (by simpa [roundsB] using h1)
  | r + 1 => by
    rcases rounds_cnt (E := E) (n := n) o h1 r with h | h
    · left
      show sweepB E n (sweepB E n (roundsB E n r o)) = sweepB E n (roundsB E n r o)
      rw [h, h]
    · by_cases e : roundsB E n r o = sweepB E n (roundsB E n r o)
      · left
        show sweepB E n (sweepB E n (roundsB E n r o)) = sweepB E n (roundsB E n r o)
        rw [← e, ← e]
      · right
        have := (sweep_sub (E := E) (n := n) (roundsB E n r o)).cnt_lt e
        show r + 1 + 1 ≤ cntB (sweepB E n (roundsB E n r o))
        omega
theorem rounds_fix {E : Nat → Nat → Bool} {n : Nat} {o : List Bool} (h1 : 1 ≤ cntB o) (hb : ∀ i, o.getD i false = true → i < n) : sweepB E n (roundsB E n n o) = roundsB E n n o := by
  rcases rounds_cnt (E := E) (n := n) o h1 n with h | h
  · exact h
  · have := cnt_bound (roundsB E n n o) n (rounds_sound (P := fun i => i < n) (fun _ _ _ ht _ _ => ht) o hb n)
    omega
theorem rounds_len {E : Nat → Nat → Bool} {n r : Nat} {o : List Bool} : (roundsB E n r o).length = o.length := (rounds_sub o r).1.symm
theorem word_bit : ∀ (l : List Bool) (i : Nat), (wordN l).testBit i = l.getD i false
  | [], i => by simp [wordN]
  | b :: l, 0 => by
    rw [Nat.testBit_zero]
    simp only [wordN, List.getD_cons_zero]
    cases b <;> simp <;> omega
  | b :: l, i + 1 => by
    rw [Nat.testBit_succ, show wordN (b :: l) / 2 = wordN l by simp only [wordN]; split <;> omega, word_bit l i]
    simp
inductive Reach (l : List Ins) : Nat → Prop
  | zero (h : 0 < l.length) : Reach l 0
  | step {k z : Nat} (h : Reach l k) (hz : (z : Int) ∈ nextL l k) : Reach l z
theorem mem_seqOf {j n le gt : Bool} {t a z : Int} : z ∈ seqOf j n t a le gt ↔ (j = true ∧ (le = true ∨ n = false) ∧ z = t) ∨ (n = true ∧ z = a) ∨ (j = true ∧ n = true ∧ gt = true ∧ z = t) := by
  cases j <;> cases n <;> cases le <;> cases gt <;> simp [seqOf]
theorem beh_mem {x : Ins} (hx : x.Ok) {k t n : Nat} (hk : k < n) (ht : t < n) (hn : n ≤ 1000000) : rbehB x k t = true ↔ (t : Int) ∈ seqB x k := by
  have h1 := hx.off.1; have h2 := hx.off.2
  have hc : x.op = 73 → cls x.op = 4 := fun e => by rw [e]; decide
  have hj : x.op = 32 → cls x.op = 2 := fun e => by rw [e]; decide
  unfold seqB rbehB toV
  rw [mem_seqOf, iw, iw, iw, iw]
  unfold jumpB nextB
  simp only [decide_eq_true_eq, Bool.and_eq_true, Bool.and_eq_false_iff, decide_eq_false_iff_not, Decidable.not_not, ne_eq]
  by_cases h73 : x.op = 73
  · rw [if_pos h73]
    have h4 := hc h73
    refine ⟨fun h => by simp at h, ?_⟩
    rintro (⟨hj2, _⟩ | ⟨⟨h, _⟩, _⟩ | ⟨hj2, _⟩)
    · omega
    · exact absurd h73 h
    · omega
  · rw [if_neg h73]
    by_cases hjmp : cls x.op = 2 ∧ (((t : Int) - k + 9223372036854775808) % 18446744073709551616 - 9223372036854775808 - 1 + 9223372036854775808) % 18446744073709551616 - 9223372036854775808 = x.off
    · rw [if_pos hjmp]
      obtain ⟨hj2, hof⟩ := hjmp
      simp only [true_iff]
      by_cases h32 : x.op = 32
      · left; exact ⟨hj2, .inr (.inr h32), by omega⟩
      · by_cases hle : (t : Int) ≤ k
        · left; exact ⟨hj2, .inl (by omega), by omega⟩
        · by_cases hgt : (t : Int) = k + 1
          · right; left; exact ⟨⟨h73, h32⟩, by omega⟩
          · right; right; exact ⟨hj2, ⟨h73, h32⟩, by omega, by omega⟩
    · rw [if_neg hjmp]
      simp only [Bool.and_eq_true, decide_eq_true_eq]
      constructor
      · rintro ⟨h32, he⟩
        right; left
        exact ⟨⟨h73, h32⟩, by omega⟩
      · rintro (⟨hj2, _, he⟩ | ⟨⟨_, h32⟩, he⟩ | ⟨hj2, _, _, he⟩)
        · exact absurd ⟨hj2, by omega⟩ hjmp
        · exact ⟨h32, by omega⟩
        · exact absurd ⟨hj2, by omega⟩ hjmp
theorem mem_next {l : List Ins} (hl : InsOk l) {k : Nat} (hk : k < l.length) (hn : l.length ≤ 1000000) {t : Int} : t ∈ nextL l k ↔ 0 ≤ t ∧ t < (l.length : Int) ∧ ∃ x, l[k]? = some x ∧ rbehB x k t = true := by
  have hx : l[k]? = some (l[k]'hk) := List.getElem?_eq_getElem hk
  have hok := hl _ (List.mem_of_getElem? hx)
  rw [nextL_at hk hx]
  simp only [List.mem_filter, inB, Bool.and_eq_true, decide_eq_true_eq]
  constructor
  · rintro ⟨h1, h2, h3⟩
    refine ⟨h2, h3, _, hx, ?_⟩
    obtain ⟨m, rfl⟩ := Int.eq_ofNat_of_zero_le h2
    exact (beh_mem hok (n := l.length) hk (by omega) hn).2 h1
  · rintro ⟨h2, h3, x, hx', hb⟩
    have : x = l[k] := Option.some.inj (hx'.symm.trans hx)
    subst this
    obtain ⟨m, rfl⟩ := Int.eq_ofNat_of_zero_le h2
    exact ⟨(beh_mem hok (n := l.length) hk (by omega) hn).1 hb, h2, h3⟩
def edge (l : List Ins) (k t : Nat) : Bool := match l[k]? with
  | some x => rbehB x k t
  | none => false
def initB (n : Nat) : List Bool := bif decide (0 < n) then (List.replicate 64 false).set 0 true else List.replicate 64 false
def reachB (l : List Ins) : List Bool := roundsB (edge l) (min l.length 64) (min l.length 64) (initB (min l.length 64))
def reachN (l : List Ins) : Nat := wordN (reachB l)
theorem initB_len (n : Nat) : (initB n).length = 64 := by unfold initB; cases decide (0 < n) <;> simp
theorem reachB_len (l : List Ins) : (reachB l).length = 64 := by unfold reachB; rw [rounds_len, initB_len]
theorem repl_getD (n i : Nat) : (List.replicate n false).getD i false = false := by
  rw [List.getD, List.getElem?_replicate]; split <;> rfl
theorem initB_at {n i : Nat} : (initB n).getD i false = true ↔ 0 < n ∧ i = 0 := by
  unfold initB
  by_cases h : 0 < n
  · rw [decide_eq_true h]
    show ((List.replicate 64 false).set 0 true).getD i false = true ↔ _
    rw [getD_set]
    by_cases hi : i = 0
    · subst hi; simp [h]
    · simp only [hi, decide_false, Bool.false_and, cond_false, and_false, iff_false]
      rw [repl_getD]; simp
  · rw [decide_eq_false h]
    show (List.replicate 64 false).getD i false = true ↔ _
    rw [repl_getD]; simp [h]
theorem Reach.lt {l : List Ins} {k : Nat} (h : Reach l k) : k < l.length := by
  cases h with
  | zero h => exact h
  | step h hz =>
    unfold nextL at hz
    split at hz
    · cases hz
    · split at hz
      · simp only [List.mem_filter, inB, Bool.and_eq_true, decide_eq_true_eq] at hz; omega
      · cases hz
theorem reach_edge {l : List Ins} (hl : InsOk l) {n : Nat} (hn : n = min l.length 64) {k t : Nat} (hk : k < n) (ht : t < n) : edge l k t = true ↔ (t : Int) ∈ nextL (l.take 64) k := by
  have hlen : (l.take 64).length = n := by rw [List.length_take]; omega
  have hl' : InsOk (l.take 64) := fun x hx => hl x (List.mem_of_mem_take hx)
  rw [mem_next hl' (by omega) (by omega), hlen]
  unfold edge
  have e : (l.take 64)[k]? = l[k]? := by rw [List.getElem?_take_of_lt (by omega)]
  rw [e]
  have hx : l[k]? = some (l[k]'(by omega)) := List.getElem?_eq_getElem (by omega)
  rw [hx]
  constructor
  · intro h; exact ⟨by omega, by omega, _, rfl, h⟩
  · rintro ⟨_, _, x, hx', hb⟩
    cases hx'
    exact hb
theorem cnt_init {n : Nat} (h : 0 < n) : 1 ≤ cntB (initB n) := by
  unfold initB; rw [decide_eq_true h]; decide
theorem reachB_iff {l : List Ins} (hl : InsOk l) (i : Nat) : (reachB l).getD i false = true ↔ Reach (l.take 64) i := by
  have hlen : (l.take 64).length = min l.length 64 := by rw [List.length_take]; omega
  unfold reachB
  generalize hn : min l.length 64 = n at *
  constructor
  · refine rounds_sound (P := Reach (l.take 64)) (fun k t hk ht hr he => ?_) _ (fun i hi => ?_) n i
    · exact hr.step ((reach_edge hl hn.symm hk ht).1 he)
    · obtain ⟨h0, rfl⟩ := initB_at.1 hi
      exact .zero (by omega)
  · intro h
    have h0 : 0 < n := by have := h.lt; omega
    have hfix := rounds_fix (E := edge l) (n := n) (o := initB n) (cnt_init h0) (fun i hi => by have := initB_at.1 hi; omega)
    induction h with
    | zero _ => exact (rounds_sub (initB n) n).2 0 (initB_at.2 ⟨h0, rfl⟩)
    | @step k z hr hz ih =>
      have hk : k < n := by have := hr.lt; omega
      have hz2 : z < n := by have := (Reach.step hr hz).lt; omega
      exact closed_of_fix hfix (by rw [rounds_len, initB_len]; omega) hk hz2 ih ((reach_edge hl hn.symm hk hz2).2 hz)
theorem reachN_bit {l : List Ins} (hl : InsOk l) (i : Nat) : (reachN l).testBit i = true ↔ Reach (l.take 64) i := by
  unfold reachN; rw [word_bit]; exact reachB_iff hl i
theorem reachN_ok (l : List Ins) : MaskOk (reachN l) := by
  have := wordN_lt (reachB l)
  rw [reachB_len] at this
  exact this
theorem reachN_unique {l : List Ins} (hl : InsOk l) {m : Nat} (h : ∀ i, m.testBit i = true ↔ Reach (l.take 64) i) : m = reachN l :=
  Nat.eq_of_testBit_eq fun i => by
    have h1 := h i
    have h2 := reachN_bit hl i
    cases ha : m.testBit i <;> cases hb : (reachN l).testBit i <;> simp_all
end Go.Proofs.YtcmfldfeakmdoaaDoor
namespace Go.Proofs.YtcmfldfeakmdoaaDoor
open Go Go.Sl
attribute [local irreducible] W
def unset (m : Nat) : Nat := ((List.range 64).filter fun i => !m.testBit i).length
theorem filter_lt {α : Type} {p q : α → Bool} : ∀ {l : List α}, (∀ x ∈ l, q x = true → p x = true) → (∃ x ∈ l, p x = true ∧ q x = false) → (l.filter q).length < (l.filter p).length
  | [], _, ⟨x, hx, _⟩ => by cases hx
  | y :: l, h, ⟨x, hx, hp, hq⟩ => by
    have hle : ∀ {l : List α}, (∀ x ∈ l, q x = true → p x = true) → (l.filter q).length ≤ (l.filter p).length := by
      intro l
      induction l with
      | nil => intro _; exact Nat.le_refl _
      | cons z l ih =>
        intro h
        have h1 := ih (fun x hx => h x (List.mem_cons_of_mem _ hx))
        have h2 := h z List.mem_cons_self
        cases hz : q z <;> cases hz' : p z <;> simp_all <;> omega
    have htl : ∀ x ∈ l, q x = true → p x = true := fun x hx => h x (List.mem_cons_of_mem _ hx)
    rcases List.mem_cons.1 hx with rfl | hx
    · have := hle htl
      simp [hp, hq]; omega
    · have := filter_lt htl ⟨x, hx, hp, hq⟩
      have h2 := h y List.mem_cons_self
      cases hy : q y <;> cases hy' : p y <;> simp_all <;> omega
theorem unset_le (m : Nat) : unset m ≤ 64 := Nat.le_trans (List.length_filter_le _ _) (by simp)
theorem bit_or {m : Nat} {z : Int} (hz : 0 ≤ z ∧ z < 64) (i : Nat) : (m ||| bitN z).testBit i = (m.testBit i || decide (i = z.toNat)) := by
  unfold bitN
  rw [if_pos hz, Nat.testBit_or, Nat.testBit_two_pow]
  congr 1
  by_cases h : z.toNat = i
  · subst h; simp
  · rw [decide_eq_false h, decide_eq_false (fun e => h e.symm)]
theorem unset_or {m : Nat} {z : Int} (hz : 0 ≤ z ∧ z < 64) (h : m.testBit z.toNat = false) : unset (m ||| bitN z) + 1 ≤ unset m := by
  refine filter_lt (fun x _ hx => ?_) ⟨z.toNat, List.mem_range.2 (by omega), by simp [h], by rw [bit_or hz]; simp⟩
  rw [bit_or hz] at hx
  cases hm : m.testBit x <;> simp_all
theorem next_range {c : List Ins} {k z : Int} (h : z ∈ nextL c k) : 0 ≤ z ∧ z < (c.length : Int) := by
  unfold nextL at h
  split at h
  · cases h
  · split at h
    · simp only [List.mem_filter, inB, Bool.and_eq_true, decide_eq_true_eq] at h; exact h.2
    · cases h
theorem nextL_len (c : List Ins) (k : Int) : (nextL c k).length ≤ 3 := by
  unfold nextL
  split
  · simp
  · split
    · exact Nat.le_trans (List.length_filter_le _ _) (seqOf_len _ _ _ _ _ _)
    · simp
structure ReachI (c : List Ins) (m : Nat) (todo : List Int) : Prop where
  ok : MaskOk m
  sound : ∀ i, m.testBit i = true → Reach c i
  zero : 0 < c.length → m.testBit 0 = true
  has : ∀ z ∈ todo, ∃ i : Nat, z = i ∧ i < 64 ∧ (m.testBit i = true ∨ c.length = 0)
  closed : ∀ i : Nat, m.testBit i = true → (i : Int) ∈ todo ∨ ∀ z : Nat, (z : Int) ∈ nextL c i → m.testBit z = true
  room : todo.length + unset m ≤ 65
structure ReachJ (c : List Ins) (k : Nat) (B : Nat) (j : Nat) (m : Nat) (todo : List Int) : Prop where
  ok : MaskOk m
  sound : ∀ i, m.testBit i = true → Reach c i
  zero : 0 < c.length → m.testBit 0 = true
  has : ∀ z ∈ todo, ∃ i : Nat, z = i ∧ i < 64 ∧ (m.testBit i = true ∨ c.length = 0)
  here : Reach c k ∨ c.length = 0
  closed : ∀ i : Nat, m.testBit i = true → (i : Int) ∈ todo ∨ (∀ z : Nat, (z : Int) ∈ nextL c i → m.testBit z = true) ∨ i = k
  done : ∀ z : Nat, (z : Int) ∈ (nextL c k).take j → m.testBit z = true
  room : todo.length + unset m ≤ 64
  less : todo.length + 2 * unset m + 1 ≤ B
theorem ReachI.start {c : List Ins} (hc : c.length ≤ 64) : ReachI c (fullN ((min c.length 1 : Nat) : Int)) [0] := by
  by_cases h : c.length = 0
  · have e : fullN ((min c.length 1 : Nat) : Int) = 0 := by rw [h]; rfl
    rw [e]
    refine ⟨by unfold MaskOk; decide, fun i hi => by simp at hi, fun h' => by omega, fun z hz => ⟨0, by simpa using hz, by omega, .inr h⟩, fun i hi => by simp at hi, ?_⟩
    have := unset_le 0
    simp only [List.length_singleton]; omega
  · have e : fullN ((min c.length 1 : Nat) : Int) = 1 := by rw [show min c.length 1 = 1 by omega]; rfl
    rw [e]
    have h1 : ∀ i, (1 : Nat).testBit i = true → i = 0 := fun i hi => by
      have : (2 ^ 0 : Nat).testBit i = true := by simpa using hi
      rw [Nat.testBit_two_pow] at this
      simpa using (of_decide_eq_true this).symm
    refine ⟨by unfold MaskOk; decide, fun i hi => by rw [h1 i hi]; exact .zero (by omega), fun _ => by decide, fun z hz => ⟨0, by simpa using hz, by omega, .inl (by decide)⟩, fun i hi => by rw [h1 i hi]; exact .inl (by simp), ?_⟩
    have := unset_le 1
    simp only [List.length_singleton]; omega
theorem ReachI.pop {c : List Ins} {m : Nat} {t : List Int} {k : Nat} (h : ReachI c m (t ++ [(k : Int)])) : ReachJ c k ((t ++ [(k : Int)]).length + 2 * unset m) 0 m t := by
  have hr := h.room
  simp only [List.length_append, List.length_singleton] at hr
  refine ⟨h.ok, h.sound, h.zero, fun z hz => h.has z (List.mem_append_left _ hz), ?_, fun i hi => ?_, fun z hz => by simp at hz, by omega, by simp only [List.length_append, List.length_singleton]; omega⟩
  · obtain ⟨i, e, _, hi⟩ := h.has k (by simp)
    have : i = k := by omega
    subst this
    rcases hi with hi | hi
    · exact .inl (h.sound _ hi)
    · exact .inr hi
  · rcases h.closed i hi with h1 | h1
    · rcases List.mem_append.1 h1 with h2 | h2
      · exact .inl h2
      · right; right; simp at h2; omega
    · exact .inr (.inl h1)
theorem ReachJ.seen {c : List Ins} {k B j m : Nat} {t : List Int} {z : Int} (h : ReachJ c k B j m t) (hc : c.length ≤ 64) (hz : (nextL c k)[j]? = some z) (hs : hasN m z = true) : ReachJ c k B (j + 1) m t := by
  refine ⟨h.ok, h.sound, h.zero, h.has, h.here, h.closed, fun y hy => ?_, h.room, h.less⟩
  rw [takeAt hz] at hy
  rcases List.mem_append.1 hy with hy | hy
  · exact h.done y hy
  · simp at hy
    subst hy
    unfold hasN at hs
    simp only [Bool.and_eq_true] at hs
    simpa using hs.2
theorem ReachJ.new {c : List Ins} {k B j m : Nat} {t : List Int} {z : Int} (h : ReachJ c k B j m t) (hc : c.length ≤ 64) (hz : (nextL c k)[j]? = some z) (hs : hasN m z = false) : ReachJ c k B (j + 1) (m ||| bitN z) (t ++ [z]) := by
  have hr := next_range (List.mem_of_getElem? hz)
  have hz64 : 0 ≤ z ∧ z < 64 := by omega
  obtain ⟨y, rfl⟩ := Int.eq_ofNat_of_zero_le hr.1
  have hb : m.testBit y = false := by
    unfold hasN goodB at hs
    simpa [hz64.1, hz64.2] using hs
  have hu := unset_or (m := m) hz64 (by simpa using hb)
  have hm : ∀ i, m.testBit i = true → (m ||| bitN (y : Int)).testBit i = true := fun i hi => by rw [bit_or hz64, hi]; rfl
  have hy : (m ||| bitN (y : Int)).testBit y = true := by rw [bit_or hz64]; simp
  have hrk : Reach c k := by
    rcases h.here with h1 | h1
    · exact h1
    · omega
  refine ⟨or_ok h.ok _, fun i hi => ?_, fun h0 => hm 0 (h.zero h0), fun x hx => ?_, h.here, fun i hi => ?_, fun x hx => ?_, by have := h.room; simp only [List.length_append, List.length_singleton]; omega, by have := h.less; simp only [List.length_append, List.length_singleton]; omega⟩
  · rw [bit_or hz64] at hi
    rcases Bool.or_eq_true _ _ ▸ hi with h1 | h1
    · exact h.sound i h1
    · have : i = y := by simpa using of_decide_eq_true h1
      subst this
      exact hrk.step (List.mem_of_getElem? hz)
  · rcases List.mem_append.1 hx with hx | hx
    · obtain ⟨i, e, h6, hi⟩ := h.has x hx
      exact ⟨i, e, h6, hi.imp (hm i) id⟩
    · simp at hx; subst hx
      exact ⟨y, rfl, by omega, .inl hy⟩
  · rw [bit_or hz64] at hi
    rcases Bool.or_eq_true _ _ ▸ hi with h1 | h1
    · rcases h.closed i h1 with h2 | h2 | h2
      · exact .inl (List.mem_append_left _ h2)
      · exact .inr (.inl fun x hx => hm x (h2 x hx))
      · exact .inr (.inr h2)
    · have : i = y := by simpa using of_decide_eq_true h1
      subst this
      exact .inl (by simp)
  · rw [takeAt hz] at hx
    rcases List.mem_append.1 hx with hx | hx
    · exact hm x (h.done x hx)
    · simp at hx
      have : x = y := by omega
      subst this; exact hy
theorem ReachJ.over {c : List Ins} {k B m : Nat} {t : List Int} (h : ReachJ c k B (nextL c k).length m t) : ReachI c m t ∧ t.length + 2 * unset m < B := by
  refine ⟨⟨h.ok, h.sound, h.zero, h.has, fun i hi => ?_, by have := h.room; omega⟩, by have := h.less; omega⟩
  rcases h.closed i hi with h1 | h1 | h1
  · exact .inl h1
  · exact .inr h1
  · subst h1
    right
    intro z hz
    exact h.done z (by rwa [List.take_length])
theorem ReachI.all {l : List Ins} (hl : InsOk l) {m : Nat} (h : ReachI (l.take 64) m []) : m = reachN l := by
  refine reachN_unique hl fun i => ⟨h.sound i, fun hr => ?_⟩
  induction hr with
  | zero h0 => exact h.zero h0
  | @step k z _ hz ih =>
    rcases h.closed k ih with h1 | h1
    · cases h1
    · exact h1 z hz
theorem holds_left {w0 : World} {H : Heap} {ad : Option Addr} {a b : List Value} (h : Holds w0 H ad (a ++ b)) : Holds w0 H ad a := fun j x hx => h j x (by
  rw [List.getElem?_append_left (List.getElem?_eq_some_iff.1 hx).1]; exact hx)
theorem insRow_take {w0 : World} {H : Heap} {ad : Option Addr} {l : List Ins} (h : Holds w0 H ad (insRow l)) (k : Nat) : Holds w0 H ad (insRow (l.take k)) := by
  have e : insRow l = insRow (l.take k) ++ insRow (l.drop k) := by rw [← List.flatMap_append, List.take_append_drop]
  rw [e] at h
  exact holds_left h
theorem i64s_take (l : List Int) (k : Nat) : (i64s l).take k = i64s (l.take k) := by simp [i64s, List.map_take]
set_option maxHeartbeats 4000000 in
theorem reached_q {w0 : World} {H : Heap} (l : List Ins) {ad : Option Addr} {cap : Nat} (hl : InsOk l) (hn : l.length ≤ 1000000) (hcap : l.length ≤ cap) (hrow : Holds w0 H ad (insRow l)) (hT : Tab w0) : PureAt Tryd.prog w0 H 37 [.slice ad l.length cap] (.int .u64 ((reachN l : Nat) : Int)) := by
  obtain ⟨c, hc⟩ : ∃ c, c = l.take 64 := ⟨_, rfl⟩
  have hcl : c.length = min 64 l.length := by rw [hc, List.length_take]
  have hc64 : c.length ≤ 64 := by omega
  have hrc : Holds w0 H ad (insRow c) := by rw [hc]; exact insRow_take hrow 64
  refine L_enter Tryd.func37 rfl Tryd.ntmps37 rfl rfl ?_
  refine W_sr ?_
  refine W_assign rfl rfl ?_
  refine W_nil ?_
  refine W_sr ?_
  refine W_move rfl rfl ?_
  refine W_move rfl rfl ?_
  refine W_len rfl ty24 rfl rfl ?_
  refine W_min2 rfl rfl (m := (c.length : Int)) (by rw [hcl]; split <;> omega) rfl ?_
  refine W_slice0 (hh := c.length) rfl ty24 ty59 rfl ⟨_, rfl⟩ (by omega) rfl ?_
  refine W_assign rfl rfl ?_
  refine W_nil ?_
  refine W_sr ?_
  refine W_move rfl rfl ?_
  refine W_len rfl ty24 rfl rfl ?_
  refine W_min2 rfl rfl (m := ((min c.length 1 : Nat) : Int)) (by split <;> omega) rfl ?_
  refine W_callp (.cons rfl .nil) Tryd.call55 rfl hT (full_pure _) ?_
  refine W_buildSlice (l := i64s [0]) ty113 ty3 (.cons rfl rfl rfl rfl rfl .nil) rfl rfl rfl rfl rfl rfl rfl (fun b17 => ?_)
  refine W_assign rfl rfl ?_
  refine W_assign rfl rfl ?_
  refine W_nil ?_
  refine W_seq ?_
  refine W_block ?_
  refine W_loopD (X := Nat × List Int × Value × Heap) (fun | (m, _, v, _) => [(0, .slice ad c.length cap), (3, .int .u64 (m : Int)), (4, v)]) (fun _ => []) (fun | (_, _, _, HB) => HB ++ H) (fun | (m, todo, v, HB) => ReachI c m todo ∧ OwnS 3 1 v todo.length (i64s todo) HB) (fun | (m, todo, _, _) => todo.length + 2 * unset m) (fullN ((min c.length 1 : Nat) : Int), [0], .slice (some ⟨b17, 0, none⟩) 1 1, [(b17, .cells 3 (1 * 1) (i64s [0]))]) ⟨.start hc64, .own rfl (by decide) (by decide)⟩ (sub_cons rfl (sub_cons rfl (sub_cons rfl (sub_nil _)))) rfl (by first | exact hsubI | (repeat (first | exact HSub.refl _ | refine HSub.cons zT ?_ | refine HSub.app (by repeat (first | exact TakeS.here _ | apply TakeS.next | apply TakeS.app)) ?_ | refine HSub.drop ?_ | refine HSub.dropS ?_ | exact HSub.nil _))) ?_
  rintro ⟨m, todo, v, HB⟩ ⟨hI, hO⟩
  simp only
  obtain ⟨ad4, cap4, rfl, _, _⟩ := hO.shape
  refine W_seq ?_
  refine W_sr ?_
  refine W_move rfl rfl ?_
  refine W_len rfl ty113 rfl rfl ?_
  refine W_bin rfl rfl b_gtr rfl ?_
  refine W_nil ?_
  refine W_condPS (p := 0 < (todo.length : Int)) rfl (by simp) (fun c0 => ?_) (fun c0 => ?_)
  · skip
    refine W_skip ?_
    refine W_block ?_
    refine W_sr ?_
    obtain ⟨b4, cp4, hv, rfl, hcp⟩ := hO.pos (by omega)
    cases hv
    obtain ⟨tds, z, rfl⟩ : ∃ tds z, todo = tds ++ [z] := ⟨todo.dropLast, todo.getLast (by intro e; rw [e] at c0; simp at c0), (List.dropLast_concat_getLast _).symm⟩
    obtain ⟨k, rfl, hk64, _⟩ := hI.has z (by simp)
    have hpop := hI.pop
    have hr65 := hpop.room
    obtain ⟨B, hB⟩ : ∃ B, B = (tds ++ [(k : Int)]).length + 2 * unset m := ⟨_, rfl⟩
    rw [← hB] at hpop ⊢
    have hln : (tds ++ [(k : Int)]).length = tds.length + 1 := by simp
    refine W_move rfl rfl ?_
    refine W_move rfl rfl ?_
    refine W_len rfl ty113 rfl rfl ?_
    refine W_bin rfl rfl (b_sub (m := (tds.length : Int)) ((i64w (by omega)).trans (by omega))) rfl ?_
    refine W_indexAddr (j := tds.length) rfl rfl ty113 ty3 rfl (by omega) rfl rfl ?_
    refine W_load rfl ty3 rfl (Cell.own zM (by rw [Nat.zero_add, Nat.mul_one]; exact i64s_at (x := (k : Int)) (by simp))) rfl ?_
    refine W_assign rfl rfl ?_
    refine W_nil ?_
    refine W_sr ?_
    refine W_move rfl rfl ?_
    refine W_move rfl rfl ?_
    refine W_len rfl ty113 rfl rfl ?_
    refine W_bin rfl rfl (b_sub (m := (tds.length : Int)) ((i64w (by omega)).trans (by omega))) rfl ?_
    refine W_slice0 (hh := tds.length) rfl ty113 ty3 rfl ⟨_, rfl⟩ (by omega) rfl ?_
    refine W_assign rfl rfl ?_
    refine W_nil ?_
    refine W_sr ?_
    obtain ⟨HB', hO', hsub⟩ := hO.cut (j := tds.length) (by omega)
    rw [show (i64s (tds ++ [(k : Int)])).take (tds.length * 1) = i64s tds by rw [Nat.mul_one, i64s_take]; simp] at hO'
    refine W_hsub (hsub H) ?_
    obtain ⟨r, hr⟩ : ∃ r, r = nextL c k := ⟨_, rfl⟩
    refine W_move rfl rfl ?_
    refine W_move rfl rfl ?_
    refine W_call (.cons rfl (.cons rfl .nil)) Tryd.call56 rfl (next_L c k ⟨by omega, by omega⟩ (hrc.up (by first | exact hsubI | (repeat (first | exact HSub.refl _ | refine HSub.cons zT ?_ | refine HSub.app (by repeat (first | exact TakeS.here _ | apply TakeS.next | apply TakeS.app)) ?_ | refine HSub.drop ?_ | refine HSub.dropS ?_ | exact HSub.nil _)))) hT) ?_
    rintro v34 H' ⟨HB34, hO34, rfl⟩
    rw [← hr] at hO34
    obtain ⟨ad34, cap34, rfl, hcap34, hmax34, hH34⟩ := Holds.of_own (w0 := w0) (H := HB34 ++ (HB' ++ H)) hO34 (fun p hp => List.mem_append_left _ hp)
    have hr62 : r.length ≤ 3 := by rw [hr]; exact nextL_len _ _
    refine W_len rfl ty113 rfl rfl ?_
    refine W_move rfl rfl ?_
    refine W_nil ?_
    refine W_block ?_
    refine W_loopD (X := Nat × Nat × List Int × Value × Heap) (fun | (j, m, _, v, _) => [(0, .slice ad c.length cap), (3, .int .u64 (m : Int)), (4, v), (34, .slice ad34 r.length cap34), (35, .int .i64 (r.length : Int)), (36, .int .i64 (j : Int))]) (fun _ => []) (fun | (_, _, _, _, HB) => HB34 ++ (HB ++ H)) (fun | (j, m, todo, v, HB) => j ≤ r.length ∧ ReachJ c k B j m todo ∧ OwnS 3 1 v todo.length (i64s todo) HB) (fun | (j, _, _, _, _) => r.length - j) (0, m, tds, .slice (some ⟨b4, 0, none⟩) tds.length cap4, HB') ⟨Nat.zero_le _, hpop, hO'⟩ (sub_cons rfl (sub_cons rfl (sub_cons rfl (sub_cons rfl (sub_cons rfl (sub_cons rfl (sub_nil _))))))) rfl (by first | exact hsubI | (repeat (first | exact HSub.refl _ | refine HSub.cons zT ?_ | refine HSub.app (by repeat (first | exact TakeS.here _ | apply TakeS.next | apply TakeS.app)) ?_ | refine HSub.drop ?_ | refine HSub.dropS ?_ | exact HSub.nil _))) ?_
    rintro ⟨j, m2, todo, v, HB2⟩ ⟨hj, hJ, hO2⟩
    simp only
    obtain ⟨ad2, cap2, rfl, _, _⟩ := hO2.shape
    have hroom := hJ.room
    refine W_sr ?_
    refine W_bin rfl rfl b_lss rfl ?_
    refine W_nil ?_
    refine W_seq ?_
    refine W_condPS (p := (j : Int) < (r.length : Int)) rfl (by simp) (fun c1 => ?_) (fun c1 => ?_)
    · skip
      refine W_skip ?_
      refine W_seq ?_
      refine W_block ?_
      refine W_sr ?_
      obtain ⟨z, hz⟩ : ∃ z, r[j]? = some z := ⟨_, List.getElem?_eq_getElem (by omega)⟩
      obtain ⟨b, o, rfl, _⟩ := hH34 j _ (i64s_at hz)
      have hH34' := Holds.of_own (w0 := w0) (H := HB34 ++ (HB2 ++ H)) hO34 (fun p hp => List.mem_append_left _ hp)
      obtain ⟨ad', cap', he, _, _, hH⟩ := hH34'
      cases he
      obtain ⟨b', o', he, hcz⟩ := hH j _ (i64s_at hz)
      cases he
      refine W_indexAddr (j := j) rfl rfl ty113 ty3 rfl (by omega) rfl rfl ?_
      refine W_load rfl ty3 rfl (by rw [Nat.mul_one]; exact hcz) rfl ?_
      refine W_assign rfl rfl ?_
      refine W_nil ?_
      refine W_sr ?_
      refine W_move rfl rfl ?_
      refine W_move rfl rfl ?_
      refine W_callp (.cons rfl (.cons rfl .nil)) Tryd.call36 rfl hT (has_m _ _ hJ.ok) ?_
      refine W_not rfl rfl ?_
      refine W_nil ?_
      refine W_condS rfl (fun c2 => ?_) (fun c2 => ?_)
      · skip
        refine W_sr ?_
        refine W_move rfl rfl ?_
        refine W_move rfl rfl ?_
        refine W_buildSlice ty113 ty3 (.cons rfl rfl rfl rfl rfl .nil) rfl rfl rfl rfl rfl rfl rfl (fun b46 => ?_)
        refine W_callq (.cons rfl (.cons rfl .nil)) Tryd.call57 rfl (with_q _ [z] hJ.ok (by simp) (Holds.own zM) hT) ?_
        refine W_assign rfl rfl ?_
        refine W_nil ?_
        refine W_region ?_
        refine W_move rfl rfl ?_
        refine W_move rfl rfl ?_
        refine W_buildSlice ty113 ty3 (.cons rfl rfl rfl rfl rfl .nil) rfl rfl rfl rfl rfl rfl rfl (fun b50 => ?_)
        refine W_append (news := [.int .i64 z]) (m := 1) (HB := HB2) (H0 := HB34 ++ H) rfl rfl ty113 ty3 rfl (by decide) hO2 rfl (Holds.own List.mem_cons_self) rfl (by simp only [maxLen]; omega) (by omega) (by first | exact hsubI | (repeat (first | exact HSub.refl _ | refine HSub.cons zT ?_ | refine HSub.app (by repeat (first | exact TakeS.here _ | apply TakeS.next | apply TakeS.app)) ?_ | refine HSub.drop ?_ | refine HSub.dropS ?_ | exact HSub.nil _))) rfl (fun v3 HB3 hO3 => ?_)
        obtain ⟨ad3, cap3, rfl, _, _⟩ := hO3.shape
        refine W_assign rfl rfl ?_
        refine W_nil ?_
        refine W_blk ?_
        refine W_region ?_
        refine W_bin rfl rfl (b_add (m := ((j + 1 : Nat) : Int)) ((i64w (by omega)).trans (by omega))) rfl ?_
        refine W_move rfl rfl ?_
        refine W_nil ?_
        refine W_again (j + 1, m2 ||| bitN z, todo ++ [z], _, HB3) ⟨by omega, hJ.new hc64 (hr ▸ hz) (by simpa using c2), by simpa [i64s_append, i64s] using hO3⟩ (by dsimp only; omega) (sub_cons rfl (sub_cons rfl (sub_cons rfl (sub_cons rfl (sub_cons rfl (sub_cons rfl (sub_nil _))))))) rfl (by first | exact hsubI | (repeat (first | exact HSub.refl _ | refine HSub.cons zT ?_ | refine HSub.app (by repeat (first | exact TakeS.here _ | apply TakeS.next | apply TakeS.app)) ?_ | refine HSub.drop ?_ | refine HSub.dropS ?_ | exact HSub.nil _)))
      · skip
        refine W_skip ?_
        refine W_blk ?_
        refine W_region ?_
        refine W_bin rfl rfl (b_add (m := ((j + 1 : Nat) : Int)) ((i64w (by omega)).trans (by omega))) rfl ?_
        refine W_move rfl rfl ?_
        refine W_nil ?_
        refine W_again (j + 1, m2, todo, _, HB2) ⟨by omega, hJ.seen hc64 (hr ▸ hz) (by simpa using c2), hO2⟩ (by dsimp only; omega) (sub_cons rfl (sub_cons rfl (sub_cons rfl (sub_cons rfl (sub_cons rfl (sub_cons rfl (sub_nil _))))))) rfl (by first | exact hsubI | (repeat (first | exact HSub.refl _ | refine HSub.cons zT ?_ | refine HSub.app (by repeat (first | exact TakeS.here _ | apply TakeS.next | apply TakeS.app)) ?_ | refine HSub.drop ?_ | refine HSub.dropS ?_ | exact HSub.nil _)))
    · skip
      refine W_exit rfl ?_
      refine W_blk ?_
      obtain rfl : j = r.length := by omega
      have hov := ReachJ.over (hr ▸ hJ)
      refine W_again (m2, todo, _, HB2) ⟨hov.1, hO2⟩ hov.2 (sub_cons rfl (sub_cons rfl (sub_cons rfl (sub_nil _)))) rfl (by first | exact hsubI | (repeat (first | exact HSub.refl _ | refine HSub.cons zT ?_ | refine HSub.app (by repeat (first | exact TakeS.here _ | apply TakeS.next | apply TakeS.app)) ?_ | refine HSub.drop ?_ | refine HSub.dropS ?_ | exact HSub.nil _)))
  · skip
    refine W_exit rfl ?_
    refine W_sr ?_
    refine W_move rfl rfl ?_
    refine W_assign rfl rfl ?_
    refine W_nil ?_
    refine W_ret1m (H2 := H) Tryd.results37 rfl (.nil _) (by first | exact hsubI | (repeat (first | exact HSub.refl _ | refine HSub.cons zT ?_ | refine HSub.app (by repeat (first | exact TakeS.here _ | apply TakeS.next | apply TakeS.app)) ?_ | refine HSub.drop ?_ | refine HSub.dropS ?_ | exact HSub.nil _))) ?_
    obtain rfl : todo = [] := List.eq_nil_of_length_eq_zero (by omega)
    have hIl : ReachI (l.take 64) m [] := by rw [← hc]; exact hI
    exact ⟨by rw [ReachI.all hl hIl], rfl⟩
end Go.Proofs.YtcmfldfeakmdoaaDoor
namespace Go.Proofs.YtcmfldfeakmdoaaDoor
open Go Go.Sl
attribute [local irreducible] W
def withinB (x : Ins) (n k : Nat) : Bool :=
  if x.op = 64 ∨ x.op = 65 then decide (0 ≤ x.off) && decide (x.off < 8) else if x.op = 66 ∨ x.op = 67 then decide (0 ≤ x.off) && decide (x.off < 4)
  else decide (cls x.op ≠ 2) || (decide (0 ≤ toV x k) && decide (toV x k < (n : Int)))
def wrongE (x : Ins) (n k : Nat) (sleeps : Bool) : Int :=
  if (!withinB x n k) = true then 2 else if (decide (x.op = 72) && !helpB x.imm) = true then 4 else if (decide (x.op = 72) && decide (x.imm = 16) && !sleeps) = true then 17
  else if (decide ((k : Int) = (n : Int) - 1) && decide (x.op ≠ 73) && decide (x.op ≠ 32)) = true then 10 else 0
set_option maxHeartbeats 1000000 in
theorem within_q {w0 : World} {H : Heap} {x : Ins} {n k : Nat} {l : List Ins} {ad : Option Addr} {cap : Nat} (hnl : l.length = n) (hk : k < n) (hx : l[k]? = some x) (hrow : Holds w0 H ad (insRow l)) (hT : Tab w0) : PureAt Tryd.prog w0 H 53 [.slice ad n cap, .int .i64 (k : Int)] (.bool (withinB x n k)) := by
  have hx' := hx
  obtain ⟨b, o, rfl, hc⟩ := hrow.row cells_len (by decide) hx
  refine L_enter Tryd.func53 rfl Tryd.ntmps53 rfl rfl ?_
  refine W_sr ?_
  refine W_assign rfl rfl ?_
  refine W_nil ?_
  refine W_sr ?_
  refine W_move rfl rfl ?_
  refine W_move rfl rfl ?_
  refine W_indexAddr (j := k) rfl rfl ty24 ty59 rfl hk rfl rfl ?_
  refine W_loadA rfl ty59 rfl (vs := [.int .i64 x.op, .int .i64 x.dst, .int .i64 x.src, .int .i64 x.off, .int .i64 x.imm]) rfl (hc.up (by first | exact hsubI | (repeat (first | exact HSub.refl _ | refine HSub.cons zT ?_ | refine HSub.app (by repeat (first | exact TakeS.here _ | apply TakeS.next | apply TakeS.app)) ?_ | refine HSub.drop ?_ | refine HSub.dropS ?_ | exact HSub.nil _)))) rfl ?_
  refine W_alloc ty59 rfl rfl (fun b5 => ?_)
  refine W_storeA rfl rfl ty59 rfl rfl zM (Nat.le_of_ble_eq_true rfl) zF zU ?_
  refine W_nil ?_
  refine W_seq ?_
  refine W_sr ?_
  refine W_fieldAddr rfl fld59_0 (by decide) rfl ?_
  refine W_load rfl ty3 rfl (Cell.own zM rfl) rfl ?_
  refine W_nil ?_
  refine W_block ?_
  refine W_seq ?_
  refine W_sr ?_
  refine W_bin rfl rfl b_eql rfl ?_
  refine W_assign rfl rfl ?_
  refine W_nil ?_
  refine W_condPS (p := x.op = 64) rfl (by simp) (fun c0 => ?_) (fun c0 => ?_)
  · skip
    refine W_skip ?_
    refine W_condT rfl rfl ?_
    refine W_sr ?_
    refine W_fieldAddr rfl fld59_3 (by decide) rfl ?_
    refine W_load rfl ty3 rfl (Cell.own zM rfl) rfl ?_
    refine W_bin rfl rfl b_geq rfl ?_
    refine W_move rfl rfl ?_
    apply W_and
    iterate 4 exact rfl
    case h1 =>
      intro hg3
      refine W_gyes rfl rfl ?_
      refine W_fieldAddr rfl fld59_3 (by decide) rfl ?_
      refine W_gyes rfl rfl ?_
      refine W_load rfl ty3 rfl (Cell.own zM rfl) rfl ?_
      refine W_gyes rfl rfl ?_
      refine W_bin rfl rfl b_lss rfl ?_
      exact W_met rfl zR
    refine W_assign rfl rfl ?_
    refine W_nil ?_
    refine W_ret1m (H2 := H) Tryd.results53 rfl (.nil _) (by first | exact hsubI | (repeat (first | exact HSub.refl _ | refine HSub.cons zT ?_ | refine HSub.app (by repeat (first | exact TakeS.here _ | apply TakeS.next | apply TakeS.app)) ?_ | refine HSub.drop ?_ | refine HSub.dropS ?_ | exact HSub.nil _))) ?_
    exact ⟨by unfold withinB toV; repeat (first | rw [if_pos (by omega)] | rw [if_neg (by omega)]), rfl⟩
  · skip
    refine W_region ?_
    refine W_bin rfl rfl b_eql rfl ?_
    refine W_assign rfl rfl ?_
    refine W_nil ?_
    refine W_condPS (p := x.op = 65) rfl (by simp) (fun c1 => ?_) (fun c1 => ?_)
    · skip
      refine W_sr ?_
      refine W_fieldAddr rfl fld59_3 (by decide) rfl ?_
      refine W_load rfl ty3 rfl (Cell.own zM rfl) rfl ?_
      refine W_bin rfl rfl b_geq rfl ?_
      refine W_move rfl rfl ?_
      apply W_and
      iterate 4 exact rfl
      case h1 =>
        intro hg3
        refine W_gyes rfl rfl ?_
        refine W_fieldAddr rfl fld59_3 (by decide) rfl ?_
        refine W_gyes rfl rfl ?_
        refine W_load rfl ty3 rfl (Cell.own zM rfl) rfl ?_
        refine W_gyes rfl rfl ?_
        refine W_bin rfl rfl b_lss rfl ?_
        exact W_met rfl zR
      refine W_assign rfl rfl ?_
      refine W_nil ?_
      refine W_ret1m (H2 := H) Tryd.results53 rfl (.nil _) (by first | exact hsubI | (repeat (first | exact HSub.refl _ | refine HSub.cons zT ?_ | refine HSub.app (by repeat (first | exact TakeS.here _ | apply TakeS.next | apply TakeS.app)) ?_ | refine HSub.drop ?_ | refine HSub.dropS ?_ | exact HSub.nil _))) ?_
      exact ⟨by unfold withinB toV; repeat (first | rw [if_pos (by omega)] | rw [if_neg (by omega)]), rfl⟩
    · skip
      refine W_seq ?_
      refine W_sr ?_
      refine W_bin rfl rfl b_eql rfl ?_
      refine W_assign rfl rfl ?_
      refine W_nil ?_
      refine W_condPS (p := x.op = 66) rfl (by simp) (fun c2 => ?_) (fun c2 => ?_)
      · skip
        refine W_skip ?_
        refine W_condT rfl rfl ?_
        refine W_sr ?_
        refine W_fieldAddr rfl fld59_3 (by decide) rfl ?_
        refine W_load rfl ty3 rfl (Cell.own zM rfl) rfl ?_
        refine W_bin rfl rfl b_geq rfl ?_
        refine W_move rfl rfl ?_
        apply W_and
        iterate 4 exact rfl
        case h1 =>
          intro hg3
          refine W_gyes rfl rfl ?_
          refine W_fieldAddr rfl fld59_3 (by decide) rfl ?_
          refine W_gyes rfl rfl ?_
          refine W_load rfl ty3 rfl (Cell.own zM rfl) rfl ?_
          refine W_gyes rfl rfl ?_
          refine W_bin rfl rfl b_lss rfl ?_
          exact W_met rfl zR
        refine W_assign rfl rfl ?_
        refine W_nil ?_
        refine W_ret1m (H2 := H) Tryd.results53 rfl (.nil _) (by first | exact hsubI | (repeat (first | exact HSub.refl _ | refine HSub.cons zT ?_ | refine HSub.app (by repeat (first | exact TakeS.here _ | apply TakeS.next | apply TakeS.app)) ?_ | refine HSub.drop ?_ | refine HSub.dropS ?_ | exact HSub.nil _))) ?_
        exact ⟨by unfold withinB toV; repeat (first | rw [if_pos (by omega)] | rw [if_neg (by omega)]), rfl⟩
      · skip
        refine W_region ?_
        refine W_bin rfl rfl b_eql rfl ?_
        refine W_assign rfl rfl ?_
        refine W_nil ?_
        refine W_condPS (p := x.op = 67) rfl (by simp) (fun c3 => ?_) (fun c3 => ?_)
        · skip
          refine W_sr ?_
          refine W_fieldAddr rfl fld59_3 (by decide) rfl ?_
          refine W_load rfl ty3 rfl (Cell.own zM rfl) rfl ?_
          refine W_bin rfl rfl b_geq rfl ?_
          refine W_move rfl rfl ?_
          apply W_and
          iterate 4 exact rfl
          case h1 =>
            intro hg3
            refine W_gyes rfl rfl ?_
            refine W_fieldAddr rfl fld59_3 (by decide) rfl ?_
            refine W_gyes rfl rfl ?_
            refine W_load rfl ty3 rfl (Cell.own zM rfl) rfl ?_
            refine W_gyes rfl rfl ?_
            refine W_bin rfl rfl b_lss rfl ?_
            exact W_met rfl zR
          refine W_assign rfl rfl ?_
          refine W_nil ?_
          refine W_ret1m (H2 := H) Tryd.results53 rfl (.nil _) (by first | exact hsubI | (repeat (first | exact HSub.refl _ | refine HSub.cons zT ?_ | refine HSub.app (by repeat (first | exact TakeS.here _ | apply TakeS.next | apply TakeS.app)) ?_ | refine HSub.drop ?_ | refine HSub.dropS ?_ | exact HSub.nil _))) ?_
          exact ⟨by unfold withinB toV; repeat (first | rw [if_pos (by omega)] | rw [if_neg (by omega)]), rfl⟩
        · skip
          refine W_skip ?_
          refine W_blk ?_
          refine W_sr ?_
          refine W_loadB rfl ty59 rfl zM rfl zF rfl ?_
          refine W_move rfl rfl ?_
          refine W_callp (.cons rfl (.cons rfl .nil)) Tryd.call68 rfl hT (target_pure _ _) ?_
          refine W_assign rfl rfl ?_
          refine W_nil ?_
          refine W_sr ?_
          refine W_fieldAddr rfl fld59_0 (by decide) rfl ?_
          refine W_load rfl ty3 rfl (Cell.own zM rfl) rfl ?_
          refine W_callp (.cons rfl .nil) Tryd.call49 rfl hT (class_pure _) ?_
          refine W_bin rfl rfl b_neq rfl ?_
          refine W_move rfl rfl ?_
          apply W_or
          iterate 4 exact rfl
          case h1 =>
            intro hg4
            refine W_gyes rfl rfl ?_
            refine W_move rfl rfl ?_
            refine W_gyes rfl rfl ?_
            refine W_bin rfl rfl b_geq rfl ?_
            refine W_gyes rfl rfl ?_
            refine W_move rfl rfl ?_
            apply W_and
            iterate 4 exact rfl
            case h1 =>
              intro hg7
              refine W_gyes rfl rfl ?_
              refine W_move rfl rfl ?_
              refine W_gyes rfl rfl ?_
              refine W_move rfl rfl ?_
              refine W_gyes rfl rfl ?_
              refine W_len rfl ty24 rfl rfl ?_
              refine W_gyes rfl rfl ?_
              refine W_bin rfl rfl b_lss rfl ?_
              exact W_met rfl zR
            exact W_met rfl zR
          refine W_assign rfl rfl ?_
          refine W_nil ?_
          refine W_ret1m (H2 := H) Tryd.results53 rfl (.nil _) (by first | exact hsubI | (repeat (first | exact HSub.refl _ | refine HSub.cons zT ?_ | refine HSub.app (by repeat (first | exact TakeS.here _ | apply TakeS.next | apply TakeS.app)) ?_ | refine HSub.drop ?_ | refine HSub.dropS ?_ | exact HSub.nil _))) ?_
          exact ⟨by unfold withinB toV; repeat (first | rw [if_pos (by omega)] | rw [if_neg (by omega)]), rfl⟩
set_option maxHeartbeats 1000000 in
theorem wrong_q {w0 : World} {H : Heap} {x : Ins} {n k : Nat} {l : List Ins} {ad : Option Addr} {cap : Nat} {sleeps : Bool} (hnl : l.length = n) (hn : n ≤ 1000000) (hk : k < n) (hx : l[k]? = some x) (hxo : x.Ok) (hrow : Holds w0 H ad (insRow l)) (hT : Tab w0) : PureAt Tryd.prog w0 H 34 [.agg #[.slice ad n cap, .bool sleeps], .int .i64 (k : Int)] (.int .i64 (wrongE x n k sleeps)) := by
  have hx' := hx
  have hrow' := hrow
  obtain ⟨b, o, rfl, hc⟩ := hrow.row cells_len (by decide) hx
  refine L_enter Tryd.func34 rfl Tryd.ntmps34 rfl rfl ?_
  refine W_sr ?_
  refine W_box rfl rfl rfl (fun b2 => ?_)
  refine W_assign rfl rfl ?_
  refine W_nil ?_
  refine W_sr ?_
  refine W_fieldAddr rfl fld27_0 (by decide) rfl ?_
  refine W_load rfl ty24 rfl (Cell.own zM rfl) rfl ?_
  refine W_move rfl rfl ?_
  refine W_indexAddr (j := k) rfl rfl ty24 ty59 rfl hk rfl rfl ?_
  refine W_loadA rfl ty59 rfl (vs := [.int .i64 x.op, .int .i64 x.dst, .int .i64 x.src, .int .i64 x.off, .int .i64 x.imm]) rfl (hc.up (by first | exact hsubI | (repeat (first | exact HSub.refl _ | refine HSub.cons zT ?_ | refine HSub.app (by repeat (first | exact TakeS.here _ | apply TakeS.next | apply TakeS.app)) ?_ | refine HSub.drop ?_ | refine HSub.dropS ?_ | exact HSub.nil _)))) rfl ?_
  refine W_alloc ty59 rfl rfl (fun b5 => ?_)
  refine W_storeA rfl rfl ty59 rfl rfl zM (Nat.le_of_ble_eq_true rfl) zF zU ?_
  refine W_nil ?_
  refine W_sr ?_
  refine W_fieldAddr rfl fld59_4 (by decide) rfl ?_
  refine W_load rfl ty3 rfl (Cell.own zM rfl) rfl ?_
  refine W_callp (.cons rfl .nil) Tryd.call52 rfl hT (helper_pure _ hxo.imm) ?_
  refine W_move rfl rfl ?_
  refine W_extract rfl rfl rfl ?_
  refine W_extract rfl rfl rfl ?_
  refine W_extract rfl rfl rfl ?_
  refine W_assign rfl rfl ?_
  refine W_assign rfl rfl ?_
  refine W_assign rfl rfl ?_
  refine W_nil ?_
  refine W_seq ?_
  refine W_block ?_
  refine W_sr ?_
  refine W_fieldAddr rfl fld27_0 (by decide) rfl ?_
  refine W_load rfl ty24 rfl (Cell.own zM rfl) rfl ?_
  refine W_move rfl rfl ?_
  refine W_callq (.cons rfl (.cons rfl .nil)) Tryd.call53 rfl (within_q hnl hk hx' (hrow'.up (by first | exact hsubI | (repeat (first | exact HSub.refl _ | refine HSub.cons zT ?_ | refine HSub.app (by repeat (first | exact TakeS.here _ | apply TakeS.next | apply TakeS.app)) ?_ | refine HSub.drop ?_ | refine HSub.dropS ?_ | exact HSub.nil _)))) hT) ?_
  refine W_not rfl rfl ?_
  refine W_assign rfl rfl ?_
  refine W_nil ?_
  refine W_condS rfl (fun c0 => ?_) (fun c0 => ?_)
  · skip
    refine W_sr ?_
    refine W_assign rfl rfl ?_
    refine W_nil ?_
    refine W_ret1m (H2 := H) Tryd.results34 rfl (.nil _) (by first | exact hsubI | (repeat (first | exact HSub.refl _ | refine HSub.cons zT ?_ | refine HSub.app (by repeat (first | exact TakeS.here _ | apply TakeS.next | apply TakeS.app)) ?_ | refine HSub.drop ?_ | refine HSub.dropS ?_ | exact HSub.nil _))) ?_
    have c0 : (!withinB x n k) = true := c0
    exact ⟨by unfold wrongE; rw [if_pos c0], rfl⟩
  · skip
    refine W_sr ?_
    refine W_fieldAddr rfl fld59_0 (by decide) rfl ?_
    refine W_load rfl ty3 rfl (Cell.own zM rfl) rfl ?_
    refine W_bin rfl rfl b_eql rfl ?_
    refine W_move rfl rfl ?_
    apply W_and
    iterate 4 exact rfl
    case h1 =>
      intro hg3
      refine W_gyes rfl rfl ?_
      refine W_move rfl rfl ?_
      refine W_gyes rfl rfl ?_
      refine W_not rfl rfl ?_
      exact W_met rfl zR
    refine W_assign rfl rfl ?_
    refine W_nil ?_
    refine W_condS rfl (fun c1 => ?_) (fun c1 => ?_)
    · skip
      refine W_sr ?_
      refine W_assign rfl rfl ?_
      refine W_nil ?_
      refine W_ret1m (H2 := H) Tryd.results34 rfl (.nil _) (by first | exact hsubI | (repeat (first | exact HSub.refl _ | refine HSub.cons zT ?_ | refine HSub.app (by repeat (first | exact TakeS.here _ | apply TakeS.next | apply TakeS.app)) ?_ | refine HSub.drop ?_ | refine HSub.dropS ?_ | exact HSub.nil _))) ?_
      have c0 : (!withinB x n k) = false := c0
      have c1 : (decide (x.op = 72) && !helpB x.imm) = true := c1
      exact ⟨by unfold wrongE; rw [if_neg (by rw [c0]; simp), if_pos c1], rfl⟩
    · skip
      refine W_sr ?_
      refine W_fieldAddr rfl fld59_0 (by decide) rfl ?_
      refine W_load rfl ty3 rfl (Cell.own zM rfl) rfl ?_
      refine W_bin rfl rfl b_eql rfl ?_
      refine W_move rfl rfl ?_
      apply W_and
      iterate 4 exact rfl
      case h1 =>
        intro hg3
        refine W_gyes rfl rfl ?_
        refine W_fieldAddr rfl fld59_4 (by decide) rfl ?_
        refine W_gyes rfl rfl ?_
        refine W_load rfl ty3 rfl (Cell.own zM rfl) rfl ?_
        refine W_gyes rfl rfl ?_
        refine W_bin rfl rfl b_eql rfl ?_
        exact W_met rfl zR
      refine W_move rfl rfl ?_
      apply W_and
      iterate 4 exact rfl
      case h1 =>
        intro hg8
        refine W_gyes rfl rfl ?_
        refine W_fieldAddr rfl fld27_1 (by decide) rfl ?_
        refine W_gyes rfl rfl ?_
        refine W_load rfl ty4 rfl (Cell.own zM rfl) rfl ?_
        refine W_gyes rfl rfl ?_
        refine W_not rfl rfl ?_
        exact W_met rfl zR
      refine W_assign rfl rfl ?_
      refine W_nil ?_
      refine W_condS rfl (fun c2 => ?_) (fun c2 => ?_)
      · skip
        refine W_sr ?_
        refine W_assign rfl rfl ?_
        refine W_nil ?_
        refine W_ret1m (H2 := H) Tryd.results34 rfl (.nil _) (by first | exact hsubI | (repeat (first | exact HSub.refl _ | refine HSub.cons zT ?_ | refine HSub.app (by repeat (first | exact TakeS.here _ | apply TakeS.next | apply TakeS.app)) ?_ | refine HSub.drop ?_ | refine HSub.dropS ?_ | exact HSub.nil _))) ?_
        have c0 : (!withinB x n k) = false := c0
        have c1 : (decide (x.op = 72) && !helpB x.imm) = false := c1
        have c2 : (decide (x.op = 72) && decide (x.imm = 16) && !sleeps) = true := c2
        exact ⟨by unfold wrongE; rw [if_neg (by rw [c0]; simp), if_neg (by rw [c1]; simp), if_pos c2], rfl⟩
      · skip
        refine W_sr ?_
        refine W_move rfl rfl ?_
        refine W_fieldAddr rfl fld27_0 (by decide) rfl ?_
        refine W_load rfl ty24 rfl (Cell.own zM rfl) rfl ?_
        refine W_len rfl ty24 rfl rfl ?_
        refine W_bin rfl rfl (b_sub (m := (n : Int) - 1) (i64w (by omega))) rfl ?_
        refine W_bin rfl rfl b_eql rfl ?_
        refine W_move rfl rfl ?_
        apply W_and
        iterate 4 exact rfl
        case h1 =>
          intro hg6
          refine W_gyes rfl rfl ?_
          refine W_fieldAddr rfl fld59_0 (by decide) rfl ?_
          refine W_gyes rfl rfl ?_
          refine W_load rfl ty3 rfl (Cell.own zM rfl) rfl ?_
          refine W_gyes rfl rfl ?_
          refine W_bin rfl rfl b_neq rfl ?_
          exact W_met rfl zR
        refine W_move rfl rfl ?_
        apply W_and
        iterate 4 exact rfl
        case h1 =>
          intro hg11
          refine W_gyes rfl rfl ?_
          refine W_fieldAddr rfl fld59_0 (by decide) rfl ?_
          refine W_gyes rfl rfl ?_
          refine W_load rfl ty3 rfl (Cell.own zM rfl) rfl ?_
          refine W_gyes rfl rfl ?_
          refine W_bin rfl rfl b_neq rfl ?_
          exact W_met rfl zR
        refine W_assign rfl rfl ?_
        refine W_nil ?_
        refine W_condS rfl (fun c3 => ?_) (fun c3 => ?_)
        · skip
          refine W_sr ?_
          refine W_assign rfl rfl ?_
          refine W_nil ?_
          refine W_ret1m (H2 := H) Tryd.results34 rfl (.nil _) (by first | exact hsubI | (repeat (first | exact HSub.refl _ | refine HSub.cons zT ?_ | refine HSub.app (by repeat (first | exact TakeS.here _ | apply TakeS.next | apply TakeS.app)) ?_ | refine HSub.drop ?_ | refine HSub.dropS ?_ | exact HSub.nil _))) ?_
          have c0 : (!withinB x n k) = false := c0
          have c1 : (decide (x.op = 72) && !helpB x.imm) = false := c1
          have c2 : (decide (x.op = 72) && decide (x.imm = 16) && !sleeps) = false := c2
          have c3 : (decide ((k : Int) = (n : Int) - 1) && decide (x.op ≠ 73) && decide (x.op ≠ 32)) = true := c3
          exact ⟨by unfold wrongE; rw [if_neg (by rw [c0]; simp), if_neg (by rw [c1]; simp), if_neg (by rw [c2]; simp), if_pos c3], rfl⟩
        · skip
          refine W_skip ?_
          refine W_blk ?_
          refine W_sr ?_
          refine W_assign rfl rfl ?_
          refine W_nil ?_
          refine W_ret1m (H2 := H) Tryd.results34 rfl (.nil _) (by first | exact hsubI | (repeat (first | exact HSub.refl _ | refine HSub.cons zT ?_ | refine HSub.app (by repeat (first | exact TakeS.here _ | apply TakeS.next | apply TakeS.app)) ?_ | refine HSub.drop ?_ | refine HSub.dropS ?_ | exact HSub.nil _))) ?_
          have c0 : (!withinB x n k) = false := c0
          have c1 : (decide (x.op = 72) && !helpB x.imm) = false := c1
          have c2 : (decide (x.op = 72) && decide (x.imm = 16) && !sleeps) = false := c2
          have c3 : (decide ((k : Int) = (n : Int) - 1) && decide (x.op ≠ 73) && decide (x.op ≠ 32)) = false := c3
          exact ⟨by unfold wrongE; rw [if_neg (by rw [c0]; simp), if_neg (by rw [c1]; simp), if_neg (by rw [c2]; simp), if_neg (by rw [c3]; simp)], rfl⟩
end Go.Proofs.YtcmfldfeakmdoaaDoor
