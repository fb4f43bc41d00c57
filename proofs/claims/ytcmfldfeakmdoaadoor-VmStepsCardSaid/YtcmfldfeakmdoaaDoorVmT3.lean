/-
  Own work: contracts of functions that the statement reaches, and plain facts on what they compute; each theorem says its conditions.
-/
import Derived.Test.YtcmfldfeakmdoaaDoorVmT2
import Derived.Test.YtcmfldfeakmdoaaDoorVmS2
import Derived.Test.YtcmfldfeakmdoaaDoorVmT1
import Derived.Test.YtcmfldfeakmdoaaDoorVmA
set_option linter.all false
set_option linter.unusedSimpArgs false
set_option linter.unusedVariables false
namespace Go.Proofs.YtcmfldfeakmdoaaDoor
open Go Go.Sl
attribute [local irreducible] W
set_option maxHeartbeats 1000000 in
theorem rinner_L {w0 : World} {H : Heap} {br bf n cap : Nat} {ad : Option Addr} {r : Vs}   : LCalls Tryd.prog w0 43 #[.pointer (some ⟨br, 0, none⟩)] ((br, .cells 86 42 (runC bf ad n cap r)) :: H) (fun v H' => v = .pointer (some ⟨bf, 0, none⟩) ∧ H' = (br, .cells 86 42 (runC bf ad n cap r)) :: H) := by
  refine L_enter (l := [.pointer (some ⟨br, 0, none⟩)]) Tryd.func43 rfl Tryd.ntmps43 rfl rfl ?_
  refine W_sr ?_
  refine W_assign rfl rfl ?_
  refine W_nil ?_
  refine W_seq ?_
  refine W_sr ?_
  refine W_move rfl rfl ?_
  refine W_x (X_ptrNil rfl rfl ty29) (fun _ h => by cases h) rfl ?_
  refine W_nil ?_
  refine W_condF rfl rfl ?_
  refine W_skip ?_
  refine W_sr ?_
  refine W_move rfl rfl ?_
  refine W_nilCheck rfl rfl ?_
  refine W_fieldAddr rfl fld86_0 (by decide) rfl ?_
  refine W_load (v := .pointer (some ⟨bf, 0, none⟩)) rfl ty81 rfl (Cell.own (b := br) zM rfl) rfl ?_
  refine W_assign rfl rfl ?_
  refine W_nil ?_
  refine W_ret1m (H2 := (br, .cells 86 42 (runC bf ad n cap r)) :: H) Tryd.results43 rfl (.nil _) zH ?_
  exact ⟨rfl, rfl⟩
set_option maxHeartbeats 1000000 in
theorem RReg_L {w0 : World} {H : Heap} {br bf n cap : Nat} {ad : Option Addr} {r : Vs} {at_ : Int} (hV : r.V.length = 18)  : LCalls Tryd.prog w0 27 #[.pointer (some ⟨br, 0, none⟩), .int .i64 at_] ((br, .cells 86 42 (runC bf ad n cap r)) :: (bf, .cells 101 90 (vaRow (r).V)) :: H) (fun v H' => v = .tuple #[.agg (vaC (rdV r.V false at_).1).toArray, .int .i64 (rdV r.V false at_).2] ∧ H' = (br, .cells 86 42 (runC bf ad n cap r)) :: (bf, .cells 101 90 (vaRow (r).V)) :: H) := by
  refine L_enter (l := [.pointer (some ⟨br, 0, none⟩), .int .i64 at_]) Tryd.func27 rfl Tryd.ntmps27 rfl rfl ?_
  refine W_sr ?_
  refine W_alloc (l := vaC zeroV) ty41 rfl rfl (fun b4 => ?_)
  refine W_assign rfl rfl ?_
  refine W_nil ?_
  refine W_sr ?_
  refine W_move rfl rfl ?_
  refine W_call (.cons rfl .nil) Tryd.call43 rfl ((rinner_L (r := r) (H := (b4, .cells 41 5 (vaC zeroV)) :: (bf, .cells 101 90 (vaRow r.V)) :: H)).hsub zH) ?_
  rintro v H' ⟨rfl, rfl⟩
  refine W_move rfl rfl ?_
  refine W_call (.cons rfl (.cons rfl .nil)) Tryd.call46 rfl ((Reg_L (H := (b4, .cells 41 5 (vaC zeroV)) :: (br, .cells 86 42 (runC bf ad n cap r)) :: H) (V := r.V) (at_ := at_) hV).hsub zH) ?_
  rintro v H' ⟨rfl, rfl⟩
  refine W_extract rfl rfl rfl ?_
  refine W_extract rfl rfl rfl ?_
  refine W_storeA rfl rfl ty41 rfl rfl (b := b4) zM (by decide) rfl zU ?_
  refine W_assign rfl rfl ?_
  refine W_nil ?_
  refine W_ret2G (H2 := (br, .cells 86 42 (runC bf ad n cap r)) :: (bf, .cells 101 90 (vaRow (r).V)) :: H) Tryd.results27 (.nil _) (.own rfl ty41 rfl zM rfl) (.tmp rfl) zH ?_
  exact ⟨rfl, rfl⟩
theorem jumpF_V (r : Vs) (x : Ins) : (jumpF r x).V = r.V := by
  unfold jumpF nextF endF; repeat' split
  all_goals rfl
set_option maxHeartbeats 1000000 in
theorem rjump_L {w0 : World} {H : Heap} {br bf n cap : Nat} {ad : Option Addr} {r : Vs} {x : Ins} (hV : r.V.length = 18) (hop : -9223372036854775808 ≤ x.op ∧ x.op ≤ 9223372036854775807) (hW : ∀ v ∈ r.V, 0 ≤ v.n) (hat : 0 ≤ r.at_ ∧ r.at_ ≤ 1000000) (hto : -1 ≤ r.at_ + x.off ∧ r.at_ + x.off ≤ 1000000) (hT : Tab w0) : LCalls Tryd.prog w0 61 #[.pointer (some ⟨br, 0, none⟩), .agg #[.int .i64 x.op, .int .i64 x.dst, .int .i64 x.src, .int .i64 x.off, .int .i64 x.imm]] ((br, .cells 86 42 (runC bf ad n cap r)) :: (bf, .cells 101 90 (vaRow (r).V)) :: H) (fun _ H' => H' = (br, .cells 86 42 (runC bf ad n cap (jumpF r x))) :: (bf, .cells 101 90 (vaRow r.V)) :: H) := by
  refine L_enter (l := [.pointer (some ⟨br, 0, none⟩), .agg #[.int .i64 x.op, .int .i64 x.dst, .int .i64 x.src, .int .i64 x.off, .int .i64 x.imm]]) Tryd.func61 rfl Tryd.ntmps61 rfl rfl ?_
  refine W_sr ?_
  refine W_box rfl rfl rfl (fun b3 => ?_)
  refine W_nil ?_
  refine W_seq ?_
  refine W_anyC ((b3, .cells 59 5 [.int .i64 x.op, .int .i64 x.dst, .int .i64 x.src, .int .i64 x.off, .int .i64 x.imm]) :: (br, .cells 86 42 (runC bf ad n cap r)) :: (bf, .cells 101 90 (vaRow (r).V)) :: H) (by kernel_rfl) ?_
  refine WC_take 0 (l' := #[true, false, false, false, false, false, false, false, false, false, false]) rfl (by decide +kernel) (by decide +kernel) (by decide +kernel) rfl (by decide +kernel) (X_move rfl) rfl ?_
  refine WC_take 1 (l' := #[true, true, false, false, false, false, false, false, false, false, false]) rfl (by decide +kernel) (by decide +kernel) (by decide +kernel) rfl (by decide +kernel) (X_nilCheck rfl) rfl ?_
  refine WC_take 2 (l' := #[true, true, true, false, false, false, false, false, false, false, false]) rfl (by decide +kernel) (by decide +kernel) (by decide +kernel) rfl (by decide +kernel) (X_fieldAddr rfl fld86_0 (by decide)) rfl ?_
  refine WC_take 3 (l' := #[true, true, true, true, false, false, false, false, false, false, false]) rfl (by decide +kernel) (by decide +kernel) (by decide +kernel) rfl (by decide +kernel) (X_load (v := .pointer (some ⟨bf, 0, none⟩)) rfl ty81 rfl (Cell.own (b := br) zM rfl)) rfl ?_
  refine WC_take 4 (l' := #[true, true, true, true, true, false, false, false, false, false, false]) rfl (by decide +kernel) (by decide +kernel) (by decide +kernel) rfl (by decide +kernel) (X_loadB (vs := [.int .i64 x.op, .int .i64 x.dst, .int .i64 x.src, .int .i64 x.off, .int .i64 x.imm]) rfl ty59 rfl (b := b3) zM rfl rfl) rfl ?_
  refine WC_one 5 (l' := #[true, true, true, true, true, true, false, false, false, false, false]) zH (by decide +kernel) rfl (by decide +kernel) ?_
  refine W_call (.cons rfl (.cons rfl .nil)) Tryd.call71 rfl ((Jumps_L (H := (b3, .cells 59 5 [.int .i64 x.op, .int .i64 x.dst, .int .i64 x.src, .int .i64 x.off, .int .i64 x.imm]) :: (br, .cells 86 42 (runC bf ad n cap r)) :: H) (V := r.V) hV hop hW hT).hsub zH) ?_
  rintro v H' ⟨rfl, rfl⟩
  refine W_nil ?_
  refine WC_goal ?_
  refine WC_take 6 (l' := #[true, true, true, true, true, true, true, false, false, false, false]) rfl (by decide +kernel) (by decide +kernel) (by decide +kernel) rfl (by decide +kernel) (X_move rfl) rfl ?_
  refine WC_take 7 (l' := #[true, true, true, true, true, true, true, true, false, false, false]) rfl (by decide +kernel) (by decide +kernel) (by decide +kernel) rfl (by decide +kernel) (X_extract rfl rfl) rfl ?_
  refine WC_take 8 (l' := #[true, true, true, true, true, true, true, true, true, false, false]) rfl (by decide +kernel) (by decide +kernel) (by decide +kernel) rfl (by decide +kernel) (X_extract rfl rfl) rfl ?_
  refine WC_take 9 (l' := #[true, true, true, true, true, true, true, true, true, true, false]) rfl (by decide +kernel) (by decide +kernel) (by decide +kernel) rfl (by decide +kernel) (X_assign rfl) rfl ?_
  refine WC_take 10 (l' := #[true, true, true, true, true, true, true, true, true, true, true]) rfl (by decide +kernel) (by decide +kernel) (by decide +kernel) rfl (by decide +kernel) (X_assign rfl) rfl ?_
  refine WC_done zH (by decide +kernel) ?_
  refine W_seq ?_
  refine W_sr ?_
  refine W_move rfl rfl ?_
  refine W_nil ?_
  refine W_condJ (p := (jumpV r.V x).1 = true) [(0, .pointer (some ⟨br, 0, none⟩)), (5, .int .i64 (jumpV r.V x).2)] ((br, .cells 86 42 (runC bf ad n cap (if (jumpV r.V x).1 then { r with at_ := r.at_ + x.off } else r))) :: (bf, .cells 101 90 (vaRow r.V)) :: H) rfl (by simp) (fun c0 => ?_) (fun c0 => ?_) ?_
  · skip
    refine W_anyS ((b3, .cells 59 5 [.int .i64 x.op, .int .i64 x.dst, .int .i64 x.src, .int .i64 x.off, .int .i64 x.imm]) :: (br, .cells 86 42 (runC bf ad n cap r)) :: (bf, .cells 101 90 (vaRow (r).V)) :: H) 9 (by kernel_rfl) ?_
    refine WS_take 0 (l' := #[true, false, false, false, false, false, false, false, false, false]) rfl rfl (by decide +kernel) (by decide +kernel) (by decide +kernel) (by decide +kernel) rfl (by decide +kernel) (X_move rfl) rfl ?_
    refine WS_take 1 (l' := #[true, true, false, false, false, false, false, false, false, false]) rfl rfl (by decide +kernel) (by decide +kernel) (by decide +kernel) (by decide +kernel) rfl (by decide +kernel) (X_nilCheck rfl) rfl ?_
    refine WS_take 2 (l' := #[true, true, true, false, false, false, false, false, false, false]) rfl rfl (by decide +kernel) (by decide +kernel) (by decide +kernel) (by decide +kernel) rfl (by decide +kernel) (X_fieldAddr rfl fld86_2 (by decide)) rfl ?_
    refine WS_take 3 (l' := #[true, true, true, true, false, false, false, false, false, false]) rfl rfl (by decide +kernel) (by decide +kernel) (by decide +kernel) (by decide +kernel) rfl (by decide +kernel) (X_load (v := .int .i64 r.at_) rfl ty3 rfl (Cell.own (b := br) zM rfl)) rfl ?_
    refine WS_take 4 (l' := #[true, true, true, true, true, false, false, false, false, false]) rfl rfl (by decide +kernel) (by decide +kernel) (by decide +kernel) (by decide +kernel) rfl (by decide +kernel) (X_fieldAddr rfl fld59_3 (by decide)) rfl ?_
    refine WS_take 5 (l' := #[true, true, true, true, true, true, false, false, false, false]) rfl rfl (by decide +kernel) (by decide +kernel) (by decide +kernel) (by decide +kernel) rfl (by decide +kernel) (X_load (v := .int .i64 x.off) rfl ty3 rfl (Cell.own (b := b3) zM rfl)) rfl ?_
    refine WS_take 6 (l' := #[true, true, true, true, true, true, true, false, false, false]) rfl rfl (by decide +kernel) (by decide +kernel) (by decide +kernel) (by decide +kernel) rfl (by decide +kernel) (X_bin rfl rfl (b_add (m := r.at_ + x.off) (by rw [i64w (by omega)]))) rfl ?_
    refine WS_takeP 7 (l' := #[true, true, true, true, true, true, true, true, false, false]) rfl rfl (by decide +kernel) (by decide +kernel) (by decide +kernel) rfl (by decide +kernel) (X_nilCheck rfl) rfl ?_
    refine WS_take 8 (l' := #[true, true, true, true, true, true, true, true, true, false]) rfl rfl (by decide +kernel) (by decide +kernel) (by decide +kernel) (by decide +kernel) rfl (by decide +kernel) (X_fieldAddr rfl fld86_2 (by decide)) rfl ?_
    refine WS_last (l' := #[true, true, true, true, true, true, true, true, true, true]) zH (by decide +kernel) rfl (by decide +kernel) ?_
    refine W_store (l' := runC bf ad n cap (if (jumpV r.V x).1 then { r with at_ := r.at_ + x.off } else r)) rfl rfl ty3 rfl rfl (b := br) zM rfl (by rw [if_pos c0]; rfl) zU ?_
    refine W_nil ?_
    refine WC_goal ?_
    refine WC_done (.nil _) (by decide +kernel) ?_
    refine W_joined (sub_cons rfl (sub_cons rfl (sub_nil _))) zH
  · skip
    refine W_skip ?_
    refine W_joined (sub_cons rfl (sub_cons rfl (sub_nil _))) (by rw [if_neg c0]; exact hsubI)
  skip
  refine W_region ?_
  refine W_move rfl rfl ?_
  refine W_move rfl rfl ?_
  refine W_call (.cons rfl (.cons rfl .nil)) Tryd.call40 rfl ((rnext_L (H := (bf, .cells 101 90 (vaRow r.V)) :: H) (r := (if (jumpV r.V x).1 then { r with at_ := r.at_ + x.off } else r)) (e := (jumpV r.V x).2) (by split <;> (try dsimp only) <;> omega)).hsub zH) ?_
  rintro v H' rfl
  refine W_nil ?_
  refine W_end0m (H2 := (br, .cells 86 42 (runC bf ad n cap (jumpF r x))) :: (bf, .cells 101 90 (vaRow r.V)) :: H) Tryd.results61 (.nil _) zH ?_
  rfl
set_option maxHeartbeats 1000000 in
theorem rvalue_L {w0 : World} {H : Heap} {br bf n cap : Nat} {ad : Option Addr} {r : Vs} {x : Ins} (hV : r.V.length = 18)  : LCalls Tryd.prog w0 60 #[.pointer (some ⟨br, 0, none⟩), .agg #[.int .i64 x.op, .int .i64 x.dst, .int .i64 x.src, .int .i64 x.off, .int .i64 x.imm]] ((br, .cells 86 42 (runC bf ad n cap r)) :: (bf, .cells 101 90 (vaRow (r).V)) :: H) (fun _ H' => H' = (br, .cells 86 42 (runC bf ad n cap (valueF r x))) :: (bf, .cells 101 90 (vaRow r.V)) :: H) := by
  refine L_enter (l := [.pointer (some ⟨br, 0, none⟩), .agg #[.int .i64 x.op, .int .i64 x.dst, .int .i64 x.src, .int .i64 x.off, .int .i64 x.imm]]) Tryd.func60 rfl Tryd.ntmps60 rfl rfl ?_
  refine W_sr ?_
  refine W_box rfl rfl rfl (fun b3 => ?_)
  refine W_nil ?_
  refine W_sr ?_
  refine W_move rfl rfl ?_
  refine W_fieldAddr rfl fld59_1 (by decide) rfl ?_
  refine W_load rfl ty3 rfl (Cell.own zM rfl) rfl ?_
  refine W_call (.cons rfl (.cons rfl .nil)) Tryd.call27 rfl ((RReg_L (H := (b3, .cells 59 5 [.int .i64 x.op, .int .i64 x.dst, .int .i64 x.src, .int .i64 x.off, .int .i64 x.imm]) :: H) (r := r) (at_ := x.dst) hV).hsub zH) ?_
  rintro v H' ⟨rfl, rfl⟩
  refine W_move rfl rfl ?_
  refine W_extract rfl rfl rfl ?_
  refine W_extract rfl rfl rfl ?_
  refine W_alloc (l := vaC zeroV) ty41 rfl rfl (fun b4 => ?_)
  refine W_storeA rfl rfl ty41 rfl rfl (b := b4) zM (by decide) rfl zU ?_
  refine W_assign rfl rfl ?_
  refine W_nil ?_
  refine W_sr ?_
  refine W_move rfl rfl ?_
  refine W_fieldAddr rfl fld59_2 (by decide) rfl ?_
  refine W_load rfl ty3 rfl (Cell.own zM rfl) rfl ?_
  refine W_call (.cons rfl (.cons rfl .nil)) Tryd.call27 rfl ((RReg_L (H := (b4, .cells 41 5 (vaC (rdV r.V false x.dst).1)) :: (b3, .cells 59 5 [.int .i64 x.op, .int .i64 x.dst, .int .i64 x.src, .int .i64 x.off, .int .i64 x.imm]) :: H) (r := r) (at_ := x.src) hV).hsub zH) ?_
  rintro v H' ⟨rfl, rfl⟩
  refine W_move rfl rfl ?_
  refine W_extract rfl rfl rfl ?_
  refine W_extract rfl rfl rfl ?_
  refine W_alloc (l := vaC zeroV) ty41 rfl rfl (fun b6 => ?_)
  refine W_storeA rfl rfl ty41 rfl rfl (b := b6) zM (by decide) rfl zU ?_
  refine W_assign rfl rfl ?_
  refine W_nil ?_
  refine W_block ?_
  refine W_sr ?_
  refine W_fieldAddr rfl fld59_0 (by decide) rfl ?_
  refine W_load rfl ty3 rfl (Cell.own zM rfl) rfl ?_
  refine W_bin rfl rfl b_eql rfl ?_
  refine W_move rfl rfl ?_
  apply W_and
  iterate 4 exact rfl
  case h1 =>
    intro hg3
    refine W_gyes rfl rfl ?_
    refine W_fieldAddr rfl fld41_0 (by decide) rfl ?_
    refine W_gyes rfl rfl ?_
    refine W_load rfl ty4 rfl (Cell.own zM rfl) rfl ?_
    exact W_met rfl zR
  refine W_assign rfl rfl ?_
  refine W_nil ?_
  refine W_condPS (p := x.op = 66 ∧ (rdV r.V false x.src).1.ref = true) rfl (by simp) (fun c0 => ?_) (fun c0 => ?_)
  · skip
    refine W_region ?_
    refine W_move rfl rfl ?_
    refine W_loadB (vs := vaC (rdV r.V false x.src).1) rfl ty41 rfl (b := b6) zM rfl rfl rfl ?_
    refine W_fieldAddr rfl fld59_3 (by decide) rfl ?_
    refine W_load rfl ty3 rfl (Cell.own zM rfl) rfl ?_
    refine W_build (l := trC { trZ with kind := 3, ref := (rdV r.V false x.src).1, off := x.off }) ty44 pl44 (.cons rfl rfl rfl rfl rfl (.cons rfl rfl rfl rfl rfl (.cons rfl rfl rfl rfl rfl .nil))) rfl rfl rfl ?_
    refine W_call (.cons rfl (.cons rfl .nil)) Tryd.call58 rfl ((rask_L (H := (bf, .cells 101 90 (vaRow r.V)) :: H) (r := r) (t := { trZ with kind := 3, ref := (rdV r.V false x.src).1, off := x.off })).hsub zH) ?_
    rintro v H' rfl
    refine W_nil ?_
    refine W_blk ?_
    refine W_end0m (H2 := (br, .cells 86 42 (runC bf ad n cap (askF r { trZ with kind := 3, ref := (rdV r.V false x.src).1, off := x.off }))) :: (bf, .cells 101 90 (vaRow r.V)) :: H) Tryd.results60 (.nil _) zH ?_
    unfold valueF
    rw [if_pos c0]
  · skip
    refine W_sr ?_
    refine W_fieldAddr rfl fld59_0 (by decide) rfl ?_
    refine W_load rfl ty3 rfl (Cell.own zM rfl) rfl ?_
    refine W_bin rfl rfl b_eql rfl ?_
    refine W_move rfl rfl ?_
    apply W_and
    iterate 4 exact rfl
    case h1 =>
      intro hg3
      refine W_gyes rfl rfl ?_
      refine W_fieldAddr rfl fld41_0 (by decide) rfl ?_
      refine W_gyes rfl rfl ?_
      refine W_load rfl ty4 rfl (Cell.own zM rfl) rfl ?_
      exact W_met rfl zR
    refine W_move rfl rfl ?_
    apply W_and
    iterate 4 exact rfl
    case h1 =>
      intro hg7
      refine W_gyes rfl rfl ?_
      refine W_fieldAddr rfl fld41_0 (by decide) rfl ?_
      refine W_gyes rfl rfl ?_
      refine W_load rfl ty4 rfl (Cell.own zM rfl) rfl ?_
      refine W_gyes rfl rfl ?_
      refine W_not rfl rfl ?_
      exact W_met rfl zR
    refine W_assign rfl rfl ?_
    refine W_nil ?_
    refine W_condPS (p := (x.op = 67 ∧ (rdV r.V false x.dst).1.ref = true) ∧ (rdV r.V false x.src).1.ref = false) rfl (by simp) (fun c1 => ?_) (fun c1 => ?_)
    · skip
      refine W_region ?_
      refine W_move rfl rfl ?_
      refine W_loadB (vs := vaC (rdV r.V false x.dst).1) rfl ty41 rfl (b := b4) zM rfl rfl rfl ?_
      refine W_fieldAddr rfl fld59_3 (by decide) rfl ?_
      refine W_load rfl ty3 rfl (Cell.own zM rfl) rfl ?_
      refine W_fieldAddr rfl fld41_3 (by decide) rfl ?_
      refine W_load rfl ty28 rfl (Cell.own zM rfl) rfl ?_
      refine W_build (l := trC { trZ with kind := 4, ref := (rdV r.V false x.dst).1, off := x.off, n := (rdV r.V false x.src).1.n }) ty44 pl44 (.cons rfl rfl rfl rfl rfl (.cons rfl rfl rfl rfl rfl (.cons rfl rfl rfl rfl rfl (.cons rfl rfl rfl rfl rfl .nil)))) rfl rfl rfl ?_
      refine W_call (.cons rfl (.cons rfl .nil)) Tryd.call58 rfl ((rask_L (H := (bf, .cells 101 90 (vaRow r.V)) :: H) (r := r) (t := { trZ with kind := 4, ref := (rdV r.V false x.dst).1, off := x.off, n := (rdV r.V false x.src).1.n })).hsub zH) ?_
      rintro v H' rfl
      refine W_nil ?_
      refine W_blk ?_
      refine W_end0m (H2 := (br, .cells 86 42 (runC bf ad n cap (askF r { trZ with kind := 4, ref := (rdV r.V false x.dst).1, off := x.off, n := (rdV r.V false x.src).1.n }))) :: (bf, .cells 101 90 (vaRow r.V)) :: H) Tryd.results60 (.nil _) zH ?_
      unfold valueF
      rw [if_neg c0, if_pos c1]
    · skip
      refine W_region ?_
      refine W_move rfl rfl ?_
      refine W_call (.cons rfl (.cons rfl .nil)) Tryd.call41 rfl ((rend_L (H := (bf, .cells 101 90 (vaRow r.V)) :: H) (r := r) (e := 17)).hsub zH) ?_
      rintro v H' rfl
      refine W_nil ?_
      refine W_blk ?_
      refine W_end0m (H2 := (br, .cells 86 42 (runC bf ad n cap (endF r 17))) :: (bf, .cells 101 90 (vaRow r.V)) :: H) Tryd.results60 (.nil _) zH ?_
      unfold valueF
      rw [if_neg c0, if_neg c1]
end Go.Proofs.YtcmfldfeakmdoaaDoor
namespace Go.Proofs.YtcmfldfeakmdoaaDoor
open Go Go.Sl
attribute [local irreducible] W
theorem u64w {m : Int} (h : 0 ≤ m ∧ m ≤ 18446744073709551615) : IntKind.u64.wrap m = m := IntWalk.u64_in m h
theorem bitsOf_nat (op : BinOp) (x y : Nat) (z : Nat) (hz : z < 2 ^ 64) (h : (match op with
        | Go.BinOp.and => BitVec.ofNat 64 x &&& BitVec.ofNat 64 y
        | Go.BinOp.or => BitVec.ofNat 64 x ||| BitVec.ofNat 64 y
        | Go.BinOp.xor => BitVec.ofNat 64 x ^^^ BitVec.ofNat 64 y
        | _ => BitVec.ofNat 64 x &&& ~~~(BitVec.ofNat 64 y)).toNat = z) : bitsOf op .u64 x y = (z : Int) := by
  have e : bitsOf op .u64 x y = IntKind.u64.wrap (z : Int) := by
    unfold bitsOf
    rw [show IntKind.u64.bits = 64 from rfl]
    rw [BitVec.ofInt_natCast, BitVec.ofInt_natCast]
    exact congrArg (fun n : Nat => IntKind.u64.wrap (n : Int)) h
  rw [e]
  exact u64w ⟨by omega, by omega⟩
theorem iw (m : Int) : IntKind.i64.wrap m = (m + 9223372036854775808) % 18446744073709551616 - 9223372036854775808 := by
  simp [IntKind.wrap, IntKind.signed, IntKind.bits]
  have := Int.emod_lt_of_pos m (show (0:Int) < 18446744073709551616 by decide)
  have := Int.emod_nonneg m (show (18446744073709551616 : Int) ≠ 0 by decide)
  omega
end Go.Proofs.YtcmfldfeakmdoaaDoor
namespace Go.Proofs.YtcmfldfeakmdoaaDoor
open Go Go.Sl
attribute [local irreducible] W
def bitN (i : Int) : Nat := if 0 ≤ i ∧ i < 64 then 2 ^ i.toNat else 0
def goodB (i : Int) : Bool := decide (0 ≤ i) && decide (i < 64)
theorem pow64 {i : Nat} (h : i < 64) : 2 ^ i ≤ 9223372036854775808 := by
  have : 2 ^ i ≤ 2 ^ 63 := Nat.pow_le_pow_right (by omega) (by omega)
  simpa using this
theorem shl_one {i : Int} (hi : 0 ≤ i ∧ i < 64) : IntKind.u64.wrap (1 * 2 ^ (min i.toNat IntKind.u64.bits)) = ((2 ^ i.toNat : Nat) : Int) := by
  have h := pow64 (i := i.toNat) (by omega)
  have e : min i.toNat IntKind.u64.bits = i.toNat := by
    have : IntKind.u64.bits = 64 := rfl
    omega
  have e2 : (2 : Int) ^ i.toNat = ((2 ^ i.toNat : Nat) : Int) := (Int.natCast_pow 2 _).symm
  rw [Int.one_mul, e, e2]
  generalize 2 ^ i.toNat = k at *
  exact u64w ⟨by omega, by omega⟩
theorem bitN_lt (i : Int) : bitN i < 18446744073709551616 := by
  unfold bitN; split
  · have := pow64 (i := i.toNat) (by omega); omega
  · omega
def MaskOk (m : Nat) : Prop := m < 18446744073709551616
def hasN (m : Nat) (i : Int) : Bool := goodB i && m.testBit i.toNat
theorem and_pow_ne (m k : Nat) : (m &&& 2 ^ k ≠ 0) ↔ m.testBit k = true := by
  constructor
  · intro h
    obtain ⟨i, hi⟩ := Nat.exists_testBit_of_ne_zero h
    rw [Nat.testBit_and, Nat.testBit_two_pow] at hi
    simp at hi
    rw [hi.2]; exact hi.1
  · intro h e
    have : (m &&& 2 ^ k).testBit k = true := by rw [Nat.testBit_and, Nat.testBit_two_pow, h]; simp
    rw [e] at this
    simp at this
theorem and_has {m : Nat} (hm : MaskOk m) (i : Int) : decide (bitsOf .and .u64 (m : Int) (bitN i : Int) ≠ 0) = hasN m i := by
  have e : bitsOf .and .u64 (m : Int) (bitN i : Int) = ((m &&& bitN i : Nat) : Int) := by
    refine bitsOf_nat .and m (bitN i) _ (Nat.lt_of_le_of_lt Nat.and_le_left hm) ?_
    simp only [BitVec.toNat_and, BitVec.toNat_ofNat]
    rw [Nat.mod_eq_of_lt (show m < 2 ^ 64 from hm), Nat.mod_eq_of_lt (show bitN i < 2 ^ 64 from bitN_lt i)]
  rw [e]
  unfold hasN goodB bitN
  by_cases h : 0 ≤ i ∧ i < 64
  · rw [if_pos h, decide_eq_true h.1, decide_eq_true h.2]
    have h2 := and_pow_ne m i.toNat
    cases hb : m.testBit i.toNat
    · rw [hb] at h2; simp at h2; simp [h2]
    · rw [hb] at h2; simp at h2; simp; omega
  · rw [if_neg h]
    have : (decide (0 ≤ i) && decide (i < 64)) = false := by simpa using h
    rw [this]
    simp
theorem or_mask {m : Nat} (hm : MaskOk m) (i : Int) : bitsOf .or .u64 (m : Int) (bitN i : Int) = ((m ||| bitN i : Nat) : Int) := by
  refine bitsOf_nat .or m (bitN i) _ (Nat.or_lt_two_pow (n := 64) hm (bitN_lt i)) ?_
  simp only [BitVec.toNat_or, BitVec.toNat_ofNat]
  rw [Nat.mod_eq_of_lt (show m < 2 ^ 64 from hm), Nat.mod_eq_of_lt (show bitN i < 2 ^ 64 from bitN_lt i)]
theorem or_ok {m : Nat} (hm : MaskOk m) (i : Int) : MaskOk (m ||| bitN i) := Nat.or_lt_two_pow (n := 64) hm (bitN_lt i)
def withL (m : Nat) (l : List Int) : Nat := l.foldl (fun m i => m ||| bitN i) m
theorem withL_ok : ∀ (l : List Int) {m : Nat}, MaskOk m → MaskOk (withL m l)
  | [], _, h => h
  | i :: l, _, h => withL_ok l (or_ok h i)
def fullN (n : Int) : Nat := if n < 1 then 0 else if 64 ≤ n then 18446744073709551615 else 2 ^ n.toNat - 1
def i64s (l : List Int) : List Value := l.map fun x => .int .i64 x
theorem i64s_at {l : List Int} {i : Nat} {x : Int} (h : l[i]? = some x) : (i64s l)[i]? = some (.int .i64 x) := by simp [i64s, h]
theorem takeAt {α : Type} {l : List α} {i : Nat} {x : α} (h : l[i]? = some x) : l.take (i + 1) = l.take i ++ [x] := by
  rw [List.take_add_one, h]; rfl
theorem foldl_at {β : Type} {f : β → Int → β} {b : β} {l : List Int} {i : Nat} {x : Int} (h : l[i]? = some x) : (l.take (i + 1)).foldl f b = f ((l.take i).foldl f b) x := by
  rw [takeAt h, List.foldl_append]; rfl
set_option maxHeartbeats 1000000 in
theorem good_pure (i : Int) : Pure Tryd.prog (Tab) 69 [.int .i64 i] (.bool (goodB i)) := by
  intro w0 H hT
  refine L_enter Tryd.func69 rfl Tryd.ntmps69 rfl rfl ?_
  refine W_sr ?_
  refine W_assign rfl rfl ?_
  refine W_nil ?_
  refine W_sr ?_
  refine W_move rfl rfl ?_
  refine W_bin rfl rfl b_geq rfl ?_
  refine W_move rfl rfl ?_
  apply W_and
  iterate 4 exact rfl
  case h1 =>
    intro hg2
    refine W_gyes rfl rfl ?_
    refine W_move rfl rfl ?_
    refine W_gyes rfl rfl ?_
    refine W_bin rfl rfl b_lss rfl ?_
    exact W_met rfl zR
  refine W_assign rfl rfl ?_
  refine W_nil ?_
  refine W_ret1m Tryd.results69 rfl (.nil _) (.refl _) ?_
  exact ⟨rfl, rfl⟩
set_option maxHeartbeats 1000000 in
theorem bit_pure (i : Int) : Pure Tryd.prog (Tab) 54 [.int .i64 i] (.int .u64 (bitN i : Nat)) := by
  intro w0 H hT
  refine L_enter Tryd.func54 rfl Tryd.ntmps54 rfl rfl ?_
  refine W_sr ?_
  refine W_assign rfl rfl ?_
  refine W_nil ?_
  refine W_seq ?_
  refine W_sr ?_
  refine W_move rfl rfl ?_
  refine W_callp (.cons rfl .nil) Tryd.call69 rfl hT (good_pure _) ?_
  refine W_not rfl rfl ?_
  refine W_nil ?_
  refine W_condS rfl (fun c0 => ?_) (fun c0 => ?_)
  · skip
    refine W_sr ?_
    refine W_assign rfl rfl ?_
    refine W_nil ?_
    refine W_ret1m Tryd.results54 rfl (.nil _) (.refl _) ?_
    exact ⟨by unfold bitN; rw [if_neg (by intro h; have : goodB i = true := (by unfold goodB; simp [h.1, h.2]); simp [this] at c0)]; rfl, rfl⟩
  · skip
    refine W_skip ?_
    refine W_sr ?_
    refine W_move rfl rfl ?_
    have hi : 0 ≤ i ∧ i < 64 := by
      have : goodB i = true := by cases h : goodB i <;> simp_all
      unfold goodB at this
      simpa using this
    refine W_conv rfl ty3 ty126 (u64w (by omega)) rfl ?_
    refine W_bin rfl rfl (b_shl (by omega) (shl_one hi)) rfl ?_
    refine W_assign rfl rfl ?_
    refine W_nil ?_
    refine W_ret1m Tryd.results54 rfl (.nil _) (.refl _) ?_
    exact ⟨by unfold bitN; rw [if_pos hi], rfl⟩
set_option maxHeartbeats 1000000 in
theorem full_pure (n : Int) : Pure Tryd.prog (Tab) 55 [.int .i64 n] (.int .u64 (fullN n : Nat)) := by
  intro w0 H hT
  refine L_enter Tryd.func55 rfl Tryd.ntmps55 rfl rfl ?_
  refine W_sr ?_
  refine W_assign rfl rfl ?_
  refine W_nil ?_
  refine W_seq ?_
  refine W_block ?_
  refine W_sr ?_
  refine W_move rfl rfl ?_
  refine W_bin rfl rfl b_lss rfl ?_
  refine W_assign rfl rfl ?_
  refine W_nil ?_
  refine W_condPS (p := n < 1) rfl (by simp) (fun c0 => ?_) (fun c0 => ?_)
  · skip
    refine W_sr ?_
    refine W_assign rfl rfl ?_
    refine W_nil ?_
    refine W_ret1m Tryd.results55 rfl (.nil _) (.refl _) ?_
    exact ⟨by unfold fullN; rw [if_pos c0]; rfl, rfl⟩
  · skip
    refine W_sr ?_
    refine W_move rfl rfl ?_
    refine W_bin rfl rfl b_geq rfl ?_
    refine W_assign rfl rfl ?_
    refine W_nil ?_
    refine W_condPS (p := 64 ≤ n) rfl (by simp) (fun c1 => ?_) (fun c1 => ?_)
    · skip
      refine W_sr ?_
      refine W_assign rfl rfl ?_
      refine W_nil ?_
      refine W_ret1m Tryd.results55 rfl (.nil _) (.refl _) ?_
      exact ⟨by unfold fullN; rw [if_neg c0, if_pos c1]; rfl, rfl⟩
    · skip
      refine W_skip ?_
      refine W_blk ?_
      refine W_sr ?_
      refine W_move rfl rfl ?_
      refine W_callp (.cons rfl .nil) Tryd.call54 rfl hT (bit_pure _) ?_
      refine W_bin rfl rfl (b_sub (m := ((2 ^ n.toNat - 1 : Nat) : Int)) (by unfold bitN; rw [if_pos (by omega)]; have := Nat.two_pow_pos n.toNat; have := pow64 (i := n.toNat) (by omega); rw [u64w (by omega)]; omega)) rfl ?_
      refine W_assign rfl rfl ?_
      refine W_nil ?_
      refine W_ret1m Tryd.results55 rfl (.nil _) (.refl _) ?_
      exact ⟨by unfold fullN; rw [if_neg c0, if_neg c1], rfl⟩
set_option maxHeartbeats 1000000 in
theorem has_m (m : Nat) (i : Int) (hm : MaskOk m) : Pure Tryd.prog (Tab) 36 [.int .u64 (m : Int), .int .i64 i] (.bool (hasN m i)) := by
  intro w0 H hT
  refine L_enter Tryd.func36 rfl Tryd.ntmps36 rfl rfl ?_
  refine W_sr ?_
  refine W_assign rfl rfl ?_
  refine W_nil ?_
  refine W_sr ?_
  refine W_move rfl rfl ?_
  refine W_move rfl rfl ?_
  refine W_callp (.cons rfl .nil) Tryd.call54 rfl hT (bit_pure _) ?_
  refine W_bin rfl rfl (b_and rfl) rfl ?_
  refine W_bin rfl rfl b_neq rfl ?_
  refine W_assign rfl rfl ?_
  refine W_nil ?_
  refine W_ret1m Tryd.results36 rfl (.nil _) (.refl _) ?_
  exact ⟨by rw [← and_has hm i], rfl⟩
set_option maxHeartbeats 1000000 in
theorem with_q {w0 : World} {H : Heap} (m : Nat) (l : List Int) {ad : Option Addr} {cap : Nat} (hm : MaskOk m) (hn : l.length ≤ 4611686018427387904) (hrow : Holds w0 H ad (i64s l)) (hT : Tab w0) : PureAt Tryd.prog w0 H 57 [.int .u64 (m : Int), .slice ad l.length cap] (.int .u64 ((withL m l : Nat) : Int)) := by
  refine L_enter Tryd.func57 rfl Tryd.ntmps57 rfl rfl ?_
  refine W_sr ?_
  refine W_assign rfl rfl ?_
  refine W_nil ?_
  refine W_seq ?_
  refine W_sr ?_
  refine W_move rfl rfl ?_
  refine W_len rfl ty113 rfl rfl ?_
  refine W_move rfl rfl ?_
  refine W_nil ?_
  refine W_block ?_
  refine W_loopD (X := Nat) (fun i => [(0, .int .u64 ((withL m (l.take i) : Nat) : Int)), (7, .slice ad l.length cap), (8, .int .i64 (l.length : Int)), (9, .int .i64 (i : Int))]) (fun _ => []) (fun _ => H) (fun i => i ≤ l.length) (fun i => l.length - i) 0 (by omega) (sub_cons rfl (sub_cons rfl (sub_cons rfl (sub_cons rfl (sub_nil _))))) rfl (by first | exact hsubI | (repeat (first | exact HSub.refl _ | refine HSub.cons zT ?_ | refine HSub.app (by repeat (first | exact TakeS.here _ | apply TakeS.next | apply TakeS.app)) ?_ | refine HSub.drop ?_ | refine HSub.dropS ?_ | exact HSub.nil _))) ?_
  intro i hi
  have hok := withL_ok (l.take i) hm
  refine W_sr ?_
  refine W_bin rfl rfl b_lss rfl ?_
  refine W_nil ?_
  refine W_seq ?_
  refine W_condPS (p := (i : Int) < (l.length : Int)) rfl (by simp) (fun c0 => ?_) (fun c0 => ?_)
  · skip
    refine W_skip ?_
    refine W_seq ?_
    refine W_block ?_
    refine W_sr ?_
    obtain ⟨x, hx⟩ : ∃ x, l[i]? = some x := ⟨_, List.getElem?_eq_getElem (by omega)⟩
    obtain ⟨b, o, rfl, hc⟩ := hrow i _ (i64s_at hx)
    refine W_indexAddr (j := i) rfl rfl ty113 ty3 rfl (by omega) rfl rfl ?_
    refine W_load rfl ty3 rfl (by rw [Nat.mul_one]; exact hc) rfl ?_
    refine W_assign rfl rfl ?_
    refine W_nil ?_
    refine W_region ?_
    refine W_move rfl rfl ?_
    refine W_move rfl rfl ?_
    refine W_callp (.cons rfl .nil) Tryd.call54 rfl hT (bit_pure _) ?_
    refine W_bin rfl rfl (b_or rfl) rfl ?_
    refine W_assign rfl rfl ?_
    refine W_nil ?_
    refine W_blk ?_
    refine W_region ?_
    refine W_bin rfl rfl (b_add (m := ((i + 1 : Nat) : Int)) ((i64w (by omega)).trans (by omega))) rfl ?_
    refine W_move rfl rfl ?_
    refine W_nil ?_
    refine W_again (i + 1) (by omega) (by omega) (sub_cons (by rw [show withL m (l.take (i + 1)) = withL m (l.take i) ||| bitN x from foldl_at hx]; exact congrArg (fun z => some (Value.int .u64 z)) (or_mask hok x)) (sub_cons rfl (sub_cons rfl (sub_cons rfl (sub_nil _))))) rfl (by first | exact hsubI | (repeat (first | exact HSub.refl _ | refine HSub.cons zT ?_ | refine HSub.app (by repeat (first | exact TakeS.here _ | apply TakeS.next | apply TakeS.app)) ?_ | refine HSub.drop ?_ | refine HSub.dropS ?_ | exact HSub.nil _)))
  · skip
    refine W_exit rfl ?_
    refine W_sr ?_
    refine W_move rfl rfl ?_
    refine W_assign rfl rfl ?_
    refine W_nil ?_
    refine W_ret1m (H2 := H) Tryd.results57 rfl (.nil _) (by first | exact hsubI | (repeat (first | exact HSub.refl _ | refine HSub.cons zT ?_ | refine HSub.app (by repeat (first | exact TakeS.here _ | apply TakeS.next | apply TakeS.app)) ?_ | refine HSub.drop ?_ | refine HSub.dropS ?_ | exact HSub.nil _))) ?_
    obtain rfl : i = l.length := by omega
    exact ⟨by rw [List.take_length], rfl⟩
set_option maxHeartbeats 1000000 in
theorem target_pure (x : Ins) (at_ : Int) : Pure Tryd.prog (Tab) 68 [.agg #[.int .i64 x.op, .int .i64 x.dst, .int .i64 x.src, .int .i64 x.off, .int .i64 x.imm], .int .i64 at_] (.int .i64 (IntKind.i64.wrap (IntKind.i64.wrap (at_ + 1) + x.off))) := by
  intro w0 H hT
  refine L_enter Tryd.func68 rfl Tryd.ntmps68 rfl rfl ?_
  refine W_sr ?_
  refine W_box rfl rfl rfl (fun b2 => ?_)
  refine W_assign rfl rfl ?_
  refine W_nil ?_
  refine W_sr ?_
  refine W_move rfl rfl ?_
  refine W_bin rfl rfl (b_add rfl) rfl ?_
  refine W_fieldAddr rfl fld59_3 (by decide) rfl ?_
  refine W_load rfl ty3 rfl (Cell.own zM rfl) rfl ?_
  refine W_bin rfl rfl (b_add rfl) rfl ?_
  refine W_assign rfl rfl ?_
  refine W_nil ?_
  refine W_ret1m (H2 := H) Tryd.results68 rfl (.nil _) (by first | exact hsubI | (repeat (first | exact HSub.refl _ | refine HSub.cons zT ?_ | refine HSub.app (by repeat (first | exact TakeS.here _ | apply TakeS.next | apply TakeS.app)) ?_ | refine HSub.drop ?_ | refine HSub.dropS ?_ | exact HSub.nil _))) ?_
  exact ⟨rfl, rfl⟩
set_option maxHeartbeats 1000000 in
theorem to_pure (x : Ins) : Pure Tryd.prog (Tab) 28 [.agg #[.int .i64 x.op, .int .i64 x.dst, .int .i64 x.src, .int .i64 x.off, .int .i64 x.imm]] (.agg #[.int .i64 x.op, .int .i64 x.dst, .int .i64 x.src, .int .i64 x.off, .int .i64 x.imm]) := by
  intro w0 H hT
  refine L_enter Tryd.func28 rfl Tryd.ntmps28 rfl rfl ?_
  refine W_sr ?_
  refine W_box rfl rfl rfl (fun b1 => ?_)
  refine W_alloc ty59 rfl rfl (fun b2 => ?_)
  refine W_nil ?_
  refine W_sr ?_
  refine W_fieldAddr rfl fld80_0 (by decide) rfl ?_
  refine W_load rfl ty3 rfl (Cell.own zM rfl) rfl ?_
  refine W_fieldAddr rfl fld80_1 (by decide) rfl ?_
  refine W_load rfl ty3 rfl (Cell.own zM rfl) rfl ?_
  refine W_fieldAddr rfl fld80_2 (by decide) rfl ?_
  refine W_load rfl ty3 rfl (Cell.own zM rfl) rfl ?_
  refine W_fieldAddr rfl fld80_3 (by decide) rfl ?_
  refine W_load rfl ty3 rfl (Cell.own zM rfl) rfl ?_
  refine W_fieldAddr rfl fld80_4 (by decide) rfl ?_
  refine W_load rfl ty3 rfl (Cell.own zM rfl) rfl ?_
  refine W_build ty59 pl59 (.cons rfl rfl rfl rfl rfl (.cons rfl rfl rfl rfl rfl (.cons rfl rfl rfl rfl rfl (.cons rfl rfl rfl rfl rfl (.cons rfl rfl rfl rfl rfl .nil))))) rfl zF rfl ?_
  refine W_storeA rfl rfl ty59 rfl rfl zM (Nat.le_of_ble_eq_true rfl) zF zU ?_
  refine W_nil ?_
  refine W_ret1cO (H2 := H) Tryd.results28 rfl (.nil _) ty59 rfl zM rfl (by first | exact hsubI | (repeat (first | exact HSub.refl _ | refine HSub.cons zT ?_ | refine HSub.app (by repeat (first | exact TakeS.here _ | apply TakeS.next | apply TakeS.app)) ?_ | refine HSub.drop ?_ | refine HSub.dropS ?_ | exact HSub.nil _))) ?_
  exact ⟨rfl, rfl⟩
end Go.Proofs.YtcmfldfeakmdoaaDoor
namespace Go.Proofs.YtcmfldfeakmdoaaDoor
open Go Go.Sl
attribute [local irreducible] W
def helpA : List ByteArray := [⟨#[110, 111, 119]⟩, ⟨#[99, 112, 117]⟩, ⟨#[102, 105, 110, 100]⟩, ⟨#[112, 117, 116]⟩, ⟨#[100, 114, 111, 112]⟩, ⟨#[105, 110, 105, 116]⟩, ⟨#[99, 97, 108, 108, 98, 97, 99, 107]⟩, ⟨#[115, 116, 97, 114, 116]⟩, ⟨#[99, 97, 110, 99, 101, 108]⟩, ⟨#[115, 116, 111, 112]⟩, ⟨#[119, 111, 114, 107]⟩, ⟨#[113, 117, 101, 117, 101]⟩, ⟨#[99, 111, 112, 121, 105, 110]⟩, ⟨#[99, 111, 112, 121, 111, 117, 116]⟩, ⟨#[101, 109, 105, 116]⟩, ⟨#[112, 97, 117, 115, 101]⟩]
def helpC : ByteArray := ⟨#[110, 111, 119, 32, 99, 112, 117, 32, 102, 105, 110, 100, 32, 112, 117, 116, 32, 100, 114, 111, 112, 32, 105, 110, 105, 116, 32, 99, 97, 108, 108, 98, 97, 99, 107, 32, 115, 116, 97, 114, 116, 32, 99, 97, 110, 99, 101, 108, 32, 115, 116, 111, 112, 32, 119, 111, 114, 107, 32, 113, 117, 101, 117, 101, 32, 99, 111, 112, 121, 105, 110, 32, 99, 111, 112, 121, 111, 117, 116, 32, 101, 109, 105, 116, 32, 112, 97, 117, 115, 101]⟩
def helpL : List Int := [0, 0, 2, 4, 2, 1, 2, 4, 1, 1, 2, 1, 3, 3, 1, 0]
def helpS : ByteArray := ⟨#[48, 48, 50, 52, 50, 49, 50, 52, 49, 49, 50, 49, 51, 51, 49, 48]⟩
theorem fields_help {w0 : World} {H : Heap} (hT : Tab w0) : LCalls Tryd.prog w0 67 #[.string helpC] H (fun v H' => ∃ b, v = .slice (some ⟨b, 0, none⟩) 16 16 ∧ H' = (b, .cells 9 16 (helpA.map Value.string)) :: H) := by
  have hf : Lib.fields helpC.data.toList = [[110, 111, 119], [99, 112, 117], [102, 105, 110, 100], [112, 117, 116], [100, 114, 111, 112], [105, 110, 105, 116], [99, 97, 108, 108, 98, 97, 99, 107], [115, 116, 97, 114, 116], [99, 97, 110, 99, 101, 108], [115, 116, 111, 112], [119, 111, 114, 107], [113, 117, 101, 117, 101], [99, 111, 112, 121, 105, 110], [99, 111, 112, 121, 111, 117, 116], [101, 109, 105, 116], [112, 97, 117, 115, 101]] := by decide
  have h : ∀ w, Tab w → Calls Tryd.prog 67 #[.string helpC] w fun en w' => en = .returned (.slice (some ⟨w.heap.size, 0, none⟩) 16 16) ∧ w' = w.alloc (.cells (helpA.map Value.string).toArray 9) := fun w ht => by
    have := Tryd.strings_Fields helpC w (by decide) (ascii_of (by decide)) ht
    rw [hf] at this
    exact this
  refine (L_of_alloc (g := fun a => .slice (some a) 16 16) h (fun w hs => tab_of hT hs)).mono ?_
  rintro v H' ⟨b, rfl, rfl⟩
  exact ⟨b, rfl, rfl⟩
theorem args_at : ∀ k : Fin 16, ∃ r, helpS[k.val]? = some r ∧ IntKind.u8.wrap ((r.toNat : Int) - 48) = helpL.getD k.val 0 := by decide +kernel
theorem args_u8 : ∀ k : Fin 16, IntKind.i64.wrap (helpL.getD k.val 0) = helpL.getD k.val 0 := by decide +kernel
def helpB (id : Int) : Bool := decide (1 ≤ id) && decide (id ≤ 16)
def helpN (id : Int) : ByteArray := if helpB id = true then helpA.getD (id - 1).toNat ⟨#[]⟩ else ⟨#[]⟩
def helpG (id : Int) : Int := if helpB id = true then helpL.getD (id - 1).toNat 0 else 0
theorem helpR_in {k : Nat} (h : k < 16) : helpB ((k : Int) + 1) = true ∧ helpN ((k : Int) + 1) = helpA.getD k ⟨#[]⟩ ∧ helpG ((k : Int) + 1) = helpL.getD k 0 := by
  have hb : helpB ((k : Int) + 1) = true := by unfold helpB; simp; omega
  refine ⟨hb, ?_, ?_⟩
  · unfold helpN; rw [if_pos hb]; congr 1; omega
  · unfold helpG; rw [if_pos hb]; congr 1; omega
theorem helpR_out {id : Int} (h : id < 1 ∨ 16 < id) : helpB id = false ∧ helpN id = ⟨#[]⟩ ∧ helpG id = 0 := by
  have hb : helpB id = false := by unfold helpB; simp; omega
  exact ⟨hb, by unfold helpN; rw [hb]; rfl, by unfold helpG; rw [hb]; rfl⟩
set_option maxHeartbeats 1000000 in
theorem helper_pure (id : Int) (hid : I64 id) : Pure Tryd.prog (Tab) 52 [.int .i64 id] (.tuple #[.string (helpN id), .int .i64 (helpG id), .bool (helpB id)]) := by
  intro w0 H hT
  refine L_enter Tryd.func52 rfl Tryd.ntmps52 rfl rfl ?_
  refine W_sr ?_
  refine W_assign rfl rfl ?_
  refine W_assign rfl rfl ?_
  refine W_assign rfl rfl ?_
  refine W_nil ?_
  refine W_seq ?_
  refine W_sr ?_
  refine W_move rfl rfl ?_
  refine W_bin rfl rfl b_lss rfl ?_
  refine W_move rfl rfl ?_
  apply W_or
  iterate 4 exact rfl
  case h1 =>
    intro hg2
    refine W_gyes rfl rfl ?_
    refine W_move rfl rfl ?_
    refine W_gyes rfl rfl ?_
    refine W_bin rfl rfl b_gtr rfl ?_
    exact W_met rfl zR
  refine W_nil ?_
  refine W_condPS (p := id < 1 ∨ 16 < id) rfl (by simp) (fun c0 => ?_) (fun c0 => ?_)
  · skip
    refine W_sr ?_
    refine W_assign rfl rfl ?_
    refine W_assign rfl rfl ?_
    refine W_assign rfl rfl ?_
    refine W_nil ?_
    refine W_ret3m (H2 := H) Tryd.results52 rfl rfl rfl (.nil _) (by first | exact hsubI | (repeat (first | exact HSub.refl _ | refine HSub.cons zT ?_ | refine HSub.app (by repeat (first | exact TakeS.here _ | apply TakeS.next | apply TakeS.app)) ?_ | refine HSub.drop ?_ | refine HSub.dropS ?_ | exact HSub.nil _))) ?_
    obtain ⟨e1, e2, e3⟩ := helpR_out c0
    exact ⟨by rw [e1, e2, e3], rfl⟩
  · skip
    refine W_skip ?_
    refine W_seq ?_
    refine W_any (by kernel_rfl) ?_
    obtain ⟨k, rfl, hk⟩ : ∃ k : Nat, id = (k : Int) + 1 ∧ k < 16 := ⟨(id - 1).toNat, by omega, by omega⟩
    obtain ⟨r, hr, hrv⟩ := args_at ⟨k, hk⟩
    refine WA_take 1 (l' := #[false, true, false, false, false, false, false, false, false, false, false, false, false]) rfl (by decide +kernel) (by decide +kernel) (by decide +kernel) (fun _ h => by cases h) (fun _ h => by cases h) (by decide +kernel) (X_move rfl) rfl ?_
    refine WA_take 2 (l' := #[false, true, true, false, false, false, false, false, false, false, false, false, false]) rfl (by decide +kernel) (by decide +kernel) (by decide +kernel) (fun _ h => by cases h) (fun _ h => by cases h) (by decide +kernel) (X_bin rfl rfl (b_sub (m := (k : Int)) ((i64w (by omega)).trans (by omega)))) rfl ?_
    refine WA_take 5 (l' := #[false, true, true, false, false, true, false, false, false, false, false, false, false]) rfl (by decide +kernel) (by decide +kernel) (by decide +kernel) (fun _ h => by cases h) (fun _ h => by cases h) (by decide +kernel) (X_move rfl) rfl ?_
    refine WA_take 6 (l' := #[false, true, true, false, false, true, true, false, false, false, false, false, false]) rfl (by decide +kernel) (by decide +kernel) (by decide +kernel) (fun _ h => by cases h) (fun _ h => by cases h) (by decide +kernel) (X_bin rfl rfl (b_sub (m := (k : Int)) ((i64w (by omega)).trans (by omega)))) rfl ?_
    refine WA_take 7 (l' := #[false, true, true, false, false, true, true, true, false, false, false, false, false]) rfl (by decide +kernel) (by decide +kernel) (by decide +kernel) (fun _ h => by cases h) (fun _ h => by cases h) (by decide +kernel) (X_indexS (j := k) rfl rfl ty9 rfl hr rfl) rfl ?_
    refine WA_take 8 (l' := #[false, true, true, false, false, true, true, true, true, false, false, false, false]) rfl (by decide +kernel) (by decide +kernel) (by decide +kernel) (fun _ h => by cases h) (fun _ h => by cases h) (by decide +kernel) (X_bin rfl rfl (b_sub hrv)) rfl ?_
    refine WA_take 9 (l' := #[false, true, true, false, false, true, true, true, true, true, false, false, false]) rfl (by decide +kernel) (by decide +kernel) (by decide +kernel) (fun _ h => by cases h) (fun _ h => by cases h) (by decide +kernel) (X_conv rfl ty5 ty3 (args_u8 ⟨k, hk⟩)) rfl ?_
    refine WA_one 0 (l' := #[true, true, true, false, false, true, true, true, true, true, false, false, false]) (by decide +kernel) rfl (by decide +kernel) (fun _ h => by cases h) ?_
    refine W_call (.cons rfl .nil) Tryd.call67 rfl (fields_help hT) ?_
    rintro v H' ⟨bn, rfl, rfl⟩
    refine W_nil ?_
    refine WA_goal ?_
    refine WA_one 3 (l' := #[true, true, true, true, false, true, true, true, true, true, false, false, false]) (by decide +kernel) rfl (by decide +kernel) (fun _ h => by cases h) ?_
    refine W_indexAddr (j := k) rfl rfl ty123 ty9 rfl hk rfl rfl ?_
    refine W_nil ?_
    refine WA_goal ?_
    refine WA_one 4 (l' := #[true, true, true, true, true, true, true, true, true, true, false, false, false]) (by decide +kernel) rfl (by decide +kernel) (fun _ h => by cases h) ?_
    refine W_load rfl ty9 rfl (Cell.own zM (by rw [Nat.zero_add, Nat.mul_one]; exact getD_str (by show k < 16; omega))) rfl ?_
    refine W_nil ?_
    refine WA_goal ?_
    refine WA_one 10 (l' := #[true, true, true, true, true, true, true, true, true, true, true, false, false]) (by decide +kernel) rfl (by decide +kernel) (fun _ h => by cases h) ?_
    refine W_assign rfl rfl ?_
    refine W_nil ?_
    refine WA_goal ?_
    refine WA_one 11 (l' := #[true, true, true, true, true, true, true, true, true, true, true, true, false]) (by decide +kernel) rfl (by decide +kernel) (fun _ h => by cases h) ?_
    refine W_assign rfl rfl ?_
    refine W_nil ?_
    refine WA_goal ?_
    refine WA_one 12 (l' := #[true, true, true, true, true, true, true, true, true, true, true, true, true]) (by decide +kernel) rfl (by decide +kernel) (fun _ h => by cases h) ?_
    refine W_assign rfl rfl ?_
    refine W_nil ?_
    refine WA_goal ?_
    refine WA_done (by decide +kernel) ?_
    refine W_ret3m (H2 := H) Tryd.results52 rfl rfl rfl (.nil _) (by first | exact hsubI | (repeat (first | exact HSub.refl _ | refine HSub.cons zT ?_ | refine HSub.app (by repeat (first | exact TakeS.here _ | apply TakeS.next | apply TakeS.app)) ?_ | refine HSub.drop ?_ | refine HSub.dropS ?_ | exact HSub.nil _))) ?_
    obtain ⟨e1, e2, e3⟩ := helpR_in hk
    exact ⟨by rw [e1, e2, e3], rfl⟩
end Go.Proofs.YtcmfldfeakmdoaaDoor
namespace Go.Proofs.YtcmfldfeakmdoaaDoor
open Go Go.Sl
attribute [local irreducible] W
theorem cells_len (x : Ins) : x.cells.length = 5 := rfl
abbrev insRow (l : List Ins) : List Value := l.flatMap Ins.cells
theorem insRow_append (l : List Ins) (x : Ins) : insRow (l ++ [x]) = insRow l ++ x.cells := by simp [insRow]
set_option maxHeartbeats 1000000 in
theorem code_L {w0 : World} {H : Heap} (l : List Ins) (most : Int) {ad : Option Addr} {cap : Nat} (hm : most ≤ 1000) (hrow : Holds w0 H ad (insRow l)) (hT : Tab w0) : LCalls Tryd.prog w0 7 #[.slice ad l.length cap, .int .i64 most] (H) (fun v H' => ∃ HB, OwnS 59 5 v (l.take most.toNat).length (insRow (l.take most.toNat)) HB ∧ H' = HB ++ H) := by
  refine L_enter (l := [.slice ad l.length cap, .int .i64 most]) Tryd.func7 rfl Tryd.ntmps7 rfl rfl ?_
  refine W_sr ?_
  refine W_assign rfl rfl ?_
  refine W_nil ?_
  refine W_sr ?_
  refine W_assign rfl rfl ?_
  refine W_nil ?_
  refine W_seq ?_
  refine W_sr ?_
  refine W_assign rfl rfl ?_
  refine W_nil ?_
  refine W_block ?_
  refine W_loopD (X := Nat × Value × Heap) (fun | (i, v, _) => [(0, .slice ad l.length cap), (1, .int .i64 most), (5, v), (6, .int .i64 (i : Int))]) (fun _ => []) (fun | (_, _, HB) => HB ++ H) (fun | (i, v, HB) => i ≤ l.length ∧ (i : Int) ≤ max most 0 ∧ OwnS 59 5 v i (insRow (l.take i)) HB) (fun | (i, _, _) => l.length - i) (0, .slice none 0 0, []) ⟨by omega, by omega, .nil⟩ (sub_cons rfl (sub_cons rfl (sub_cons rfl (sub_cons rfl (sub_nil _))))) rfl (by first | exact hsubI | (repeat (first | exact HSub.refl _ | refine HSub.cons zT ?_ | refine HSub.app (by repeat (first | exact TakeS.here _ | apply TakeS.next | apply TakeS.app)) ?_ | refine HSub.drop ?_ | refine HSub.dropS ?_ | exact HSub.nil _))) ?_
  rintro ⟨i, v, HB⟩ ⟨hi, him, hO⟩
  simp only
  refine W_seq ?_
  refine W_sr ?_
  refine W_move rfl rfl ?_
  refine W_move rfl rfl ?_
  refine W_len rfl ty22 rfl rfl ?_
  refine W_bin rfl rfl b_lss rfl ?_
  refine W_move rfl rfl ?_
  apply W_and
  iterate 4 exact rfl
  case h1 =>
    intro hg4
    refine W_gyes rfl rfl ?_
    refine W_move rfl rfl ?_
    refine W_gyes rfl rfl ?_
    refine W_move rfl rfl ?_
    refine W_gyes rfl rfl ?_
    refine W_bin rfl rfl b_lss rfl ?_
    exact W_met rfl zR
  refine W_nil ?_
  refine W_condPS (p := (i : Int) < (l.length : Int) ∧ (i : Int) < most) rfl (by simp) (fun c0 => ?_) (fun c0 => ?_)
  · skip
    refine W_skip ?_
    refine W_seq ?_
    refine W_block ?_
    refine W_region ?_
    obtain ⟨x, hx⟩ : ∃ x, l[i]? = some x := ⟨_, List.getElem?_eq_getElem (by omega)⟩
    obtain ⟨b, o, rfl, hc⟩ := hrow.row cells_len (by decide) hx
    refine W_move rfl rfl ?_
    refine W_move rfl rfl ?_
    refine W_move rfl rfl ?_
    refine W_indexAddr (j := i) rfl rfl ty22 ty80 rfl (by omega) rfl rfl ?_
    refine W_loadA rfl ty80 rfl (vs := x.cells) rfl (hc.up (by first | exact hsubI | (repeat (first | exact HSub.refl _ | refine HSub.cons zT ?_ | refine HSub.app (by repeat (first | exact TakeS.here _ | apply TakeS.next | apply TakeS.app)) ?_ | refine HSub.drop ?_ | refine HSub.dropS ?_ | exact HSub.nil _)))) rfl ?_
    refine W_callp (.cons rfl .nil) Tryd.call28 rfl hT (to_pure _) ?_
    refine W_buildSlice ty24 ty59 (.cons rfl rfl rfl rfl rfl .nil) rfl rfl rfl rfl rfl rfl rfl (fun b24 => ?_)
    refine W_append (news := x.cells) (m := 1) (HB := HB) (H0 := H) rfl rfl ty24 ty59 rfl (by decide) hO rfl (Holds.own List.mem_cons_self) rfl (by simp only [maxLen]; omega) (by omega) (by first | exact hsubI | (repeat (first | exact HSub.refl _ | refine HSub.cons zT ?_ | refine HSub.app (by repeat (first | exact TakeS.here _ | apply TakeS.next | apply TakeS.app)) ?_ | refine HSub.drop ?_ | refine HSub.dropS ?_ | exact HSub.nil _))) rfl (fun v' HB' hO' => ?_)
    refine W_assign rfl rfl ?_
    refine W_nil ?_
    refine W_blk ?_
    refine W_region ?_
    refine W_move rfl rfl ?_
    refine W_bin rfl rfl (b_add (m := ((i + 1 : Nat) : Int)) ((i64w (by omega)).trans (by omega))) rfl ?_
    refine W_assign rfl rfl ?_
    refine W_nil ?_
    refine W_again (i + 1, v', HB') ⟨by omega, by omega, by rw [takeAt hx, insRow_append]; exact hO'⟩ (by dsimp only; omega) (sub_cons rfl (sub_cons rfl (sub_cons rfl (sub_cons rfl (sub_nil _))))) rfl (by first | exact hsubI | (repeat (first | exact HSub.refl _ | refine HSub.cons zT ?_ | refine HSub.app (by repeat (first | exact TakeS.here _ | apply TakeS.next | apply TakeS.app)) ?_ | refine HSub.drop ?_ | refine HSub.dropS ?_ | exact HSub.nil _)))
  · skip
    refine W_exit rfl ?_
    refine W_sr ?_
    refine W_move rfl rfl ?_
    refine W_assign rfl rfl ?_
    refine W_nil ?_
    refine W_ret1m Tryd.results7 rfl (.nil _) (.refl _) ?_
    have e : (l.take most.toNat).length = i := by rw [List.length_take]; omega
    have e2 : l.take most.toNat = l.take i := by
      rw [List.length_take] at e
      by_cases h : most.toNat ≤ l.length
      · rw [show most.toNat = i by omega]
      · rw [List.take_of_length_le (by omega), List.take_of_length_le (by omega)]
    exact ⟨HB, by rw [e, e2]; exact hO, rfl⟩
def wordN : List Bool → Nat
  | [] => 0
  | b :: l => (if b = true then 1 else 0) + 2 * wordN l
theorem wordN_lt : ∀ l : List Bool, wordN l < 2 ^ l.length
  | [] => by simp [wordN]
  | b :: l => by
    have := wordN_lt l
    simp only [wordN, List.length_cons, Nat.pow_succ]
    split <;> omega
end Go.Proofs.YtcmfldfeakmdoaaDoor
namespace Go.Proofs.YtcmfldfeakmdoaaDoor
open Go Go.Sl
attribute [local irreducible] W
def jumpB (x : Ins) : Bool := decide (cls x.op = 2)
def nextB (x : Ins) : Bool := decide (x.op ≠ 73) && decide (x.op ≠ 32)
def toV (x : Ins) (at_ : Int) : Int := IntKind.i64.wrap (IntKind.i64.wrap (at_ + 1) + x.off)
def seqOf (jump next : Bool) (tv at1 : Int) (le gt : Bool) : List Int :=
  (bif jump && (le || !next) then [tv] else []) ++ ((bif next then [at1] else []) ++ (bif jump && next && gt then [tv] else []))
def seqB (x : Ins) (at_ : Int) : List Int :=
  seqOf (jumpB x) (nextB x) (toV x at_) (IntKind.i64.wrap (at_ + 1)) (decide (toV x at_ ≤ at_)) (decide (IntKind.i64.wrap (at_ + 1) < toV x at_))
abbrev behC (bj bt ba bn : Nat) (jump next : Bool) (tv at_ : Int) : Heap := [(bj, .cells 4 1 [.bool jump]), (bt, .cells 3 1 [.int .i64 tv]), (ba, .cells 3 1 [.int .i64 at_]), (bn, .cells 4 1 [.bool next])]
theorem b_leq' {q : IntKind} {t : TypeId} {i j : Int} {b : Bool} (h : decide (i ≤ j) = b) (P : Program) (w : World) : (Go.binOp .leq t (.int q i) (.int q j)).run P w = .ok (.bool b) w := h ▸ b_leq P w
theorem b_gtr' {q : IntKind} {t : TypeId} {i j : Int} {b : Bool} (h : decide (j < i) = b) (P : Program) (w : World) : (Go.binOp .gtr t (.int q i) (.int q j)).run P w = .ok (.bool b) w := h ▸ b_gtr P w
set_option maxHeartbeats 1000000 in
theorem behind_L {w0 : World} {H : Heap} (x : Ins) (at_ : Int) (hT : Tab w0) : LCalls Tryd.prog w0 70 #[.agg #[.int .i64 x.op, .int .i64 x.dst, .int .i64 x.src, .int .i64 x.off, .int .i64 x.imm], .int .i64 at_] (H) (fun v H' => ∃ bj bt ba bn, v = .func (.func 81) #[] #[.pointer (some ⟨bj, 0, none⟩), .pointer (some ⟨bt, 0, none⟩), .pointer (some ⟨ba, 0, none⟩), .pointer (some ⟨bn, 0, none⟩)] ∧ H' = behC bj bt ba bn (jumpB x) (nextB x) (toV x at_) at_ ++ H) := by
  refine L_enter (l := [.agg #[.int .i64 x.op, .int .i64 x.dst, .int .i64 x.src, .int .i64 x.off, .int .i64 x.imm], .int .i64 at_]) Tryd.func70 rfl Tryd.ntmps70 rfl rfl ?_
  refine W_sr ?_
  refine W_box rfl rfl rfl (fun b2 => ?_)
  refine W_box rfl rfl rfl (fun b3 => ?_)
  refine W_assign rfl rfl ?_
  refine W_nil ?_
  refine W_sr ?_
  refine W_fieldAddr rfl fld59_0 (by decide) rfl ?_
  refine W_load rfl ty3 rfl (Cell.own zM rfl) rfl ?_
  refine W_callp (.cons rfl .nil) Tryd.call49 rfl hT (class_pure _) ?_
  refine W_bin rfl rfl b_eql rfl ?_
  refine W_alloc ty4 rfl rfl (fun b5 => ?_)
  refine W_store rfl rfl ty4 rfl rfl zM rfl rfl zU ?_
  refine W_nil ?_
  refine W_sr ?_
  refine W_fieldAddr rfl fld59_0 (by decide) rfl ?_
  refine W_load rfl ty3 rfl (Cell.own zM rfl) rfl ?_
  refine W_bin rfl rfl b_neq rfl ?_
  refine W_move rfl rfl ?_
  apply W_and
  iterate 4 exact rfl
  case h1 =>
    intro hg3
    refine W_gyes rfl rfl ?_
    refine W_fieldAddr rfl fld59_0 (by decide) rfl ?_
    refine W_gyes rfl rfl ?_
    refine W_load rfl ty3 rfl (Cell.own zM rfl) rfl ?_
    refine W_gyes rfl rfl ?_
    refine W_bin rfl rfl b_neq rfl ?_
    exact W_met rfl zR
  refine W_alloc ty4 rfl rfl (fun b6 => ?_)
  refine W_store rfl rfl ty4 rfl rfl zM rfl rfl zU ?_
  refine W_nil ?_
  refine W_sr ?_
  refine W_loadB rfl ty59 rfl zM rfl zF rfl ?_
  refine W_load rfl ty3 rfl (Cell.own zM rfl) rfl ?_
  refine W_callp (.cons rfl (.cons rfl .nil)) Tryd.call68 rfl hT (target_pure _ _) ?_
  refine W_alloc ty3 rfl rfl (fun b7 => ?_)
  refine W_store rfl rfl ty3 rfl rfl zM rfl rfl zU ?_
  refine W_nil ?_
  refine W_sr ?_
  refine W_makeFunc .nil (.cons rfl (.cons rfl (.cons rfl (.cons rfl .nil)))) rfl ?_
  refine W_assign rfl rfl ?_
  refine W_nil ?_
  refine W_ret1m (H2 := behC b5 b7 b3 b6 (jumpB x) (nextB x) (toV x at_) at_ ++ H) Tryd.results70 rfl (.nil _) (by first | exact hsubI | (repeat (first | exact HSub.refl _ | refine HSub.cons zT ?_ | refine HSub.app (by repeat (first | exact TakeS.here _ | apply TakeS.next | apply TakeS.app)) ?_ | refine HSub.drop ?_ | refine HSub.dropS ?_ | exact HSub.nil _))) ?_
  exact ⟨b5, b7, b3, b6, rfl, rfl⟩
set_option maxHeartbeats 4000000 in
theorem behind_iter {w0 : World} {H : Heap} {l bj bt ba bn : Nat} {jump next le gt : Bool} {tv at_ : Int} (hle : decide (tv ≤ at_) = le) (hgt : decide (IntKind.i64.wrap (at_ + 1) < tv) = gt) (J : Nat → Heap → Prop) (S : Heap → Prop)
    (hround : ∀ i z Hi, (seqOf jump next tv (IntKind.i64.wrap (at_ + 1)) le gt)[i]? = some z → J i Hi → RoundC Tryd.prog w0 l #[.int .i64 z] (behC bj bt ba bn jump next tv at_ ++ Hi)
      (fun v H' => ∃ Hi', HSub H' (behC bj bt ba bn jump next tv at_ ++ Hi') ∧ (v = .bool true ∧ J (i + 1) Hi' ∨ v = .bool false ∧ S Hi'))) (hJ : J 0 H) (hT : Tab w0) : LCalls Tryd.prog w0 81 #[.func (.yield l) #[] #[], .pointer (some ⟨bj, 0, none⟩), .pointer (some ⟨bt, 0, none⟩), .pointer (some ⟨ba, 0, none⟩), .pointer (some ⟨bn, 0, none⟩)] ((behC bj bt ba bn jump next tv at_ ++ H)) (fun _ H' => ∃ Hi', HSub H' (behC bj bt ba bn jump next tv at_ ++ Hi') ∧ (J (seqOf jump next tv (IntKind.i64.wrap (at_ + 1)) le gt).length Hi' ∨ S Hi')) := by
  refine L_enter (l := [.func (.yield l) #[] #[], .pointer (some ⟨bj, 0, none⟩), .pointer (some ⟨bt, 0, none⟩), .pointer (some ⟨ba, 0, none⟩), .pointer (some ⟨bn, 0, none⟩)]) Tryd.func81 rfl Tryd.ntmps81 rfl rfl ?_
  cases jump
  · skip
    cases next
    · skip
      cases le
      · skip
        cases gt
        · skip
          refine W_seq ?_
          refine W_sr ?_
          refine W_load rfl ty4 rfl (Cell.own zM rfl) rfl ?_
          refine W_move rfl rfl ?_
          refine W_gno rfl rfl rfl ?_
          refine W_gno rfl rfl rfl ?_
          refine W_gno rfl rfl rfl ?_
          refine W_gno rfl rfl rfl ?_
          refine W_gnou rfl rfl rfl ?_
          refine W_gnou rfl rfl rfl ?_
          refine W_gno rfl rfl rfl ?_
          first | refine W_pickt rfl rfl rfl ?_ | refine W_pickf rfl rfl rfl ?_
          refine W_move rfl rfl ?_
          refine W_gno rfl rfl rfl ?_
          refine W_gno rfl rfl rfl ?_
          refine W_gno rfl rfl rfl ?_
          refine W_gno rfl rfl rfl ?_
          first | refine W_pickt rfl rfl rfl ?_ | refine W_pickf rfl rfl rfl ?_
          refine W_nil ?_
          refine W_condF rfl rfl ?_
          refine W_skip ?_
          refine W_seq ?_
          refine W_sr ?_
          refine W_load rfl ty4 rfl (Cell.own zM rfl) rfl ?_
          refine W_move rfl rfl ?_
          refine W_gno rfl rfl rfl ?_
          refine W_gno rfl rfl rfl ?_
          refine W_gno rfl rfl rfl ?_
          refine W_gno rfl rfl rfl ?_
          refine W_gno rfl rfl rfl ?_
          first | refine W_pickt rfl rfl rfl ?_ | refine W_pickf rfl rfl rfl ?_
          refine W_nil ?_
          refine W_condF rfl rfl ?_
          refine W_skip ?_
          refine W_sr ?_
          refine W_load rfl ty4 rfl (Cell.own zM rfl) rfl ?_
          refine W_move rfl rfl ?_
          refine W_gno rfl rfl rfl ?_
          first | refine W_pickt rfl rfl rfl ?_ | refine W_pickf rfl rfl rfl ?_
          refine W_move rfl rfl ?_
          refine W_gno rfl rfl rfl ?_
          refine W_gno rfl rfl rfl ?_
          refine W_gno rfl rfl rfl ?_
          refine W_gno rfl rfl rfl ?_
          first | refine W_pickt rfl rfl rfl ?_ | refine W_pickf rfl rfl rfl ?_
          refine W_nil ?_
          refine W_condF rfl rfl ?_
          refine W_skip ?_
          refine W_end0m Tryd.results81 (.nil _) (.refl _) ?_
          exact ⟨H, .refl _, .inl hJ⟩
        · skip
          refine W_seq ?_
          refine W_sr ?_
          refine W_load rfl ty4 rfl (Cell.own zM rfl) rfl ?_
          refine W_move rfl rfl ?_
          refine W_gno rfl rfl rfl ?_
          refine W_gno rfl rfl rfl ?_
          refine W_gno rfl rfl rfl ?_
          refine W_gno rfl rfl rfl ?_
          refine W_gnou rfl rfl rfl ?_
          refine W_gnou rfl rfl rfl ?_
          refine W_gno rfl rfl rfl ?_
          first | refine W_pickt rfl rfl rfl ?_ | refine W_pickf rfl rfl rfl ?_
          refine W_move rfl rfl ?_
          refine W_gno rfl rfl rfl ?_
          refine W_gno rfl rfl rfl ?_
          refine W_gno rfl rfl rfl ?_
          refine W_gno rfl rfl rfl ?_
          first | refine W_pickt rfl rfl rfl ?_ | refine W_pickf rfl rfl rfl ?_
          refine W_nil ?_
          refine W_condF rfl rfl ?_
          refine W_skip ?_
          refine W_seq ?_
          refine W_sr ?_
          refine W_load rfl ty4 rfl (Cell.own zM rfl) rfl ?_
          refine W_move rfl rfl ?_
          refine W_gno rfl rfl rfl ?_
          refine W_gno rfl rfl rfl ?_
          refine W_gno rfl rfl rfl ?_
          refine W_gno rfl rfl rfl ?_
          refine W_gno rfl rfl rfl ?_
          first | refine W_pickt rfl rfl rfl ?_ | refine W_pickf rfl rfl rfl ?_
          refine W_nil ?_
          refine W_condF rfl rfl ?_
          refine W_skip ?_
          refine W_sr ?_
          refine W_load rfl ty4 rfl (Cell.own zM rfl) rfl ?_
          refine W_move rfl rfl ?_
          refine W_gno rfl rfl rfl ?_
          first | refine W_pickt rfl rfl rfl ?_ | refine W_pickf rfl rfl rfl ?_
          refine W_move rfl rfl ?_
          refine W_gno rfl rfl rfl ?_
          refine W_gno rfl rfl rfl ?_
          refine W_gno rfl rfl rfl ?_
          refine W_gno rfl rfl rfl ?_
          first | refine W_pickt rfl rfl rfl ?_ | refine W_pickf rfl rfl rfl ?_
          refine W_nil ?_
          refine W_condF rfl rfl ?_
          refine W_skip ?_
          refine W_end0m Tryd.results81 (.nil _) (.refl _) ?_
          exact ⟨H, .refl _, .inl hJ⟩
      · skip
        cases gt
        · skip
          refine W_seq ?_
          refine W_sr ?_
          refine W_load rfl ty4 rfl (Cell.own zM rfl) rfl ?_
          refine W_move rfl rfl ?_
          refine W_gno rfl rfl rfl ?_
          refine W_gno rfl rfl rfl ?_
          refine W_gno rfl rfl rfl ?_
          refine W_gno rfl rfl rfl ?_
          refine W_gnou rfl rfl rfl ?_
          refine W_gnou rfl rfl rfl ?_
          refine W_gno rfl rfl rfl ?_
          first | refine W_pickt rfl rfl rfl ?_ | refine W_pickf rfl rfl rfl ?_
          refine W_move rfl rfl ?_
          refine W_gno rfl rfl rfl ?_
          refine W_gno rfl rfl rfl ?_
          refine W_gno rfl rfl rfl ?_
          refine W_gno rfl rfl rfl ?_
          first | refine W_pickt rfl rfl rfl ?_ | refine W_pickf rfl rfl rfl ?_
          refine W_nil ?_
          refine W_condF rfl rfl ?_
          refine W_skip ?_
          refine W_seq ?_
          refine W_sr ?_
          refine W_load rfl ty4 rfl (Cell.own zM rfl) rfl ?_
          refine W_move rfl rfl ?_
          refine W_gno rfl rfl rfl ?_
          refine W_gno rfl rfl rfl ?_
          refine W_gno rfl rfl rfl ?_
          refine W_gno rfl rfl rfl ?_
          refine W_gno rfl rfl rfl ?_
          first | refine W_pickt rfl rfl rfl ?_ | refine W_pickf rfl rfl rfl ?_
          refine W_nil ?_
          refine W_condF rfl rfl ?_
          refine W_skip ?_
          refine W_sr ?_
          refine W_load rfl ty4 rfl (Cell.own zM rfl) rfl ?_
          refine W_move rfl rfl ?_
          refine W_gno rfl rfl rfl ?_
          first | refine W_pickt rfl rfl rfl ?_ | refine W_pickf rfl rfl rfl ?_
          refine W_move rfl rfl ?_
          refine W_gno rfl rfl rfl ?_
          refine W_gno rfl rfl rfl ?_
          refine W_gno rfl rfl rfl ?_
          refine W_gno rfl rfl rfl ?_
          first | refine W_pickt rfl rfl rfl ?_ | refine W_pickf rfl rfl rfl ?_
          refine W_nil ?_
          refine W_condF rfl rfl ?_
          refine W_skip ?_
          refine W_end0m Tryd.results81 (.nil _) (.refl _) ?_
          exact ⟨H, .refl _, .inl hJ⟩
        · skip
          refine W_seq ?_
          refine W_sr ?_
          refine W_load rfl ty4 rfl (Cell.own zM rfl) rfl ?_
          refine W_move rfl rfl ?_
          refine W_gno rfl rfl rfl ?_
          refine W_gno rfl rfl rfl ?_
          refine W_gno rfl rfl rfl ?_
          refine W_gno rfl rfl rfl ?_
          refine W_gnou rfl rfl rfl ?_
          refine W_gnou rfl rfl rfl ?_
          refine W_gno rfl rfl rfl ?_
          first | refine W_pickt rfl rfl rfl ?_ | refine W_pickf rfl rfl rfl ?_
          refine W_move rfl rfl ?_
          refine W_gno rfl rfl rfl ?_
          refine W_gno rfl rfl rfl ?_
          refine W_gno rfl rfl rfl ?_
          refine W_gno rfl rfl rfl ?_
          first | refine W_pickt rfl rfl rfl ?_ | refine W_pickf rfl rfl rfl ?_
          refine W_nil ?_
          refine W_condF rfl rfl ?_
          refine W_skip ?_
          refine W_seq ?_
          refine W_sr ?_
          refine W_load rfl ty4 rfl (Cell.own zM rfl) rfl ?_
          refine W_move rfl rfl ?_
          refine W_gno rfl rfl rfl ?_
          refine W_gno rfl rfl rfl ?_
          refine W_gno rfl rfl rfl ?_
          refine W_gno rfl rfl rfl ?_
          refine W_gno rfl rfl rfl ?_
          first | refine W_pickt rfl rfl rfl ?_ | refine W_pickf rfl rfl rfl ?_
          refine W_nil ?_
          refine W_condF rfl rfl ?_
          refine W_skip ?_
          refine W_sr ?_
          refine W_load rfl ty4 rfl (Cell.own zM rfl) rfl ?_
          refine W_move rfl rfl ?_
          refine W_gno rfl rfl rfl ?_
          first | refine W_pickt rfl rfl rfl ?_ | refine W_pickf rfl rfl rfl ?_
          refine W_move rfl rfl ?_
          refine W_gno rfl rfl rfl ?_
          refine W_gno rfl rfl rfl ?_
          refine W_gno rfl rfl rfl ?_
          refine W_gno rfl rfl rfl ?_
          first | refine W_pickt rfl rfl rfl ?_ | refine W_pickf rfl rfl rfl ?_
          refine W_nil ?_
          refine W_condF rfl rfl ?_
          refine W_skip ?_
          refine W_end0m Tryd.results81 (.nil _) (.refl _) ?_
          exact ⟨H, .refl _, .inl hJ⟩
    · skip
      cases le
      · skip
        cases gt
        · skip
          refine W_seq ?_
          refine W_sr ?_
          refine W_load rfl ty4 rfl (Cell.own zM rfl) rfl ?_
          refine W_move rfl rfl ?_
          refine W_gno rfl rfl rfl ?_
          refine W_gno rfl rfl rfl ?_
          refine W_gno rfl rfl rfl ?_
          refine W_gno rfl rfl rfl ?_
          refine W_gnou rfl rfl rfl ?_
          refine W_gnou rfl rfl rfl ?_
          refine W_gno rfl rfl rfl ?_
          first | refine W_pickt rfl rfl rfl ?_ | refine W_pickf rfl rfl rfl ?_
          refine W_move rfl rfl ?_
          refine W_gno rfl rfl rfl ?_
          refine W_gno rfl rfl rfl ?_
          refine W_gno rfl rfl rfl ?_
          refine W_gno rfl rfl rfl ?_
          first | refine W_pickt rfl rfl rfl ?_ | refine W_pickf rfl rfl rfl ?_
          refine W_nil ?_
          refine W_condF rfl rfl ?_
          refine W_skip ?_
          refine W_seq ?_
          refine W_sr ?_
          refine W_load rfl ty4 rfl (Cell.own zM rfl) rfl ?_
          refine W_move rfl rfl ?_
          refine W_gyes rfl rfl ?_
          refine W_move rfl rfl ?_
          refine W_gyes rfl rfl ?_
          refine W_load rfl ty3 rfl (Cell.own zM rfl) rfl ?_
          refine W_gyes rfl rfl ?_
          refine W_bin rfl rfl (b_add rfl) rfl ?_
          refine W_gyes rfl rfl ?_
          refine W_yield rfl (.cons rfl .nil) rfl (hround 0 _ H rfl hJ) ?_
          rintro v H' ⟨H1, hs, ⟨rfl, hJ1⟩ | ⟨rfl, hS⟩⟩
          · skip
            refine W_hsub hs ?_
            refine W_gyes rfl rfl ?_
            refine W_not rfl rfl ?_
            first | refine W_pickt rfl rfl rfl ?_ | refine W_pickf rfl rfl rfl ?_
            refine W_nil ?_
            refine W_condF rfl rfl ?_
            refine W_skip ?_
            refine W_sr ?_
            refine W_load rfl ty4 rfl (Cell.own zM rfl) rfl ?_
            refine W_move rfl rfl ?_
            refine W_gno rfl rfl rfl ?_
            first | refine W_pickt rfl rfl rfl ?_ | refine W_pickf rfl rfl rfl ?_
            refine W_move rfl rfl ?_
            refine W_gno rfl rfl rfl ?_
            refine W_gno rfl rfl rfl ?_
            refine W_gno rfl rfl rfl ?_
            refine W_gno rfl rfl rfl ?_
            first | refine W_pickt rfl rfl rfl ?_ | refine W_pickf rfl rfl rfl ?_
            refine W_nil ?_
            refine W_condF rfl rfl ?_
            refine W_skip ?_
            refine W_end0m Tryd.results81 (.nil _) (.refl _) ?_
            exact ⟨H1, .refl _, .inl hJ1⟩
          · skip
            refine W_hsub hs ?_
            refine W_gyes rfl rfl ?_
            refine W_not rfl rfl ?_
            first | refine W_pickt rfl rfl rfl ?_ | refine W_pickf rfl rfl rfl ?_
            refine W_nil ?_
            refine W_condT rfl rfl ?_
            refine W_ret0m Tryd.results81 (.nil _) (.refl _) ?_
            exact ⟨H1, .refl _, .inr hS⟩
        · skip
          refine W_seq ?_
          refine W_sr ?_
          refine W_load rfl ty4 rfl (Cell.own zM rfl) rfl ?_
          refine W_move rfl rfl ?_
          refine W_gno rfl rfl rfl ?_
          refine W_gno rfl rfl rfl ?_
          refine W_gno rfl rfl rfl ?_
          refine W_gno rfl rfl rfl ?_
          refine W_gnou rfl rfl rfl ?_
          refine W_gnou rfl rfl rfl ?_
          refine W_gno rfl rfl rfl ?_
          first | refine W_pickt rfl rfl rfl ?_ | refine W_pickf rfl rfl rfl ?_
          refine W_move rfl rfl ?_
          refine W_gno rfl rfl rfl ?_
          refine W_gno rfl rfl rfl ?_
          refine W_gno rfl rfl rfl ?_
          refine W_gno rfl rfl rfl ?_
          first | refine W_pickt rfl rfl rfl ?_ | refine W_pickf rfl rfl rfl ?_
          refine W_nil ?_
          refine W_condF rfl rfl ?_
          refine W_skip ?_
          refine W_seq ?_
          refine W_sr ?_
          refine W_load rfl ty4 rfl (Cell.own zM rfl) rfl ?_
          refine W_move rfl rfl ?_
          refine W_gyes rfl rfl ?_
          refine W_move rfl rfl ?_
          refine W_gyes rfl rfl ?_
          refine W_load rfl ty3 rfl (Cell.own zM rfl) rfl ?_
          refine W_gyes rfl rfl ?_
          refine W_bin rfl rfl (b_add rfl) rfl ?_
          refine W_gyes rfl rfl ?_
          refine W_yield rfl (.cons rfl .nil) rfl (hround 0 _ H rfl hJ) ?_
          rintro v H' ⟨H1, hs, ⟨rfl, hJ1⟩ | ⟨rfl, hS⟩⟩
          · skip
            refine W_hsub hs ?_
            refine W_gyes rfl rfl ?_
            refine W_not rfl rfl ?_
            first | refine W_pickt rfl rfl rfl ?_ | refine W_pickf rfl rfl rfl ?_
            refine W_nil ?_
            refine W_condF rfl rfl ?_
            refine W_skip ?_
            refine W_sr ?_
            refine W_load rfl ty4 rfl (Cell.own zM rfl) rfl ?_
            refine W_move rfl rfl ?_
            refine W_gno rfl rfl rfl ?_
            first | refine W_pickt rfl rfl rfl ?_ | refine W_pickf rfl rfl rfl ?_
            refine W_move rfl rfl ?_
            refine W_gno rfl rfl rfl ?_
            refine W_gno rfl rfl rfl ?_
            refine W_gno rfl rfl rfl ?_
            refine W_gno rfl rfl rfl ?_
            first | refine W_pickt rfl rfl rfl ?_ | refine W_pickf rfl rfl rfl ?_
            refine W_nil ?_
            refine W_condF rfl rfl ?_
            refine W_skip ?_
            refine W_end0m Tryd.results81 (.nil _) (.refl _) ?_
            exact ⟨H1, .refl _, .inl hJ1⟩
          · skip
            refine W_hsub hs ?_
            refine W_gyes rfl rfl ?_
            refine W_not rfl rfl ?_
            first | refine W_pickt rfl rfl rfl ?_ | refine W_pickf rfl rfl rfl ?_
            refine W_nil ?_
            refine W_condT rfl rfl ?_
            refine W_ret0m Tryd.results81 (.nil _) (.refl _) ?_
            exact ⟨H1, .refl _, .inr hS⟩
      · skip
        cases gt
        · skip
          refine W_seq ?_
          refine W_sr ?_
          refine W_load rfl ty4 rfl (Cell.own zM rfl) rfl ?_
          refine W_move rfl rfl ?_
          refine W_gno rfl rfl rfl ?_
          refine W_gno rfl rfl rfl ?_
          refine W_gno rfl rfl rfl ?_
          refine W_gno rfl rfl rfl ?_
          refine W_gnou rfl rfl rfl ?_
          refine W_gnou rfl rfl rfl ?_
          refine W_gno rfl rfl rfl ?_
          first | refine W_pickt rfl rfl rfl ?_ | refine W_pickf rfl rfl rfl ?_
          refine W_move rfl rfl ?_
          refine W_gno rfl rfl rfl ?_
          refine W_gno rfl rfl rfl ?_
          refine W_gno rfl rfl rfl ?_
          refine W_gno rfl rfl rfl ?_
          first | refine W_pickt rfl rfl rfl ?_ | refine W_pickf rfl rfl rfl ?_
          refine W_nil ?_
          refine W_condF rfl rfl ?_
          refine W_skip ?_
          refine W_seq ?_
          refine W_sr ?_
          refine W_load rfl ty4 rfl (Cell.own zM rfl) rfl ?_
          refine W_move rfl rfl ?_
          refine W_gyes rfl rfl ?_
          refine W_move rfl rfl ?_
          refine W_gyes rfl rfl ?_
          refine W_load rfl ty3 rfl (Cell.own zM rfl) rfl ?_
          refine W_gyes rfl rfl ?_
          refine W_bin rfl rfl (b_add rfl) rfl ?_
          refine W_gyes rfl rfl ?_
          refine W_yield rfl (.cons rfl .nil) rfl (hround 0 _ H rfl hJ) ?_
          rintro v H' ⟨H1, hs, ⟨rfl, hJ1⟩ | ⟨rfl, hS⟩⟩
          · skip
            refine W_hsub hs ?_
            refine W_gyes rfl rfl ?_
            refine W_not rfl rfl ?_
            first | refine W_pickt rfl rfl rfl ?_ | refine W_pickf rfl rfl rfl ?_
            refine W_nil ?_
            refine W_condF rfl rfl ?_
            refine W_skip ?_
            refine W_sr ?_
            refine W_load rfl ty4 rfl (Cell.own zM rfl) rfl ?_
            refine W_move rfl rfl ?_
            refine W_gno rfl rfl rfl ?_
            first | refine W_pickt rfl rfl rfl ?_ | refine W_pickf rfl rfl rfl ?_
            refine W_move rfl rfl ?_
            refine W_gno rfl rfl rfl ?_
            refine W_gno rfl rfl rfl ?_
            refine W_gno rfl rfl rfl ?_
            refine W_gno rfl rfl rfl ?_
            first | refine W_pickt rfl rfl rfl ?_ | refine W_pickf rfl rfl rfl ?_
            refine W_nil ?_
            refine W_condF rfl rfl ?_
            refine W_skip ?_
            refine W_end0m Tryd.results81 (.nil _) (.refl _) ?_
            exact ⟨H1, .refl _, .inl hJ1⟩
          · skip
            refine W_hsub hs ?_
            refine W_gyes rfl rfl ?_
            refine W_not rfl rfl ?_
            first | refine W_pickt rfl rfl rfl ?_ | refine W_pickf rfl rfl rfl ?_
            refine W_nil ?_
            refine W_condT rfl rfl ?_
            refine W_ret0m Tryd.results81 (.nil _) (.refl _) ?_
            exact ⟨H1, .refl _, .inr hS⟩
        · skip
          refine W_seq ?_
          refine W_sr ?_
          refine W_load rfl ty4 rfl (Cell.own zM rfl) rfl ?_
          refine W_move rfl rfl ?_
          refine W_gno rfl rfl rfl ?_
          refine W_gno rfl rfl rfl ?_
          refine W_gno rfl rfl rfl ?_
          refine W_gno rfl rfl rfl ?_
          refine W_gnou rfl rfl rfl ?_
          refine W_gnou rfl rfl rfl ?_
          refine W_gno rfl rfl rfl ?_
          first | refine W_pickt rfl rfl rfl ?_ | refine W_pickf rfl rfl rfl ?_
          refine W_move rfl rfl ?_
          refine W_gno rfl rfl rfl ?_
          refine W_gno rfl rfl rfl ?_
          refine W_gno rfl rfl rfl ?_
          refine W_gno rfl rfl rfl ?_
          first | refine W_pickt rfl rfl rfl ?_ | refine W_pickf rfl rfl rfl ?_
          refine W_nil ?_
          refine W_condF rfl rfl ?_
          refine W_skip ?_
          refine W_seq ?_
          refine W_sr ?_
          refine W_load rfl ty4 rfl (Cell.own zM rfl) rfl ?_
          refine W_move rfl rfl ?_
          refine W_gyes rfl rfl ?_
          refine W_move rfl rfl ?_
          refine W_gyes rfl rfl ?_
          refine W_load rfl ty3 rfl (Cell.own zM rfl) rfl ?_
          refine W_gyes rfl rfl ?_
          refine W_bin rfl rfl (b_add rfl) rfl ?_
          refine W_gyes rfl rfl ?_
          refine W_yield rfl (.cons rfl .nil) rfl (hround 0 _ H rfl hJ) ?_
          rintro v H' ⟨H1, hs, ⟨rfl, hJ1⟩ | ⟨rfl, hS⟩⟩
          · skip
            refine W_hsub hs ?_
            refine W_gyes rfl rfl ?_
            refine W_not rfl rfl ?_
            first | refine W_pickt rfl rfl rfl ?_ | refine W_pickf rfl rfl rfl ?_
            refine W_nil ?_
            refine W_condF rfl rfl ?_
            refine W_skip ?_
            refine W_sr ?_
            refine W_load rfl ty4 rfl (Cell.own zM rfl) rfl ?_
            refine W_move rfl rfl ?_
            refine W_gno rfl rfl rfl ?_
            first | refine W_pickt rfl rfl rfl ?_ | refine W_pickf rfl rfl rfl ?_
            refine W_move rfl rfl ?_
            refine W_gno rfl rfl rfl ?_
            refine W_gno rfl rfl rfl ?_
            refine W_gno rfl rfl rfl ?_
            refine W_gno rfl rfl rfl ?_
            first | refine W_pickt rfl rfl rfl ?_ | refine W_pickf rfl rfl rfl ?_
            refine W_nil ?_
            refine W_condF rfl rfl ?_
            refine W_skip ?_
            refine W_end0m Tryd.results81 (.nil _) (.refl _) ?_
            exact ⟨H1, .refl _, .inl hJ1⟩
          · skip
            refine W_hsub hs ?_
            refine W_gyes rfl rfl ?_
            refine W_not rfl rfl ?_
            first | refine W_pickt rfl rfl rfl ?_ | refine W_pickf rfl rfl rfl ?_
            refine W_nil ?_
            refine W_condT rfl rfl ?_
            refine W_ret0m Tryd.results81 (.nil _) (.refl _) ?_
            exact ⟨H1, .refl _, .inr hS⟩
  · skip
    cases next
    · skip
      cases le
      · skip
        cases gt
        · skip
          refine W_seq ?_
          refine W_sr ?_
          refine W_load rfl ty4 rfl (Cell.own zM rfl) rfl ?_
          refine W_move rfl rfl ?_
          refine W_gyes rfl rfl ?_
          refine W_load rfl ty3 rfl (Cell.own zM rfl) rfl ?_
          refine W_gyes rfl rfl ?_
          refine W_load rfl ty3 rfl (Cell.own zM rfl) rfl ?_
          refine W_gyes rfl rfl ?_
          refine W_bin rfl rfl (b_leq' hle) rfl ?_
          refine W_gyes rfl rfl ?_
          refine W_move rfl rfl ?_
          refine W_gyes rfl rfl ?_
          refine W_load rfl ty4 rfl (Cell.own zM rfl) rfl ?_
          refine W_gyes rfl rfl ?_
          refine W_not rfl rfl ?_
          refine W_gyes rfl rfl ?_
          first | refine W_pickt rfl rfl rfl ?_ | refine W_pickf rfl rfl rfl ?_
          first | refine W_pickt rfl rfl rfl ?_ | refine W_pickf rfl rfl rfl ?_
          refine W_move rfl rfl ?_
          refine W_gyes rfl rfl ?_
          refine W_move rfl rfl ?_
          refine W_gyes rfl rfl ?_
          refine W_load rfl ty3 rfl (Cell.own zM rfl) rfl ?_
          refine W_gyes rfl rfl ?_
          refine W_yield rfl (.cons rfl .nil) rfl (hround 0 _ H rfl hJ) ?_
          rintro v H' ⟨H1, hs, ⟨rfl, hJ1⟩ | ⟨rfl, hS⟩⟩
          · skip
            refine W_hsub hs ?_
            refine W_gyes rfl rfl ?_
            refine W_not rfl rfl ?_
            first | refine W_pickt rfl rfl rfl ?_ | refine W_pickf rfl rfl rfl ?_
            refine W_nil ?_
            refine W_condF rfl rfl ?_
            refine W_skip ?_
            refine W_seq ?_
            refine W_sr ?_
            refine W_load rfl ty4 rfl (Cell.own zM rfl) rfl ?_
            refine W_move rfl rfl ?_
            refine W_gno rfl rfl rfl ?_
            refine W_gno rfl rfl rfl ?_
            refine W_gno rfl rfl rfl ?_
            refine W_gno rfl rfl rfl ?_
            refine W_gno rfl rfl rfl ?_
            first | refine W_pickt rfl rfl rfl ?_ | refine W_pickf rfl rfl rfl ?_
            refine W_nil ?_
            refine W_condF rfl rfl ?_
            refine W_skip ?_
            refine W_sr ?_
            refine W_load rfl ty4 rfl (Cell.own zM rfl) rfl ?_
            refine W_move rfl rfl ?_
            refine W_gyes rfl rfl ?_
            refine W_load rfl ty4 rfl (Cell.own zM rfl) rfl ?_
            first | refine W_pickt rfl rfl rfl ?_ | refine W_pickf rfl rfl rfl ?_
            refine W_move rfl rfl ?_
            refine W_gno rfl rfl rfl ?_
            refine W_gno rfl rfl rfl ?_
            refine W_gno rfl rfl rfl ?_
            refine W_gno rfl rfl rfl ?_
            first | refine W_pickt rfl rfl rfl ?_ | refine W_pickf rfl rfl rfl ?_
            refine W_nil ?_
            refine W_condF rfl rfl ?_
            refine W_skip ?_
            refine W_end0m Tryd.results81 (.nil _) (.refl _) ?_
            exact ⟨H1, .refl _, .inl hJ1⟩
          · skip
            refine W_hsub hs ?_
            refine W_gyes rfl rfl ?_
            refine W_not rfl rfl ?_
            first | refine W_pickt rfl rfl rfl ?_ | refine W_pickf rfl rfl rfl ?_
            refine W_nil ?_
            refine W_condT rfl rfl ?_
            refine W_ret0m Tryd.results81 (.nil _) (.refl _) ?_
            exact ⟨H1, .refl _, .inr hS⟩
        · skip
          refine W_seq ?_
          refine W_sr ?_
          refine W_load rfl ty4 rfl (Cell.own zM rfl) rfl ?_
          refine W_move rfl rfl ?_
          refine W_gyes rfl rfl ?_
          refine W_load rfl ty3 rfl (Cell.own zM rfl) rfl ?_
          refine W_gyes rfl rfl ?_
          refine W_load rfl ty3 rfl (Cell.own zM rfl) rfl ?_
          refine W_gyes rfl rfl ?_
          refine W_bin rfl rfl (b_leq' hle) rfl ?_
          refine W_gyes rfl rfl ?_
          refine W_move rfl rfl ?_
          refine W_gyes rfl rfl ?_
          refine W_load rfl ty4 rfl (Cell.own zM rfl) rfl ?_
          refine W_gyes rfl rfl ?_
          refine W_not rfl rfl ?_
          refine W_gyes rfl rfl ?_
          first | refine W_pickt rfl rfl rfl ?_ | refine W_pickf rfl rfl rfl ?_
          first | refine W_pickt rfl rfl rfl ?_ | refine W_pickf rfl rfl rfl ?_
          refine W_move rfl rfl ?_
          refine W_gyes rfl rfl ?_
          refine W_move rfl rfl ?_
          refine W_gyes rfl rfl ?_
          refine W_load rfl ty3 rfl (Cell.own zM rfl) rfl ?_
          refine W_gyes rfl rfl ?_
          refine W_yield rfl (.cons rfl .nil) rfl (hround 0 _ H rfl hJ) ?_
          rintro v H' ⟨H1, hs, ⟨rfl, hJ1⟩ | ⟨rfl, hS⟩⟩
          · skip
            refine W_hsub hs ?_
            refine W_gyes rfl rfl ?_
            refine W_not rfl rfl ?_
            first | refine W_pickt rfl rfl rfl ?_ | refine W_pickf rfl rfl rfl ?_
            refine W_nil ?_
            refine W_condF rfl rfl ?_
            refine W_skip ?_
            refine W_seq ?_
            refine W_sr ?_
            refine W_load rfl ty4 rfl (Cell.own zM rfl) rfl ?_
            refine W_move rfl rfl ?_
            refine W_gno rfl rfl rfl ?_
            refine W_gno rfl rfl rfl ?_
            refine W_gno rfl rfl rfl ?_
            refine W_gno rfl rfl rfl ?_
            refine W_gno rfl rfl rfl ?_
            first | refine W_pickt rfl rfl rfl ?_ | refine W_pickf rfl rfl rfl ?_
            refine W_nil ?_
            refine W_condF rfl rfl ?_
            refine W_skip ?_
            refine W_sr ?_
            refine W_load rfl ty4 rfl (Cell.own zM rfl) rfl ?_
            refine W_move rfl rfl ?_
            refine W_gyes rfl rfl ?_
            refine W_load rfl ty4 rfl (Cell.own zM rfl) rfl ?_
            first | refine W_pickt rfl rfl rfl ?_ | refine W_pickf rfl rfl rfl ?_
            refine W_move rfl rfl ?_
            refine W_gno rfl rfl rfl ?_
            refine W_gno rfl rfl rfl ?_
            refine W_gno rfl rfl rfl ?_
            refine W_gno rfl rfl rfl ?_
            first | refine W_pickt rfl rfl rfl ?_ | refine W_pickf rfl rfl rfl ?_
            refine W_nil ?_
            refine W_condF rfl rfl ?_
            refine W_skip ?_
            refine W_end0m Tryd.results81 (.nil _) (.refl _) ?_
            exact ⟨H1, .refl _, .inl hJ1⟩
          · skip
            refine W_hsub hs ?_
            refine W_gyes rfl rfl ?_
            refine W_not rfl rfl ?_
            first | refine W_pickt rfl rfl rfl ?_ | refine W_pickf rfl rfl rfl ?_
            refine W_nil ?_
            refine W_condT rfl rfl ?_
            refine W_ret0m Tryd.results81 (.nil _) (.refl _) ?_
            exact ⟨H1, .refl _, .inr hS⟩
      · skip
        cases gt
        · skip
          refine W_seq ?_
          refine W_sr ?_
          refine W_load rfl ty4 rfl (Cell.own zM rfl) rfl ?_
          refine W_move rfl rfl ?_
          refine W_gyes rfl rfl ?_
          refine W_load rfl ty3 rfl (Cell.own zM rfl) rfl ?_
          refine W_gyes rfl rfl ?_
          refine W_load rfl ty3 rfl (Cell.own zM rfl) rfl ?_
          refine W_gyes rfl rfl ?_
          refine W_bin rfl rfl (b_leq' hle) rfl ?_
          refine W_gyes rfl rfl ?_
          refine W_move rfl rfl ?_
          refine W_gno rfl rfl rfl ?_
          refine W_gno rfl rfl rfl ?_
          refine W_gyes rfl rfl ?_
          first | refine W_pickt rfl rfl rfl ?_ | refine W_pickf rfl rfl rfl ?_
          first | refine W_pickt rfl rfl rfl ?_ | refine W_pickf rfl rfl rfl ?_
          refine W_move rfl rfl ?_
          refine W_gyes rfl rfl ?_
          refine W_move rfl rfl ?_
          refine W_gyes rfl rfl ?_
          refine W_load rfl ty3 rfl (Cell.own zM rfl) rfl ?_
          refine W_gyes rfl rfl ?_
          refine W_yield rfl (.cons rfl .nil) rfl (hround 0 _ H rfl hJ) ?_
          rintro v H' ⟨H1, hs, ⟨rfl, hJ1⟩ | ⟨rfl, hS⟩⟩
          · skip
            refine W_hsub hs ?_
            refine W_gyes rfl rfl ?_
            refine W_not rfl rfl ?_
            first | refine W_pickt rfl rfl rfl ?_ | refine W_pickf rfl rfl rfl ?_
            refine W_nil ?_
            refine W_condF rfl rfl ?_
            refine W_skip ?_
            refine W_seq ?_
            refine W_sr ?_
            refine W_load rfl ty4 rfl (Cell.own zM rfl) rfl ?_
            refine W_move rfl rfl ?_
            refine W_gno rfl rfl rfl ?_
            refine W_gno rfl rfl rfl ?_
            refine W_gno rfl rfl rfl ?_
            refine W_gno rfl rfl rfl ?_
            refine W_gno rfl rfl rfl ?_
            first | refine W_pickt rfl rfl rfl ?_ | refine W_pickf rfl rfl rfl ?_
            refine W_nil ?_
            refine W_condF rfl rfl ?_
            refine W_skip ?_
            refine W_sr ?_
            refine W_load rfl ty4 rfl (Cell.own zM rfl) rfl ?_
            refine W_move rfl rfl ?_
            refine W_gyes rfl rfl ?_
            refine W_load rfl ty4 rfl (Cell.own zM rfl) rfl ?_
            first | refine W_pickt rfl rfl rfl ?_ | refine W_pickf rfl rfl rfl ?_
            refine W_move rfl rfl ?_
            refine W_gno rfl rfl rfl ?_
            refine W_gno rfl rfl rfl ?_
            refine W_gno rfl rfl rfl ?_
            refine W_gno rfl rfl rfl ?_
            first | refine W_pickt rfl rfl rfl ?_ | refine W_pickf rfl rfl rfl ?_
            refine W_nil ?_
            refine W_condF rfl rfl ?_
            refine W_skip ?_
            refine W_end0m Tryd.results81 (.nil _) (.refl _) ?_
            exact ⟨H1, .refl _, .inl hJ1⟩
          · skip
            refine W_hsub hs ?_
            refine W_gyes rfl rfl ?_
            refine W_not rfl rfl ?_
            first | refine W_pickt rfl rfl rfl ?_ | refine W_pickf rfl rfl rfl ?_
            refine W_nil ?_
            refine W_condT rfl rfl ?_
            refine W_ret0m Tryd.results81 (.nil _) (.refl _) ?_
            exact ⟨H1, .refl _, .inr hS⟩
        · skip
          refine W_seq ?_
          refine W_sr ?_
          refine W_load rfl ty4 rfl (Cell.own zM rfl) rfl ?_
          refine W_move rfl rfl ?_
          refine W_gyes rfl rfl ?_
          refine W_load rfl ty3 rfl (Cell.own zM rfl) rfl ?_
          refine W_gyes rfl rfl ?_
          refine W_load rfl ty3 rfl (Cell.own zM rfl) rfl ?_
          refine W_gyes rfl rfl ?_
          refine W_bin rfl rfl (b_leq' hle) rfl ?_
          refine W_gyes rfl rfl ?_
          refine W_move rfl rfl ?_
          refine W_gno rfl rfl rfl ?_
          refine W_gno rfl rfl rfl ?_
          refine W_gyes rfl rfl ?_
          first | refine W_pickt rfl rfl rfl ?_ | refine W_pickf rfl rfl rfl ?_
          first | refine W_pickt rfl rfl rfl ?_ | refine W_pickf rfl rfl rfl ?_
          refine W_move rfl rfl ?_
          refine W_gyes rfl rfl ?_
          refine W_move rfl rfl ?_
          refine W_gyes rfl rfl ?_
          refine W_load rfl ty3 rfl (Cell.own zM rfl) rfl ?_
          refine W_gyes rfl rfl ?_
          refine W_yield rfl (.cons rfl .nil) rfl (hround 0 _ H rfl hJ) ?_
          rintro v H' ⟨H1, hs, ⟨rfl, hJ1⟩ | ⟨rfl, hS⟩⟩
          · skip
            refine W_hsub hs ?_
            refine W_gyes rfl rfl ?_
            refine W_not rfl rfl ?_
            first | refine W_pickt rfl rfl rfl ?_ | refine W_pickf rfl rfl rfl ?_
            refine W_nil ?_
            refine W_condF rfl rfl ?_
            refine W_skip ?_
            refine W_seq ?_
            refine W_sr ?_
            refine W_load rfl ty4 rfl (Cell.own zM rfl) rfl ?_
            refine W_move rfl rfl ?_
            refine W_gno rfl rfl rfl ?_
            refine W_gno rfl rfl rfl ?_
            refine W_gno rfl rfl rfl ?_
            refine W_gno rfl rfl rfl ?_
            refine W_gno rfl rfl rfl ?_
            first | refine W_pickt rfl rfl rfl ?_ | refine W_pickf rfl rfl rfl ?_
            refine W_nil ?_
            refine W_condF rfl rfl ?_
            refine W_skip ?_
            refine W_sr ?_
            refine W_load rfl ty4 rfl (Cell.own zM rfl) rfl ?_
            refine W_move rfl rfl ?_
            refine W_gyes rfl rfl ?_
            refine W_load rfl ty4 rfl (Cell.own zM rfl) rfl ?_
            first | refine W_pickt rfl rfl rfl ?_ | refine W_pickf rfl rfl rfl ?_
            refine W_move rfl rfl ?_
            refine W_gno rfl rfl rfl ?_
            refine W_gno rfl rfl rfl ?_
            refine W_gno rfl rfl rfl ?_
            refine W_gno rfl rfl rfl ?_
            first | refine W_pickt rfl rfl rfl ?_ | refine W_pickf rfl rfl rfl ?_
            refine W_nil ?_
            refine W_condF rfl rfl ?_
            refine W_skip ?_
            refine W_end0m Tryd.results81 (.nil _) (.refl _) ?_
            exact ⟨H1, .refl _, .inl hJ1⟩
          · skip
            refine W_hsub hs ?_
            refine W_gyes rfl rfl ?_
            refine W_not rfl rfl ?_
            first | refine W_pickt rfl rfl rfl ?_ | refine W_pickf rfl rfl rfl ?_
            refine W_nil ?_
            refine W_condT rfl rfl ?_
            refine W_ret0m Tryd.results81 (.nil _) (.refl _) ?_
            exact ⟨H1, .refl _, .inr hS⟩
    · skip
      cases le
      · skip
        cases gt
        · skip
          refine W_seq ?_
          refine W_sr ?_
          refine W_load rfl ty4 rfl (Cell.own zM rfl) rfl ?_
          refine W_move rfl rfl ?_
          refine W_gyes rfl rfl ?_
          refine W_load rfl ty3 rfl (Cell.own zM rfl) rfl ?_
          refine W_gyes rfl rfl ?_
          refine W_load rfl ty3 rfl (Cell.own zM rfl) rfl ?_
          refine W_gyes rfl rfl ?_
          refine W_bin rfl rfl (b_leq' hle) rfl ?_
          refine W_gyes rfl rfl ?_
          refine W_move rfl rfl ?_
          refine W_gyes rfl rfl ?_
          refine W_load rfl ty4 rfl (Cell.own zM rfl) rfl ?_
          refine W_gyes rfl rfl ?_
          refine W_not rfl rfl ?_
          refine W_gyes rfl rfl ?_
          first | refine W_pickt rfl rfl rfl ?_ | refine W_pickf rfl rfl rfl ?_
          first | refine W_pickt rfl rfl rfl ?_ | refine W_pickf rfl rfl rfl ?_
          refine W_move rfl rfl ?_
          refine W_gno rfl rfl rfl ?_
          refine W_gno rfl rfl rfl ?_
          refine W_gno rfl rfl rfl ?_
          refine W_gno rfl rfl rfl ?_
          first | refine W_pickt rfl rfl rfl ?_ | refine W_pickf rfl rfl rfl ?_
          refine W_nil ?_
          refine W_condF rfl rfl ?_
          refine W_skip ?_
          refine W_seq ?_
          refine W_sr ?_
          refine W_load rfl ty4 rfl (Cell.own zM rfl) rfl ?_
          refine W_move rfl rfl ?_
          refine W_gyes rfl rfl ?_
          refine W_move rfl rfl ?_
          refine W_gyes rfl rfl ?_
          refine W_load rfl ty3 rfl (Cell.own zM rfl) rfl ?_
          refine W_gyes rfl rfl ?_
          refine W_bin rfl rfl (b_add rfl) rfl ?_
          refine W_gyes rfl rfl ?_
          refine W_yield rfl (.cons rfl .nil) rfl (hround 0 _ H rfl hJ) ?_
          rintro v H' ⟨H1, hs, ⟨rfl, hJ1⟩ | ⟨rfl, hS⟩⟩
          · skip
            refine W_hsub hs ?_
            refine W_gyes rfl rfl ?_
            refine W_not rfl rfl ?_
            first | refine W_pickt rfl rfl rfl ?_ | refine W_pickf rfl rfl rfl ?_
            refine W_nil ?_
            refine W_condF rfl rfl ?_
            refine W_skip ?_
            refine W_sr ?_
            refine W_load rfl ty4 rfl (Cell.own zM rfl) rfl ?_
            refine W_move rfl rfl ?_
            refine W_gyes rfl rfl ?_
            refine W_load rfl ty4 rfl (Cell.own zM rfl) rfl ?_
            first | refine W_pickt rfl rfl rfl ?_ | refine W_pickf rfl rfl rfl ?_
            refine W_move rfl rfl ?_
            refine W_gyes rfl rfl ?_
            refine W_load rfl ty3 rfl (Cell.own zM rfl) rfl ?_
            refine W_gyes rfl rfl ?_
            refine W_load rfl ty3 rfl (Cell.own zM rfl) rfl ?_
            refine W_gyes rfl rfl ?_
            refine W_bin rfl rfl (b_add rfl) rfl ?_
            refine W_gyes rfl rfl ?_
            refine W_bin rfl rfl (b_gtr' hgt) rfl ?_
            first | refine W_pickt rfl rfl rfl ?_ | refine W_pickf rfl rfl rfl ?_
            refine W_nil ?_
            refine W_condF rfl rfl ?_
            refine W_skip ?_
            refine W_end0m Tryd.results81 (.nil _) (.refl _) ?_
            exact ⟨H1, .refl _, .inl hJ1⟩
          · skip
            refine W_hsub hs ?_
            refine W_gyes rfl rfl ?_
            refine W_not rfl rfl ?_
            first | refine W_pickt rfl rfl rfl ?_ | refine W_pickf rfl rfl rfl ?_
            refine W_nil ?_
            refine W_condT rfl rfl ?_
            refine W_ret0m Tryd.results81 (.nil _) (.refl _) ?_
            exact ⟨H1, .refl _, .inr hS⟩
        · skip
          refine W_seq ?_
          refine W_sr ?_
          refine W_load rfl ty4 rfl (Cell.own zM rfl) rfl ?_
          refine W_move rfl rfl ?_
          refine W_gyes rfl rfl ?_
          refine W_load rfl ty3 rfl (Cell.own zM rfl) rfl ?_
          refine W_gyes rfl rfl ?_
          refine W_load rfl ty3 rfl (Cell.own zM rfl) rfl ?_
          refine W_gyes rfl rfl ?_
          refine W_bin rfl rfl (b_leq' hle) rfl ?_
          refine W_gyes rfl rfl ?_
          refine W_move rfl rfl ?_
          refine W_gyes rfl rfl ?_
          refine W_load rfl ty4 rfl (Cell.own zM rfl) rfl ?_
          refine W_gyes rfl rfl ?_
          refine W_not rfl rfl ?_
          refine W_gyes rfl rfl ?_
          first | refine W_pickt rfl rfl rfl ?_ | refine W_pickf rfl rfl rfl ?_
          first | refine W_pickt rfl rfl rfl ?_ | refine W_pickf rfl rfl rfl ?_
          refine W_move rfl rfl ?_
          refine W_gno rfl rfl rfl ?_
          refine W_gno rfl rfl rfl ?_
          refine W_gno rfl rfl rfl ?_
          refine W_gno rfl rfl rfl ?_
          first | refine W_pickt rfl rfl rfl ?_ | refine W_pickf rfl rfl rfl ?_
          refine W_nil ?_
          refine W_condF rfl rfl ?_
          refine W_skip ?_
          refine W_seq ?_
          refine W_sr ?_
          refine W_load rfl ty4 rfl (Cell.own zM rfl) rfl ?_
          refine W_move rfl rfl ?_
          refine W_gyes rfl rfl ?_
          refine W_move rfl rfl ?_
          refine W_gyes rfl rfl ?_
          refine W_load rfl ty3 rfl (Cell.own zM rfl) rfl ?_
          refine W_gyes rfl rfl ?_
          refine W_bin rfl rfl (b_add rfl) rfl ?_
          refine W_gyes rfl rfl ?_
          refine W_yield rfl (.cons rfl .nil) rfl (hround 0 _ H rfl hJ) ?_
          rintro v H' ⟨H1, hs, ⟨rfl, hJ1⟩ | ⟨rfl, hS⟩⟩
          · skip
            refine W_hsub hs ?_
            refine W_gyes rfl rfl ?_
            refine W_not rfl rfl ?_
            first | refine W_pickt rfl rfl rfl ?_ | refine W_pickf rfl rfl rfl ?_
            refine W_nil ?_
            refine W_condF rfl rfl ?_
            refine W_skip ?_
            refine W_sr ?_
            refine W_load rfl ty4 rfl (Cell.own zM rfl) rfl ?_
            refine W_move rfl rfl ?_
            refine W_gyes rfl rfl ?_
            refine W_load rfl ty4 rfl (Cell.own zM rfl) rfl ?_
            first | refine W_pickt rfl rfl rfl ?_ | refine W_pickf rfl rfl rfl ?_
            refine W_move rfl rfl ?_
            refine W_gyes rfl rfl ?_
            refine W_load rfl ty3 rfl (Cell.own zM rfl) rfl ?_
            refine W_gyes rfl rfl ?_
            refine W_load rfl ty3 rfl (Cell.own zM rfl) rfl ?_
            refine W_gyes rfl rfl ?_
            refine W_bin rfl rfl (b_add rfl) rfl ?_
            refine W_gyes rfl rfl ?_
            refine W_bin rfl rfl (b_gtr' hgt) rfl ?_
            first | refine W_pickt rfl rfl rfl ?_ | refine W_pickf rfl rfl rfl ?_
            refine W_nil ?_
            refine W_condT rfl rfl ?_
            refine W_region ?_
            refine W_move rfl rfl ?_
            refine W_load rfl ty3 rfl (Cell.own zM rfl) rfl ?_
            refine W_yield rfl (.cons rfl .nil) rfl (hround 1 _ H1 rfl hJ1) ?_
            rintro v H' ⟨H2, hs, ⟨rfl, hJ2⟩ | ⟨rfl, hS⟩⟩
            · skip
              refine W_hsub hs ?_
              refine W_nil ?_
              refine W_end0m Tryd.results81 (.nil _) (.refl _) ?_
              exact ⟨H2, .refl _, .inl hJ2⟩
            · skip
              refine W_hsub hs ?_
              refine W_nil ?_
              refine W_end0m Tryd.results81 (.nil _) (.refl _) ?_
              exact ⟨H2, .refl _, .inr hS⟩
          · skip
            refine W_hsub hs ?_
            refine W_gyes rfl rfl ?_
            refine W_not rfl rfl ?_
            first | refine W_pickt rfl rfl rfl ?_ | refine W_pickf rfl rfl rfl ?_
            refine W_nil ?_
            refine W_condT rfl rfl ?_
            refine W_ret0m Tryd.results81 (.nil _) (.refl _) ?_
            exact ⟨H1, .refl _, .inr hS⟩
      · skip
        cases gt
        · skip
          refine W_seq ?_
          refine W_sr ?_
          refine W_load rfl ty4 rfl (Cell.own zM rfl) rfl ?_
          refine W_move rfl rfl ?_
          refine W_gyes rfl rfl ?_
          refine W_load rfl ty3 rfl (Cell.own zM rfl) rfl ?_
          refine W_gyes rfl rfl ?_
          refine W_load rfl ty3 rfl (Cell.own zM rfl) rfl ?_
          refine W_gyes rfl rfl ?_
          refine W_bin rfl rfl (b_leq' hle) rfl ?_
          refine W_gyes rfl rfl ?_
          refine W_move rfl rfl ?_
          refine W_gno rfl rfl rfl ?_
          refine W_gno rfl rfl rfl ?_
          refine W_gyes rfl rfl ?_
          first | refine W_pickt rfl rfl rfl ?_ | refine W_pickf rfl rfl rfl ?_
          first | refine W_pickt rfl rfl rfl ?_ | refine W_pickf rfl rfl rfl ?_
          refine W_move rfl rfl ?_
          refine W_gyes rfl rfl ?_
          refine W_move rfl rfl ?_
          refine W_gyes rfl rfl ?_
          refine W_load rfl ty3 rfl (Cell.own zM rfl) rfl ?_
          refine W_gyes rfl rfl ?_
          refine W_yield rfl (.cons rfl .nil) rfl (hround 0 _ H rfl hJ) ?_
          rintro v H' ⟨H1, hs, ⟨rfl, hJ1⟩ | ⟨rfl, hS⟩⟩
          · skip
            refine W_hsub hs ?_
            refine W_gyes rfl rfl ?_
            refine W_not rfl rfl ?_
            first | refine W_pickt rfl rfl rfl ?_ | refine W_pickf rfl rfl rfl ?_
            refine W_nil ?_
            refine W_condF rfl rfl ?_
            refine W_skip ?_
            refine W_seq ?_
            refine W_sr ?_
            refine W_load rfl ty4 rfl (Cell.own zM rfl) rfl ?_
            refine W_move rfl rfl ?_
            refine W_gyes rfl rfl ?_
            refine W_move rfl rfl ?_
            refine W_gyes rfl rfl ?_
            refine W_load rfl ty3 rfl (Cell.own zM rfl) rfl ?_
            refine W_gyes rfl rfl ?_
            refine W_bin rfl rfl (b_add rfl) rfl ?_
            refine W_gyes rfl rfl ?_
            refine W_yield rfl (.cons rfl .nil) rfl (hround 1 _ H1 rfl hJ1) ?_
            rintro v H' ⟨H2, hs, ⟨rfl, hJ2⟩ | ⟨rfl, hS⟩⟩
            · skip
              refine W_hsub hs ?_
              refine W_gyes rfl rfl ?_
              refine W_not rfl rfl ?_
              first | refine W_pickt rfl rfl rfl ?_ | refine W_pickf rfl rfl rfl ?_
              refine W_nil ?_
              refine W_condF rfl rfl ?_
              refine W_skip ?_
              refine W_sr ?_
              refine W_load rfl ty4 rfl (Cell.own zM rfl) rfl ?_
              refine W_move rfl rfl ?_
              refine W_gyes rfl rfl ?_
              refine W_load rfl ty4 rfl (Cell.own zM rfl) rfl ?_
              first | refine W_pickt rfl rfl rfl ?_ | refine W_pickf rfl rfl rfl ?_
              refine W_move rfl rfl ?_
              refine W_gyes rfl rfl ?_
              refine W_load rfl ty3 rfl (Cell.own zM rfl) rfl ?_
              refine W_gyes rfl rfl ?_
              refine W_load rfl ty3 rfl (Cell.own zM rfl) rfl ?_
              refine W_gyes rfl rfl ?_
              refine W_bin rfl rfl (b_add rfl) rfl ?_
              refine W_gyes rfl rfl ?_
              refine W_bin rfl rfl (b_gtr' hgt) rfl ?_
              first | refine W_pickt rfl rfl rfl ?_ | refine W_pickf rfl rfl rfl ?_
              refine W_nil ?_
              refine W_condF rfl rfl ?_
              refine W_skip ?_
              refine W_end0m Tryd.results81 (.nil _) (.refl _) ?_
              exact ⟨H2, .refl _, .inl hJ2⟩
            · skip
              refine W_hsub hs ?_
              refine W_gyes rfl rfl ?_
              refine W_not rfl rfl ?_
              first | refine W_pickt rfl rfl rfl ?_ | refine W_pickf rfl rfl rfl ?_
              refine W_nil ?_
              refine W_condT rfl rfl ?_
              refine W_ret0m Tryd.results81 (.nil _) (.refl _) ?_
              exact ⟨H2, .refl _, .inr hS⟩
          · skip
            refine W_hsub hs ?_
            refine W_gyes rfl rfl ?_
            refine W_not rfl rfl ?_
            first | refine W_pickt rfl rfl rfl ?_ | refine W_pickf rfl rfl rfl ?_
            refine W_nil ?_
            refine W_condT rfl rfl ?_
            refine W_ret0m Tryd.results81 (.nil _) (.refl _) ?_
            exact ⟨H1, .refl _, .inr hS⟩
        · skip
          refine W_seq ?_
          refine W_sr ?_
          refine W_load rfl ty4 rfl (Cell.own zM rfl) rfl ?_
          refine W_move rfl rfl ?_
          refine W_gyes rfl rfl ?_
          refine W_load rfl ty3 rfl (Cell.own zM rfl) rfl ?_
          refine W_gyes rfl rfl ?_
          refine W_load rfl ty3 rfl (Cell.own zM rfl) rfl ?_
          refine W_gyes rfl rfl ?_
          refine W_bin rfl rfl (b_leq' hle) rfl ?_
          refine W_gyes rfl rfl ?_
          refine W_move rfl rfl ?_
          refine W_gno rfl rfl rfl ?_
          refine W_gno rfl rfl rfl ?_
          refine W_gyes rfl rfl ?_
          first | refine W_pickt rfl rfl rfl ?_ | refine W_pickf rfl rfl rfl ?_
          first | refine W_pickt rfl rfl rfl ?_ | refine W_pickf rfl rfl rfl ?_
          refine W_move rfl rfl ?_
          refine W_gyes rfl rfl ?_
          refine W_move rfl rfl ?_
          refine W_gyes rfl rfl ?_
          refine W_load rfl ty3 rfl (Cell.own zM rfl) rfl ?_
          refine W_gyes rfl rfl ?_
          refine W_yield rfl (.cons rfl .nil) rfl (hround 0 _ H rfl hJ) ?_
          rintro v H' ⟨H1, hs, ⟨rfl, hJ1⟩ | ⟨rfl, hS⟩⟩
          · skip
            refine W_hsub hs ?_
            refine W_gyes rfl rfl ?_
            refine W_not rfl rfl ?_
            first | refine W_pickt rfl rfl rfl ?_ | refine W_pickf rfl rfl rfl ?_
            refine W_nil ?_
            refine W_condF rfl rfl ?_
            refine W_skip ?_
            refine W_seq ?_
            refine W_sr ?_
            refine W_load rfl ty4 rfl (Cell.own zM rfl) rfl ?_
            refine W_move rfl rfl ?_
            refine W_gyes rfl rfl ?_
            refine W_move rfl rfl ?_
            refine W_gyes rfl rfl ?_
            refine W_load rfl ty3 rfl (Cell.own zM rfl) rfl ?_
            refine W_gyes rfl rfl ?_
            refine W_bin rfl rfl (b_add rfl) rfl ?_
            refine W_gyes rfl rfl ?_
            refine W_yield rfl (.cons rfl .nil) rfl (hround 1 _ H1 rfl hJ1) ?_
            rintro v H' ⟨H2, hs, ⟨rfl, hJ2⟩ | ⟨rfl, hS⟩⟩
            · skip
              refine W_hsub hs ?_
              refine W_gyes rfl rfl ?_
              refine W_not rfl rfl ?_
              first | refine W_pickt rfl rfl rfl ?_ | refine W_pickf rfl rfl rfl ?_
              refine W_nil ?_
              refine W_condF rfl rfl ?_
              refine W_skip ?_
              refine W_sr ?_
              refine W_load rfl ty4 rfl (Cell.own zM rfl) rfl ?_
              refine W_move rfl rfl ?_
              refine W_gyes rfl rfl ?_
              refine W_load rfl ty4 rfl (Cell.own zM rfl) rfl ?_
              first | refine W_pickt rfl rfl rfl ?_ | refine W_pickf rfl rfl rfl ?_
              refine W_move rfl rfl ?_
              refine W_gyes rfl rfl ?_
              refine W_load rfl ty3 rfl (Cell.own zM rfl) rfl ?_
              refine W_gyes rfl rfl ?_
              refine W_load rfl ty3 rfl (Cell.own zM rfl) rfl ?_
              refine W_gyes rfl rfl ?_
              refine W_bin rfl rfl (b_add rfl) rfl ?_
              refine W_gyes rfl rfl ?_
              refine W_bin rfl rfl (b_gtr' hgt) rfl ?_
              first | refine W_pickt rfl rfl rfl ?_ | refine W_pickf rfl rfl rfl ?_
              refine W_nil ?_
              refine W_condT rfl rfl ?_
              refine W_region ?_
              refine W_move rfl rfl ?_
              refine W_load rfl ty3 rfl (Cell.own zM rfl) rfl ?_
              refine W_yield rfl (.cons rfl .nil) rfl (hround 2 _ H2 rfl hJ2) ?_
              rintro v H' ⟨H3, hs, ⟨rfl, hJ3⟩ | ⟨rfl, hS⟩⟩
              · skip
                refine W_hsub hs ?_
                refine W_nil ?_
                refine W_end0m Tryd.results81 (.nil _) (.refl _) ?_
                exact ⟨H3, .refl _, .inl hJ3⟩
              · skip
                refine W_hsub hs ?_
                refine W_nil ?_
                refine W_end0m Tryd.results81 (.nil _) (.refl _) ?_
                exact ⟨H3, .refl _, .inr hS⟩
            · skip
              refine W_hsub hs ?_
              refine W_gyes rfl rfl ?_
              refine W_not rfl rfl ?_
              first | refine W_pickt rfl rfl rfl ?_ | refine W_pickf rfl rfl rfl ?_
              refine W_nil ?_
              refine W_condT rfl rfl ?_
              refine W_ret0m Tryd.results81 (.nil _) (.refl _) ?_
              exact ⟨H2, .refl _, .inr hS⟩
          · skip
            refine W_hsub hs ?_
            refine W_gyes rfl rfl ?_
            refine W_not rfl rfl ?_
            first | refine W_pickt rfl rfl rfl ?_ | refine W_pickf rfl rfl rfl ?_
            refine W_nil ?_
            refine W_condT rfl rfl ?_
            refine W_ret0m Tryd.results81 (.nil _) (.refl _) ?_
            exact ⟨H1, .refl _, .inr hS⟩
end Go.Proofs.YtcmfldfeakmdoaaDoor
namespace Go.Proofs.YtcmfldfeakmdoaaDoor
open Go Go.Sl
attribute [local irreducible] W
def inB (n : Nat) (z : Int) : Bool := decide (0 ≤ z) && decide (z < (n : Int))
def nextL (l : List Ins) (at_ : Int) : List Int :=
  if at_ < 0 ∨ (l.length : Int) ≤ at_ then [] else match l[at_.toNat]? with
    | some x => (seqB x at_).filter (inB l.length)
    | none => []
theorem nextL_at {l : List Ins} {i : Nat} {x : Ins} (hi : i < l.length) (hx : l[i]? = some x) : nextL l i = (seqB x i).filter (inB l.length) := by
  unfold nextL
  rw [if_neg (by omega), Int.toNat_natCast, hx]
theorem filter_at {p : Int → Bool} {l : List Int} {i : Nat} {z : Int} (h : l[i]? = some z) : (l.take (i + 1)).filter p = (l.take i).filter p ++ (bif p z then [z] else []) := by
  rw [takeAt h, List.filter_append]; cases hp : p z <;> simp [hp]
theorem i64s_append (l r : List Int) : i64s (l ++ r) = i64s l ++ i64s r := by simp [i64s]
theorem seqOf_len (j n : Bool) (t a : Int) (le gt : Bool) : (seqOf j n t a le gt).length ≤ 3 := by cases j <;> cases n <;> cases le <;> cases gt <;> simp [seqOf]
set_option maxHeartbeats 4000000 in
theorem next_L {w0 : World} {H : Heap} (l : List Ins) (at_ : Int) {ad : Option Addr} {cap : Nat} (hat : I64 at_) (hrow : Holds w0 H ad (insRow l)) (hT : Tab w0) : LCalls Tryd.prog w0 56 #[.slice ad l.length cap, .int .i64 at_] (H) (fun v H' => ∃ HB, OwnS 3 1 v (nextL l at_).length (i64s (nextL l at_)) HB ∧ H' = HB ++ H) := by
  refine L_enter (l := [.slice ad l.length cap, .int .i64 at_]) Tryd.func56 rfl Tryd.ntmps56 rfl rfl ?_
  refine W_sr ?_
  refine W_box rfl rfl rfl (fun b2 => ?_)
  refine W_assign rfl rfl ?_
  refine W_nil ?_
  refine W_seq ?_
  refine W_sr ?_
  refine W_move rfl rfl ?_
  refine W_bin rfl rfl b_lss rfl ?_
  refine W_move rfl rfl ?_
  apply W_or
  iterate 4 exact rfl
  case h1 =>
    intro hg2
    refine W_gyes rfl rfl ?_
    refine W_move rfl rfl ?_
    refine W_gyes rfl rfl ?_
    refine W_load rfl ty24 rfl (Cell.own zM rfl) rfl ?_
    refine W_gyes rfl rfl ?_
    refine W_len rfl ty24 rfl rfl ?_
    refine W_gyes rfl rfl ?_
    refine W_bin rfl rfl b_geq rfl ?_
    exact W_met rfl zR
  refine W_nil ?_
  refine W_condPS (p := at_ < 0 ∨ (l.length : Int) ≤ at_) rfl (by simp) (fun c0 => ?_) (fun c0 => ?_)
  · skip
    refine W_sr ?_
    refine W_assign rfl rfl ?_
    refine W_nil ?_
    refine W_ret1m (H2 := H) Tryd.results56 rfl (.nil _) (by first | exact hsubI | (repeat (first | exact HSub.refl _ | refine HSub.cons zT ?_ | refine HSub.app (by repeat (first | exact TakeS.here _ | apply TakeS.next | apply TakeS.app)) ?_ | refine HSub.drop ?_ | refine HSub.dropS ?_ | exact HSub.nil _))) ?_
    have e : nextL l at_ = [] := if_pos c0
    exact ⟨[], by rw [e]; exact .nil, rfl⟩
  · skip
    refine W_skip ?_
    refine W_sr ?_
    obtain ⟨i, rfl, hi⟩ : ∃ i : Nat, at_ = (i : Int) ∧ i < l.length := ⟨at_.toNat, by omega, by omega⟩
    obtain ⟨x, hx⟩ : ∃ x, l[i]? = some x := ⟨_, List.getElem?_eq_getElem hi⟩
    obtain ⟨b, o, rfl, hc⟩ := hrow.row cells_len (by decide) hx
    refine W_alloc ty113 rfl rfl (fun b5 => ?_)
    refine W_nil ?_
    refine W_seq ?_
    refine W_sr ?_
    refine W_load rfl ty24 rfl (Cell.own zM rfl) rfl ?_
    refine W_move rfl rfl ?_
    refine W_indexAddr (j := i) rfl rfl ty24 ty59 rfl hi rfl rfl ?_
    refine W_loadA rfl ty59 rfl (vs := x.cells) rfl (hc.up (by first | exact hsubI | (repeat (first | exact HSub.refl _ | refine HSub.cons zT ?_ | refine HSub.app (by repeat (first | exact TakeS.here _ | apply TakeS.next | apply TakeS.app)) ?_ | refine HSub.drop ?_ | refine HSub.dropS ?_ | exact HSub.nil _)))) rfl ?_
    refine W_move rfl rfl ?_
    refine W_call (.cons rfl (.cons rfl .nil)) Tryd.call70 rfl (behind_L x i hT) ?_
    rintro v' H' ⟨bj, bt, ba, bn, rfl, rfl⟩
    refine W_nil ?_
    refine W_block ?_
    refine W_rangeFunc rfl Tryd.call81 ?_
    intro lp D r hst hpd hps hasg hbody hA
    have hr := loop_ready hst hpd
    show LCalls _ _ _ #[_, _, _, _, _] _ _
    refine ((behind_iter (H := (lp, .obj (.loop r)) :: (D, .obj (.deferred (some []))) :: (b5, .cells 113 1 [.slice none 0 0]) :: (b2, .cells 24 1 [.slice (some ⟨b, o, none⟩) l.length cap]) :: H) rfl rfl
      (fun j Hi => ∃ v HB, OwnS 3 1 v (((seqB x i).take j).filter (inB l.length)).length (i64s (((seqB x i).take j).filter (inB l.length))) HB ∧ Hi = (lp, .obj (.loop r)) :: (D, .obj (.deferred (some []))) :: (b5, .cells 113 1 [v]) :: (b2, .cells 24 1 [.slice (some ⟨b, o, none⟩) l.length cap]) :: (HB ++ H)) (fun _ => False) ?_ ⟨_, [], .nil, rfl⟩ hT).hsub (by first | exact hsubI | (repeat (first | exact HSub.refl _ | refine HSub.cons zT ?_ | refine HSub.app (by repeat (first | exact TakeS.here _ | apply TakeS.next | apply TakeS.app)) ?_ | refine HSub.drop ?_ | refine HSub.dropS ?_ | exact HSub.nil _)))).mono ?_
    · intro j z Hi hz hJ
      obtain ⟨v, HB, hO, rfl⟩ := hJ
      have hz : (seqB x i)[j]? = some z := hz
      have hlen : (((seqB x i).take j).filter (inB l.length)).length ≤ 3 := Nat.le_trans (List.length_filter_le _ _) (Nat.le_trans (List.length_take_le' _ _) (seqOf_len _ _ _ _ _ _))
      refine round_intro hst hpd hA hps rfl hasg rfl rfl rfl zT ?_
      refine W_region ?_
      refine W_assign rfl rfl ?_
      refine W_nil ?_
      refine W_begin hst hpd zT hbody ?_
      refine W_block ?_
      refine W_sr ?_
      refine W_move rfl rfl ?_
      refine W_bin rfl rfl b_geq rfl ?_
      refine W_move rfl rfl ?_
      apply W_and
      iterate 4 exact rfl
      case h1 =>
        intro hg2
        refine W_gyes rfl rfl ?_
        refine W_move rfl rfl ?_
        refine W_gyes rfl rfl ?_
        refine W_load rfl ty24 rfl (Cell.own zM rfl) rfl ?_
        refine W_gyes rfl rfl ?_
        refine W_len rfl ty24 rfl rfl ?_
        refine W_gyes rfl rfl ?_
        refine W_bin rfl rfl b_lss rfl ?_
        exact W_met rfl zR
      refine W_nil ?_
      refine W_condPS (p := 0 ≤ z ∧ z < (l.length : Int)) rfl (by simp) (fun c1 => ?_) (fun c1 => ?_)
      · skip
        refine W_region ?_
        refine W_load rfl ty113 rfl (Cell.own zM rfl) rfl ?_
        refine W_move rfl rfl ?_
        refine W_buildSlice ty113 ty3 (.cons rfl rfl rfl rfl rfl .nil) rfl rfl rfl rfl rfl rfl rfl (fun b32 => ?_)
        refine W_append (news := [.int .i64 z]) (m := 1) (HB := HB) (H0 := ?H0) rfl rfl ty113 ty3 rfl (by decide) hO rfl (Holds.own List.mem_cons_self) rfl (by simp only [maxLen]; omega) (by omega) ?hs rfl (fun v' HB' hO' => ?_)
        case H0 => exact (behC bj bt ba bn (jumpB x) (nextB x) (toV x i) i ++ (lp, .obj (.loop (Loop.at r .busy none))) :: (D, .obj (.deferred (some []))) :: (b5, .cells 113 1 [v]) :: (b2, .cells 24 1 [.slice (some ⟨b, o, none⟩) l.length cap]) :: H)
        case hs => exact (by first | exact hsubI | (repeat (first | exact HSub.refl _ | refine HSub.cons zT ?_ | refine HSub.app (by repeat (first | exact TakeS.here _ | apply TakeS.next | apply TakeS.app)) ?_ | refine HSub.drop ?_ | refine HSub.dropS ?_ | exact HSub.nil _)))
        obtain ⟨adv, capv, rfl, _, _⟩ := hO'.shape
        refine W_store rfl rfl ty113 rfl rfl zM rfl rfl zU ?_
        refine W_nil ?_
        refine W_blk ?_
        refine W_endround zT ?_
        rw [hr]
        have hin : inB l.length z = true := by simpa [inB] using c1
        exact ⟨_, (by first | exact hsubI | (repeat (first | exact HSub.refl _ | refine HSub.cons zT ?_ | refine HSub.app (by repeat (first | exact TakeS.here _ | apply TakeS.next | apply TakeS.app)) ?_ | refine HSub.drop ?_ | refine HSub.dropS ?_ | exact HSub.nil _))), .inl ⟨rfl, _, HB', by rw [filter_at hz, hin]; simpa [i64s_append, i64s] using hO', rfl⟩⟩
      · skip
        refine W_skip ?_
        refine W_blk ?_
        refine W_endround zT ?_
        rw [hr]
        have hin : inB l.length z = false := by rw [← Bool.not_eq_true]; simpa [inB] using c1
        exact ⟨_, (by first | exact hsubI | (repeat (first | exact HSub.refl _ | refine HSub.cons zT ?_ | refine HSub.app (by repeat (first | exact TakeS.here _ | apply TakeS.next | apply TakeS.app)) ?_ | refine HSub.drop ?_ | refine HSub.dropS ?_ | exact HSub.nil _))), .inl ⟨rfl, v, HB, by rw [filter_at hz, hin]; simpa using hO, rfl⟩⟩
    · intro _ H' hp
      obtain ⟨Hi', hs, hJS⟩ := hp
      obtain ⟨v, HB, hO, rfl⟩ := hJS.resolve_right id
      refine ⟨.ready, none, (D, .obj (.deferred (some []))) :: (b5, .cells 113 1 [v]) :: (b2, .cells 24 1 [.slice (some ⟨b, o, none⟩) l.length cap]) :: (HB ++ H), by rw [hr]; exact hs.trans (by first | exact hsubI | (repeat (first | exact HSub.refl _ | refine HSub.cons zT ?_ | refine HSub.app (by repeat (first | exact TakeS.here _ | apply TakeS.next | apply TakeS.app)) ?_ | refine HSub.drop ?_ | refine HSub.dropS ?_ | exact HSub.nil _))), by decide, ?_⟩
      show W _ _ _ _ _ _ _ _ _
      refine W_blk ?_
      refine W_sr ?_
      refine W_load rfl ty113 rfl (Cell.own zM rfl) rfl ?_
      refine W_assign rfl rfl ?_
      refine W_nil ?_
      refine W_ret1m (H2 := HB ++ H) Tryd.results56 rfl (.cons zT (.nil _)) (by first | exact hsubI | (repeat (first | exact HSub.refl _ | refine HSub.cons zT ?_ | refine HSub.app (by repeat (first | exact TakeS.here _ | apply TakeS.next | apply TakeS.app)) ?_ | refine HSub.drop ?_ | refine HSub.dropS ?_ | exact HSub.nil _))) ?_
      exact ⟨HB, by rw [nextL_at hi hx]; have h2 := hO; rw [show (seqOf (jumpB x) (nextB x) (toV x i) (IntKind.i64.wrap ((i : Int) + 1)) _ _) = seqB x i from rfl, List.take_length] at h2; exact h2, rfl⟩
end Go.Proofs.YtcmfldfeakmdoaaDoor
namespace Go.Proofs.YtcmfldfeakmdoaaDoor
open Go Go.Sl
attribute [local irreducible] W
def InsOk (l : List Ins) : Prop := ∀ x ∈ l, x.Ok
def rbehB (x : Ins) (at_ tt : Int) : Bool :=
  if x.op = 73 then false else if (decide (cls x.op = 2) && decide (IntKind.i64.wrap (IntKind.i64.wrap (tt - at_) - 1) = x.off)) = true then true else decide (x.op ≠ 32) && decide (tt = IntKind.i64.wrap (at_ + 1))
end Go.Proofs.YtcmfldfeakmdoaaDoor
namespace Go.Proofs.YtcmfldfeakmdoaaDoor
open Go Go.Sl
def stepB (E : Nat → Nat → Bool) (k : Nat) (o : List Bool) (t : Nat) : List Bool := bif o.getD k false && E k t then o.set t true else o
def rowB (E : Nat → Nat → Bool) (n : Nat) (o : List Bool) (k : Nat) : List Bool := (List.range n).foldl (stepB E k) o
def sweepB (E : Nat → Nat → Bool) (n : Nat) (o : List Bool) : List Bool := (List.range n).foldl (rowB E n) o
def roundsB (E : Nat → Nat → Bool) (n : Nat) : Nat → List Bool → List Bool
  | 0, o => o
  | r + 1, o => sweepB E n (roundsB E n r o)
def SubB (o p : List Bool) : Prop := o.length = p.length ∧ ∀ i, o.getD i false = true → p.getD i false = true
theorem SubB.refl (o : List Bool) : SubB o o := ⟨rfl, fun _ h => h⟩
theorem SubB.trans {o p q : List Bool} (h : SubB o p) (k : SubB p q) : SubB o q := ⟨h.1.trans k.1, fun i hi => k.2 i (h.2 i hi)⟩
theorem SubB.tail {a b : Bool} {o p : List Bool} (h : SubB (a :: o) (b :: p)) : (a = true → b = true) ∧ SubB o p :=
  ⟨fun ha => by have := h.2 0; simpa [ha] using this, by have := h.1; simpa using this, fun i hi => by have := h.2 (i + 1); simpa using this (by simpa using hi)⟩
theorem SubB.antisymm : ∀ {o p : List Bool}, SubB o p → SubB p o → o = p
  | [], [], _, _ => rfl
  | [], _ :: _, h, _ => by have := h.1; simp at this
  | _ :: _, [], h, _ => by have := h.1; simp at this
  | a :: o, b :: p, h, k => by
    obtain ⟨h1, h2⟩ := h.tail
    obtain ⟨k1, k2⟩ := k.tail
    rw [SubB.antisymm h2 k2]
    cases a <;> cases b <;> simp_all
def cntB : List Bool → Nat
  | [] => 0
  | b :: l => (if b = true then 1 else 0) + cntB l
theorem SubB.cnt_lt : ∀ {o p : List Bool}, SubB o p → o ≠ p → cntB o < cntB p
  | [], [], _, hne => absurd rfl hne
  | [], _ :: _, h, _ => by have := h.1; simp at this
  | _ :: _, [], h, _ => by have := h.1; simp at this
  | a :: o, b :: p, h, hne => by
    obtain ⟨h1, h2⟩ := h.tail
    by_cases e : o = p
    · subst e
      cases a <;> cases b <;> simp_all [cntB] <;> omega
    · have := h2.cnt_lt e
      simp only [cntB]
      cases a <;> cases b <;> simp_all <;> omega
theorem cnt_bound : ∀ (o : List Bool) (n : Nat), (∀ i, o.getD i false = true → i < n) → cntB o ≤ n
  | [], _, _ => Nat.zero_le _
  | b :: o, 0, h => by
    have hb : b = false := by cases b with
      | false => rfl
      | true => exact absurd (h 0 rfl) (by omega)
    subst hb
    have := cnt_bound o 0 (fun i hi => by have := h (i + 1) (by simpa using hi); omega)
    simpa [cntB] using this
  | b :: o, n + 1, h => by
    have := cnt_bound o n (fun i hi => by have := h (i + 1) (by simpa using hi); omega)
    simp only [cntB]; split <;> omega
theorem getD_set {o : List Bool} {t i : Nat} : (o.set t true).getD i false = (bif decide (i = t) && decide (t < o.length) then true else o.getD i false) := by
  simp only [List.getD, List.getElem?_set]
  by_cases h : t = i
  · subst h
    by_cases h2 : t < o.length
    · simp [h2]
    · simp [h2, List.getElem?_eq_none (Nat.le_of_not_lt h2)]
  · have : ¬ i = t := fun e => h e.symm
    simp [h, this]
theorem step_sub {E : Nat → Nat → Bool} {k t : Nat} (o : List Bool) : SubB o (stepB E k o t) := by
  unfold stepB
  cases o.getD k false && E k t with
  | false => exact .refl _
  | true => exact ⟨by simp, fun i hi => by
      show (o.set t true).getD i false = true
      rw [getD_set, hi]; cases decide (i = t) && decide (t < o.length) <;> rfl⟩
theorem fold_sub {f : List Bool → Nat → List Bool} (hf : ∀ o x, SubB o (f o x)) : ∀ (l : List Nat) (o : List Bool), SubB o (l.foldl f o)
  | [], o => .refl o
  | x :: l, o => (hf o x).trans (fold_sub hf l (f o x))
theorem fold_fix {f : List Bool → Nat → List Bool} (hf : ∀ o x, SubB o (f o x)) : ∀ (l : List Nat) (o : List Bool), l.foldl f o = o → ∀ x ∈ l, f o x = o
  | [], _, _, _, h => by cases h
  | y :: l, o, he, x, hx => by
    have h1 : SubB (f o y) o := by
      have := fold_sub hf l (f o y)
      rw [show l.foldl f (f o y) = o from he] at this
      exact this
    have h2 : f o y = o := h1.antisymm (hf o y)
    rcases List.mem_cons.1 hx with rfl | hx
    · exact h2
    · exact fold_fix hf l o (by rw [← h2]; rw [List.foldl_cons] at he; rw [he, h2]) x hx
theorem row_sub {E : Nat → Nat → Bool} {n k : Nat} (o : List Bool) : SubB o (rowB E n o k) := fold_sub (fun o _ => step_sub o) _ o
theorem sweep_sub {E : Nat → Nat → Bool} {n : Nat} (o : List Bool) : SubB o (sweepB E n o) := fold_sub (fun o _ => row_sub o) _ o
theorem closed_of_fix {E : Nat → Nat → Bool} {n : Nat} {o : List Bool} (h : sweepB E n o = o) (hl : n ≤ o.length) {k t : Nat} (hk : k < n) (ht : t < n) (hm : o.getD k false = true) (he : E k t = true) : o.getD t false = true := by
  have h1 : rowB E n o k = o := fold_fix (fun o _ => row_sub o) _ o h k (List.mem_range.2 hk)
  have h2 : stepB E k o t = o := fold_fix (fun o _ => step_sub o) _ o h1 t (List.mem_range.2 ht)
  unfold stepB at h2
  rw [hm, he] at h2
  have h3 : o.set t true = o := h2
  rw [← h3, getD_set]
  have : decide (t < o.length) = true := decide_eq_true (by omega)
  rw [this]; simp
theorem fold_sound {P : Nat → Prop} {f : List Bool → Nat → List Bool} : ∀ (l : List Nat) (o : List Bool), (∀ o, ∀ x ∈ l, (∀ i, o.getD i false = true → P i) → ∀ i, (f o x).getD i false = true → P i) → (∀ i, o.getD i false = true → P i) → ∀ i, (l.foldl f o).getD i false = true → P i
  | [], _, _, h => h
  | x :: l, o, hf, h => fold_sound l (f o x) (fun o y hy => hf o y (List.mem_cons_of_mem _ hy)) (hf o x List.mem_cons_self h)
theorem sweep_sound {E : Nat → Nat → Bool} {n : Nat} {P : Nat → Prop} (hE : ∀ k t, k < n → t < n → P k → E k t = true → P t) (o : List Bool) (h : ∀ i, o.getD i false = true → P i) : ∀ i, (sweepB E n o).getD i false = true → P i :=
  fold_sound _ _ (fun o k hk h => fold_sound _ _ (fun o t ht h i hi => by
    unfold stepB at hi
    cases hc : o.getD k false && E k t with
    | false => rw [hc] at hi; exact h i hi
    | true =>
      rw [hc] at hi
      simp only [Bool.and_eq_true] at hc
      have hi' : (o.set t true).getD i false = true := hi
      rw [getD_set] at hi'
      by_cases e : i = t
      · subst e; exact hE k i (List.mem_range.1 hk) (List.mem_range.1 ht) (h k hc.1) hc.2
      · rw [decide_eq_false e] at hi'; exact h i hi') h) h
theorem rounds_sub {E : Nat → Nat → Bool} {n : Nat} (o : List Bool) : ∀ r, SubB o (roundsB E n r o)
  | 0 => .refl o
  | r + 1 => (rounds_sub o r).trans (sweep_sub _)
theorem rounds_sound {E : Nat → Nat → Bool} {n : Nat} {P : Nat → Prop} (hE : ∀ k t, k < n → t < n → P k → E k t = true → P t) (o : List Bool) (h : ∀ i, o.getD i false = true → P i) : ∀ r i, (roundsB E n r o).getD i false = true → P i
  | 0, i, hi => h i hi
  | r + 1, i, hi => sweep_sound hE _ (rounds_sound hE o h r) i hi
theorem rounds_cnt {E : Nat → Nat → Bool} {n : Nat} (o : List Bool) (h1 : 1 ≤ cntB o) : ∀ r, sweepB E n (roundsB E n r o) = roundsB E n r o ∨ r + 1 ≤ cntB (roundsB E n r o)
  | 0 => .inr (by simpa [roundsB] using h1)
  | r + 1 => by
    rcases rounds_cnt (E := E) (n := n) o h1 r with h | h
    · left
      show sweepB E n (sweepB E n (roundsB E n r o)) = sweepB E n (roundsB E n r o)
      rw [h, h]
    · by_cases e : roundsB E n r o = sweepB E n (roundsB E n r o)
      · left
        show sweepB E n (sweepB E n (roundsB E n r o)) = sweepB E n (roundsB E n r o)
        rw [← e, ← e]
      · right
        have := (sweep_sub (E := E) (n := n) (roundsB E n r o)).cnt_lt e
        show r + 1 + 1 ≤ cntB (sweepB E n (roundsB E n r o))
        omega
theorem rounds_fix {E : Nat → Nat → Bool} {n : Nat} {o : List Bool} (h1 : 1 ≤ cntB o) (hb : ∀ i, o.getD i false = true → i < n) : sweepB E n (roundsB E n n o) = roundsB E n n o := by
  rcases rounds_cnt (E := E) (n := n) o h1 n with h | h
  · exact h
  · have := cnt_bound (roundsB E n n o) n (rounds_sound (P := fun i => i < n) (fun _ _ _ ht _ _ => ht) o hb n)
    omega
theorem rounds_len {E : Nat → Nat → Bool} {n r : Nat} {o : List Bool} : (roundsB E n r o).length = o.length := (rounds_sub o r).1.symm
theorem word_bit : ∀ (l : List Bool) (i : Nat), (wordN l).testBit i = l.getD i false
  | [], i => by simp [wordN]
  | b :: l, 0 => by
    rw [Nat.testBit_zero]
    simp only [wordN, List.getD_cons_zero]
    cases b <;> simp <;> omega
  | b :: l, i + 1 => by
    rw [Nat.testBit_succ, show wordN (b :: l) / 2 = wordN l by simp only [wordN]; split <;> omega, word_bit l i]
    simp
inductive Reach (l : List Ins) : Nat → Prop
  | zero (h : 0 < l.length) : Reach l 0
  | step {k z : Nat} (h : Reach l k) (hz : (z : Int) ∈ nextL l k) : Reach l z
theorem mem_seqOf {j n le gt : Bool} {t a z : Int} : z ∈ seqOf j n t a le gt ↔ (j = true ∧ (le = true ∨ n = false) ∧ z = t) ∨ (n = true ∧ z = a) ∨ (j = true ∧ n = true ∧ gt = true ∧ z = t) := by
  cases j <;> cases n <;> cases le <;> cases gt <;> simp [seqOf]
theorem beh_mem {x : Ins} (hx : x.Ok) {k t n : Nat} (hk : k < n) (ht : t < n) (hn : n ≤ 1000000) : rbehB x k t = true ↔ (t : Int) ∈ seqB x k := by
  have h1 := hx.off.1; have h2 := hx.off.2
  have hc : x.op = 73 → cls x.op = 4 := fun e => by rw [e]; decide
  have hj : x.op = 32 → cls x.op = 2 := fun e => by rw [e]; decide
  unfold seqB rbehB toV
  rw [mem_seqOf, iw, iw, iw, iw]
  unfold jumpB nextB
  simp only [decide_eq_true_eq, Bool.and_eq_true, Bool.and_eq_false_iff, decide_eq_false_iff_not, Decidable.not_not, ne_eq]
  by_cases h73 : x.op = 73
  · rw [if_pos h73]
    have h4 := hc h73
    refine ⟨fun h => by simp at h, ?_⟩
    rintro (⟨hj2, _⟩ | ⟨⟨h, _⟩, _⟩ | ⟨hj2, _⟩)
    · omega
    · exact absurd h73 h
    · omega
  · rw [if_neg h73]
    by_cases hjmp : cls x.op = 2 ∧ (((t : Int) - k + 9223372036854775808) % 18446744073709551616 - 9223372036854775808 - 1 + 9223372036854775808) % 18446744073709551616 - 9223372036854775808 = x.off
    · rw [if_pos hjmp]
      obtain ⟨hj2, hof⟩ := hjmp
      simp only [true_iff]
      by_cases h32 : x.op = 32
      · left; exact ⟨hj2, .inr (.inr h32), by omega⟩
      · by_cases hle : (t : Int) ≤ k
        · left; exact ⟨hj2, .inl (by omega), by omega⟩
        · by_cases hgt : (t : Int) = k + 1
          · right; left; exact ⟨⟨h73, h32⟩, by omega⟩
          · right; right; exact ⟨hj2, ⟨h73, h32⟩, by omega, by omega⟩
    · rw [if_neg hjmp]
      simp only [Bool.and_eq_true, decide_eq_true_eq]
      constructor
      · rintro ⟨h32, he⟩
        right; left
        exact ⟨⟨h73, h32⟩, by omega⟩
      · rintro (⟨hj2, _, he⟩ | ⟨⟨_, h32⟩, he⟩ | ⟨hj2, _, _, he⟩)
        · exact absurd ⟨hj2, by omega⟩ hjmp
        · exact ⟨h32, by omega⟩
        · exact absurd ⟨hj2, by omega⟩ hjmp
theorem mem_next {l : List Ins} (hl : InsOk l) {k : Nat} (hk : k < l.length) (hn : l.length ≤ 1000000) {t : Int} : t ∈ nextL l k ↔ 0 ≤ t ∧ t < (l.length : Int) ∧ ∃ x, l[k]? = some x ∧ rbehB x k t = true := by
  have hx : l[k]? = some (l[k]'hk) := List.getElem?_eq_getElem hk
  have hok := hl _ (List.mem_of_getElem? hx)
  rw [nextL_at hk hx]
  simp only [List.mem_filter, inB, Bool.and_eq_true, decide_eq_true_eq]
  constructor
  · rintro ⟨h1, h2, h3⟩
    refine ⟨h2, h3, _, hx, ?_⟩
    obtain ⟨m, rfl⟩ := Int.eq_ofNat_of_zero_le h2
    exact (beh_mem hok (n := l.length) hk (by omega) hn).2 h1
  · rintro ⟨h2, h3, x, hx', hb⟩
    have : x = l[k] := Option.some.inj (hx'.symm.trans hx)
    subst this
    obtain ⟨m, rfl⟩ := Int.eq_ofNat_of_zero_le h2
    exact ⟨(beh_mem hok (n := l.length) hk (by omega) hn).1 hb, h2, h3⟩
def edge (l : List Ins) (k t : Nat) : Bool := match l[k]? with
  | some x => rbehB x k t
  | none => false
def initB (n : Nat) : List Bool := bif decide (0 < n) then (List.replicate 64 false).set 0 true else List.replicate 64 false
def reachB (l : List Ins) : List Bool := roundsB (edge l) (min l.length 64) (min l.length 64) (initB (min l.length 64))
def reachN (l : List Ins) : Nat := wordN (reachB l)
theorem initB_len (n : Nat) : (initB n).length = 64 := by unfold initB; cases decide (0 < n) <;> simp
theorem reachB_len (l : List Ins) : (reachB l).length = 64 := by unfold reachB; rw [rounds_len, initB_len]
theorem repl_getD (n i : Nat) : (List.replicate n false).getD i false = false := by
  rw [List.getD, List.getElem?_replicate]; split <;> rfl
theorem initB_at {n i : Nat} : (initB n).getD i false = true ↔ 0 < n ∧ i = 0 := by
  unfold initB
  by_cases h : 0 < n
  · rw [decide_eq_true h]
    show ((List.replicate 64 false).set 0 true).getD i false = true ↔ _
    rw [getD_set]
    by_cases hi : i = 0
    · subst hi; simp [h]
    · simp only [hi, decide_false, Bool.false_and, cond_false, and_false, iff_false]
      rw [repl_getD]; simp
  · rw [decide_eq_false h]
    show (List.replicate 64 false).getD i false = true ↔ _
    rw [repl_getD]; simp [h]
theorem Reach.lt {l : List Ins} {k : Nat} (h : Reach l k) : k < l.length := by
  cases h with
  | zero h => exact h
  | step h hz =>
    unfold nextL at hz
    split at hz
    · cases hz
    · split at hz
      · simp only [List.mem_filter, inB, Bool.and_eq_true, decide_eq_true_eq] at hz; omega
      · cases hz
theorem reach_edge {l : List Ins} (hl : InsOk l) {n : Nat} (hn : n = min l.length 64) {k t : Nat} (hk : k < n) (ht : t < n) : edge l k t = true ↔ (t : Int) ∈ nextL (l.take 64) k := by
  have hlen : (l.take 64).length = n := by rw [List.length_take]; omega
  have hl' : InsOk (l.take 64) := fun x hx => hl x (List.mem_of_mem_take hx)
  rw [mem_next hl' (by omega) (by omega), hlen]
  unfold edge
  have e : (l.take 64)[k]? = l[k]? := by rw [List.getElem?_take_of_lt (by omega)]
  rw [e]
  have hx : l[k]? = some (l[k]'(by omega)) := List.getElem?_eq_getElem (by omega)
  rw [hx]
  constructor
  · intro h; exact ⟨by omega, by omega, _, rfl, h⟩
  · rintro ⟨_, _, x, hx', hb⟩
    cases hx'
    exact hb
theorem cnt_init {n : Nat} (h : 0 < n) : 1 ≤ cntB (initB n) := by
  unfold initB; rw [decide_eq_true h]; decide
theorem reachB_iff {l : List Ins} (hl : InsOk l) (i : Nat) : (reachB l).getD i false = true ↔ Reach (l.take 64) i := by
  have hlen : (l.take 64).length = min l.length 64 := by rw [List.length_take]; omega
  unfold reachB
  generalize hn : min l.length 64 = n at *
  constructor
  · refine rounds_sound (P := Reach (l.take 64)) (fun k t hk ht hr he => ?_) _ (fun i hi => ?_) n i
    · exact hr.step ((reach_edge hl hn.symm hk ht).1 he)
    · obtain ⟨h0, rfl⟩ := initB_at.1 hi
      exact .zero (by omega)
  · intro h
    have h0 : 0 < n := by have := h.lt; omega
    have hfix := rounds_fix (E := edge l) (n := n) (o := initB n) (cnt_init h0) (fun i hi => by have := initB_at.1 hi; omega)
    induction h with
    | zero _ => exact (rounds_sub (initB n) n).2 0 (initB_at.2 ⟨h0, rfl⟩)
    | @step k z hr hz ih =>
      have hk : k < n := by have := hr.lt; omega
      have hz2 : z < n := by have := (Reach.step hr hz).lt; omega
      exact closed_of_fix hfix (by rw [rounds_len, initB_len]; omega) hk hz2 ih ((reach_edge hl hn.symm hk hz2).2 hz)
theorem reachN_bit {l : List Ins} (hl : InsOk l) (i : Nat) : (reachN l).testBit i = true ↔ Reach (l.take 64) i := by
  unfold reachN; rw [word_bit]; exact reachB_iff hl i
theorem reachN_ok (l : List Ins) : MaskOk (reachN l) := by
  have := wordN_lt (reachB l)
  rw [reachB_len] at this
  exact this
theorem reachN_unique {l : List Ins} (hl : InsOk l) {m : Nat} (h : ∀ i, m.testBit i = true ↔ Reach (l.take 64) i) : m = reachN l :=
  Nat.eq_of_testBit_eq fun i => by
    have h1 := h i
    have h2 := reachN_bit hl i
    cases ha : m.testBit i <;> cases hb : (reachN l).testBit i <;> simp_all
end Go.Proofs.YtcmfldfeakmdoaaDoor
