/-
  Own work: contracts of functions that the statement reaches, and plain facts on what they compute; each theorem says its conditions.
-/
import Derived.Test.YtphdlpmnidiliaaGreatDoorXpT2
import Derived.Test.YtphdlpmnidiliaaGreatDoorXpS1
import Derived.Test.YtphdlpmnidiliaaGreatDoorXpT1
import Derived.Test.YtphdlpmnidiliaaGreatDoorXpS3
import Derived.Test.YtphdlpmnidiliaaGreatDoorShelf
import Derived.WalkSmall
import Derived.IntWalk
import Derived.Test.YtphdlpmnidiliaaGreatDoorXpS2
import Derived.Test.YtphdlpmnidiliaaGreatDoorXpA
set_option linter.all false
set_option linter.unusedSimpArgs false
set_option linter.unusedVariables false
namespace Go.Proofs.YtphdlpmnidiliaaGreatDoor
open Go Go.Sl
attribute [local irreducible] W
set_option maxHeartbeats 1000000 in
theorem Put_L {w0 : World} {H : Heap} {ab sb u f i : Nat} {L : List Slt} (hu : TellsA 1 L u) (hf : TellsA 0 L f) (hk : AreOk L) {s : Slt} (hfi : firstF L = some i) (hs : L[i]? = some s) {c : Cel} (hT : Tab w0) : LCalls Tryz.prog w0 71 #[.pointer (some ⟨ab, 0, none⟩), .agg (List.toArray (celC c))] ((ab, .cells 125 3 [.slice (some ⟨sb, 0, none⟩) L.length L.length, .int .u64 ((u : Nat) : Int), .int .u64 ((f : Nat) : Int)]) :: (sb, .cells 127 (L.length * 7) ((L).flatMap sltC)) :: H) (fun v H' => ∃ u' f', v = .tuple #[.agg (List.toArray (hdC s.own)), .int .i64 0] ∧ TellsA 1 (L.set i ({ s with st := 1, cel := c } : Slt)) u' ∧ TellsA 0 (L.set i ({ s with st := 1, cel := c } : Slt)) f' ∧ H' = (ab, .cells 125 3 [.slice (some ⟨sb, 0, none⟩) L.length L.length, .int .u64 ((u' : Nat) : Int), .int .u64 ((f' : Nat) : Int)]) :: (sb, .cells 127 (L.length * 7) ((L.set i ({ s with st := 1, cel := c } : Slt)).flatMap sltC)) :: H) := by
  have h0 : s.st = 0 := by
    obtain ⟨s', hs', h0, -⟩ := firstF_some hfi
    obtain rfl : s = s' := Option.some.inj (hs.symm.trans hs')
    exact h0
  have hi := (List.getElem?_eq_some_iff.1 hs).1
  have hlen := hk.len
  refine L_enter (l := [.pointer (some ⟨ab, 0, none⟩), .agg (List.toArray (celC c))]) Tryz.func71 rfl Tryz.ntmps71 rfl rfl ?_
  refine W_sr ?_
  refine W_box rfl rfl rfl (fun b3 => ?_)
  refine W_alloc (l := hdC zHd) ty29 rfl rfl (fun b4 => ?_)
  refine W_assign rfl rfl ?_
  refine W_nil ?_
  refine W_seq ?_
  refine W_sr ?_
  refine W_move rfl rfl ?_
  refine W_x (X_ptrNil rfl rfl ty74) (fun _ h => by cases h) rfl ?_
  refine W_nil ?_
  refine W_condF rfl rfl ?_
  refine W_skip ?_
  refine W_sr ?_
  refine W_move rfl rfl ?_
  refine W_nilCheck rfl rfl ?_
  refine W_fieldAddr rfl fld125_2 (by decide) rfl ?_
  refine W_load (v := .int .u64 (f : Int)) rfl ty122 rfl (Cell.own (b := ab) zM rfl) rfl ?_
  refine W_callp (.cons rfl (.cons rfl .nil)) Tryz.call97 rfl hT (next_pure (m := f) (f := 0) hf.1) ?_
  rw [show nextV f 0 = .tuple #[.int .i64 (i : Int), .bool true] from by unfold nextV; rw [next_tells hf hlen.2, hfi]]
  refine W_move rfl rfl ?_
  refine W_extract rfl rfl rfl ?_
  refine W_extract rfl rfl rfl ?_
  refine W_assign rfl rfl ?_
  refine W_assign rfl rfl ?_
  refine W_nil ?_
  refine W_seq ?_
  refine W_sr ?_
  refine W_move rfl rfl ?_
  refine W_not rfl rfl ?_
  refine W_nil ?_
  refine W_condF rfl rfl ?_
  refine W_skip ?_
  refine W_seq ?_
  refine W_cut [(0, .pointer (some ⟨ab, 0, none⟩)), (3, .pointer (some ⟨b3, 0, none⟩)), (4, .pointer (some ⟨b4, 0, none⟩)), (6, .int .i64 (i : Int))] ((ab, .cells 125 3 [.slice (some ⟨sb, 0, none⟩) L.length L.length, .int .u64 ((withL u [(i : Int)] : Nat) : Int), .int .u64 ((outL f [(i : Int)] : Nat) : Int)]) :: (sb, .cells 127 (L.length * 7) ((L).flatMap sltC)) :: (b4, .cells 29 2 (hdC zHd)) :: (b3, .cells 82 5 (celC c)) :: H) ?_ ?_
  · skip
    refine W_anyS [(ab, .cells 125 3 [.slice (some ⟨sb, 0, none⟩) L.length L.length, .int .u64 ((u : Nat) : Int), .int .u64 ((f : Nat) : Int)])] 18 (by kernel_rfl) ?_
    refine WS_take 0 (l' := #[true, false, false, false, false, false, false, false, false, false, false, false, false, false, false, false, false, false, false, false, false, false]) rfl rfl (by decide +kernel) (by decide +kernel) (by decide +kernel) (by decide +kernel) rfl (by decide +kernel) (X_move rfl) rfl ?_
    refine WS_takeP 1 (l' := #[true, true, false, false, false, false, false, false, false, false, false, false, false, false, false, false, false, false, false, false, false, false]) rfl rfl (by decide +kernel) (by decide +kernel) (by decide +kernel) rfl (by decide +kernel) (X_move rfl) rfl ?_
    refine WS_take 2 (l' := #[true, true, true, false, false, false, false, false, false, false, false, false, false, false, false, false, false, false, false, false, false, false]) rfl rfl (by decide +kernel) (by decide +kernel) (by decide +kernel) (by decide +kernel) rfl (by decide +kernel) (X_move rfl) rfl ?_
    refine WS_take 3 (l' := #[true, true, true, true, false, false, false, false, false, false, false, false, false, false, false, false, false, false, false, false, false, false]) rfl rfl (by decide +kernel) (by decide +kernel) (by decide +kernel) (by decide +kernel) rfl (by decide +kernel) (X_nilCheck rfl) rfl ?_
    refine WS_take 4 (l' := #[true, true, true, true, true, false, false, false, false, false, false, false, false, false, false, false, false, false, false, false, false, false]) rfl rfl (by decide +kernel) (by decide +kernel) (by decide +kernel) (by decide +kernel) rfl (by decide +kernel) (X_fieldAddr rfl fld125_1 (by decide)) rfl ?_
    refine WS_take 5 (l' := #[true, true, true, true, true, true, false, false, false, false, false, false, false, false, false, false, false, false, false, false, false, false]) rfl rfl (by decide +kernel) (by decide +kernel) (by decide +kernel) (by decide +kernel) rfl (by decide +kernel) (X_load (v := .int .u64 (u : Int)) rfl ty122 rfl (Cell.own (b := ab) zM rfl)) rfl ?_
    refine WS_take 6 (l' := #[true, true, true, true, true, true, true, false, false, false, false, false, false, false, false, false, false, false, false, false, false, false]) rfl rfl (by decide +kernel) (by decide +kernel) (by decide +kernel) (by decide +kernel) rfl (by decide +kernel) (X_move rfl) rfl ?_
    refine WS_takeP 9 (l' := #[true, true, true, true, true, true, true, false, false, true, false, false, false, false, false, false, false, false, false, false, false, false]) rfl rfl (by decide +kernel) (by decide +kernel) (by decide +kernel) rfl (by decide +kernel) (X_move rfl) rfl ?_
    refine WS_takeP 10 (l' := #[true, true, true, true, true, true, true, false, false, true, true, false, false, false, false, false, false, false, false, false, false, false]) rfl rfl (by decide +kernel) (by decide +kernel) (by decide +kernel) rfl (by decide +kernel) (X_nilCheck rfl) rfl ?_
    refine WS_takeP 11 (l' := #[true, true, true, true, true, true, true, false, false, true, true, true, false, false, false, false, false, false, false, false, false, false]) rfl rfl (by decide +kernel) (by decide +kernel) (by decide +kernel) rfl (by decide +kernel) (X_fieldAddr rfl fld125_2 (by decide)) rfl ?_
    refine WS_take 12 (l' := #[true, true, true, true, true, true, true, false, false, true, true, true, true, false, false, false, false, false, false, false, false, false]) rfl rfl (by decide +kernel) (by decide +kernel) (by decide +kernel) (by decide +kernel) rfl (by decide +kernel) (X_load (v := .int .u64 (f : Int)) rfl ty122 rfl (Cell.own (b := ab) zM rfl)) rfl ?_
    refine WS_takeP 13 (l' := #[true, true, true, true, true, true, true, false, false, true, true, true, true, true, false, false, false, false, false, false, false, false]) rfl rfl (by decide +kernel) (by decide +kernel) (by decide +kernel) rfl (by decide +kernel) (X_move rfl) rfl ?_
    refine WS_two 7 14 (l' := #[true, true, true, true, true, true, true, true, false, true, true, true, true, true, false, false, false, false, false, false, false, false]) (l'' := #[true, true, true, true, true, true, true, false, false, true, true, true, true, true, true, false, false, false, false, false, false, false]) zH rfl rfl (by decide +kernel) rfl rfl (by decide +kernel) (by decide +kernel) ?_ ?_
    · skip
      refine W_buildSlice (l := [.int .i64 (i : Int)]) ty113 ty3 (.cons rfl rfl rfl rfl rfl .nil) rfl rfl rfl rfl rfl rfl rfl (fun b29 => ?_)
      refine W_nil ?_
      refine WS_goal ?_
      refine WS_two 8 14 (l' := #[true, true, true, true, true, true, true, true, true, true, true, true, true, true, false, false, false, false, false, false, false, false]) (l'' := #[true, true, true, true, true, true, true, true, false, true, true, true, true, true, true, false, false, false, false, false, false, false]) zH rfl rfl (by decide +kernel) rfl rfl (by decide +kernel) (by decide +kernel) ?_ ?_
      · skip
        refine W_callq (.cons rfl (.cons rfl .nil)) Tryz.call98 rfl (with_q (m := u) (l := [(i : Int)]) (cap := 1) hu.1 (by show 1 ≤ 4611686018427387904; decide) (Holds.own (b := b29) zM)) ?_
        refine W_nil ?_
        refine WS_goal ?_
        refine WS_one 14 (l' := #[true, true, true, true, true, true, true, true, true, true, true, true, true, true, true, false, false, false, false, false, false, false]) zH rfl (by decide +kernel) rfl (by decide +kernel) ?_
        refine W_buildSlice (l := [.int .i64 (i : Int)]) ty113 ty3 (.cons rfl rfl rfl rfl rfl .nil) rfl rfl rfl rfl rfl rfl rfl (fun b36 => ?_)
        refine W_nil ?_
        refine WS_goal ?_
        refine WS_one 15 (l' := #[true, true, true, true, true, true, true, true, true, true, true, true, true, true, true, true, false, false, false, false, false, false]) zH rfl (by decide +kernel) rfl (by decide +kernel) ?_
        refine W_callq (.cons rfl (.cons rfl .nil)) Tryz.call99 rfl (out_q (m := f) (l := [(i : Int)]) (cap := 1) hf.1 (by show 1 ≤ 4611686018427387904; decide) (Holds.own (b := b36) zM)) ?_
        refine W_nil ?_
        refine WS_goal ?_
        refine WS_takeP 16 (l' := #[true, true, true, true, true, true, true, true, true, true, true, true, true, true, true, true, true, false, false, false, false, false]) rfl rfl (by decide +kernel) (by decide +kernel) (by decide +kernel) rfl (by decide +kernel) (X_nilCheck rfl) rfl ?_
        refine WS_take 17 (l' := #[true, true, true, true, true, true, true, true, true, true, true, true, true, true, true, true, true, true, false, false, false, false]) rfl rfl (by decide +kernel) (by decide +kernel) (by decide +kernel) (by decide +kernel) rfl (by decide +kernel) (X_fieldAddr rfl fld125_1 (by decide)) rfl ?_
        refine WS_last (l' := #[true, true, true, true, true, true, true, true, true, true, true, true, true, true, true, true, true, true, true, false, false, false]) zH (by decide +kernel) rfl (by decide +kernel) ?_
        refine W_store (l' := [.slice (some ⟨sb, 0, none⟩) L.length L.length, .int .u64 ((withL u [(i : Int)] : Nat) : Int), .int .u64 ((f : Nat) : Int)]) rfl rfl ty122 rfl rfl (b := ab) zM rfl rfl zU ?_
        refine W_nil ?_
        refine WC_goal ?_
        refine WC_take 19 (l' := #[true, true, true, true, true, true, true, true, true, true, true, true, true, true, true, true, true, true, true, true, false, false]) rfl (by decide +kernel) (by decide +kernel) (by decide +kernel) rfl (by decide +kernel) (X_nilCheck rfl) rfl ?_
        refine WC_take 20 (l' := #[true, true, true, true, true, true, true, true, true, true, true, true, true, true, true, true, true, true, true, true, true, false]) rfl (by decide +kernel) (by decide +kernel) (by decide +kernel) rfl (by decide +kernel) (X_fieldAddr rfl fld125_2 (by decide)) rfl ?_
        refine WC_one 21 (l' := #[true, true, true, true, true, true, true, true, true, true, true, true, true, true, true, true, true, true, true, true, true, true]) (.nil _) (by decide +kernel) rfl (by decide +kernel) ?_
        refine W_store (l' := [.slice (some ⟨sb, 0, none⟩) L.length L.length, .int .u64 ((withL u [(i : Int)] : Nat) : Int), .int .u64 ((outL f [(i : Int)] : Nat) : Int)]) rfl rfl ty122 rfl rfl (b := ab) zM rfl rfl zU ?_
        refine W_nil ?_
        refine WC_goal ?_
        refine WC_done (.nil _) (by decide +kernel) ?_
        refine W_joined (sub_cons rfl (sub_cons rfl (sub_cons rfl (sub_cons rfl (sub_nil _))))) zH
      · skip
        refine W_buildSlice (l := [.int .i64 (i : Int)]) ty113 ty3 (.cons rfl rfl rfl rfl rfl .nil) rfl rfl rfl rfl rfl rfl rfl (fun b36 => ?_)
        refine W_nil ?_
        refine WS_goal ?_
        refine WS_one 8 (l' := #[true, true, true, true, true, true, true, true, true, true, true, true, true, true, true, false, false, false, false, false, false, false]) zH rfl (by decide +kernel) rfl (by decide +kernel) ?_
        refine W_callq (.cons rfl (.cons rfl .nil)) Tryz.call98 rfl (with_q (m := u) (l := [(i : Int)]) (cap := 1) hu.1 (by show 1 ≤ 4611686018427387904; decide) (Holds.own (b := b29) zM)) ?_
        refine W_nil ?_
        refine WS_goal ?_
        refine WS_one 15 (l' := #[true, true, true, true, true, true, true, true, true, true, true, true, true, true, true, true, false, false, false, false, false, false]) zH rfl (by decide +kernel) rfl (by decide +kernel) ?_
        refine W_callq (.cons rfl (.cons rfl .nil)) Tryz.call99 rfl (out_q (m := f) (l := [(i : Int)]) (cap := 1) hf.1 (by show 1 ≤ 4611686018427387904; decide) (Holds.own (b := b36) zM)) ?_
        refine W_nil ?_
        refine WS_goal ?_
        refine WS_takeP 16 (l' := #[true, true, true, true, true, true, true, true, true, true, true, true, true, true, true, true, true, false, false, false, false, false]) rfl rfl (by decide +kernel) (by decide +kernel) (by decide +kernel) rfl (by decide +kernel) (X_nilCheck rfl) rfl ?_
        refine WS_take 17 (l' := #[true, true, true, true, true, true, true, true, true, true, true, true, true, true, true, true, true, true, false, false, false, false]) rfl rfl (by decide +kernel) (by decide +kernel) (by decide +kernel) (by decide +kernel) rfl (by decide +kernel) (X_fieldAddr rfl fld125_1 (by decide)) rfl ?_
        refine WS_last (l' := #[true, true, true, true, true, true, true, true, true, true, true, true, true, true, true, true, true, true, true, false, false, false]) zH (by decide +kernel) rfl (by decide +kernel) ?_
        refine W_store (l' := [.slice (some ⟨sb, 0, none⟩) L.length L.length, .int .u64 ((withL u [(i : Int)] : Nat) : Int), .int .u64 ((f : Nat) : Int)]) rfl rfl ty122 rfl rfl (b := ab) zM rfl rfl zU ?_
        refine W_nil ?_
        refine WC_goal ?_
        refine WC_take 19 (l' := #[true, true, true, true, true, true, true, true, true, true, true, true, true, true, true, true, true, true, true, true, false, false]) rfl (by decide +kernel) (by decide +kernel) (by decide +kernel) rfl (by decide +kernel) (X_nilCheck rfl) rfl ?_
        refine WC_take 20 (l' := #[true, true, true, true, true, true, true, true, true, true, true, true, true, true, true, true, true, true, true, true, true, false]) rfl (by decide +kernel) (by decide +kernel) (by decide +kernel) rfl (by decide +kernel) (X_fieldAddr rfl fld125_2 (by decide)) rfl ?_
        refine WC_one 21 (l' := #[true, true, true, true, true, true, true, true, true, true, true, true, true, true, true, true, true, true, true, true, true, true]) (.nil _) (by decide +kernel) rfl (by decide +kernel) ?_
        refine W_store (l' := [.slice (some ⟨sb, 0, none⟩) L.length L.length, .int .u64 ((withL u [(i : Int)] : Nat) : Int), .int .u64 ((outL f [(i : Int)] : Nat) : Int)]) rfl rfl ty122 rfl rfl (b := ab) zM rfl rfl zU ?_
        refine W_nil ?_
        refine WC_goal ?_
        refine WC_done (.nil _) (by decide +kernel) ?_
        refine W_joined (sub_cons rfl (sub_cons rfl (sub_cons rfl (sub_cons rfl (sub_nil _))))) zH
    · skip
      refine W_buildSlice (l := [.int .i64 (i : Int)]) ty113 ty3 (.cons rfl rfl rfl rfl rfl .nil) rfl rfl rfl rfl rfl rfl rfl (fun b36 => ?_)
      refine W_nil ?_
      refine WS_goal ?_
      refine WS_one 7 (l' := #[true, true, true, true, true, true, true, true, false, true, true, true, true, true, true, false, false, false, false, false, false, false]) zH rfl (by decide +kernel) rfl (by decide +kernel) ?_
      refine W_buildSlice (l := [.int .i64 (i : Int)]) ty113 ty3 (.cons rfl rfl rfl rfl rfl .nil) rfl rfl rfl rfl rfl rfl rfl (fun b29 => ?_)
      refine W_nil ?_
      refine WS_goal ?_
      refine WS_one 8 (l' := #[true, true, true, true, true, true, true, true, true, true, true, true, true, true, true, false, false, false, false, false, false, false]) zH rfl (by decide +kernel) rfl (by decide +kernel) ?_
      refine W_callq (.cons rfl (.cons rfl .nil)) Tryz.call98 rfl (with_q (m := u) (l := [(i : Int)]) (cap := 1) hu.1 (by show 1 ≤ 4611686018427387904; decide) (Holds.own (b := b29) zM)) ?_
      refine W_nil ?_
      refine WS_goal ?_
      refine WS_one 15 (l' := #[true, true, true, true, true, true, true, true, true, true, true, true, true, true, true, true, false, false, false, false, false, false]) zH rfl (by decide +kernel) rfl (by decide +kernel) ?_
      refine W_callq (.cons rfl (.cons rfl .nil)) Tryz.call99 rfl (out_q (m := f) (l := [(i : Int)]) (cap := 1) hf.1 (by show 1 ≤ 4611686018427387904; decide) (Holds.own (b := b36) zM)) ?_
      refine W_nil ?_
      refine WS_goal ?_
      refine WS_takeP 16 (l' := #[true, true, true, true, true, true, true, true, true, true, true, true, true, true, true, true, true, false, false, false, false, false]) rfl rfl (by decide +kernel) (by decide +kernel) (by decide +kernel) rfl (by decide +kernel) (X_nilCheck rfl) rfl ?_
      refine WS_take 17 (l' := #[true, true, true, true, true, true, true, true, true, true, true, true, true, true, true, true, true, true, false, false, false, false]) rfl rfl (by decide +kernel) (by decide +kernel) (by decide +kernel) (by decide +kernel) rfl (by decide +kernel) (X_fieldAddr rfl fld125_1 (by decide)) rfl ?_
      refine WS_last (l' := #[true, true, true, true, true, true, true, true, true, true, true, true, true, true, true, true, true, true, true, false, false, false]) zH (by decide +kernel) rfl (by decide +kernel) ?_
      refine W_store (l' := [.slice (some ⟨sb, 0, none⟩) L.length L.length, .int .u64 ((withL u [(i : Int)] : Nat) : Int), .int .u64 ((f : Nat) : Int)]) rfl rfl ty122 rfl rfl (b := ab) zM rfl rfl zU ?_
      refine W_nil ?_
      refine WC_goal ?_
      refine WC_take 19 (l' := #[true, true, true, true, true, true, true, true, true, true, true, true, true, true, true, true, true, true, true, true, false, false]) rfl (by decide +kernel) (by decide +kernel) (by decide +kernel) rfl (by decide +kernel) (X_nilCheck rfl) rfl ?_
      refine WC_take 20 (l' := #[true, true, true, true, true, true, true, true, true, true, true, true, true, true, true, true, true, true, true, true, true, false]) rfl (by decide +kernel) (by decide +kernel) (by decide +kernel) rfl (by decide +kernel) (X_fieldAddr rfl fld125_2 (by decide)) rfl ?_
      refine WC_one 21 (l' := #[true, true, true, true, true, true, true, true, true, true, true, true, true, true, true, true, true, true, true, true, true, true]) (.nil _) (by decide +kernel) rfl (by decide +kernel) ?_
      refine W_store (l' := [.slice (some ⟨sb, 0, none⟩) L.length L.length, .int .u64 ((withL u [(i : Int)] : Nat) : Int), .int .u64 ((outL f [(i : Int)] : Nat) : Int)]) rfl rfl ty122 rfl rfl (b := ab) zM rfl rfl zU ?_
      refine W_nil ?_
      refine WC_goal ?_
      refine WC_done (.nil _) (by decide +kernel) ?_
      refine W_joined (sub_cons rfl (sub_cons rfl (sub_cons rfl (sub_cons rfl (sub_nil _))))) zH
  refine W_seq ?_
  refine W_anyC [(ab, .cells 125 3 [.slice (some ⟨sb, 0, none⟩) L.length L.length, .int .u64 ((withL u [(i : Int)] : Nat) : Int), .int .u64 ((outL f [(i : Int)] : Nat) : Int)]), (b3, .cells 82 5 (celC c))] (by kernel_rfl) ?_
  refine WC_take 0 (l' := #[true, false, false, false, false, false, false, false, false]) rfl (by decide +kernel) (by decide +kernel) (by decide +kernel) rfl (by decide +kernel) (X_move rfl) rfl ?_
  refine WC_take 1 (l' := #[true, true, false, false, false, false, false, false, false]) rfl (by decide +kernel) (by decide +kernel) (by decide +kernel) rfl (by decide +kernel) (X_nilCheck rfl) rfl ?_
  refine WC_take 2 (l' := #[true, true, true, false, false, false, false, false, false]) rfl (by decide +kernel) (by decide +kernel) (by decide +kernel) rfl (by decide +kernel) (X_fieldAddr rfl fld125_0 (by decide)) rfl ?_
  refine WC_take 3 (l' := #[true, true, true, true, false, false, false, false, false]) rfl (by decide +kernel) (by decide +kernel) (by decide +kernel) rfl (by decide +kernel) (X_load (v := .slice (some ⟨sb, 0, none⟩) L.length L.length) rfl ty121 rfl (Cell.own (b := ab) zM rfl)) rfl ?_
  refine WC_take 4 (l' := #[true, true, true, true, true, false, false, false, false]) rfl (by decide +kernel) (by decide +kernel) (by decide +kernel) rfl (by decide +kernel) (X_move rfl) rfl ?_
  refine WC_take 5 (l' := #[true, true, true, true, true, true, false, false, false]) rfl (by decide +kernel) (by decide +kernel) (by decide +kernel) rfl (by decide +kernel) (X_loadB (vs := celC (c)) rfl ty82 rfl (b := b3) zM rfl rfl) rfl ?_
  refine WC_take 6 (l' := #[true, true, true, true, true, true, true, false, false]) rfl (by decide +kernel) (by decide +kernel) (by decide +kernel) rfl (by decide +kernel) (X_indexAddr (j := i) rfl rfl ty121 ty127 (by first | rfl | omega) (by first | decide | omega | simp) rfl) rfl ?_
  refine WC_take 7 (l' := #[true, true, true, true, true, true, true, true, false]) rfl (by decide +kernel) (by decide +kernel) (by decide +kernel) rfl (by decide +kernel) (X_fieldAddr rfl fld127_1 (by decide)) rfl ?_
  refine WC_one 8 (l' := #[true, true, true, true, true, true, true, true, true]) zH (by decide +kernel) rfl (by decide +kernel) ?_
  refine W_storeA (l' := (L.set i ({ s with cel := c } : Slt)).flatMap sltC) rfl rfl ty82 rfl rfl (b := sb) zM (by show 0 + i * 7 + 2 + 5 ≤ _; rw [rows_len sltC_len]; omega) (by rw [Nat.zero_add]; exact rows_spl (o := 2) (vs := celC c) sltC_len hs (by exact Nat.le_refl 7) rfl) zU ?_
  refine W_nil ?_
  refine WC_goal ?_
  refine WC_done zH (by decide +kernel) ?_
  refine W_sr ?_
  refine W_move rfl rfl ?_
  refine W_nilCheck rfl rfl ?_
  refine W_fieldAddr rfl fld125_0 (by decide) rfl ?_
  refine W_load (v := .slice (some ⟨sb, 0, none⟩) L.length L.length) rfl ty121 rfl (Cell.own (b := ab) zM rfl) rfl ?_
  refine W_move rfl rfl ?_
  refine W_indexAddr (j := i) rfl rfl ty121 ty127 (by first | rfl | omega) (by first | decide | omega | simp) rfl rfl ?_
  refine W_fieldAddr rfl fld127_0 (by decide) rfl ?_
  refine W_loadB (vs := hdC s.own) rfl ty29 rfl (b := sb) zM (by rw [Nat.ble_eq, rows_len sltC_len, List.length_set]; omega) (by rw [Nat.zero_add]; exact (rows_part (o := 0) (m := 2) sltC_len (x := ({ s with cel := c } : Slt)) (List.getElem?_set_self hi) (by decide))) rfl ?_
  refine W_storeA (l' := hdC s.own) rfl rfl ty29 rfl rfl (b := b4) zM (by exact Nat.le_refl 2) rfl zU ?_
  refine W_assign rfl rfl ?_
  refine W_nil ?_
  refine W_ret2G (H2 := (ab, .cells 125 3 [.slice (some ⟨sb, 0, none⟩) L.length L.length, .int .u64 ((withL u [(i : Int)] : Nat) : Int), .int .u64 ((outL f [(i : Int)] : Nat) : Int)]) :: (sb, .cells 127 (L.length * 7) ((L.set i ({ s with cel := c } : Slt)).flatMap sltC)) :: H) Tryz.results71 (.nil _) (.own (vs := hdC s.own) rfl ty29 rfl (b := b4) zM rfl) (.tmp rfl) zH ?_
  exact ⟨withL u [(i : Int)], outL f [(i : Int)], rfl, hu.with_ hlen.2 hs rfl, hf.out hlen.2 hs (by show (1 : Nat) ≠ 0; decide), by rw [rows_same (x := ({ s with cel := c } : Slt)) (y := ({ s with st := 1, cel := c } : Slt)) rfl]⟩
def zSlt : Slt := ⟨zHd, 0, zCel⟩
def newS (i : Nat) : Slt := ⟨⟨(i : Int), 1⟩, 0, zCel⟩
def newL (n k : Nat) : List Slt := (List.range n).map fun i => if i < k then newS i else zSlt
theorem newL_len (n k : Nat) : (newL n k).length = n := by unfold newL; rw [List.length_map, List.length_range]
theorem newL_at {n k i : Nat} (h : i < n) : (newL n k)[i]? = some (if i < k then newS i else zSlt) := by
  unfold newL; rw [List.getElem?_map, List.getElem?_range h]; rfl
theorem newL_set {n k : Nat} : (newL n k).set k (newS k) = newL n (k + 1) := by
  apply List.ext_getElem?
  intro j
  by_cases hj : j < n
  · by_cases e : k = j
    · subst e
      rw [List.getElem?_set_self (by rw [newL_len]; exact hj), newL_at hj, if_pos (by omega)]
    · rw [List.getElem?_set_ne e, newL_at hj, newL_at hj]
      by_cases c : j < k
      · rw [if_pos c, if_pos (by omega)]
      · rw [if_neg c, if_neg (by omega)]
  · rw [List.getElem?_eq_none (by rw [List.length_set, newL_len]; omega), List.getElem?_eq_none (by rw [newL_len]; omega)]
theorem newL_all {n : Nat} {i : Nat} {s : Slt} (h : (newL n n)[i]? = some s) : s = newS i := by
  have hi : i < n := by have := (List.getElem?_eq_some_iff.1 h).1; rwa [newL_len] at this
  rw [newL_at hi, if_pos hi] at h
  exact (Option.some.inj h).symm
theorem newL_ok {n : Nat} (h1 : 1 ≤ n) (h2 : n ≤ 64) : AreOk (newL n n) :=
  ⟨by rw [newL_len]; exact ⟨h1, h2⟩, fun i s hs => by rw [newL_all hs]; exact ⟨rfl, by show (1 : Int) ≤ 1; decide, by show (1 : Int) ≤ 255; decide⟩⟩
theorem newL_free {n : Nat} (h1 : 1 ≤ n) (h2 : n ≤ 64) : TellsA 0 (newL n n) (2 ^ n - 1) := by
  refine ⟨?_, fun i => ?_⟩
  · have : 2 ^ n ≤ 2 ^ 64 := Nat.pow_le_pow_right (by decide) h2
    omega
  · rw [Nat.testBit_two_pow_sub_one]
    by_cases hi : i < n
    · rw [newL_at hi, if_pos hi, decide_eq_true hi]; rfl
    · rw [List.getElem?_eq_none (by rw [newL_len]; omega), decide_eq_false hi]
theorem newL_used {n : Nat} : TellsA 1 (newL n n) 0 := by
  refine ⟨by decide, fun i => ?_⟩
  rw [Nat.zero_testBit]
  by_cases hi : i < n
  · rw [newL_at hi, if_pos hi]; rfl
  · rw [List.getElem?_eq_none (by rw [newL_len]; omega)]
theorem newL_zero (n : Nat) : (madeCells (Value.agg (List.toArray (sltC zSlt))).cells (n * 7)).toList = (newL n 0).flatMap sltC := by
  apply List.ext_getElem?
  intro j
  have hl : (newL n 0).length = n := newL_len n 0
  by_cases hj : j < n * 7
  · obtain ⟨q, r, hr, rfl⟩ : ∃ q r, r < 7 ∧ j = q * 7 + r := ⟨j / 7, j % 7, Nat.mod_lt _ (by decide), by omega⟩
    rw [rows_get sltC_len (newL_at (by omega)) hr, if_neg (by omega)]
    have e : ∀ (z : Array Value), (madeCells z (n * 7)).toList[q * 7 + r]? = some (z[(q * 7 + r) % z.size]!) := fun z => by
      unfold madeCells
      rw [Array.toList_map, List.getElem?_map, Array.toList_range, List.getElem?_range hj]; rfl
    rw [e]
    show some ((Value.agg (List.toArray (sltC zSlt))).cells[(q * 7 + r) % 7]!) = _
    rw [show (q * 7 + r) % 7 = r by omega]
    have hr' : r = 0 ∨ r = 1 ∨ r = 2 ∨ r = 3 ∨ r = 4 ∨ r = 5 ∨ r = 6 := by omega
    rcases hr' with rfl | rfl | rfl | rfl | rfl | rfl | rfl <;> rfl
  · rw [List.getElem?_eq_none (by rw [Array.length_toList, size_madeCells]; omega), List.getElem?_eq_none (by rw [rows_len sltC_len, newL_len]; omega)]
set_option maxHeartbeats 1000000 in
theorem NewA_L {w0 : World} {H : Heap} {n : Nat} (h1 : 1 ≤ n) (h2 : n ≤ 64)  : LCalls Tryz.prog w0 33 #[.int .i64 (n : Int)] (H) (fun v H' => ∃ ab sb, v = .tuple #[.pointer (some ⟨ab, 0, none⟩), .int .i64 0] ∧ H' = (ab, .cells 125 3 [.slice (some ⟨sb, 0, none⟩) n n, .int .u64 0, .int .u64 ((2 ^ n - 1 : Nat) : Int)]) :: (sb, .cells 127 (n * 7) ((newL n n).flatMap sltC)) :: H) := by
  refine L_enter (l := [.int .i64 (n : Int)]) Tryz.func33 rfl Tryz.ntmps33 rfl rfl ?_
  refine W_sr ?_
  refine W_assign rfl rfl ?_
  refine W_assign rfl rfl ?_
  refine W_nil ?_
  refine W_seq ?_
  refine W_sr ?_
  refine W_move rfl rfl ?_
  refine W_bin rfl rfl b_lss rfl ?_
  refine W_move rfl rfl ?_
  apply W_or
  iterate 4 exact rfl
  case h1 =>
    intro hg2
    refine W_gyes rfl rfl ?_
    refine W_move rfl rfl ?_
    refine W_gyes rfl rfl ?_
    refine W_bin rfl rfl b_gtr rfl ?_
    exact W_met rfl zR
  refine W_nil ?_
  refine W_condF rfl (by simp; omega) ?_
  refine W_skip ?_
  refine W_seq ?_
  refine W_cutX (X := (Nat × Nat)) (fun x => [(0, .int .i64 (n : Int)), (4, .pointer (some ⟨x.1, 0, none⟩))]) (fun x => (x.1, .cells 125 3 [.slice (some ⟨x.2, 0, none⟩) n n, .int .u64 0, .int .u64 ((2 ^ n - 1 : Nat) : Int)]) :: (x.2, .cells 127 (n * 7) ((newL n 0).flatMap sltC)) :: H) (fun _ => True) ?_ ?_
  · skip
    refine W_anyC [] (by kernel_rfl) ?_
    refine WC_take 0 (l' := #[true, false, false, false, false, false, false]) rfl (by decide +kernel) (by decide +kernel) (by decide +kernel) rfl (by decide +kernel) (X_move rfl) rfl ?_
    refine WC_take 2 (l' := #[true, false, true, false, false, false, false]) rfl (by decide +kernel) (by decide +kernel) (by decide +kernel) rfl (by decide +kernel) (X_move rfl) rfl ?_
    refine WC_two 1 3 (l' := #[true, true, true, false, false, false, false]) (l'' := #[true, false, true, true, false, false, false]) zH (by decide +kernel) rfl rfl (by decide +kernel) (by decide +kernel) ?_ ?_
    · skip
      refine W_makeSlice (ln := n) (cp := n) (l := (newL n 0).flatMap sltC) rfl rfl ty121 ty127 rfl rfl (Nat.le_refl _) (by omega) (by simp only [maxLen]; omega) (newL_zero n) rfl (fun sb => ?_)
      refine W_nil ?_
      refine WC_goal ?_
      refine WC_one 3 (l' := #[true, true, true, true, false, false, false]) zH (by decide +kernel) rfl (by decide +kernel) ?_
      refine W_callp (.cons rfl .nil) Tryz.call70 rfl (T := fun _ => True) trivial (full_pure h1 h2) ?_
      refine W_nil ?_
      refine WC_goal ?_
      refine WC_take 4 (l' := #[true, true, true, true, true, false, false]) rfl (by decide +kernel) (by decide +kernel) (by decide +kernel) rfl (by decide +kernel) (X_build (l := [.slice (some ⟨sb, 0, none⟩) n n, .int .u64 0, .int .u64 ((2 ^ n - 1 : Nat) : Int)]) ty125 pl125 (.cons rfl rfl rfl rfl rfl (.cons rfl rfl rfl rfl rfl .nil)) rfl rfl) rfl ?_
      refine WC_one 5 (l' := #[true, true, true, true, true, true, false]) zH (by decide +kernel) rfl (by decide +kernel) ?_
      refine W_box (l := [.slice (some ⟨sb, 0, none⟩) n n, .int .u64 0, .int .u64 ((2 ^ n - 1 : Nat) : Int)]) rfl rfl rfl (fun b17 => ?_)
      refine W_nil ?_
      refine WC_goal ?_
      refine WC_take 6 (l' := #[true, true, true, true, true, true, true]) rfl (by decide +kernel) (by decide +kernel) (by decide +kernel) rfl (by decide +kernel) (X_assign rfl) rfl ?_
      refine WC_done zH (by decide +kernel) ?_
      refine W_joinX (b17, sb) trivial (sub_cons rfl (sub_cons rfl (sub_nil _))) zH
    · skip
      refine W_callp (.cons rfl .nil) Tryz.call70 rfl (T := fun _ => True) trivial (full_pure h1 h2) ?_
      refine W_nil ?_
      refine WC_goal ?_
      refine WC_one 1 (l' := #[true, true, true, true, false, false, false]) zH (by decide +kernel) rfl (by decide +kernel) ?_
      refine W_makeSlice (ln := n) (cp := n) (l := (newL n 0).flatMap sltC) rfl rfl ty121 ty127 rfl rfl (Nat.le_refl _) (by omega) (by simp only [maxLen]; omega) (newL_zero n) rfl (fun sb => ?_)
      refine W_nil ?_
      refine WC_goal ?_
      refine WC_take 4 (l' := #[true, true, true, true, true, false, false]) rfl (by decide +kernel) (by decide +kernel) (by decide +kernel) rfl (by decide +kernel) (X_build (l := [.slice (some ⟨sb, 0, none⟩) n n, .int .u64 0, .int .u64 ((2 ^ n - 1 : Nat) : Int)]) ty125 pl125 (.cons rfl rfl rfl rfl rfl (.cons rfl rfl rfl rfl rfl .nil)) rfl rfl) rfl ?_
      refine WC_one 5 (l' := #[true, true, true, true, true, true, false]) zH (by decide +kernel) rfl (by decide +kernel) ?_
      refine W_box (l := [.slice (some ⟨sb, 0, none⟩) n n, .int .u64 0, .int .u64 ((2 ^ n - 1 : Nat) : Int)]) rfl rfl rfl (fun b17 => ?_)
      refine W_nil ?_
      refine WC_goal ?_
      refine WC_take 6 (l' := #[true, true, true, true, true, true, true]) rfl (by decide +kernel) (by decide +kernel) (by decide +kernel) rfl (by decide +kernel) (X_assign rfl) rfl ?_
      refine WC_done zH (by decide +kernel) ?_
      refine W_joinX (b17, sb) trivial (sub_cons rfl (sub_cons rfl (sub_nil _))) zH
  rintro ⟨ab, sb⟩ -
  dsimp only
  refine W_seq ?_
  refine W_sr ?_
  refine W_move rfl rfl ?_
  refine W_nilCheck rfl rfl ?_
  refine W_fieldAddr rfl fld125_0 (by decide) rfl ?_
  refine W_load (v := .slice (some ⟨sb, 0, none⟩) n n) rfl ty121 rfl (Cell.own (b := ab) zM rfl) rfl ?_
  refine W_len rfl ty121 rfl rfl ?_
  refine W_move rfl rfl ?_
  refine W_nil ?_
  refine W_block ?_
  refine W_loopC (X := Nat) [(4, _), (22, _)] (fun (k : Nat) => [(23, .int .i64 (k : Int))]) (fun _ => _) (fun (k : Nat) => (ab, .cells 125 3 [.slice (some ⟨sb, 0, none⟩) n n, .int .u64 0, .int .u64 ((2 ^ n - 1 : Nat) : Int)]) :: (sb, .cells 127 (n * 7) ((newL n k).flatMap sltC)) :: H) (fun (k : Nat) => k ≤ n) (fun (k : Nat) => n - k) 0 (Nat.zero_le _) (sub_cons rfl (sub_cons rfl (sub_nil _))) (sub_cons rfl (sub_nil _)) rfl zH ?_
  intro k hk
  simp only [List.cons_append, List.nil_append]
  refine W_sr ?_
  refine W_bin rfl rfl b_lss rfl ?_
  refine W_nil ?_
  refine W_seq ?_
  refine W_condPS (p := (k : Int) < (n : Int)) rfl (by simp) (fun q0 => ?_) (fun q0 => ?_)
  · skip
    refine W_skip ?_
    refine W_seq ?_
    refine W_block ?_
    refine W_sr ?_
    refine W_move rfl rfl ?_
    refine W_assign rfl rfl ?_
    refine W_nil ?_
    refine W_region ?_
    refine W_move rfl rfl ?_
    refine W_nilCheck rfl rfl ?_
    refine W_fieldAddr rfl fld125_0 (by decide) rfl ?_
    refine W_load (v := .slice (some ⟨sb, 0, none⟩) n n) rfl ty121 rfl (Cell.own (b := ab) zM rfl) rfl ?_
    refine W_move rfl rfl ?_
    refine W_move rfl rfl ?_
    refine W_build (l := [.int .i64 (k : Int), .int .i64 1]) ty29 pl29 (.cons rfl rfl rfl rfl rfl (.cons rfl rfl rfl rfl rfl .nil)) rfl rfl rfl ?_
    refine W_indexAddr (j := k) rfl rfl ty121 ty127 (by first | rfl | omega) (by first | decide | omega | simp) rfl rfl ?_
    refine W_fieldAddr rfl fld127_0 (by decide) rfl ?_
    refine W_storeA (l' := (newL n (k + 1)).flatMap sltC) rfl rfl ty29 rfl rfl (b := sb) zM (by show 0 + k * 7 + 0 + 2 ≤ _; rw [rows_len sltC_len, newL_len]; omega) (by rw [Nat.zero_add, ← newL_set]; exact rows_spl (o := 0) (x := zSlt) (x' := newS k) sltC_len ((newL_at (by omega)).trans (by rw [if_neg (by omega)])) (by show 0 + 2 ≤ 7; decide) rfl) zU ?_
    refine W_nil ?_
    refine W_blk ?_
    refine W_region ?_
    refine W_bin rfl rfl (b_add (m := ((k + 1 : Nat) : Int)) ((i64w (by omega)).trans (by omega))) rfl ?_
    refine W_move rfl rfl ?_
    refine W_nil ?_
    refine W_again (k + 1) (by omega) (by omega) (sub_cons rfl (sub_cons rfl (sub_cons rfl (sub_nil _)))) rfl zH
  · skip
    refine W_exit rfl ?_
    refine W_sr ?_
    refine W_move rfl rfl ?_
    refine W_assign rfl rfl ?_
    refine W_assign rfl rfl ?_
    refine W_nil ?_
    refine W_ret2m Tryz.results33 rfl rfl (.nil _) (.refl _) ?_
    obtain rfl : k = n := by omega
    exact ⟨ab, sb, rfl, rfl⟩
end Go.Proofs.YtphdlpmnidiliaaGreatDoor
namespace Go.Proofs.YtphdlpmnidiliaaGreatDoor
open Go Go.Sl
attribute [local irreducible] W
section
variable {K : Type} [DecidableEq K]
def inO (m : List K) (k : K) : Bool := m.any fun x => decide (x = k)
theorem inO_iff {m : List K} {k : K} : inO m k = true ↔ k ∈ m := by
  unfold inO
  rw [List.any_eq_true]
  exact ⟨fun ⟨x, hx, e⟩ => of_decide_eq_true e ▸ hx, fun h => ⟨k, h, decide_eq_true rfl⟩⟩
theorem inO_not {m : List K} {k : K} : inO m k = false ↔ k ∉ m := by
  rw [← inO_iff]; simp
def drop1O (m : List K) (k : K) : List K := m.filter (fun x => decide (x ≠ k))
def touch1 (m : List K) (room : Nat) (k : K) : List K × Int := if k ∉ m ∧ m.length = room then (m, 3) else (drop1O m k ++ [k], 0)
def touchL (m : List K) (room : Nat) : List K → List K × Int
  | [] => (m, 0)
  | k :: ks => if (touch1 m room k).2 = 0 then touchL (touch1 m room k).1 room ks else (m, 3)
structure OrdIs (room : Nat) (m : List K) (last : Nat) (l : Ents K) (c : Nat) (τ : K → Nat) : Prop where
  ok : MapOk l c
  keys : (l.map (·.1)).Perm m
  val : ∀ p ∈ l, p.2.1 = .int .i64 (τ p.1 : Int)
  asc : m.Pairwise (fun x y => τ x < τ y)
  bd : ∀ k ∈ m, 0 < τ k ∧ τ k ≤ last
  le : m.length ≤ room
variable {room last c : Nat} {m : List K} {l : Ents K} {τ : K → Nat}
theorem OrdIs.nodup (h : OrdIs room m last l c τ) : m.Nodup := h.keys.nodup_iff.1 h.ok.keys
theorem OrdIs.len (h : OrdIs room m last l c τ) : l.length = m.length := by have := h.keys.length_eq; simpa using this
theorem OrdIs.nil (room c : Nat) (τ : K → Nat) : OrdIs room ([] : List K) 0 [] c τ := ⟨MapOk.nil c, .nil, (fun _ h => by cases h), .nil, (fun _ h => by cases h), Nat.zero_le _⟩
theorem OrdIs.has (h : OrdIs room m last l c τ) (k : K) : mHas l k = inO m k := by
  rw [Bool.eq_iff_iff, mHas_iff, h.keys.mem_iff, inO_iff]
theorem OrdIs.get (h : OrdIs room m last l c τ) (k : K) : (mGet l k).getD (.int .i64 0) = .int .i64 (if inO m k then (τ k : Int) else 0) := by
  unfold mGet
  cases hf : l.find? (fun p => decide (k = p.1)) with
  | none =>
    have : k ∉ m := fun hm => by
      obtain ⟨p, hp, e⟩ := List.mem_map.1 (h.keys.mem_iff.2 hm)
      have := List.find?_eq_none.1 hf p hp
      exact this (decide_eq_true e.symm)
    rw [if_neg (by rw [inO_not.2 this]; simp)]; rfl
  | some p =>
    have hp := List.mem_of_find?_eq_some hf
    have e : k = p.1 := of_decide_eq_true (by simpa using List.find?_some hf)
    have hm : k ∈ m := h.keys.mem_iff.1 (e ▸ List.mem_map.2 ⟨p, hp, rfl⟩)
    rw [if_pos (inO_iff.2 hm), e]
    exact h.val p hp
theorem drop1O_not {m : List K} {k : K} (h : k ∉ m) : drop1O m k = m := by
  unfold drop1O
  rw [List.filter_eq_self]
  intro x hx
  exact decide_eq_true fun e => h (e ▸ hx)
theorem drop1O_mem {m : List K} {k x : K} : x ∈ drop1O m k ↔ x ∈ m ∧ x ≠ k := by simp [drop1O]
theorem drop1O_perm : ∀ {m : List K} {k : K}, m.Nodup → k ∈ m → m.Perm (drop1O m k ++ [k])
  | y :: m, k, hn, h => by
    have hn' := List.nodup_cons.1 hn
    by_cases e : y = k
    · subst e
      have : drop1O (y :: m) y = m := by
        unfold drop1O
        rw [List.filter_cons_of_neg (by simp)]
        exact drop1O_not hn'.1
      rw [this]
      exact (List.perm_append_singleton y m).symm
    · have : drop1O (y :: m) k = y :: drop1O m k := by
        unfold drop1O
        rw [List.filter_cons_of_pos (by simpa using e)]
      rw [this]
      have hk : k ∈ m := by rcases List.mem_cons.1 h with h | h; exact absurd h.symm e; exact h
      exact (drop1O_perm hn'.2 hk).cons y
theorem OrdIs.put (h : OrdIs room m last l c τ) (k : K) (hr : k ∈ m ∨ m.length < room) :
    OrdIs room (drop1O m k ++ [k]) (last + 1) (mPut l c k (.int .i64 ((last + 1 : Nat) : Int))) (mClk l c k) (fun x => if x = k then last + 1 else τ x) where
  ok := h.ok.put k _
  keys := by
    unfold mPut
    cases hh : mHas l k with
    | true =>
      have hm : k ∈ m := by rw [h.has] at hh; exact inO_iff.1 hh
      simp only [if_true]
      have e1 : (l.map (fun p => if k = p.1 then (p.1, Value.int .i64 ((last + 1 : Nat) : Int), p.2.2) else p)).map (·.1) = l.map (·.1) := by
        rw [List.map_map]; apply List.map_congr_left; intro p _; simp only [Function.comp]; split <;> rfl
      rw [e1]
      exact h.keys.trans (drop1O_perm h.nodup hm)
    | false =>
      have hm : k ∉ m := by rw [h.has] at hh; exact inO_not.1 hh
      simp only [Bool.false_eq_true, if_false]
      rw [drop1O_not hm, List.map_append]
      exact h.keys.append_right _
  val p hp := by
    unfold mPut at hp
    cases hh : mHas l k with
    | true =>
      rw [hh] at hp
      simp only [if_true] at hp
      obtain ⟨q, hq, rfl⟩ := List.mem_map.1 hp
      by_cases e : k = q.1
      · simp only [if_pos e, if_pos e.symm]
      · simp only [if_neg e, if_neg (fun e' => e (Eq.symm e'))]; exact h.val q hq
    | false =>
      have hm : k ∉ m := by rw [h.has] at hh; exact inO_not.1 hh
      rw [hh] at hp
      simp only [Bool.false_eq_true, if_false] at hp
      rcases List.mem_append.1 hp with hp | hp
      · have : p.1 ≠ k := fun e => hm (h.keys.mem_iff.1 (e ▸ List.mem_map.2 ⟨p, hp, rfl⟩))
        simp only [if_neg this]; exact h.val p hp
      · obtain rfl : p = (k, .int .i64 ((last + 1 : Nat) : Int), c) := by simpa using hp
        simp
  asc := by
    refine List.pairwise_append.2 ⟨?_, List.pairwise_singleton _ _, fun x hx y hy => ?_⟩
    · have h1 : (drop1O m k).Pairwise (fun x y => τ x < τ y) := h.asc.sublist List.filter_sublist
      refine List.Pairwise.imp_of_mem (fun {x y} hx hy hxy => ?_) h1
      simp only [if_neg (drop1O_mem.1 hx).2, if_neg (drop1O_mem.1 hy).2]; exact hxy
    · obtain rfl : y = k := by simpa using hy
      have hx' := drop1O_mem.1 hx
      simp only [if_neg hx'.2, if_true]
      have := (h.bd x hx'.1).2
      omega
  bd x hx := by
    rcases List.mem_append.1 hx with hx | hx
    · have hx' := drop1O_mem.1 hx
      simp only [if_neg hx'.2]
      have := h.bd x hx'.1
      omega
    · obtain rfl : x = k := by simpa using hx
      simp
  le := by
    rcases hr with hm | hm
    · rw [← (drop1O_perm h.nodup hm).length_eq]; exact h.le
    · have : (drop1O m k).length ≤ m.length := List.length_filter_le _ _
      rw [List.length_append, List.length_singleton]; omega
theorem mDel_keys (l : Ents K) (k : K) : (mDel l k).map (·.1) = drop1O (l.map (·.1)) k := by
  unfold mDel drop1O
  rw [List.filter_map]
  congr 1
  apply List.filter_congr
  intro p _
  simp only [Function.comp, ne_eq]
  congr 1
  exact propext ⟨fun h e => h e.symm, fun h e => h e.symm⟩
theorem OrdIs.del (h : OrdIs room m last l c τ) (k : K) : OrdIs room (drop1O m k) last (mDel l k) c τ where
  ok := h.ok.del k
  keys := by rw [mDel_keys]; exact h.keys.filter _
  val p hp := h.val p (List.mem_filter.1 hp).1
  asc := h.asc.sublist List.filter_sublist
  bd x hx := h.bd x (drop1O_mem.1 hx).1
  le := Nat.le_trans (List.length_filter_le _ _) h.le
theorem asc_uniqueO {τ : K → Nat} : ∀ {a b : List K}, a.Perm b → a.Pairwise (fun x y => τ x < τ y) → b.Pairwise (fun x y => τ x < τ y) → a = b
  | [], b, hp, _, _ => (List.Perm.nil_eq hp)
  | x :: a, b, hp, ha, hb => by
    cases b with
    | nil => exact absurd hp.length_eq (by simp)
    | cons y b =>
      have ha' := List.pairwise_cons.1 ha
      have hb' := List.pairwise_cons.1 hb
      have hxy : x = y := by
        rcases List.mem_cons.1 (hp.mem_iff.1 List.mem_cons_self) with h | h
        · exact h
        · rcases List.mem_cons.1 (hp.mem_iff.2 List.mem_cons_self) with h' | h'
          · exact h'.symm
          · have := hb'.1 x h; have := ha'.1 y h'; omega
      subst hxy
      rw [asc_uniqueO (List.Perm.cons_inv hp) ha'.2 hb'.2]
end
end Go.Proofs.YtphdlpmnidiliaaGreatDoor
namespace Go.Proofs.YtphdlpmnidiliaaGreatDoor
open Go Go.Sl
attribute [local irreducible] W
theorem i64wO {m : Int} (h : -9223372036854775808 ≤ m ∧ m ≤ 9223372036854775807) : IntKind.i64.wrap m = m := IntWalk.i64_in m h
theorem zE : ∀ w, (zeroValue 3).run Tryz.prog w = .ok (.int .i64 0) w := Tryz.zeroValue3
theorem gt0 {K : Type} [DecidableEq K] {room last c : Nat} {m : List K} {l : Ents K} {τ : K → Nat} {k : K} (h : OrdIs room m last l c τ) : decide ((0 : Int) < (if inO m k then (τ k : Int) else 0)) = inO m k := by
  cases hk : inO m k with
  | true => have := (h.bd k (inO_iff.1 hk)).1; exact decide_eq_true (by simpa using this)
  | false => rfl
theorem keyU : KeyKind Tryz.prog 22 (Value.int .u64) := intKeys ty22.und
set_option maxHeartbeats 1000000 in
theorem hasU_q {w0 : World} {H : Heap} {room last c bo bm : Nat} {m : List Int} {l : Ents Int} {τ : Int → Nat} (hO : OrdIs room m last l c τ) (h1 : (bo, .cells 133 3 [.int .i64 (room : Int), .int .i64 ((last : Nat) : Int), .map (some bm)]) ∈ H) (h2 : (bm, .obj (mapO (Value.int .u64) l c)) ∈ H) (k : Int)  : PureAt Tryz.prog w0 H 74 [.pointer (some ⟨bo, 0, none⟩), (Value.int .u64) k] (.bool (inO m k)) := by
  refine L_enter Tryz.func74 rfl Tryz.ntmps74 rfl rfl ?_
  refine W_sr ?_
  refine W_assign rfl rfl ?_
  refine W_nil ?_
  refine W_sr ?_
  refine W_move rfl rfl ?_
  refine W_x (X_ptrNotNil rfl rfl ty76) (fun _ h => by cases h) rfl ?_
  refine W_move rfl rfl ?_
  refine W_gyes rfl rfl ?_
  refine W_move rfl rfl ?_
  refine W_gyes rfl rfl ?_
  refine W_nilCheck rfl rfl ?_
  refine W_gyes rfl rfl ?_
  refine W_fieldAddr rfl fld133_2 (by decide) rfl ?_
  refine W_gyes rfl rfl ?_
  refine W_load rfl ty131 rfl (Cell.own h1 rfl) rfl ?_
  refine W_gyes rfl rfl ?_
  refine W_move rfl rfl ?_
  refine W_gyes rfl rfl ?_
  refine W_lookup (a := k) (zE := .int .i64 0) rfl rfl keyU ty131 zE h2 rfl ?_
  simp only [Bool.false_eq_true, if_false]
  rw [hO.get]
  refine W_gyes rfl rfl ?_
  refine W_bin rfl rfl b_gtr rfl ?_
  rw [gt0 hO]
  first | refine W_pickt rfl rfl rfl ?_ | refine W_pickf rfl rfl rfl ?_
  refine W_assign rfl rfl ?_
  refine W_nil ?_
  refine W_ret1m (H2 := H) Tryz.results74 rfl (.nil _) zH ?_
  exact ⟨rfl, rfl⟩
set_option maxHeartbeats 1000000 in
theorem newU_L {w0 : World} {H : Heap} {room : Nat} (hz : 1 ≤ room ∧ room ≤ 64)  : LCalls Tryz.prog w0 35 #[.int .i64 (room : Int)] (H) (fun v H' => ∃ bo bm, v = .tuple #[.pointer (some ⟨bo, 0, none⟩), .int .i64 0] ∧ H' = (bo, .cells 133 3 [.int .i64 (room : Int), .int .i64 ((0 : Nat) : Int), .map (some bm)]) :: (bm, .obj (mapO (Value.int .u64) [] 0)) :: H) := by
  refine L_enter (l := [.int .i64 (room : Int)]) Tryz.func35 rfl Tryz.ntmps35 rfl rfl ?_
  refine W_sr ?_
  refine W_assign rfl rfl ?_
  refine W_assign rfl rfl ?_
  refine W_nil ?_
  refine W_seq ?_
  refine W_sr ?_
  refine W_move rfl rfl ?_
  refine W_bin rfl rfl b_lss rfl ?_
  refine W_move rfl rfl ?_
  apply W_or
  iterate 4 exact rfl
  case h1 =>
    intro hg2
    refine W_gyes rfl rfl ?_
    refine W_move rfl rfl ?_
    refine W_gyes rfl rfl ?_
    refine W_bin rfl rfl b_gtr rfl ?_
    exact W_met rfl zR
  refine W_nil ?_
  refine W_condF rfl (by simp; omega) ?_
  refine W_skip ?_
  refine W_sr ?_
  refine W_move rfl rfl ?_
  refine W_makeMap (kf := (Value.int .u64)) rfl (fun b11 => ?_)
  refine W_build (l := [.int .i64 (room : Int), .int .i64 0, .map (some b11)]) ty133 pl133 (.cons rfl rfl rfl rfl rfl (.cons rfl rfl rfl rfl rfl .nil)) rfl rfl rfl ?_
  refine W_box rfl rfl rfl (fun b13 => ?_)
  refine W_assign rfl rfl ?_
  refine W_assign rfl rfl ?_
  refine W_nil ?_
  refine W_ret2m Tryz.results35 rfl rfl (.nil _) (.refl _) ?_
  exact ⟨b13, b11, rfl, rfl⟩
set_option maxHeartbeats 1000000 in
theorem dropU_L {w0 : World} {H : Heap} {room last c bo bm : Nat} {m : List Int} {l : Ents Int} {τ : Int → Nat} (hO : OrdIs room m last l c τ) (k : Int)  : LCalls Tryz.prog w0 80 #[.pointer (some ⟨bo, 0, none⟩), (Value.int .u64) k] ((bo, .cells 133 3 [.int .i64 (room : Int), .int .i64 ((last : Nat) : Int), .map (some bm)]) :: (bm, .obj (mapO (Value.int .u64) l c)) :: H) (fun v H' => ∃ l', v = .bool (inO m k) ∧ OrdIs room (drop1O m k) last l' c τ ∧ H' = (bo, .cells 133 3 [.int .i64 (room : Int), .int .i64 ((last : Nat) : Int), .map (some bm)]) :: (bm, .obj (mapO (Value.int .u64) l' c)) :: H) := by
  refine L_enter (l := [.pointer (some ⟨bo, 0, none⟩), (Value.int .u64) k]) Tryz.func80 rfl Tryz.ntmps80 rfl rfl ?_
  refine W_sr ?_
  refine W_assign rfl rfl ?_
  refine W_nil ?_
  refine W_seq ?_
  refine W_sr ?_
  refine W_move rfl rfl ?_
  refine W_move rfl rfl ?_
  refine W_callq (.cons rfl (.cons rfl .nil)) Tryz.call74 rfl (hasU_q hO List.mem_cons_self (List.mem_cons_of_mem _ List.mem_cons_self) k) ?_
  refine W_not rfl rfl ?_
  refine W_nil ?_
  refine W_condPS (p := k ∉ m) rfl (by simp [← inO_iff]) (fun c0 => ?_) (fun c0 => ?_)
  · skip
    refine W_sr ?_
    refine W_assign rfl rfl ?_
    refine W_nil ?_
    refine W_ret1m Tryz.results80 rfl (.nil _) (.refl _) ?_
    exact ⟨l, by rw [inO_not.2 c0], by rw [drop1O_not c0]; exact hO, rfl⟩
  · skip
    refine W_skip ?_
    refine W_sr ?_
    refine W_move rfl rfl ?_
    refine W_nilCheck rfl rfl ?_
    refine W_fieldAddr rfl fld133_2 (by decide) rfl ?_
    refine W_load rfl ty131 rfl (Cell.own (b := bo) zM rfl) rfl ?_
    refine W_move rfl rfl ?_
    refine W_delete (a := k) rfl rfl keyU ty131 hO.ok (.tail (.head _)) rfl ?_
    refine W_nil ?_
    refine W_sr ?_
    refine W_assign rfl rfl ?_
    refine W_nil ?_
    refine W_ret1m Tryz.results80 rfl (.nil _) (.refl _) ?_
    exact ⟨mDel l k, by rw [inO_iff.2 (Classical.not_not.1 c0)], hO.del k, rfl⟩
end Go.Proofs.YtphdlpmnidiliaaGreatDoor
namespace Go.Proofs.YtphdlpmnidiliaaGreatDoor
open Go Go.Sl
attribute [local irreducible] W
structure TS (K : Type) where
  i : Nat
  m : List K
  last : Nat
  l : Ents K
  c : Nat
  τ : K → Nat
theorem touch_step {K : Type} [DecidableEq K] {m : List K} {room i : Nat} {ks : List K} {k : K} (hk : ks[i]? = some k) (hr : k ∈ m ∨ m.length < room) (hle : m.length ≤ room) : touchL m room (ks.drop i) = touchL (drop1O m k ++ [k]) room (ks.drop (i + 1)) := by
  have hlt := (List.getElem?_eq_some_iff.1 hk).1
  have e : ks.drop i = k :: ks.drop (i + 1) := by
    rw [List.drop_eq_getElem_cons hlt]
    congr 1
    exact (List.getElem?_eq_some_iff.1 hk).2
  have e2 : touch1 m room k = (drop1O m k ++ [k], 0) := if_neg (fun h => by rcases hr with hr | hr; exact h.1 hr; omega)
  rw [e]
  show (if (touch1 m room k).2 = 0 then _ else _) = _
  rw [e2]; rfl
theorem touch_full {K : Type} [DecidableEq K] {m : List K} {room i : Nat} {ks : List K} {k : K} (hk : ks[i]? = some k) (hn : k ∉ m) (hr : m.length = room) : touchL m room (ks.drop i) = (m, 3) := by
  have hlt := (List.getElem?_eq_some_iff.1 hk).1
  have e : ks.drop i = k :: ks.drop (i + 1) := by
    rw [List.drop_eq_getElem_cons hlt]
    congr 1
    exact (List.getElem?_eq_some_iff.1 hk).2
  have e2 : touch1 m room k = (m, 3) := if_pos ⟨hn, hr⟩
  rw [e]
  show (if (touch1 m room k).2 = 0 then _ else _) = _
  rw [e2]; rfl
set_option maxHeartbeats 1000000 in
theorem touchU_L {w0 : World} {H : Heap} {room last c bo bm : Nat} {m : List Int} {l : Ents Int} {τ : Int → Nat} (hO : OrdIs room m last l c τ) {ks : List Int} {ad : Option Addr} {cap : Nat} (hbig : last + ks.length ≤ 4611686018427387904) (hrow : Holds w0 H ad (ks.map (Value.int .u64)))  : LCalls Tryz.prog w0 39 #[.pointer (some ⟨bo, 0, none⟩), .slice ad ks.length cap] ((bo, .cells 133 3 [.int .i64 (room : Int), .int .i64 ((last : Nat) : Int), .map (some bm)]) :: (bm, .obj (mapO (Value.int .u64) l c)) :: H) (fun v H' => ∃ last' l' c' τ', v = .int .i64 (touchL m room ks).2 ∧ OrdIs room (touchL m room ks).1 last' l' c' τ' ∧ last' ≤ last + ks.length ∧ H' = (bo, .cells 133 3 [.int .i64 (room : Int), .int .i64 ((last' : Nat) : Int), .map (some bm)]) :: (bm, .obj (mapO (Value.int .u64) l' c')) :: H) := by
  refine L_enter (l := [.pointer (some ⟨bo, 0, none⟩), .slice ad ks.length cap]) Tryz.func39 rfl Tryz.ntmps39 rfl rfl ?_
  refine W_sr ?_
  refine W_assign rfl rfl ?_
  refine W_nil ?_
  refine W_seq ?_
  refine W_sr ?_
  refine W_move rfl rfl ?_
  refine W_x (X_ptrNil rfl rfl ty76) (fun _ h => by cases h) rfl ?_
  refine W_nil ?_
  refine W_condF rfl rfl ?_
  refine W_skip ?_
  refine W_seq ?_
  refine W_sr ?_
  refine W_move rfl rfl ?_
  refine W_len rfl ty42 rfl rfl ?_
  refine W_move rfl rfl ?_
  refine W_nil ?_
  refine W_block ?_
  refine W_loopC (X := (TS Int)) [(0, _), (9, _), (10, _)] (fun (x : (TS Int)) => [(11, .int .i64 (x.i : Int))]) (fun _ => _) (fun (x : (TS Int)) => (bo, .cells 133 3 [.int .i64 (room : Int), .int .i64 ((x.last : Nat) : Int), .map (some bm)]) :: (bm, .obj (mapO (Value.int .u64) x.l x.c)) :: H) (fun (x : (TS Int)) => x.i ≤ ks.length ∧ OrdIs room x.m x.last x.l x.c x.τ ∧ x.last ≤ last + x.i ∧ touchL m room ks = touchL x.m room (ks.drop x.i)) (fun (x : (TS Int)) => ks.length - x.i) ⟨0, m, last, l, c, τ⟩ ⟨Nat.zero_le _, hO, Nat.le_refl _, rfl⟩ (sub_cons rfl (sub_cons rfl (sub_cons rfl (sub_nil _)))) (sub_cons rfl (sub_nil _)) rfl zH ?_
  rintro ⟨i, m1, last1, l1, c1, τ1⟩ ⟨hi, hO1, hl1, ht1⟩
  dsimp only at hi hO1 hl1 ht1 ⊢
  simp only [List.cons_append, List.nil_append]
  refine W_sr ?_
  refine W_bin rfl rfl b_lss rfl ?_
  refine W_nil ?_
  refine W_seq ?_
  refine W_condPS (p := (i : Int) < (ks.length : Int)) rfl (by simp) (fun q0 => ?_) (fun q0 => ?_)
  · skip
    refine W_skip ?_
    refine W_seq ?_
    refine W_block ?_
    refine W_sr ?_
    obtain ⟨k, hk⟩ : ∃ k, ks[i]? = some k := ⟨_, List.getElem?_eq_getElem (by omega)⟩
    obtain ⟨q0, p0, rfl, hck⟩ := hrow.at (i := i) (v := (Value.int .u64) k) (by rw [List.getElem?_map, hk]; rfl)
    refine W_indexAddr (j := i) rfl rfl ty42 ty22 rfl (by omega) rfl rfl ?_
    refine W_load (v := (Value.int .u64) k) rfl ty22 rfl (by rw [Nat.mul_one]; exact hck.up zH) rfl ?_
    refine W_assign rfl rfl ?_
    refine W_nil ?_
    refine W_seq ?_
    refine W_seq ?_
    rcases hin : inO m1 k with _ | _
    · skip
      refine W_quiet (by kernel_rfl) (by decide +kernel) ?_
      refine WQ_x (X_move rfl) rfl ?_
      refine WQ_x (X_move rfl) rfl ?_
      refine WQ_callq (.cons rfl (.cons rfl .nil)) Tryz.call74 rfl (hasU_q (bm := bm) hO1 zM zM k) ?_
      rw [hin]
      refine WQ_x (X_not rfl) rfl ?_
      refine WQ_x (X_move rfl) rfl ?_
      refine WQ_gyes rfl rfl ?_
      refine WQ_x (X_move rfl) rfl ?_
      refine WQ_gyes rfl rfl ?_
      refine WQ_x (X_nilCheck rfl) rfl ?_
      refine WQ_gyes rfl rfl ?_
      refine WQ_x (X_fieldAddr rfl fld133_2 (by decide)) rfl ?_
      refine WQ_gyes rfl rfl ?_
      refine WQ_x (X_load rfl ty131 rfl (Cell.own (b := bo) zM rfl)) rfl ?_
      refine WQ_gyes rfl rfl ?_
      refine WQ_x (X_lenMap rfl ty131 (kf := (Value.int .u64)) (l := l1) (cl := c1) (b := bm) zM) rfl ?_
      rw [hO1.len]
      refine WQ_gyes rfl rfl ?_
      refine WQ_x (X_move rfl) rfl ?_
      refine WQ_gyes rfl rfl ?_
      refine WQ_x (X_nilCheck rfl) rfl ?_
      refine WQ_gyes rfl rfl ?_
      refine WQ_x (X_fieldAddr rfl fld133_0 (by decide)) rfl ?_
      refine WQ_gyes rfl rfl ?_
      refine WQ_x (X_load rfl ty3 rfl (Cell.own (b := bo) zM rfl)) rfl ?_
      refine WQ_gyes rfl rfl ?_
      refine WQ_x (X_bin rfl rfl b_eql) rfl ?_
      first | refine WQ_x (X_pickt rfl rfl) rfl ?_ | refine WQ_x (X_pickf rfl rfl) rfl ?_
      refine WQ_nil ?_
      refine W_condPS (p := m1.length = room) rfl (by simp; omega) (fun q1 => ?_) (fun q1 => ?_)
      · skip
        refine W_sr ?_
        refine W_assign rfl rfl ?_
        refine W_nil ?_
        refine W_ret1m Tryz.results39 rfl (.nil _) (.refl _) ?_
        exact ⟨last1, l1, c1, τ1, by rw [ht1, touch_full hk (inO_not.1 hin) q1], by rw [ht1, touch_full hk (inO_not.1 hin) q1]; exact hO1, by omega, rfl⟩
      · skip
        refine W_skip ?_
        refine W_sr ?_
        have hroom : k ∈ m1 ∨ m1.length < room := by
          right
          have := hO1.le
          omega
        refine W_move rfl rfl ?_
        refine W_nilCheck rfl rfl ?_
        refine W_fieldAddr rfl fld133_1 (by decide) rfl ?_
        refine W_load rfl ty3 rfl (Cell.own (b := bo) zM rfl) rfl ?_
        refine W_bin rfl rfl (b_add (m := ((last1 + 1 : Nat) : Int)) ((i64wO (by omega)).trans (by omega))) rfl ?_
        refine W_nilCheck rfl rfl ?_
        refine W_fieldAddr rfl fld133_1 (by decide) rfl ?_
        refine W_store (l' := [.int .i64 (room : Int), .int .i64 ((last1 + 1 : Nat) : Int), .map (some bm)]) rfl rfl ty3 rfl rfl (b := bo) zM rfl rfl zU ?_
        refine W_nil ?_
        refine W_anyC ((bo, .cells 133 3 [.int .i64 (room : Int), .int .i64 ((last1 + 1 : Nat) : Int), .map (some bm)]) :: H) (by kernel_rfl) ?_
        refine WC_take 0 (l' := #[true, false, false, false, false, false, false, false, false, false]) rfl (by decide +kernel) (by decide +kernel) (by decide +kernel) rfl (by decide +kernel) (X_move rfl) rfl ?_
        refine WC_take 1 (l' := #[true, true, false, false, false, false, false, false, false, false]) rfl (by decide +kernel) (by decide +kernel) (by decide +kernel) rfl (by decide +kernel) (X_nilCheck rfl) rfl ?_
        refine WC_take 2 (l' := #[true, true, true, false, false, false, false, false, false, false]) rfl (by decide +kernel) (by decide +kernel) (by decide +kernel) rfl (by decide +kernel) (X_fieldAddr rfl fld133_2 (by decide)) rfl ?_
        refine WC_take 3 (l' := #[true, true, true, true, false, false, false, false, false, false]) rfl (by decide +kernel) (by decide +kernel) (by decide +kernel) rfl (by decide +kernel) (X_load rfl ty131 rfl (Cell.own (b := bo) zM rfl)) rfl ?_
        refine WC_take 4 (l' := #[true, true, true, true, true, false, false, false, false, false]) rfl (by decide +kernel) (by decide +kernel) (by decide +kernel) rfl (by decide +kernel) (X_move rfl) rfl ?_
        refine WC_take 5 (l' := #[true, true, true, true, true, true, false, false, false, false]) rfl (by decide +kernel) (by decide +kernel) (by decide +kernel) rfl (by decide +kernel) (X_move rfl) rfl ?_
        refine WC_take 6 (l' := #[true, true, true, true, true, true, true, false, false, false]) rfl (by decide +kernel) (by decide +kernel) (by decide +kernel) rfl (by decide +kernel) (X_nilCheck rfl) rfl ?_
        refine WC_take 7 (l' := #[true, true, true, true, true, true, true, true, false, false]) rfl (by decide +kernel) (by decide +kernel) (by decide +kernel) rfl (by decide +kernel) (X_fieldAddr rfl fld133_1 (by decide)) rfl ?_
        refine WC_take 8 (l' := #[true, true, true, true, true, true, true, true, true, false]) rfl (by decide +kernel) (by decide +kernel) (by decide +kernel) rfl (by decide +kernel) (X_load rfl ty3 rfl (Cell.own (b := bo) zM rfl)) rfl ?_
        refine WC_one 9 (l' := #[true, true, true, true, true, true, true, true, true, true]) zH (by decide +kernel) rfl (by decide +kernel) ?_
        refine W_mapUpdate (a := k) rfl rfl rfl keyU ty131 hO1.ok zU ?_
        refine W_nil ?_
        refine WC_goal ?_
        refine WC_done zH (by decide +kernel) ?_
        refine W_blk ?_
        refine W_region ?_
        refine W_bin rfl rfl (b_add (m := ((i + 1 : Nat) : Int)) ((i64wO (by omega)).trans (by omega))) rfl ?_
        refine W_move rfl rfl ?_
        refine W_nil ?_
        refine W_again ⟨i + 1, drop1O m1 k ++ [k], last1 + 1, mPut l1 c1 k (.int .i64 ((last1 + 1 : Nat) : Int)), mClk l1 c1 k, fun x => if x = k then last1 + 1 else τ1 x⟩ ⟨by show i + 1 ≤ ks.length; omega, hO1.put k hroom, by show last1 + 1 ≤ last + (i + 1); omega, ht1.trans (touch_step hk hroom hO1.le)⟩ (by show ks.length - (i + 1) < ks.length - i; omega) (sub_cons rfl (sub_cons rfl (sub_cons rfl (sub_cons rfl (sub_nil _))))) rfl zH
    · skip
      refine W_quiet (by kernel_rfl) (by decide +kernel) ?_
      refine WQ_x (X_move rfl) rfl ?_
      refine WQ_x (X_move rfl) rfl ?_
      refine WQ_callq (.cons rfl (.cons rfl .nil)) Tryz.call74 rfl (hasU_q (bm := bm) hO1 zM zM k) ?_
      rw [hin]
      refine WQ_x (X_not rfl) rfl ?_
      refine WQ_x (X_move rfl) rfl ?_
      refine WQ_gno rfl rfl rfl rfl ?_
      refine WQ_gno rfl rfl rfl rfl ?_
      refine WQ_gno rfl rfl rfl rfl ?_
      refine WQ_gno rfl rfl rfl rfl ?_
      refine WQ_gno rfl rfl rfl rfl ?_
      refine WQ_gno rfl rfl rfl rfl ?_
      refine WQ_gno rfl rfl rfl rfl ?_
      refine WQ_gno rfl rfl rfl rfl ?_
      refine WQ_gno rfl rfl rfl rfl ?_
      refine WQ_gno rfl rfl rfl rfl ?_
      first | refine WQ_x (X_pickt rfl rfl) rfl ?_ | refine WQ_x (X_pickf rfl rfl) rfl ?_
      refine WQ_nil ?_
      refine W_condF rfl rfl ?_
      refine W_skip ?_
      refine W_sr ?_
      have hroom : k ∈ m1 ∨ m1.length < room := .inl (inO_iff.1 hin)
      refine W_move rfl rfl ?_
      refine W_nilCheck rfl rfl ?_
      refine W_fieldAddr rfl fld133_1 (by decide) rfl ?_
      refine W_load rfl ty3 rfl (Cell.own (b := bo) zM rfl) rfl ?_
      refine W_bin rfl rfl (b_add (m := ((last1 + 1 : Nat) : Int)) ((i64wO (by omega)).trans (by omega))) rfl ?_
      refine W_nilCheck rfl rfl ?_
      refine W_fieldAddr rfl fld133_1 (by decide) rfl ?_
      refine W_store (l' := [.int .i64 (room : Int), .int .i64 ((last1 + 1 : Nat) : Int), .map (some bm)]) rfl rfl ty3 rfl rfl (b := bo) zM rfl rfl zU ?_
      refine W_nil ?_
      refine W_anyC ((bo, .cells 133 3 [.int .i64 (room : Int), .int .i64 ((last1 + 1 : Nat) : Int), .map (some bm)]) :: H) (by kernel_rfl) ?_
      refine WC_take 0 (l' := #[true, false, false, false, false, false, false, false, false, false]) rfl (by decide +kernel) (by decide +kernel) (by decide +kernel) rfl (by decide +kernel) (X_move rfl) rfl ?_
      refine WC_take 1 (l' := #[true, true, false, false, false, false, false, false, false, false]) rfl (by decide +kernel) (by decide +kernel) (by decide +kernel) rfl (by decide +kernel) (X_nilCheck rfl) rfl ?_
      refine WC_take 2 (l' := #[true, true, true, false, false, false, false, false, false, false]) rfl (by decide +kernel) (by decide +kernel) (by decide +kernel) rfl (by decide +kernel) (X_fieldAddr rfl fld133_2 (by decide)) rfl ?_
      refine WC_take 3 (l' := #[true, true, true, true, false, false, false, false, false, false]) rfl (by decide +kernel) (by decide +kernel) (by decide +kernel) rfl (by decide +kernel) (X_load rfl ty131 rfl (Cell.own (b := bo) zM rfl)) rfl ?_
      refine WC_take 4 (l' := #[true, true, true, true, true, false, false, false, false, false]) rfl (by decide +kernel) (by decide +kernel) (by decide +kernel) rfl (by decide +kernel) (X_move rfl) rfl ?_
      refine WC_take 5 (l' := #[true, true, true, true, true, true, false, false, false, false]) rfl (by decide +kernel) (by decide +kernel) (by decide +kernel) rfl (by decide +kernel) (X_move rfl) rfl ?_
      refine WC_take 6 (l' := #[true, true, true, true, true, true, true, false, false, false]) rfl (by decide +kernel) (by decide +kernel) (by decide +kernel) rfl (by decide +kernel) (X_nilCheck rfl) rfl ?_
      refine WC_take 7 (l' := #[true, true, true, true, true, true, true, true, false, false]) rfl (by decide +kernel) (by decide +kernel) (by decide +kernel) rfl (by decide +kernel) (X_fieldAddr rfl fld133_1 (by decide)) rfl ?_
      refine WC_take 8 (l' := #[true, true, true, true, true, true, true, true, true, false]) rfl (by decide +kernel) (by decide +kernel) (by decide +kernel) rfl (by decide +kernel) (X_load rfl ty3 rfl (Cell.own (b := bo) zM rfl)) rfl ?_
      refine WC_one 9 (l' := #[true, true, true, true, true, true, true, true, true, true]) zH (by decide +kernel) rfl (by decide +kernel) ?_
      refine W_mapUpdate (a := k) rfl rfl rfl keyU ty131 hO1.ok zU ?_
      refine W_nil ?_
      refine WC_goal ?_
      refine WC_done zH (by decide +kernel) ?_
      refine W_blk ?_
      refine W_region ?_
      refine W_bin rfl rfl (b_add (m := ((i + 1 : Nat) : Int)) ((i64wO (by omega)).trans (by omega))) rfl ?_
      refine W_move rfl rfl ?_
      refine W_nil ?_
      refine W_again ⟨i + 1, drop1O m1 k ++ [k], last1 + 1, mPut l1 c1 k (.int .i64 ((last1 + 1 : Nat) : Int)), mClk l1 c1 k, fun x => if x = k then last1 + 1 else τ1 x⟩ ⟨by show i + 1 ≤ ks.length; omega, hO1.put k hroom, by show last1 + 1 ≤ last + (i + 1); omega, ht1.trans (touch_step hk hroom hO1.le)⟩ (by show ks.length - (i + 1) < ks.length - i; omega) (sub_cons rfl (sub_cons rfl (sub_cons rfl (sub_cons rfl (sub_nil _))))) rfl zH
  · skip
    refine W_exit rfl ?_
    refine W_sr ?_
    refine W_assign rfl rfl ?_
    refine W_nil ?_
    refine W_ret1m Tryz.results39 rfl (.nil _) (.refl _) ?_
    obtain rfl : i = ks.length := by omega
    rw [List.drop_length] at ht1
    exact ⟨last1, l1, c1, τ1, by rw [ht1]; rfl, by rw [ht1]; exact hO1, by omega, rfl⟩
end Go.Proofs.YtphdlpmnidiliaaGreatDoor
namespace Go.Proofs.YtphdlpmnidiliaaGreatDoor
open Go Go.Sl
attribute [local irreducible] W
def kv {K : Type} [DecidableEq K] (m : List K) (τ : K → Nat) (x : K) : Int := if inO m x then (τ x : Int) else 0
theorem kv_in {K : Type} [DecidableEq K] {m : List K} {τ : K → Nat} {x : K} (h : x ∈ m) : kv m τ x = τ x := by unfold kv; rw [if_pos (inO_iff.2 h)]
theorem asc_injO {K : Type} {m : List K} {τ : K → Nat} (h : m.Pairwise (fun x y => τ x < τ y)) {x y : K} (hx : x ∈ m) (hy : y ∈ m) (e : τ x = τ y) : x = y := by
  obtain ⟨i, hi, rfl⟩ := List.getElem_of_mem hx
  obtain ⟨j, hj, rfl⟩ := List.getElem_of_mem hy
  have hp := List.pairwise_iff_getElem.1 h
  rcases Nat.lt_trichotomy i j with hij | rfl | hij
  · have := hp i j hi hj hij; omega
  · rfl
  · have := hp j i hj hi hij; omega
open Go.Proofs in
theorem sorted_isO {K : Type} [DecidableEq K] {m d : List K} {τ : K → Nat} (hp : d.Perm m) (hn : m.Nodup) (h : m.Pairwise (fun x y => τ x < τ y))
    (hs : ∀ (i j : Nat) x y, i < j → d[i]? = some x → d[j]? = some y → ltOf (fun x y => Lib.compareInt (kv m τ x) (kv m τ y)) y x = false) : d = m := by
  refine asc_uniqueO hp (List.pairwise_iff_getElem.2 fun i j hi hj hij => ?_) h
  have h1 := lt_key _ (hs i j _ _ hij (List.getElem?_eq_getElem hi) (List.getElem?_eq_getElem hj))
  have mi : d[i] ∈ m := hp.mem_iff.1 (List.getElem_mem hi)
  have mj : d[j] ∈ m := hp.mem_iff.1 (List.getElem_mem hj)
  rw [kv_in mi, kv_in mj] at h1
  have hne : τ d[i] ≠ τ d[j] := fun e => by
    have := asc_injO h mi mj e
    exact (List.pairwise_iff_getElem.1 (hp.nodup_iff.2 hn)) i j hi hj hij this
  omega
theorem cmpU_reads {room last c bo bm b2 : Nat} {m : List Int} {l : Ents Int} {τ : Int → Nat} (hO : OrdIs room m last l c τ) {w0 : World} {H : Heap} {C : World → Prop} (hC : ∀ w, C w → C w.drew) (hCS : ∀ w, C w → Sat w0 ((b2, .cells 76 1 [.pointer (some ⟨bo, 0, none⟩)]) :: (bo, .cells 133 3 [.int .i64 (room : Int), .int .i64 ((last : Nat) : Int), .map (some bm)]) :: (bm, .obj (mapO (Value.int .u64) l c)) :: H) w) (x y : Int) :
    ∀ w, C w → CallsIn Fence.wide 0 Tryz.prog 103 [(Value.int .u64) x, (Value.int .u64) y, .pointer (some ⟨b2, 0, none⟩)].toArray w fun e w' => e = .returned (.int .i64 (Lib.compareInt (kv m τ x) (kv m τ y))) ∧ C w' := by
  refine R_enter Tryz.func103 rfl Tryz.ntmps103 rfl rfl rfl (by kernel_rfl) (by decide +kernel) hC ?_
  refine WR_x (Ex.mono hCS (X_load rfl ty76 rfl (Cell.own (b := b2) zM rfl))) rfl ?_
  refine WR_x (Ex.mono hCS (X_nilCheck rfl)) rfl ?_
  refine WR_x (Ex.mono hCS (X_fieldAddr rfl fld133_2 (by decide))) rfl ?_
  refine WR_x (Ex.mono hCS (X_load rfl ty131 rfl (Cell.own (b := bo) zM rfl))) rfl ?_
  refine WR_x (Ex.mono hCS (X_move rfl)) rfl ?_
  refine WR_x (Ex.mono hCS (X_lookup (a := x) (kf := (Value.int .u64)) (l := l) (cl := c) (b := bm) (zE := .int .i64 0) rfl rfl keyU ty131 zE zM)) rfl ?_
  simp only [Bool.false_eq_true, if_false]
  rw [hO.get]
  refine WR_x (Ex.mono hCS (X_load rfl ty76 rfl (Cell.own (b := b2) zM rfl))) rfl ?_
  refine WR_x (Ex.mono hCS (X_nilCheck rfl)) rfl ?_
  refine WR_x (Ex.mono hCS (X_fieldAddr rfl fld133_2 (by decide))) rfl ?_
  refine WR_x (Ex.mono hCS (X_load rfl ty131 rfl (Cell.own (b := bo) zM rfl))) rfl ?_
  refine WR_x (Ex.mono hCS (X_move rfl)) rfl ?_
  refine WR_x (Ex.mono hCS (X_lookup (a := y) (kf := (Value.int .u64)) (l := l) (cl := c) (b := bm) (zE := .int .i64 0) rfl rfl keyU ty131 zE zM)) rfl ?_
  simp only [Bool.false_eq_true, if_false]
  rw [hO.get]
  refine WR_call (.cons rfl (.cons rfl .nil)) Tryz.call104 rfl (fun w _ => Tryz.cmp_Compare_int (kv m τ x) (kv m τ y) w) ?_
  refine WR_x (Ex.mono hCS (X_assign rfl)) rfl ?_
  exact WR_ret Tryz.results103 rfl
open Go.Proofs in
theorem sortU_L {room last c bo bm b2 : Nat} {m : List Int} {l : Ents Int} {τ : Int → Nat} (hO : OrdIs room m last l c τ) {w0 : World} {H : Heap} {b tot cap : Nat} {d : List Int} (hd : d.length < 4611686018427387904) :
    LCalls Tryz.prog w0 102 #[.slice (some ⟨b, 0, none⟩) d.length cap, .func (.func 103) #[] #[.pointer (some ⟨b2, 0, none⟩)]] ((b, .cells 22 tot (d.map (Value.int .u64))) :: (b2, .cells 76 1 [.pointer (some ⟨bo, 0, none⟩)]) :: (bo, .cells 133 3 [.int .i64 (room : Int), .int .i64 ((last : Nat) : Int), .map (some bm)]) :: (bm, .obj (mapO (Value.int .u64) l c)) :: H)
      (fun v H' => v = .tuple #[] ∧ ∃ d' : List Int, d'.Perm d ∧ (∀ (i j : Nat) x y, i < j → d'[i]? = some x → d'[j]? = some y → ltOf (fun x y => Lib.compareInt (kv m τ x) (kv m τ y)) y x = false) ∧ H' = (b, .cells 22 tot (d'.map (Value.int .u64))) :: (b2, .cells 76 1 [.pointer (some ⟨bo, 0, none⟩)]) :: (bo, .cells 133 3 [.int .i64 (room : Int), .int .i64 ((last : Nat) : Int), .map (some bm)]) :: (bm, .obj (mapO (Value.int .u64) l c)) :: H) :=
  L_sort fun w hs => by
    have hlt : b < w.heap.size := (hs.own _ List.mem_cons_self).2.lt
    have := Tryz.slices_SortFunc (Value.int .u64) (fun _ => rfl) (fun x y => Lib.compareInt (kv m τ x) (kv m τ y)) (swo_key (kv m τ)) 103 #[.pointer (some ⟨b2, 0, none⟩)] b 0 cap d.toArray w Tryz.call103 (Go.Proofs.CmpReads.lays fun n os dk hdk x y => by
      have hsz : dk.size = d.length := by rw [hdk]; simp
      have hS : Sat w0 ((b, .cells 22 tot (dk.toList.map (Value.int .u64))) :: (b2, .cells 76 1 [.pointer (some ⟨bo, 0, none⟩)]) :: (bo, .cells 133 3 [.int .i64 (room : Int), .int .i64 ((last : Nat) : Int), .map (some bm)]) :: (bm, .obj (mapO (Value.int .u64) l c)) :: H) (sortWorld (Value.int .u64) w b 0 n dk os) := sat_sortWorld hs hsz
      have h := cmpU_reads (C := fun w' => ∃ q, w' = (sortWorld (Value.int .u64) w b 0 n dk os).drewN q) hO (fun w' ⟨q, e⟩ => ⟨q + 1, by rw [e]; rfl⟩) (fun w' ⟨q, e⟩ => by rw [e]; exact (hS.drewN q).drop) x y _ ⟨0, rfl⟩
      exact callsIn_wide.1 h) (holds_row hs) hlt (by simpa using hd)
    simpa using this
end Go.Proofs.YtphdlpmnidiliaaGreatDoor
namespace Go.Proofs.YtphdlpmnidiliaaGreatDoor
open Go Go.Sl
attribute [local irreducible] W
theorem bitsLen0 : Pure Tryz.prog (fun _ => True) 94 [.int .u64 0] (.int .i64 (Lib.bitLen (0 : Int).toNat : Nat)) := fun _ _ _ =>
  L_of_below (T := fun _ => True) (fun w _ => (Tryz.bits_Len 0 w (by decide) (by decide)).mono fun _ _ ⟨h1, h2⟩ => ⟨h1, h2 ▸ Go.RowKit.Below.refl _ _⟩) (fun _ _ => trivial)
structure RevAt {K : Type} (d : List K) (i : Nat) (e : List K) : Prop where
  len : e.length = d.length
  at_ : ∀ k, k < d.length → e[k]? = if k < i ∨ d.length - i ≤ k then d[d.length - 1 - k]? else d[k]?
theorem RevAt.zero {K : Type} (d : List K) : RevAt d 0 d := ⟨rfl, fun k hk => by rw [if_neg (by omega)]⟩
theorem RevAt.swap {K : Type} {d e : List K} {i : Nat} {x y : K} (h : RevAt d i e) (hi : 2 * i + 1 < d.length) (hx : e[i]? = some x) (hy : e[d.length - 1 - i]? = some y) : RevAt d (i + 1) ((e.set i y).set (d.length - 1 - i) x) := by
  refine ⟨by rw [List.length_set, List.length_set]; exact h.len, fun k hk => ?_⟩
  have hl := h.len
  have ei : e[i]? = d[i]? := by rw [h.at_ i (by omega), if_neg (by omega)]
  have ej : e[d.length - 1 - i]? = d[d.length - 1 - i]? := by rw [h.at_ _ (by omega), if_neg (by omega)]
  by_cases h1 : k = d.length - 1 - i
  · subst h1
    rw [List.getElem?_set_self (by rw [List.length_set]; omega), if_pos (by omega), ← hx, ei]
    congr 1; omega
  · rw [List.getElem?_set_ne (fun e => h1 e.symm)]
    by_cases h2 : k = i
    · subst h2
      rw [List.getElem?_set_self (by omega), if_pos (by omega), ← hy, ej]
    · rw [List.getElem?_set_ne (fun e => h2 e.symm), h.at_ k hk]
      by_cases h3 : k < i ∨ d.length - i ≤ k
      · rw [if_pos h3, if_pos (by omega)]
      · rw [if_neg h3, if_neg (by omega)]
theorem RevAt.over {K : Type} {d e : List K} {i : Nat} (h : RevAt d i e) (hi : d.length ≤ 2 * i + 1) : e = d.reverse := by
  refine List.ext_getElem? fun k => ?_
  by_cases hk : k < d.length
  · rw [List.getElem?_reverse hk, h.at_ k hk]
    by_cases h3 : k < i ∨ d.length - i ≤ k
    · rw [if_pos h3]
    · rw [if_neg h3]; congr 1; omega
  · rw [List.getElem?_eq_none (by rw [h.len]; omega), List.getElem?_eq_none (by simp; omega)]
set_option maxHeartbeats 1000000 in
theorem insU_nil (fv : Value) : Pure Tryz.prog (fun _ => True) 136 [.slice none 0 0, .int .i64 0, .int .i64 0, fv] (.tuple #[]) := by
  intro w0 H hT
  refine L_enter Tryz.func136 rfl Tryz.ntmps136 rfl rfl ?_
  refine W_sr ?_
  refine W_move rfl rfl ?_
  refine W_bin rfl rfl (b_add (m := 1) (by decide)) rfl ?_
  refine W_assign rfl rfl ?_
  refine W_nil ?_
  refine W_block ?_
  refine W_loopC (X := Unit) [(0, _), (1, _), (2, _), (3, _)] (fun (u : Unit) => [(8, .int .i64 1)]) (fun _ => _) (fun _ => _) (fun (u : Unit) => True) (fun (u : Unit) => 0) () trivial (sub_cons rfl (sub_cons rfl (sub_cons rfl (sub_cons rfl (sub_nil _))))) (sub_cons rfl (sub_nil _)) rfl zH ?_
  intro u hI
  simp only [List.cons_append, List.nil_append]
  refine W_seq ?_
  refine W_sr ?_
  refine W_move rfl rfl ?_
  refine W_move rfl rfl ?_
  refine W_bin rfl rfl b_lss rfl ?_
  refine W_nil ?_
  refine W_condF rfl (by decide) ?_
  refine W_exit rfl ?_
  refine W_end0m (H2 := H) Tryz.results136 (.nil _) zH ?_
  exact ⟨rfl, rfl⟩
set_option maxHeartbeats 1000000 in
theorem pdqU_nil (lim : Int) (fv : Value) : Pure Tryz.prog (fun _ => True) 126 [.slice none 0 0, .int .i64 0, .int .i64 0, .int .i64 lim, fv] (.tuple #[]) := by
  intro w0 H hT
  refine L_enter Tryz.func126 rfl Tryz.ntmps126 rfl rfl ?_
  refine W_sr ?_
  refine W_assign rfl rfl ?_
  refine W_nil ?_
  refine W_sr ?_
  refine W_assign rfl rfl ?_
  refine W_nil ?_
  refine W_block ?_
  refine W_loopC (X := Unit) [(0, _), (4, _)] (fun (u : Unit) => [(1, .int .i64 0), (2, .int .i64 0)]) (fun _ => _) (fun _ => _) (fun (u : Unit) => True) (fun (u : Unit) => 0) () trivial (sub_cons rfl (sub_cons rfl (sub_nil _))) (sub_cons rfl (sub_cons rfl (sub_nil _))) rfl zH ?_
  intro u hI
  simp only [List.cons_append, List.nil_append]
  refine W_block ?_
  refine W_sr ?_
  refine W_move rfl rfl ?_
  refine W_move rfl rfl ?_
  refine W_bin rfl rfl (b_sub (m := 0) (by decide)) rfl ?_
  refine W_assign rfl rfl ?_
  refine W_nil ?_
  refine W_seq ?_
  refine W_sr ?_
  refine W_move rfl rfl ?_
  refine W_bin rfl rfl b_leq rfl ?_
  refine W_nil ?_
  refine W_condT rfl (by decide) ?_
  refine W_sr ?_
  refine W_move rfl rfl ?_
  refine W_move rfl rfl ?_
  refine W_move rfl rfl ?_
  refine W_move rfl rfl ?_
  refine W_callp (.cons rfl (.cons rfl (.cons rfl (.cons rfl .nil)))) Tryz.call136 rfl (T := fun _ => True) trivial (insU_nil fv) ?_
  refine W_nil ?_
  refine W_ret0m (H2 := H) Tryz.results126 (.nil _) zH ?_
  exact ⟨rfl, rfl⟩
set_option maxHeartbeats 1000000 in
theorem srtU_nil (fv : Value) : Pure Tryz.prog (fun _ => True) 102 [.slice none 0 0, fv] (.tuple #[]) := by
  intro w0 H hT
  refine L_enter Tryz.func102 rfl Tryz.ntmps102 rfl rfl ?_
  refine W_sr ?_
  refine W_move rfl rfl ?_
  refine W_len rfl ty42 rfl rfl ?_
  refine W_assign rfl rfl ?_
  refine W_nil ?_
  refine W_region ?_
  refine W_move rfl rfl ?_
  refine W_move rfl rfl ?_
  refine W_move rfl rfl ?_
  refine W_conv (m := 0) rfl ty3 ty163 (by decide) rfl ?_
  refine W_callp (.cons rfl .nil) Tryz.call94 rfl (T := fun _ => True) trivial bitsLen0 ?_
  refine W_move rfl rfl ?_
  refine W_callp (.cons rfl (.cons rfl (.cons rfl (.cons rfl (.cons rfl .nil))))) Tryz.call126 rfl (T := fun _ => True) trivial (pdqU_nil _ fv) ?_
  refine W_nil ?_
  refine W_end0m (H2 := H) Tryz.results102 (.nil _) zH ?_
  exact ⟨rfl, rfl⟩
set_option maxHeartbeats 1000000 in
theorem revU_nil  : Pure Tryz.prog (fun _ => True) 105 [.slice none 0 0] (.tuple #[]) := by
  intro w0 H hT
  refine L_enter Tryz.func105 rfl Tryz.ntmps105 rfl rfl ?_
  refine W_sr ?_
  refine W_move rfl rfl ?_
  refine W_len rfl ty42 rfl rfl ?_
  refine W_bin rfl rfl (b_sub (m := -1) (by decide)) rfl ?_
  refine W_assign rfl rfl ?_
  refine W_assign rfl rfl ?_
  refine W_nil ?_
  refine W_block ?_
  refine W_loopC (X := Unit) [(0, _)] (fun (u : Unit) => [(2, .int .i64 0), (3, .int .i64 (-1))]) (fun _ => _) (fun _ => _) (fun (u : Unit) => True) (fun (u : Unit) => 0) () trivial (sub_cons rfl (sub_nil _)) (sub_cons rfl (sub_cons rfl (sub_nil _))) rfl zH ?_
  intro u hI
  simp only [List.cons_append, List.nil_append]
  refine W_seq ?_
  refine W_sr ?_
  refine W_move rfl rfl ?_
  refine W_move rfl rfl ?_
  refine W_bin rfl rfl b_lss rfl ?_
  refine W_nil ?_
  refine W_condF rfl (by decide) ?_
  refine W_exit rfl ?_
  refine W_end0m (H2 := H) Tryz.results105 (.nil _) zH ?_
  exact ⟨rfl, rfl⟩
set_option maxHeartbeats 1000000 in
theorem revU_L {w0 : World} {H : Heap} {b tot cap : Nat} {d : List Int} (hd : d.length ≤ 4611686018427387904)  : LCalls Tryz.prog w0 105 #[.slice (some ⟨b, 0, none⟩) d.length cap] ((b, .cells 22 tot (d.map (Value.int .u64))) :: H) (fun v H' => v = .tuple #[] ∧ H' = (b, .cells 22 tot (d.reverse.map (Value.int .u64))) :: H) := by
  refine L_enter (l := [.slice (some ⟨b, 0, none⟩) d.length cap]) Tryz.func105 rfl Tryz.ntmps105 rfl rfl ?_
  refine W_sr ?_
  refine W_move rfl rfl ?_
  refine W_len rfl ty42 rfl rfl ?_
  refine W_bin rfl rfl (b_sub (m := (d.length : Int) - 1) (i64wO (by omega))) rfl ?_
  refine W_assign rfl rfl ?_
  refine W_assign rfl rfl ?_
  refine W_nil ?_
  refine W_block ?_
  refine W_loopC (X := (Nat × List Int)) [(0, _)] (fun (x : (Nat × List Int)) => [(2, .int .i64 (x.1 : Int)), (3, .int .i64 ((d.length : Int) - 1 - x.1))]) (fun _ => _) (fun (x : (Nat × List Int)) => (b, .cells 22 tot (x.2.map (Value.int .u64))) :: H) (fun (x : (Nat × List Int)) => 2 * x.1 ≤ d.length ∧ RevAt d x.1 x.2) (fun (x : (Nat × List Int)) => d.length - x.1) (0, d) ⟨Nat.zero_le _, RevAt.zero d⟩ (sub_cons rfl (sub_nil _)) (sub_cons rfl (sub_cons (by simp; rfl) (sub_nil _))) rfl zH ?_
  rintro ⟨i, e⟩ ⟨hi, hR⟩
  dsimp only at hi hR ⊢
  have hel := hR.len
  simp only [List.cons_append, List.nil_append]
  refine W_seq ?_
  refine W_sr ?_
  refine W_move rfl rfl ?_
  refine W_move rfl rfl ?_
  refine W_bin rfl rfl b_lss rfl ?_
  refine W_nil ?_
  refine W_condPS (p := (i : Int) < (d.length : Int) - 1 - i) rfl (by simp) (fun c0 => ?_) (fun c0 => ?_)
  · skip
    refine W_skip ?_
    refine W_seq ?_
    refine W_block ?_
    obtain ⟨x, hx⟩ : ∃ x, e[i]? = some x := ⟨_, List.getElem?_eq_getElem (by omega)⟩
    obtain ⟨y, hy⟩ : ∃ y, e[d.length - 1 - i]? = some y := ⟨_, List.getElem?_eq_getElem (by omega)⟩
    refine W_cut [(0, .slice (some ⟨b, 0, none⟩) d.length cap), (2, .int .i64 (i : Int)), (3, .int .i64 ((d.length : Int) - 1 - i))] ((b, .cells 22 tot (((e.set i y).set (d.length - 1 - i) x).map (Value.int .u64))) :: H) ?_ ?_
    · skip
      refine W_any (by kernel_rfl) ?_
      refine WA_take 0 (l' := #[true, false, false, false, false, false, false, false, false, false, false, false, false, false, false, false]) rfl (by decide +kernel) (by decide +kernel) (by decide +kernel) (fun _ h => by cases h) (fun _ h => by cases h) (by decide +kernel) (X_move rfl) rfl ?_
      refine WA_take 1 (l' := #[true, true, false, false, false, false, false, false, false, false, false, false, false, false, false, false]) rfl (by decide +kernel) (by decide +kernel) (by decide +kernel) (fun _ h => by cases h) (fun _ h => by cases h) (by decide +kernel) (X_move rfl) rfl ?_
      refine WA_take 2 (l' := #[true, true, true, false, false, false, false, false, false, false, false, false, false, false, false, false]) rfl (by decide +kernel) (by decide +kernel) (by decide +kernel) (fun _ h => by cases h) (fun _ h => by cases h) (by decide +kernel) (X_move rfl) rfl ?_
      refine WA_take 3 (l' := #[true, true, true, true, false, false, false, false, false, false, false, false, false, false, false, false]) rfl (by decide +kernel) (by decide +kernel) (by decide +kernel) (fun _ h => by cases h) (fun _ h => by cases h) (by decide +kernel) (X_move rfl) rfl ?_
      refine WA_take 4 (l' := #[true, true, true, true, true, false, false, false, false, false, false, false, false, false, false, false]) rfl (by decide +kernel) (by decide +kernel) (by decide +kernel) (fun _ h => by cases h) (fun _ h => by cases h) (by decide +kernel) (X_move rfl) rfl ?_
      refine WA_take 5 (l' := #[true, true, true, true, true, true, false, false, false, false, false, false, false, false, false, false]) rfl (by decide +kernel) (by decide +kernel) (by decide +kernel) (fun _ h => by cases h) (fun _ h => by cases h) (by decide +kernel) (X_move rfl) rfl ?_
      refine WA_take 6 (l' := #[true, true, true, true, true, true, true, false, false, false, false, false, false, false, false, false]) rfl (by decide +kernel) (by decide +kernel) (by decide +kernel) (fun _ h => by cases h) (fun _ h => by cases h) (by decide +kernel) (X_indexAddr (j := (d.length - 1 - i)) rfl rfl ty42 ty22 (by first | rfl | omega) (by omega) (Nat.zero_add _)) rfl ?_
      refine WA_take 8 (l' := #[true, true, true, true, true, true, true, false, true, false, false, false, false, false, false, false]) rfl (by decide +kernel) (by decide +kernel) (by decide +kernel) (fun _ h => by cases h) (fun _ h => by cases h) (by decide +kernel) (X_move rfl) rfl ?_
      refine WA_take 9 (l' := #[true, true, true, true, true, true, true, false, true, true, false, false, false, false, false, false]) rfl (by decide +kernel) (by decide +kernel) (by decide +kernel) (fun _ h => by cases h) (fun _ h => by cases h) (by decide +kernel) (X_move rfl) rfl ?_
      refine WA_take 10 (l' := #[true, true, true, true, true, true, true, false, true, true, true, false, false, false, false, false]) rfl (by decide +kernel) (by decide +kernel) (by decide +kernel) (fun _ h => by cases h) (fun _ h => by cases h) (by decide +kernel) (X_indexAddr (j := i) rfl rfl ty42 ty22 (by first | rfl | omega) (by omega) (Nat.zero_add _)) rfl ?_
      refine WA_two 7 11 (l' := #[true, true, true, true, true, true, true, true, true, true, true, false, false, false, false, false]) (l'' := #[true, true, true, true, true, true, true, false, true, true, true, true, false, false, false, false]) (by decide +kernel) rfl rfl (by decide +kernel) (by decide +kernel) ?_ ?_
      · skip
        refine W_load (v := (Value.int .u64) y) rfl ty22 rfl (Cell.own (b := b) zM (by rw [Nat.mul_one, List.getElem?_map, hy]; rfl)) rfl ?_
        refine W_nil ?_
        refine WA_goal ?_
        refine WA_one 11 (l' := #[true, true, true, true, true, true, true, true, true, true, true, true, false, false, false, false]) (by decide +kernel) rfl (by decide +kernel) (fun _ h => by cases h) ?_
        refine W_load (v := (Value.int .u64) x) rfl ty22 rfl (Cell.own (b := b) zM (by rw [Nat.mul_one, List.getElem?_map, hx]; rfl)) rfl ?_
        refine W_nil ?_
        refine WA_goal ?_
        refine WA_take 12 (l' := #[true, true, true, true, true, true, true, true, true, true, true, true, true, false, false, false]) rfl (by decide +kernel) (by decide +kernel) (by decide +kernel) (fun _ h => by cases h) (fun _ h => by cases h) (by decide +kernel) (X_indexAddr (j := i) rfl rfl ty42 ty22 (by first | rfl | omega) (by omega) (Nat.zero_add _)) rfl ?_
        refine WA_one 13 (l' := #[true, true, true, true, true, true, true, true, true, true, true, true, true, true, false, false]) (by decide +kernel) rfl (by decide +kernel) (fun _ h => by cases h) ?_
        refine W_store (l := (e).map (Value.int .u64)) (l' := ((e).set i y).map (Value.int .u64)) rfl rfl ty22 rfl rfl (b := b) zM (by rw [Nat.mul_one, List.length_map]; simp; omega) (by rw [Nat.mul_one]; simp only [List.map_set]) zU ?_
        refine W_nil ?_
        refine WA_goal ?_
        refine WA_take 14 (l' := #[true, true, true, true, true, true, true, true, true, true, true, true, true, true, true, false]) rfl (by decide +kernel) (by decide +kernel) (by decide +kernel) (fun _ h => by cases h) (fun _ h => by cases h) (by decide +kernel) (X_indexAddr (j := (d.length - 1 - i)) rfl rfl ty42 ty22 (by first | rfl | omega) (by omega) (Nat.zero_add _)) rfl ?_
        refine WA_one 15 (l' := #[true, true, true, true, true, true, true, true, true, true, true, true, true, true, true, true]) (by decide +kernel) rfl (by decide +kernel) (fun _ h => by cases h) ?_
        refine W_store (l := (e.set i y).map (Value.int .u64)) (l' := ((e.set i y).set (d.length - 1 - i) x).map (Value.int .u64)) rfl rfl ty22 rfl rfl (b := b) zM (by rw [Nat.mul_one, List.length_map]; simp; omega) (by rw [Nat.mul_one]; simp only [List.map_set]) zU ?_
        refine W_nil ?_
        refine WA_goal ?_
        refine WA_done (by decide +kernel) ?_
        refine W_joined (sub_cons rfl (sub_cons rfl (sub_cons rfl (sub_nil _)))) zH
      · skip
        refine W_load (v := (Value.int .u64) x) rfl ty22 rfl (Cell.own (b := b) zM (by rw [Nat.mul_one, List.getElem?_map, hx]; rfl)) rfl ?_
        refine W_nil ?_
        refine WA_goal ?_
        refine WA_one 7 (l' := #[true, true, true, true, true, true, true, true, true, true, true, true, false, false, false, false]) (by decide +kernel) rfl (by decide +kernel) (fun _ h => by cases h) ?_
        refine W_load (v := (Value.int .u64) y) rfl ty22 rfl (Cell.own (b := b) zM (by rw [Nat.mul_one, List.getElem?_map, hy]; rfl)) rfl ?_
        refine W_nil ?_
        refine WA_goal ?_
        refine WA_take 12 (l' := #[true, true, true, true, true, true, true, true, true, true, true, true, true, false, false, false]) rfl (by decide +kernel) (by decide +kernel) (by decide +kernel) (fun _ h => by cases h) (fun _ h => by cases h) (by decide +kernel) (X_indexAddr (j := i) rfl rfl ty42 ty22 (by first | rfl | omega) (by omega) (Nat.zero_add _)) rfl ?_
        refine WA_one 13 (l' := #[true, true, true, true, true, true, true, true, true, true, true, true, true, true, false, false]) (by decide +kernel) rfl (by decide +kernel) (fun _ h => by cases h) ?_
        refine W_store (l := (e).map (Value.int .u64)) (l' := ((e).set i y).map (Value.int .u64)) rfl rfl ty22 rfl rfl (b := b) zM (by rw [Nat.mul_one, List.length_map]; simp; omega) (by rw [Nat.mul_one]; simp only [List.map_set]) zU ?_
        refine W_nil ?_
        refine WA_goal ?_
        refine WA_take 14 (l' := #[true, true, true, true, true, true, true, true, true, true, true, true, true, true, true, false]) rfl (by decide +kernel) (by decide +kernel) (by decide +kernel) (fun _ h => by cases h) (fun _ h => by cases h) (by decide +kernel) (X_indexAddr (j := (d.length - 1 - i)) rfl rfl ty42 ty22 (by first | rfl | omega) (by omega) (Nat.zero_add _)) rfl ?_
        refine WA_one 15 (l' := #[true, true, true, true, true, true, true, true, true, true, true, true, true, true, true, true]) (by decide +kernel) rfl (by decide +kernel) (fun _ h => by cases h) ?_
        refine W_store (l := (e.set i y).map (Value.int .u64)) (l' := ((e.set i y).set (d.length - 1 - i) x).map (Value.int .u64)) rfl rfl ty22 rfl rfl (b := b) zM (by rw [Nat.mul_one, List.length_map]; simp; omega) (by rw [Nat.mul_one]; simp only [List.map_set]) zU ?_
        refine W_nil ?_
        refine WA_goal ?_
        refine WA_done (by decide +kernel) ?_
        refine W_joined (sub_cons rfl (sub_cons rfl (sub_cons rfl (sub_nil _)))) zH
    refine W_blk ?_
    refine W_region ?_
    refine W_move rfl rfl ?_
    refine W_bin rfl rfl (b_add (m := ((i + 1 : Nat) : Int)) ((i64wO (by omega)).trans (by omega))) rfl ?_
    refine W_move rfl rfl ?_
    refine W_bin rfl rfl (b_sub (m := (d.length : Int) - 1 - ((i + 1 : Nat) : Int)) ((i64wO (by omega)).trans (by omega))) rfl ?_
    refine W_assign rfl rfl ?_
    refine W_assign rfl rfl ?_
    refine W_nil ?_
    refine W_again (i + 1, (e.set i y).set (d.length - 1 - i) x) ⟨by show 2 * (i + 1) ≤ d.length; omega, hR.swap (by omega) hx hy⟩ (by show d.length - (i + 1) < d.length - i; omega) (sub_cons rfl (sub_cons rfl (sub_cons rfl (sub_nil _)))) rfl zH
  · skip
    refine W_exit rfl ?_
    refine W_end0m Tryz.results105 (.nil _) (.refl _) ?_
    obtain rfl := hR.over (by omega)
    exact ⟨rfl, rfl⟩
end Go.Proofs.YtphdlpmnidiliaaGreatDoor
namespace Go.Proofs.YtphdlpmnidiliaaGreatDoor
open Go Go.Sl
attribute [local irreducible] W
theorem own_orO {e : TypeId} {s : Nat} {v : Value} {n : Nat} {xs : List Value} {HB : Heap} (h : OwnS e s v n xs HB) : (v = .slice none 0 0 ∧ n = 0 ∧ xs = [] ∧ HB = []) ∨ ∃ b cap, v = .slice (some ⟨b, 0, none⟩) n cap ∧ HB = [(b, .cells e (cap * s) xs)] ∧ n ≤ cap ∧ cap ≤ maxLen := by
  cases h with
  | nil => exact .inl ⟨rfl, rfl, rfl, rfl⟩
  | own h1 h2 h3 => exact .inr ⟨_, _, rfl, rfl, h2, h3⟩
set_option maxHeartbeats 1000000 in
theorem sortedU_L {w0 : World} {H : Heap} {room last c bo bm : Nat} {m : List Int} {l : Ents Int} {τ : Int → Nat} (hO : OrdIs room m last l c τ) (bk : Bool) (h64 : room ≤ 64)  : LCalls Tryz.prog w0 78 #[.pointer (some ⟨bo, 0, none⟩), .bool bk] ((bo, .cells 133 3 [.int .i64 (room : Int), .int .i64 ((last : Nat) : Int), .map (some bm)]) :: (bm, .obj (mapO (Value.int .u64) l c)) :: H) (fun v H' => ∃ bl sv HB, v = .func (.func 106) #[] #[.pointer (some ⟨bl, 0, none⟩)] ∧ OwnS 22 1 sv (if bk then m.reverse else m).length ((if bk then m.reverse else m).map (Value.int .u64)) HB ∧ H' = (bl, .cells 42 1 [sv]) :: (HB ++ ((bo, .cells 133 3 [.int .i64 (room : Int), .int .i64 ((last : Nat) : Int), .map (some bm)]) :: (bm, .obj (mapO (Value.int .u64) l c)) :: H))) := by
  refine L_enter (l := [.pointer (some ⟨bo, 0, none⟩), .bool bk]) Tryz.func78 rfl Tryz.ntmps78 rfl rfl ?_
  refine W_sr ?_
  refine W_box rfl rfl rfl (fun b2 => ?_)
  refine W_assign rfl rfl ?_
  refine W_nil ?_
  refine W_sr ?_
  refine W_alloc ty42 rfl rfl (fun b5 => ?_)
  refine W_nil ?_
  refine W_seq ?_
  refine W_sr ?_
  refine W_load rfl ty76 rfl (Cell.own (b := b2) zM rfl) rfl ?_
  refine W_x (X_ptrNotNil rfl rfl ty76) (fun _ h => by cases h) rfl ?_
  refine W_nil ?_
  refine W_condT rfl rfl ?_
  refine W_seq ?_
  refine W_sr ?_
  refine W_load rfl ty76 rfl (Cell.own (b := b2) zM rfl) rfl ?_
  refine W_nilCheck rfl rfl ?_
  refine W_fieldAddr rfl fld133_2 (by decide) rfl ?_
  refine W_load rfl ty131 rfl (Cell.own (b := bo) zM rfl) rfl ?_
  refine W_range (kf := (Value.int .u64)) (l := l) (cl := c) rfl ty131 zM rfl (fun r => ?_)
  refine W_nil ?_
  refine W_block ?_
  refine W_loopC (X := (Ents Int × Value × Heap)) [(1, _), (2, _), (5, _), (13, _)] (fun (x : (Ents Int × Value × Heap)) => []) (fun _ => _) (fun (x : (Ents Int × Value × Heap)) => (r, .obj (iterO bm c (x.1.map (·.2.2)) c)) :: (b5, .cells 42 1 [x.2.1]) :: (b2, .cells 76 1 [.pointer (some ⟨bo, 0, none⟩)]) :: (x.2.2 ++ ((bo, .cells 133 3 [.int .i64 (room : Int), .int .i64 ((last : Nat) : Int), .map (some bm)]) :: (bm, .obj (mapO (Value.int .u64) l c)) :: H))) (fun (x : (Ents Int × Value × Heap)) => (x.1.map (·.2.2)).Nodup ∧ (∀ p ∈ x.1, p ∈ l) ∧ OwnS 22 1 x.2.1 (x.1.map (·.1)).length ((x.1.map (·.1)).map (Value.int .u64)) x.2.2) (fun (x : (Ents Int × Value × Heap)) => l.length - x.1.length) ([], .slice none 0 0, []) ⟨.nil, (fun p hp => (by cases hp)), .nil⟩ (sub_cons rfl (sub_cons rfl (sub_cons rfl (sub_cons rfl (sub_nil _))))) (sub_nil _) rfl (HSub.refl _) ?_
  rintro ⟨vs, xv, XB⟩ ⟨hnd, hin, hX⟩
  dsimp only at hnd hin hX ⊢
  simp only [List.cons_append, List.nil_append]
  refine W_sr ?_
  refine W_next (kf := (Value.int .u64)) (l := l) (cl := c) (b := bm) (r := r) (since := c) (c0 := c) (sl := vs.map (·.2.2)) (HN := fun p => (r, .obj (iterO bm c (vs.map (·.2.2) ++ [p.2.2]) c)) :: (b5, .cells 42 1 [xv]) :: (b2, .cells 76 1 [.pointer (some ⟨bo, 0, none⟩)]) :: (XB ++ ((bo, .cells 133 3 [.int .i64 (room : Int), .int .i64 ((last : Nat) : Int), .map (some bm)]) :: (bm, .obj (mapO (Value.int .u64) l c)) :: H))) rfl zM zM hO.ok.lt (Nat.le_refl _) (fun p => .head _) rfl (fun hall => ?_) (fun p hp hnp => ?_)
  · skip
    refine W_extract rfl rfl rfl ?_
    refine W_nil ?_
    refine W_seq ?_
    refine W_condF rfl rfl ?_
    refine W_exit rfl ?_
    refine W_region ?_
    have hp := visit_perm hO.ok hnd hin hall
    have hpm : (vs.map (·.1)).Perm m := (hp.map _).trans hO.keys
    have hlen : (vs.map (·.1)).length = m.length := hpm.length_eq
    rcases own_orO hX with ⟨rfl, hn0, -, rfl⟩ | ⟨b, cap, rfl, rfl, hcap, hmax⟩
    · skip
      refine W_load (v := .slice none 0 0) rfl ty42 rfl (Cell.own (b := b5) zM rfl) rfl ?_
      refine W_makeFunc .nil (.cons rfl .nil) rfl ?_
      refine W_callp (.cons rfl (.cons rfl .nil)) Tryz.call102 rfl (T := fun _ => True) trivial (srtU_nil _) ?_
      refine W_nil ?_
      refine W_seq ?_
      refine W_sr ?_
      refine W_move rfl rfl ?_
      refine W_nil ?_
      refine W_condS rfl (fun c0 => ?_) (fun c0 => ?_)
      · skip
        refine W_region ?_
        refine W_load (v := .slice none 0 0) rfl ty42 rfl (Cell.own (b := b5) zM rfl) rfl ?_
        refine W_callp (.cons rfl .nil) Tryz.call105 rfl (T := fun _ => True) trivial revU_nil ?_
        refine W_nil ?_
        refine W_sr ?_
        refine W_makeFunc .nil (.cons rfl .nil) rfl ?_
        refine W_assign rfl rfl ?_
        refine W_nil ?_
        refine W_ret1m (H2 := (b5, .cells 42 1 [.slice none 0 0]) :: ([] ++ ((bo, .cells 133 3 [.int .i64 (room : Int), .int .i64 ((last : Nat) : Int), .map (some bm)]) :: (bm, .obj (mapO (Value.int .u64) l c)) :: H))) Tryz.results78 rfl (.nil _) zH ?_
        have hm0 : m = [] := List.eq_nil_of_length_eq_zero (by omega)
        subst hm0
        exact ⟨b5, .slice none 0 0, [], rfl, by rw [if_pos c0]; exact .nil, rfl⟩
      · skip
        refine W_skip ?_
        refine W_sr ?_
        refine W_makeFunc .nil (.cons rfl .nil) rfl ?_
        refine W_assign rfl rfl ?_
        refine W_nil ?_
        refine W_ret1m (H2 := (b5, .cells 42 1 [.slice none 0 0]) :: ([] ++ ((bo, .cells 133 3 [.int .i64 (room : Int), .int .i64 ((last : Nat) : Int), .map (some bm)]) :: (bm, .obj (mapO (Value.int .u64) l c)) :: H))) Tryz.results78 rfl (.nil _) zH ?_
        have hm0 : m = [] := List.eq_nil_of_length_eq_zero (by omega)
        subst hm0
        exact ⟨b5, .slice none 0 0, [], rfl, by rw [if_neg (by rw [c0]; simp)]; exact .nil, rfl⟩
    · skip
      refine W_load (v := .slice (some ⟨b, 0, none⟩) (vs.map (·.1)).length cap) rfl ty42 rfl (Cell.own (b := b5) zM rfl) rfl ?_
      refine W_makeFunc .nil (.cons rfl .nil) rfl ?_
      rw [List.singleton_append]
      have hcc := sortU_L (w0 := w0) (b2 := b2) (bo := bo) (bm := bm) (H := (b5, .cells 42 1 [.slice (some ⟨b, 0, none⟩) (vs.map (·.1)).length cap]) :: H) (b := b) (tot := cap * 1) (cap := cap) (d := vs.map (·.1)) hO (by have := hO.le; omega)
      refine W_call (.cons rfl (.cons rfl .nil)) Tryz.call102 rfl (hcc.hsub (.cons zT (.cons zT (.cons zT (.cons zT (.cons zT (.drop (.refl _)))))))) ?_
      rintro v H' ⟨rfl, d', hd', hsd, rfl⟩
      obtain rfl : d' = m := sorted_isO (hd'.trans hpm) hO.nodup hO.asc hsd
      rw [hlen]
      refine W_nil ?_
      refine W_seq ?_
      refine W_sr ?_
      refine W_move rfl rfl ?_
      refine W_nil ?_
      refine W_condS rfl (fun c0 => ?_) (fun c0 => ?_)
      · skip
        refine W_region ?_
        refine W_load (v := (.slice (some ⟨b, 0, none⟩) d'.length cap)) rfl ty42 rfl (Cell.own (b := b5) zM rfl) rfl ?_
        refine W_call (.cons rfl .nil) Tryz.call105 rfl ((revU_L (b := b) (tot := cap * 1) (cap := cap) (d := d') (by have := hO.le; omega)).hsub (.cons zT (.refl _))) ?_
        rintro v H' ⟨rfl, rfl⟩
        refine W_nil ?_
        refine W_sr ?_
        refine W_makeFunc .nil (.cons rfl .nil) rfl ?_
        refine W_assign rfl rfl ?_
        refine W_nil ?_
        refine W_ret1m (H2 := (b5, .cells 42 1 [(.slice (some ⟨b, 0, none⟩) d'.length cap)]) :: ([(b, .cells 22 (cap * 1) ((d'.reverse).map (Value.int .u64)))] ++ ((bo, .cells 133 3 [.int .i64 (room : Int), .int .i64 ((last : Nat) : Int), .map (some bm)]) :: (bm, .obj (mapO (Value.int .u64) l c)) :: H))) Tryz.results78 rfl (.nil _) zH ?_
        refine ⟨b5, _, _, rfl, ?_, rfl⟩
        rw [if_pos c0]
        have h := OwnS.own (e := 22) (s := 1) (b := b) (n := (d'.reverse).length) (cap := cap) (xs := (d'.reverse).map (Value.int .u64)) (by simp) (by first | omega | (rw [List.length_reverse]; omega)) hmax
        rwa [List.length_reverse] at h ⊢
      · skip
        refine W_skip ?_
        refine W_sr ?_
        refine W_makeFunc .nil (.cons rfl .nil) rfl ?_
        refine W_assign rfl rfl ?_
        refine W_nil ?_
        refine W_ret1m (H2 := (b5, .cells 42 1 [(.slice (some ⟨b, 0, none⟩) d'.length cap)]) :: ([(b, .cells 22 (cap * 1) ((d').map (Value.int .u64)))] ++ ((bo, .cells 133 3 [.int .i64 (room : Int), .int .i64 ((last : Nat) : Int), .map (some bm)]) :: (bm, .obj (mapO (Value.int .u64) l c)) :: H))) Tryz.results78 rfl (.nil _) zH ?_
        refine ⟨b5, _, _, rfl, ?_, rfl⟩
        rw [if_neg (by rw [c0]; simp)]
        have h := OwnS.own (e := 22) (s := 1) (b := b) (n := (d').length) (cap := cap) (xs := (d').map (Value.int .u64)) (by simp) (by first | omega | (rw [List.length_reverse]; omega)) hmax
        exact h
  · skip
    refine W_extract rfl rfl rfl ?_
    refine W_nil ?_
    refine W_seq ?_
    refine W_condT rfl rfl ?_
    refine W_skip ?_
    refine W_block ?_
    refine W_sr ?_
    refine W_entry (kf := (Value.int .u64)) (l := l) (cl := c) (b := bm) (r := r) (since := c) (sl := vs.map (·.2.2)) (p := p) rfl zM zM hp hO.ok rfl ?_
    refine W_extract rfl rfl rfl ?_
    refine W_assign rfl rfl ?_
    refine W_nil ?_
    refine W_region ?_
    refine W_load (v := xv) rfl ty42 rfl (Cell.own (b := b5) zM rfl) rfl ?_
    refine W_move rfl rfl ?_
    refine W_buildSlice (l := [(Value.int .u64) p.1]) ty42 ty22 (.cons rfl rfl rfl rfl rfl .nil) rfl rfl rfl rfl rfl rfl rfl (fun b20 => ?_)
    refine W_append (news := [(Value.int .u64) p.1]) (m := 1) (HB := XB) (H0 := (r, .obj (iterO bm c (vs.map (·.2.2) ++ [p.2.2]) c)) :: (b5, .cells 42 1 [xv]) :: (b2, .cells 76 1 [.pointer (some ⟨bo, 0, none⟩)]) :: ((bo, .cells 133 3 [.int .i64 (room : Int), .int .i64 ((last : Nat) : Int), .map (some bm)]) :: (bm, .obj (mapO (Value.int .u64) l c)) :: H)) rfl rfl ty42 ty22 rfl (by decide) hX rfl (Holds.own List.mem_cons_self) rfl (by have := visit_lt hnd hin hp hnp; rw [List.length_map]; have := hO.len; have := hO.le; simp only [maxLen]; omega) (by have := visit_lt hnd hin hp hnp; rw [List.length_map]; have := hO.len; have := hO.le; omega) zH rfl (fun v' HB' hO' => ?_)
    refine W_store (l' := [v']) rfl rfl ty42 (by obtain ⟨a0, c0', e0, _⟩ := hO'.shape; rw [e0]; rfl) rfl (b := b5) zM rfl rfl zU ?_
    refine W_nil ?_
    refine W_blk ?_
    refine W_again (vs ++ [p], v', HB') ⟨by show ((vs ++ [p]).map (·.2.2)).Nodup; rw [List.map_append]; exact List.nodup_append.2 ⟨hnd, by simp, fun x hx y hy e => hnp (by obtain rfl : y = p.2.2 := (by simpa using hy); exact e ▸ hx)⟩, fun q hq => (List.mem_append.1 hq).elim (hin q) (fun h => by obtain rfl : q = p := (by simpa using h); exact hp), by show OwnS _ _ v' ((vs ++ [p]).map (·.1)).length (((vs ++ [p]).map (·.1)).map (Value.int .u64)) HB'; simp only [List.map_append, List.length_append, List.map_cons, List.map_nil, List.length_cons, List.length_nil] at hO' ⊢; exact hO'⟩ (by show l.length - (vs ++ [p]).length < l.length - vs.length; have := visit_lt hnd hin hp hnp; rw [List.length_append, List.length_singleton]; omega) (sub_cons rfl (sub_cons rfl (sub_cons rfl (sub_cons rfl (sub_nil _))))) rfl (by simp only [List.map_append, List.map_cons, List.map_nil]; first | exact hsubI | (repeat (first | with_reducible exact HSub.refl _ | refine HSub.cons zT ?_ | refine HSub.app zS ?_ | exact HSub.nil _ | exact HSub.refl _ | refine HSub.drop ?_ | refine HSub.dropS ?_)))
end Go.Proofs.YtphdlpmnidiliaaGreatDoor
namespace Go.Proofs.YtphdlpmnidiliaaGreatDoor
open Go Go.Sl
attribute [local irreducible] W
set_option maxHeartbeats 1000000 in
theorem seqU_iter {w0 : World} {H HB : Heap} {lp bl cap : Nat} {ad : Option Addr} {q : List Int} (J : Nat → Heap → Prop) (S : Heap → Prop) (hq : q.length ≤ 4611686018427387904) (hrow : Holds w0 ((bl, .cells 42 1 [.slice ad q.length cap]) :: (HB ++ [])) ad (q.map (Value.int .u64)))
    (hround : ∀ i z Hi, q[i]? = some z → J i Hi → RoundC Tryz.prog w0 lp #[(Value.int .u64) z] ((bl, .cells 42 1 [.slice ad q.length cap]) :: (HB ++ Hi)) (fun v H' => ∃ Hi', HSub H' ((bl, .cells 42 1 [.slice ad q.length cap]) :: (HB ++ Hi')) ∧ (v = .bool true ∧ J (i + 1) Hi' ∨ v = .bool false ∧ S Hi'))) (hJ : J 0 H) :
    LCalls Tryz.prog w0 106 #[.func (.yield lp) #[] #[], .pointer (some ⟨bl, 0, none⟩)] ((bl, .cells 42 1 [.slice ad q.length cap]) :: (HB ++ H)) (fun _ H' => ∃ Hi', HSub H' ((bl, .cells 42 1 [.slice ad q.length cap]) :: (HB ++ Hi')) ∧ (J q.length Hi' ∨ S Hi')) := by
  refine L_enter (l := [.func (.yield lp) #[] #[], .pointer (some ⟨bl, 0, none⟩)]) Tryz.func106 rfl Tryz.ntmps106 rfl rfl ?_
  refine W_sr ?_
  refine W_load (v := .slice ad q.length cap) rfl ty42 rfl (Cell.own (b := bl) zM rfl) rfl ?_
  refine W_len rfl ty42 rfl rfl ?_
  refine W_move rfl rfl ?_
  refine W_nil ?_
  refine W_block ?_
  refine W_loopC (X := (Nat × Heap)) [(0, _), (5, _), (6, _)] (fun (x : (Nat × Heap)) => [(7, .int .i64 (x.1 : Int))]) (fun _ => _) (fun (x : (Nat × Heap)) => (bl, .cells 42 1 [.slice ad q.length cap]) :: (HB ++ x.2)) (fun (x : (Nat × Heap)) => x.1 ≤ q.length ∧ J x.1 x.2) (fun (x : (Nat × Heap)) => q.length - x.1) (0, H) ⟨Nat.zero_le _, hJ⟩ (sub_cons rfl (sub_cons rfl (sub_cons rfl (sub_nil _)))) (sub_cons rfl (sub_nil _)) rfl (HSub.refl _) ?_
  rintro ⟨i, Hi⟩ ⟨hi, hJi⟩
  dsimp only at hi hJi ⊢
  simp only [List.cons_append, List.nil_append]
  refine W_sr ?_
  refine W_bin rfl rfl b_lss rfl ?_
  refine W_nil ?_
  refine W_seq ?_
  refine W_condPS (p := (i : Int) < (q.length : Int)) rfl (by simp) (fun c0 => ?_) (fun c0 => ?_)
  · skip
    refine W_skip ?_
    refine W_seq ?_
    refine W_block ?_
    refine W_sr ?_
    obtain ⟨z, hz⟩ : ∃ z, q[i]? = some z := ⟨_, List.getElem?_eq_getElem (by omega)⟩
    obtain ⟨q0, p0, rfl, hcz⟩ := hrow.at (i := i) (v := (Value.int .u64) z) (by rw [List.getElem?_map, hz]; rfl)
    refine W_indexAddr (j := i) rfl rfl ty42 ty22 rfl (by omega) rfl rfl ?_
    refine W_load (v := (Value.int .u64) z) rfl ty22 rfl (by rw [Nat.mul_one]; exact hcz.up (.cons (.here _) (.app (.here _) (.nil _)))) rfl ?_
    refine W_assign rfl rfl ?_
    refine W_nil ?_
    refine W_sr ?_
    refine W_move rfl rfl ?_
    refine W_move rfl rfl ?_
    refine W_yield rfl (.cons rfl .nil) rfl (hround i z Hi hz hJi) ?_
    rintro v H' ⟨Hi', hsub, ⟨rfl, hJ'⟩ | ⟨rfl, hS'⟩⟩
    · skip
      refine W_hsub hsub ?_
      refine W_not rfl rfl ?_
      refine W_nil ?_
      refine W_condF rfl rfl ?_
      refine W_skip ?_
      refine W_blk ?_
      refine W_region ?_
      refine W_bin rfl rfl (b_add (m := ((i + 1 : Nat) : Int)) ((i64wO (by omega)).trans (by omega))) rfl ?_
      refine W_move rfl rfl ?_
      refine W_nil ?_
      refine W_again (i + 1, Hi') ⟨by show i + 1 ≤ q.length; omega, hJ'⟩ (by show q.length - (i + 1) < q.length - i; omega) (sub_cons rfl (sub_cons rfl (sub_cons rfl (sub_cons rfl (sub_nil _))))) rfl (HSub.refl _)
    · skip
      refine W_hsub hsub ?_
      refine W_not rfl rfl ?_
      refine W_nil ?_
      refine W_condT rfl rfl ?_
      refine W_ret0m Tryz.results106 (.nil _) (.refl _) ?_
      exact ⟨Hi', .refl _, .inr hS'⟩
  · skip
    refine W_exit rfl ?_
    refine W_end0m Tryz.results106 (.nil _) (.refl _) ?_
    obtain rfl : i = q.length := by omega
    exact ⟨Hi, .refl _, .inl hJi⟩
def firstU (q : List Int) : Value := match q[0]? with
  | some z => .tuple #[(Value.int .u64) z, .bool true]
  | none => .tuple #[(.int .u64 0), .bool false]
set_option maxHeartbeats 2000000 in
theorem firstU_L {w0 : World} {H HB : Heap} {bl cap : Nat} {ad : Option Addr} {q : List Int} (hq : q.length ≤ 4611686018427387904) (hrow : Holds w0 ((bl, .cells 42 1 [.slice ad q.length cap]) :: (HB ++ [])) ad (q.map (Value.int .u64))) :
    LCalls Tryz.prog w0 77 #[.func (.func 106) #[] #[.pointer (some ⟨bl, 0, none⟩)]] ((bl, .cells 42 1 [.slice ad q.length cap]) :: (HB ++ H)) (fun v H' => v = firstU q ∧ H' = (bl, .cells 42 1 [.slice ad q.length cap]) :: (HB ++ H)) := by
  refine L_enter (l := [.func (.func 106) #[] #[.pointer (some ⟨bl, 0, none⟩)]]) Tryz.func77 rfl Tryz.ntmps77 rfl rfl ?_
  refine W_sr ?_
  refine W_alloc ty22 rfl rfl (fun b2 => ?_)
  refine W_alloc ty4 rfl rfl (fun b3 => ?_)
  refine W_nil ?_
  refine W_seq ?_
  refine W_sr ?_
  refine W_move rfl rfl ?_
  refine W_nil ?_
  refine W_block ?_
  refine W_rangeFunc rfl Tryz.call106 ?_
  intro lp D r hst hpd hps hasg hbody hA
  have hr := loop_ready hst hpd
  show LCalls _ _ _ #[_, _] _ _
  refine ((seqU_iter (HB := HB) (bl := bl) (ad := ad) (cap := cap) (q := q) (H := (lp, .obj (.loop r)) :: (D, .obj (.deferred (some []))) :: (b3, .cells 4 1 [.bool false]) :: (b2, .cells 22 1 [(.int .u64 0)]) :: H) (fun i Hi => i = 0 ∧ Hi = (lp, .obj (.loop r)) :: (D, .obj (.deferred (some []))) :: (b3, .cells 4 1 [.bool false]) :: (b2, .cells 22 1 [(.int .u64 0)]) :: H) (fun Hi => ∃ z, q[0]? = some z ∧ Hi = (lp, .obj (.loop (Loop.at r .done (some .ret)))) :: (D, .obj (.deferred (some []))) :: (b3, .cells 4 1 [.bool true]) :: (b2, .cells 22 1 [(Value.int .u64) z]) :: H) hq hrow ?_ ⟨rfl, rfl⟩).hsub zH).mono ?_
  · intro i z Hi hz hJ
    obtain ⟨rfl, rfl⟩ := hJ
    refine round_intro hst hpd hA hps rfl hasg rfl rfl rfl zT ?_
    refine W_region ?_
    refine W_assign rfl rfl ?_
    refine W_nil ?_
    refine W_begin hst hpd zT hbody ?_
    refine W_block ?_
    refine W_sr ?_
    refine W_move rfl rfl ?_
    refine W_store (l' := [(Value.int .u64) z]) rfl rfl ty22 rfl rfl (b := b2) zM rfl rfl zU ?_
    refine W_store (l' := [.bool true]) rfl rfl ty4 rfl rfl (b := b3) zM rfl rfl zU ?_
    refine W_nil ?_
    refine W_retround zT ?_
    exact ⟨(lp, .obj (.loop (Loop.at r .done (some .ret)))) :: (D, .obj (.deferred (some []))) :: (b3, .cells 4 1 [.bool true]) :: (b2, .cells 22 1 [(Value.int .u64) z]) :: H, zH, .inr ⟨rfl, z, hz, rfl⟩⟩
    skip
  · intro _ H' hp
    obtain ⟨Hi', hs, hJS⟩ := hp
    rcases hJS with ⟨hq0, rfl⟩ | ⟨z, hz, rfl⟩
    case inr =>
      refine ⟨.done, some .ret, (bl, .cells 42 1 [.slice ad q.length cap]) :: (HB ++ ((D, .obj (.deferred (some []))) :: (b3, .cells 4 1 [.bool true]) :: (b2, .cells 22 1 [(Value.int .u64) z]) :: H)), hs.trans zH, by decide, ?_⟩
      show W _ _ _ _ _ _ _ _ _
      refine W_ret2G (H2 := (bl, .cells 42 1 [.slice ad q.length cap]) :: (HB ++ H)) Tryz.results77 (.cons zT (.nil _)) (.one rfl ty22 rfl (Cell.own (b := b2) zM rfl)) (.one rfl ty4 rfl (Cell.own (b := b3) zM rfl)) zH ?_
      exact ⟨by unfold firstU; rw [hz], rfl⟩
    refine ⟨.ready, none, (bl, .cells 42 1 [.slice ad q.length cap]) :: (HB ++ ((D, .obj (.deferred (some []))) :: (b3, .cells 4 1 [.bool false]) :: (b2, .cells 22 1 [(.int .u64 0)]) :: H)), by rw [hr]; exact hs.trans zH, by decide, ?_⟩
    show W _ _ _ _ _ _ _ _ _
    refine W_blk ?_
    refine W_sr ?_
    refine W_assign rfl rfl ?_
    refine W_nil ?_
    refine W_sr ?_
    refine W_move rfl rfl ?_
    refine W_store (l' := [(.int .u64 0)]) rfl rfl ty22 rfl rfl (b := b2) zM rfl rfl zU ?_
    refine W_store (l' := [.bool false]) rfl rfl ty4 rfl rfl (b := b3) zM rfl rfl zU ?_
    refine W_nil ?_
    refine W_ret2G (H2 := (bl, .cells 42 1 [.slice ad q.length cap]) :: (HB ++ H)) Tryz.results77 (.cons zT (.nil _)) (.one rfl ty22 rfl (Cell.own (b := b2) zM rfl)) (.one rfl ty4 rfl (Cell.own (b := b3) zM rfl)) zH ?_
    have hn : q = [] := List.eq_nil_of_length_eq_zero hq0
    subst hn
    exact ⟨rfl, rfl⟩
end Go.Proofs.YtphdlpmnidiliaaGreatDoor
namespace Go.Proofs.YtphdlpmnidiliaaGreatDoor
open Go Go.Sl
attribute [local irreducible] W
def fstU (q : List Int) : Value := match q[0]? with
  | some z => (Value.int .u64) z
  | none => (.int .u64 0)
theorem firstU_eq (q : List Int) : firstU q = .tuple #[fstU q, .bool (!q.isEmpty)] := by
  unfold firstU fstU
  cases q <;> rfl
set_option maxHeartbeats 1000000 in
theorem OldestU_L {w0 : World} {H : Heap} {room last c bo bm : Nat} {m : List Int} {l : Ents Int} {τ : Int → Nat} (hO : OrdIs room m last l c τ) (h64 : room ≤ 64)  : LCalls Tryz.prog w0 43 #[.pointer (some ⟨bo, 0, none⟩)] ((bo, .cells 133 3 [.int .i64 (room : Int), .int .i64 ((last : Nat) : Int), .map (some bm)]) :: (bm, .obj (mapO (Value.int .u64) l c)) :: H) (fun v H' => v = .tuple #[fstU (m), .bool (!(m).isEmpty)] ∧ H' = (bo, .cells 133 3 [.int .i64 (room : Int), .int .i64 ((last : Nat) : Int), .map (some bm)]) :: (bm, .obj (mapO (Value.int .u64) l c)) :: H) := by
  have hml : m.length ≤ 64 := Nat.le_trans hO.le h64
  refine L_enter (l := [.pointer (some ⟨bo, 0, none⟩)]) Tryz.func43 rfl Tryz.ntmps43 rfl rfl ?_
  refine W_sr ?_
  refine W_assign rfl rfl ?_
  refine W_assign rfl rfl ?_
  refine W_nil ?_
  refine W_sr ?_
  refine W_move rfl rfl ?_
  refine W_call (.cons rfl (.cons rfl .nil)) Tryz.call78 rfl ((sortedU_L (H := H) hO false h64).hsub zH) ?_
  rintro v H' ⟨bl, sv, HB, rfl, hS, rfl⟩
  simp only [Bool.false_eq_true, if_false] at hS
  obtain ⟨ad, cap, rfl, _, _, hrw⟩ := Holds.of_own (w0 := w0) (H := HB ++ []) hS (fun p hp => List.mem_append_left _ hp)
  refine W_call (.cons rfl .nil) Tryz.call77 rfl (firstU_L (H := (bo, .cells 133 3 [.int .i64 (room : Int), .int .i64 ((last : Nat) : Int), .map (some bm)]) :: (bm, .obj (mapO (Value.int .u64) l c)) :: H) (HB := HB) (bl := bl) (ad := ad) (q := m) (by (try rw [List.length_reverse]); omega) (hrw.up (.drop (.refl _)))) ?_
  rintro v H' ⟨rfl, rfl⟩
  rw [firstU_eq]
  refine W_extract rfl rfl rfl ?_
  refine W_extract rfl rfl rfl ?_
  refine W_assign rfl rfl ?_
  refine W_assign rfl rfl ?_
  refine W_nil ?_
  refine W_ret2m (H2 := (bo, .cells 133 3 [.int .i64 (room : Int), .int .i64 ((last : Nat) : Int), .map (some bm)]) :: (bm, .obj (mapO (Value.int .u64) l c)) :: H) Tryz.results43 rfl rfl (.nil _) zH ?_
  exact ⟨rfl, rfl⟩
set_option maxHeartbeats 1000000 in
theorem ListU_L {w0 : World} {H : Heap} {room last c bo bm : Nat} {m : List Int} {l : Ents Int} {τ : Int → Nat} (hO : OrdIs room m last l c τ) (h64 : room ≤ 64)  : LCalls Tryz.prog w0 65 #[.pointer (some ⟨bo, 0, none⟩)] ((bo, .cells 133 3 [.int .i64 (room : Int), .int .i64 ((last : Nat) : Int), .map (some bm)]) :: (bm, .obj (mapO (Value.int .u64) l c)) :: H) (fun v H' => ∃ sv XB, v = sv ∧ OwnS 22 1 sv (m).length ((m).map (Value.int .u64)) XB ∧ H' = XB ++ ((bo, .cells 133 3 [.int .i64 (room : Int), .int .i64 ((last : Nat) : Int), .map (some bm)]) :: (bm, .obj (mapO (Value.int .u64) l c)) :: H)) := by
  have hml : m.length ≤ 64 := Nat.le_trans hO.le h64
  refine L_enter (l := [.pointer (some ⟨bo, 0, none⟩)]) Tryz.func65 rfl Tryz.ntmps65 rfl rfl ?_
  refine W_sr ?_
  refine W_assign rfl rfl ?_
  refine W_nil ?_
  refine W_sr ?_
  refine W_alloc (l := [.slice none 0 0]) ty42 rfl rfl (fun b3 => ?_)
  refine W_nil ?_
  refine W_seq ?_
  refine W_sr ?_
  refine W_move rfl rfl ?_
  refine W_call (.cons rfl (.cons rfl .nil)) Tryz.call78 rfl ((sortedU_L (H := (b3, .cells 42 1 [.slice none 0 0]) :: H) hO false h64).hsub zH) ?_
  rintro v H' ⟨bl, sv, HB, rfl, hS, rfl⟩
  simp only [Bool.false_eq_true, if_false] at hS
  obtain ⟨ad, cap, rfl, _, _, hrw⟩ := Holds.of_own (w0 := w0) (H := HB ++ []) hS (fun p hp => List.mem_append_left _ hp)
  refine W_nil ?_
  refine W_block ?_
  refine W_rangeFunc rfl Tryz.call106 ?_
  intro lp D r hst hpd hps hasg hbody hA
  have hr := loop_ready hst hpd
  show LCalls _ _ _ #[_, _] _ _
  refine ((seqU_iter (HB := HB) (bl := bl) (ad := ad) (cap := cap) (q := m) (H := (lp, .obj (.loop r)) :: (D, .obj (.deferred (some []))) :: (b3, .cells 42 1 [.slice none 0 0]) :: ((bo, .cells 133 3 [.int .i64 (room : Int), .int .i64 ((last : Nat) : Int), .map (some bm)]) :: (bm, .obj (mapO (Value.int .u64) l c)) :: H)) (fun i Hi => ∃ xv XB, OwnS 22 1 xv i (((m).take i).map (Value.int .u64)) XB ∧ Hi = (lp, .obj (.loop r)) :: (D, .obj (.deferred (some []))) :: (b3, .cells 42 1 [xv]) :: (XB ++ ((bo, .cells 133 3 [.int .i64 (room : Int), .int .i64 ((last : Nat) : Int), .map (some bm)]) :: (bm, .obj (mapO (Value.int .u64) l c)) :: H))) (fun _ => False) (by omega) (hrw.up (.drop (.refl _))) ?_ ⟨_, [], .nil, rfl⟩).hsub zH).mono ?_
  · intro i z Hi hz hJ
    obtain ⟨xv, XB, hX, rfl⟩ := hJ
    have hil := (List.getElem?_eq_some_iff.1 hz).1
    refine round_intro hst hpd hA hps rfl hasg rfl rfl rfl zT ?_
    refine W_region ?_
    refine W_assign rfl rfl ?_
    refine W_nil ?_
    refine W_begin hst hpd zT hbody ?_
    refine W_block ?_
    refine W_region ?_
    refine W_load (v := xv) rfl ty42 rfl (Cell.own (b := b3) zM rfl) rfl ?_
    refine W_move rfl rfl ?_
    refine W_buildSlice (l := [(Value.int .u64) z]) ty42 ty22 (.cons rfl rfl rfl rfl rfl .nil) rfl rfl rfl rfl rfl rfl rfl (fun b10 => ?_)
    refine W_append (news := [(Value.int .u64) z]) (m := 1) (HB := XB) (H0 := (bl, .cells 42 1 [.slice ad (m).length cap]) :: (HB ++ ((lp, .obj (.loop (Loop.at r .busy none))) :: (D, .obj (.deferred (some []))) :: (b3, .cells 42 1 [xv]) :: ((bo, .cells 133 3 [.int .i64 (room : Int), .int .i64 ((last : Nat) : Int), .map (some bm)]) :: (bm, .obj (mapO (Value.int .u64) l c)) :: H)))) rfl rfl ty42 ty22 rfl (by decide) hX rfl (Holds.own List.mem_cons_self) rfl (by simp only [maxLen]; omega) (by omega) zH rfl (fun v' HB' hO' => ?_)
    refine W_store (l' := [v']) rfl rfl ty42 (by obtain ⟨a0, c0', e0, _⟩ := hO'.shape; rw [e0]; rfl) rfl (b := b3) zM rfl rfl zU ?_
    refine W_nil ?_
    refine W_blk ?_
    refine W_endround zT ?_
    rw [hr]
    exact ⟨(lp, .obj (.loop r)) :: (D, .obj (.deferred (some []))) :: (b3, .cells 42 1 [v']) :: (HB' ++ ((bo, .cells 133 3 [.int .i64 (room : Int), .int .i64 ((last : Nat) : Int), .map (some bm)]) :: (bm, .obj (mapO (Value.int .u64) l c)) :: H)), zH, .inl ⟨rfl, v', HB', by rw [List.take_add_one, hz, List.map_append]; exact hO', rfl⟩⟩
  · intro _ H' hp
    obtain ⟨Hi', hs, hJS⟩ := hp
    obtain ⟨xv, XB, hX, rfl⟩ := hJS.resolve_right id
    rw [List.take_length] at hX
    refine ⟨.ready, none, (bl, .cells 42 1 [.slice ad (m).length cap]) :: (HB ++ ((D, .obj (.deferred (some []))) :: (b3, .cells 42 1 [xv]) :: (XB ++ ((bo, .cells 133 3 [.int .i64 (room : Int), .int .i64 ((last : Nat) : Int), .map (some bm)]) :: (bm, .obj (mapO (Value.int .u64) l c)) :: H)))), by rw [hr]; exact hs.trans zH, by decide, ?_⟩
    show W _ _ _ _ _ _ _ _ _
    refine W_blk ?_
    refine W_sr ?_
    refine W_load (v := xv) rfl ty42 rfl (Cell.own (b := b3) zM rfl) rfl ?_
    refine W_assign rfl rfl ?_
    refine W_nil ?_
    refine W_ret1m (H2 := XB ++ ((bo, .cells 133 3 [.int .i64 (room : Int), .int .i64 ((last : Nat) : Int), .map (some bm)]) :: (bm, .obj (mapO (Value.int .u64) l c)) :: H)) Tryz.results65 rfl (.cons zT (.nil _)) zH ?_
    exact ⟨xv, XB, rfl, hX, rfl⟩
end Go.Proofs.YtphdlpmnidiliaaGreatDoor
namespace Go.Proofs.YtphdlpmnidiliaaGreatDoor
open Go Go.Sl
attribute [local irreducible] W
inductive AreH (ab : Nat) (L : List Slt) : Heap → Prop
  | mk {sb u f : Nat} (hu : TellsA 1 L u) (hf : TellsA 0 L f) (hk : AreOk L) : AreH ab L [(ab, .cells 125 3 [.slice (some ⟨sb, 0, none⟩) L.length L.length, .int .u64 ((u : Nat) : Int), .int .u64 ((f : Nat) : Int)]), (sb, .cells 127 (L.length * 7) ((L).flatMap sltC))]
inductive TabH (tb room : Nat) (C : List (Int × Hd)) : Heap → Prop
  | mk {cb : Nat} {vs : List Value} {Hs : List Heap} (hT : TabIs C vs Hs) : TabH tb room C ((tb, .cells 130 3 [.slice (some ⟨cb, 0, none⟩) 8 8, .int .i64 (room : Int), .int .i64 ((C.length : Nat) : Int)]) :: (cb, .cells 147 8 vs) :: Hs.flatten)
theorem TabH.nd {tb room : Nat} {C : List (Int × Hd)} {HT : Heap} (h : TabH tb room C HT) : (keyL C).Nodup ∧ C.length ≤ 64 := by
  cases h with
  | mk hT => exact ⟨hT.nd, hT.len⟩
inductive OrdH (bo room T : Nat) (m : List Int) : Heap → Prop
  | mk {bm last c : Nat} {l : Ents Int} {τ : Int → Nat} (hO : OrdIs room m last l c τ) (hl : last ≤ T) : OrdH bo room T m [(bo, .cells 133 3 [.int .i64 (room : Int), .int .i64 ((last : Nat) : Int), .map (some bm)]), (bm, .obj (mapO (Value.int .u64) l c))]
theorem OrdH.up {bo room T T' : Nat} {m : List Int} {HO : Heap} (h : OrdH bo room T m HO) (hl : T ≤ T') : OrdH bo room T' m HO := by
  cases h with
  | mk hO h1 => exact .mk hO (Nat.le_trans h1 hl)
section
variable {w0 : World} {H HA HT HO : Heap} {ab tb bo room T : Nat} {L : List Slt} {C : List (Int × Hd)} {m : List Int}
theorem AreH.put (hA : AreH ab L HA) (hTab : Tab w0) {i : Nat} {s : Slt} {c : Cel} (hfi : firstF L = some i) (hs : L[i]? = some s) :
    LCalls Tryz.prog w0 71 #[.pointer (some ⟨ab, 0, none⟩), .agg (List.toArray (celC c))] (HA ++ H) (fun v H' => ∃ HA', AreH ab (L.set i { s with st := 1, cel := c }) HA' ∧ v = .tuple #[.agg (List.toArray (hdC s.own)), .int .i64 0] ∧ H' = HA' ++ H) := by
  cases hA with
  | mk hu hf hk =>
    refine (Put_L (ab := ab) (H := H) hu hf hk hfi hs (c := c) hTab).mono ?_
    rintro v H' ⟨u', f', rfl, hu', hf', rfl⟩
    exact ⟨_, .mk hu' hf' (hk.set (hk.own i s hs)), rfl, by rw [List.length_set]; rfl⟩
theorem AreH.get (hA : AreH ab L HA) (hm : ∀ p ∈ HA, p ∈ H) {h : Hd} : PureAt Tryz.prog w0 H 84 [.pointer (some ⟨ab, 0, none⟩), .agg (List.toArray (hdC h))] (.tuple #[.agg (List.toArray (celC (celA L h))), .int .i64 (errA L h)]) := by
  cases hA with
  | mk hu hf hk => exact Get_q hu hk (hm _ List.mem_cons_self) (hm _ (List.mem_cons_of_mem _ List.mem_cons_self))
theorem AreH.lenq (hA : AreH ab L HA) (hm : ∀ p ∈ HA, p ∈ H) : PureAt Tryz.prog w0 H 38 [.pointer (some ⟨ab, 0, none⟩)] (.int .i64 ((cntA 1 L : Nat) : Int)) := by
  cases hA with
  | mk hu hf hk => exact LenA_q hu hk (hm _ List.mem_cons_self)
theorem AreH.roomq (hA : AreH ab L HA) (hm : ∀ p ∈ HA, p ∈ H) : PureAt Tryz.prog w0 H 76 [.pointer (some ⟨ab, 0, none⟩)] (.int .i64 ((cntA 0 L : Nat) : Int)) := by
  cases hA with
  | mk hu hf hk => exact RoomA_q hf hk (hm _ List.mem_cons_self)
theorem setA_cel (L : List Slt) (h : Hd) (c : Cel) : (AreOk L → AreOk (setA L h (fun s => { s with cel := c }))) ∧ ∀ n m, TellsA n L m → TellsA n (setA L h (fun s => { s with cel := c })) m := by
  by_cases he : errA L h = 0
  · obtain ⟨i, s, hi, hs, hu, ho, hc, hset⟩ := errA_ok he
    rw [hset]
    exact ⟨fun hk => hk.set (hk.own i s hs), fun n m h => h.same hs Iff.rfl⟩
  · rw [(errA_no he).2]
    exact ⟨id, fun _ _ h => h⟩
theorem AreH.set (hA : AreH ab L HA) {h : Hd} {c : Cel} : LCalls Tryz.prog w0 40 #[.pointer (some ⟨ab, 0, none⟩), .agg (List.toArray (hdC h)), .agg (List.toArray (celC c))] (HA ++ H) (fun v H' => ∃ HA', AreH ab (setA L h (fun s => { s with cel := c })) HA' ∧ v = .int .i64 (errA L h) ∧ H' = HA' ++ H) := by
  cases hA with
  | mk hu hf hk =>
    refine (Set_L (ab := ab) (H := H) hu hk (h := h) (c := c)).mono ?_
    rintro v H' ⟨rfl, rfl⟩
    exact ⟨_, .mk ((setA_cel L h c).2 _ _ hu) ((setA_cel L h c).2 _ _ hf) ((setA_cel L h c).1 hk), rfl, by rw [setA_len]; rfl⟩
theorem setA_rel {L : List Slt} {h : Hd} (hk : AreOk L) : AreOk (setA L h relS) := by
  by_cases he : errA L h = 0
  · obtain ⟨i, s, hi, hs, hu, ho, hc, hset⟩ := errA_ok he
    rw [hset]; exact hk.rel hs
  · rw [(errA_no he).2]; exact hk
theorem AreH.free (hA : AreH ab L HA) {h : Hd} {ad : Option Addr} {cap : Nat} (hrow : Holds w0 H ad (hdC h)) : LCalls Tryz.prog w0 51 #[.pointer (some ⟨ab, 0, none⟩), .slice ad 1 cap] (HA ++ H) (fun v H' => ∃ HA', AreH ab (setA L h relS) HA' ∧ v = .int .i64 (errA L h) ∧ H' = HA' ++ H) := by
  cases hA with
  | mk hu hf hk =>
    refine (Free_L (ab := ab) (H := H) hu hf hk (h := h) (cap := cap) hrow).mono ?_
    rintro v H' ⟨u', f', rfl, hu', hf', rfl⟩
    exact ⟨_, .mk hu' hf' (setA_rel hk), rfl, by rw [setA_len]; rfl⟩
theorem AreH.new {n : Nat} (h1 : 1 ≤ n) (h2 : n ≤ 64) : LCalls Tryz.prog w0 33 #[.int .i64 (n : Int)] H (fun v H' => ∃ ab HA, AreH ab (newL n n) HA ∧ v = .tuple #[.pointer (some ⟨ab, 0, none⟩), .int .i64 0] ∧ H' = HA ++ H) := by
  refine (NewA_L (w0 := w0) (H := H) h1 h2).mono ?_
  rintro v H' ⟨ab, sb, rfl, rfl⟩
  refine ⟨ab, _, .mk (sb := sb) newL_used (newL_free h1 h2) (newL_ok h1 h2), rfl, ?_⟩
  rw [newL_len]; rfl
theorem TabH.get (hT : TabH tb room C HT) (hm : ∀ p ∈ HT, p ∈ H) {k : Int} : PureAt Tryz.prog w0 H 45 [.pointer (some ⟨tb, 0, none⟩), .int .u64 k] (getV (fndC C k)) := by
  cases hT with
  | mk hT => exact GetT_q hT hm
theorem TabH.lenq (hT : TabH tb room C HT) (hm : ∀ p ∈ HT, p ∈ H) : PureAt Tryz.prog w0 H 37 [.pointer (some ⟨tb, 0, none⟩)] (.int .i64 (C.length : Int)) := by
  cases hT with
  | mk hT => exact LenT_q (hm _ List.mem_cons_self)
theorem TabH.keys (hT : TabH tb room C HT) (hm : ∀ p ∈ HT, p ∈ H) : LCalls Tryz.prog w0 66 #[.pointer (some ⟨tb, 0, none⟩)] H (fun v H' => ∃ X, OwnS 22 1 v (keysC C).length ((keysC C).map (Value.int .u64)) X ∧ H' = X ++ H) := by
  cases hT with
  | mk hT => exact KeysT_L hT hm
theorem TabH.put (hT : TabH tb room C HT) {k : Int} {h : Hd} (hk : k ∉ keyL C) (hr : C.length < room) (hr64 : room ≤ 64) : LCalls Tryz.prog w0 72 #[.pointer (some ⟨tb, 0, none⟩), .int .u64 k, .agg (List.toArray (hdC h))] (HT ++ H) (fun v H' => ∃ HT', TabH tb room ((k, h) :: C) HT' ∧ v = .tuple #[.bool false, .int .i64 0] ∧ H' = HT' ++ H) := by
  cases hT with
  | mk hT =>
    refine (PutT_L (tb := tb) (room := room) (H := H) hT (h := h) hk hr hr64).mono ?_
    rintro v H' ⟨vs', Hs', rfl, hT', rfl⟩
    exact ⟨_, .mk hT', rfl, rfl⟩
theorem TabH.del (hT : TabH tb room C HT) {k : Int} {ad : Option Addr} {kc : Nat} (hrow : Holds w0 H ad [.int .u64 k]) : LCalls Tryz.prog w0 79 #[.pointer (some ⟨tb, 0, none⟩), .slice ad 1 kc] (HT ++ H) (fun v H' => ∃ HT', TabH tb room (delC C k) HT' ∧ v = .int .i64 (cntIn C k : Int) ∧ H' = HT' ++ H) := by
  cases hT with
  | mk hT =>
    refine (DelT_L (tb := tb) (room := room) (H := H) hT (k := k) (kc := kc) hrow).mono ?_
    rintro v H' ⟨vs', Hs', rfl, hT', rfl⟩
    exact ⟨_, .mk hT', rfl, rfl⟩
theorem TabH.new {room : Nat} (h1 : 1 ≤ room) (h2 : room ≤ 64) : LCalls Tryz.prog w0 34 #[.int .i64 8, .int .i64 (room : Int)] H (fun v H' => ∃ tb HT, TabH tb room [] HT ∧ v = .tuple #[.pointer (some ⟨tb, 0, none⟩), .int .i64 0] ∧ H' = HT ++ H) := by
  refine (NewT_L (w0 := w0) (H := H) h1 h2).mono ?_
  rintro v H' ⟨tb, cb, rfl, rfl⟩
  exact ⟨tb, _, .mk TabIs.nil, rfl, rfl⟩
theorem touch_ok {m : List Int} {room : Nat} {k : Int} (h : k ∈ m ∨ m.length < room) : touchL m room [k] = (drop1O m k ++ [k], 0) := by
  have e : touch1 m room k = (drop1O m k ++ [k], 0) := if_neg (fun h2 => by rcases h with h | h; exact h2.1 h; omega)
  show (if (touch1 m room k).2 = 0 then touchL (touch1 m room k).1 room [] else (m, 3)) = _
  rw [e]; rfl
theorem OrdH.touch (hO : OrdH bo room T m HO) (hT : T ≤ 1000000) {k : Int} {ad : Option Addr} {cap : Nat} (hk : k ∈ m ∨ m.length < room) (hrow : Holds w0 H ad [.int .u64 k]) : LCalls Tryz.prog w0 39 #[.pointer (some ⟨bo, 0, none⟩), .slice ad 1 cap] (HO ++ H) (fun v H' => ∃ HO', OrdH bo room (T + 1) (drop1O m k ++ [k]) HO' ∧ v = .int .i64 0 ∧ H' = HO' ++ H) := by
  cases hO with
  | mk hO hl =>
    refine (touchU_L (bo := bo) (H := H) hO (ks := [k]) (cap := cap) (by show _ + 1 ≤ _; omega) hrow).mono ?_
    rintro v H' ⟨last', l', c', τ', rfl, hO', hl', rfl⟩
    rw [touch_ok hk] at hO' ⊢
    exact ⟨_, .mk hO' (by have : last' ≤ _ + 1 := hl'; omega), rfl, rfl⟩
theorem OrdH.drop (hO : OrdH bo room T m HO) {k : Int} : LCalls Tryz.prog w0 80 #[.pointer (some ⟨bo, 0, none⟩), .int .u64 k] (HO ++ H) (fun v H' => ∃ HO', OrdH bo room T (drop1O m k) HO' ∧ v = .bool (inO m k) ∧ H' = HO' ++ H) := by
  cases hO with
  | mk hO hl =>
    refine (dropU_L (bo := bo) (H := H) hO k).mono ?_
    rintro v H' ⟨l', rfl, hO', rfl⟩
    exact ⟨_, .mk hO' hl, rfl, rfl⟩
theorem OrdH.oldest (hO : OrdH bo room T m HO) (h64 : room ≤ 64) : LCalls Tryz.prog w0 43 #[.pointer (some ⟨bo, 0, none⟩)] (HO ++ H) (fun v H' => v = .tuple #[fstU m, .bool (!m.isEmpty)] ∧ H' = HO ++ H) := by
  cases hO with
  | mk hO hl => exact OldestU_L (bo := bo) (H := H) hO h64
theorem OrdH.list (hO : OrdH bo room T m HO) (h64 : room ≤ 64) : LCalls Tryz.prog w0 65 #[.pointer (some ⟨bo, 0, none⟩)] (HO ++ H) (fun v H' => ∃ X, OwnS 22 1 v m.length (m.map (Value.int .u64)) X ∧ H' = X ++ (HO ++ H)) := by
  cases hO with
  | mk hO hl =>
    refine (ListU_L (bo := bo) (H := H) hO h64).mono ?_
    rintro v H' ⟨sv, XB, rfl, h, rfl⟩
    exact ⟨XB, h, rfl⟩
theorem OrdH.new {room : Nat} (hz : 1 ≤ room ∧ room ≤ 64) : LCalls Tryz.prog w0 35 #[.int .i64 (room : Int)] H (fun v H' => ∃ bo HO, OrdH bo room (0) [] HO ∧ v = .tuple #[.pointer (some ⟨bo, 0, none⟩), .int .i64 0] ∧ H' = HO ++ H) := by
  refine (newU_L (w0 := w0) (H := H) hz).mono ?_
  rintro v H' ⟨bo, bm, rfl, rfl⟩
  exact ⟨bo, _, .mk (OrdIs.nil room 0 (fun _ => 0)) (Nat.le_refl _), rfl, rfl⟩
end
end Go.Proofs.YtphdlpmnidiliaaGreatDoor
