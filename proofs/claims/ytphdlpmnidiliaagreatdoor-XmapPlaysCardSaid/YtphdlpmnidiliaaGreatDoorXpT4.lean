/-
  Own work: contracts of functions that the statement reaches, and plain facts on what they compute; each theorem says its conditions.
-/
import Derived.Test.YtphdlpmnidiliaaGreatDoorXpT3
import Derived.Test.YtphdlpmnidiliaaGreatDoorXpS1
import Derived.Test.YtphdlpmnidiliaaGreatDoorXpA
set_option linter.all false
set_option linter.unusedSimpArgs false
set_option linter.unusedVariables false
namespace Go.Proofs.YtphdlpmnidiliaaGreatDoor
open Go Go.Sl
attribute [local irreducible] W
set_option maxHeartbeats 4000000 in
theorem link_at {w0 : World} {H : Heap} {mb ab tb bo T kind entries words : Nat} {closed : Bool} {L : List Slt} {C : List (Int × Hd)} {used : List Int} {HA HT HO : Heap} (hA : AreH ab L HA) (hB : TabH tb entries C HT) (hO : OrdH bo entries T used HO) (hTl : T ≤ 1000000) (he : entries ≤ 64) {i : Nat} {s : Slt} {c : Cel} (hfi : firstF L = some i) (hs : L[i]? = some s) (hk : c.key ∉ keyL C) (hr : C.length < entries) (hru : used.length < entries) (hTab : Tab w0) : LCalls Tryz.prog w0 36 #[.pointer (some ⟨mb, 0, none⟩), .agg (List.toArray (celC c))] ((mb, .cells 78 7 [.int .i64 (kind : Int), .int .i64 (entries : Int), .int .i64 (words : Int), .pointer (some ⟨ab, 0, none⟩), .pointer (some ⟨tb, 0, none⟩), .pointer (some ⟨bo, 0, none⟩), .bool closed]) :: (HA ++ (HT ++ (HO ++ H)))) (fun v H' => ∃ HA' HT' HO', AreH ab (L.set i { s with st := 1, cel := c }) HA' ∧ TabH tb entries ((c.key, s.own) :: C) HT' ∧ OrdH bo entries (T + 1) (drop1O used c.key ++ [c.key]) HO' ∧ v = .tuple #[.agg (List.toArray (hdC s.own)), .int .i64 0] ∧ H' = (mb, .cells 78 7 [.int .i64 (kind : Int), .int .i64 (entries : Int), .int .i64 (words : Int), .pointer (some ⟨ab, 0, none⟩), .pointer (some ⟨tb, 0, none⟩), .pointer (some ⟨bo, 0, none⟩), .bool closed]) :: (HA' ++ (HT' ++ (HO' ++ H)))) := by
  refine L_enter (l := [.pointer (some ⟨mb, 0, none⟩), .agg (List.toArray (celC c))]) Tryz.func36 rfl Tryz.ntmps36 rfl rfl ?_
  refine W_sr ?_
  refine W_box rfl rfl rfl (fun b3 => ?_)
  refine W_alloc (l := hdC zHd) ty29 rfl rfl (fun b4 => ?_)
  refine W_assign rfl rfl ?_
  refine W_nil ?_
  refine W_seq ?_
  refine W_cutX (X := (Heap × Nat)) (fun x => [(0, .pointer (some ⟨mb, 0, none⟩)), (3, .pointer (some ⟨b3, 0, none⟩)), (4, .pointer (some ⟨b4, 0, none⟩)), (6, .pointer (some ⟨x.2, 0, none⟩)), (7, .int .i64 0)]) (fun x => (x.2, .cells 29 2 (hdC s.own)) :: (b4, .cells 29 2 (hdC zHd)) :: (b3, .cells 82 5 (celC c)) :: (mb, .cells 78 7 [.int .i64 (kind : Int), .int .i64 (entries : Int), .int .i64 (words : Int), .pointer (some ⟨ab, 0, none⟩), .pointer (some ⟨tb, 0, none⟩), .pointer (some ⟨bo, 0, none⟩), .bool closed]) :: (x.1 ++ (HT ++ (HO ++ H)))) (fun x => AreH ab (L.set i { s with st := 1, cel := c }) x.1) ?_ ?_
  · skip
    refine W_anyC [(mb, .cells 78 7 [.int .i64 (kind : Int), .int .i64 (entries : Int), .int .i64 (words : Int), .pointer (some ⟨ab, 0, none⟩), .pointer (some ⟨tb, 0, none⟩), .pointer (some ⟨bo, 0, none⟩), .bool closed]), (b3, .cells 82 5 (celC c))] (by kernel_rfl) ?_
    refine WC_take 0 (l' := #[true, false, false, false, false, false, false, false, false, false, false, false]) rfl (by decide +kernel) (by decide +kernel) (by decide +kernel) rfl (by decide +kernel) (X_move rfl) rfl ?_
    refine WC_take 1 (l' := #[true, true, false, false, false, false, false, false, false, false, false, false]) rfl (by decide +kernel) (by decide +kernel) (by decide +kernel) rfl (by decide +kernel) (X_nilCheck rfl) rfl ?_
    refine WC_take 2 (l' := #[true, true, true, false, false, false, false, false, false, false, false, false]) rfl (by decide +kernel) (by decide +kernel) (by decide +kernel) rfl (by decide +kernel) (X_fieldAddr rfl fld78_3 (by decide)) rfl ?_
    refine WC_take 3 (l' := #[true, true, true, true, false, false, false, false, false, false, false, false]) rfl (by decide +kernel) (by decide +kernel) (by decide +kernel) rfl (by decide +kernel) (X_load (v := .pointer (some ⟨ab, 0, none⟩)) rfl ty74 rfl (Cell.own (b := mb) zM rfl)) rfl ?_
    refine WC_take 4 (l' := #[true, true, true, true, true, false, false, false, false, false, false, false]) rfl (by decide +kernel) (by decide +kernel) (by decide +kernel) rfl (by decide +kernel) (X_loadB (vs := celC (c)) rfl ty82 rfl (b := b3) zM rfl rfl) rfl ?_
    refine WC_two 5 9 (l' := #[true, true, true, true, true, true, false, false, false, false, false, false]) (l'' := #[true, true, true, true, true, false, false, false, false, true, false, false]) zH (by decide +kernel) rfl rfl (by decide +kernel) (by decide +kernel) ?_ ?_
    · skip
      refine W_call (.cons rfl (.cons rfl .nil)) Tryz.call71 rfl ((hA.put hTab hfi hs (c := c) (H := (mb, .cells 78 7 [.int .i64 (kind : Int), .int .i64 (entries : Int), .int .i64 (words : Int), .pointer (some ⟨ab, 0, none⟩), .pointer (some ⟨tb, 0, none⟩), .pointer (some ⟨bo, 0, none⟩), .bool closed]) :: (HT ++ (HO ++ ((b4, .cells 29 2 (hdC zHd)) :: (b3, .cells 82 5 (celC c)) :: H))))).hsub zH) ?_
      rintro v H' ⟨HA2, hA2, rfl, rfl⟩
      refine W_nil ?_
      refine WC_goal ?_
      refine WC_take 6 (l' := #[true, true, true, true, true, true, true, false, false, false, false, false]) rfl (by decide +kernel) (by decide +kernel) (by decide +kernel) rfl (by decide +kernel) (X_move rfl) rfl ?_
      refine WC_take 7 (l' := #[true, true, true, true, true, true, true, true, false, false, false, false]) rfl (by decide +kernel) (by decide +kernel) (by decide +kernel) rfl (by decide +kernel) (X_extract rfl rfl) rfl ?_
      refine WC_take 8 (l' := #[true, true, true, true, true, true, true, true, true, false, false, false]) rfl (by decide +kernel) (by decide +kernel) (by decide +kernel) rfl (by decide +kernel) (X_extract rfl rfl) rfl ?_
      refine WC_one 9 (l' := #[true, true, true, true, true, true, true, true, true, true, false, false]) zH (by decide +kernel) rfl (by decide +kernel) ?_
      refine W_alloc (l := hdC zHd) ty29 rfl rfl (fun b6 => ?_)
      refine W_nil ?_
      refine WC_goal ?_
      refine WC_one 10 (l' := #[true, true, true, true, true, true, true, true, true, true, true, false]) zH (by decide +kernel) rfl (by decide +kernel) ?_
      refine W_storeA (l' := hdC s.own) rfl rfl ty29 rfl rfl (b := b6) zM (by exact Nat.le_refl 2) rfl zU ?_
      refine W_nil ?_
      refine WC_goal ?_
      refine WC_take 11 (l' := #[true, true, true, true, true, true, true, true, true, true, true, true]) rfl (by decide +kernel) (by decide +kernel) (by decide +kernel) rfl (by decide +kernel) (X_assign rfl) rfl ?_
      refine WC_done zH (by decide +kernel) ?_
      refine W_joinX (HA2, b6) hA2 (sub_cons rfl (sub_cons rfl (sub_cons rfl (sub_cons rfl (sub_cons rfl (sub_nil _)))))) zH
    · skip
      refine W_alloc (l := hdC zHd) ty29 rfl rfl (fun b6 => ?_)
      refine W_nil ?_
      refine WC_goal ?_
      refine WC_one 5 (l' := #[true, true, true, true, true, true, false, false, false, true, false, false]) zH (by decide +kernel) rfl (by decide +kernel) ?_
      refine W_call (.cons rfl (.cons rfl .nil)) Tryz.call71 rfl ((hA.put hTab hfi hs (c := c) (H := (b6, .cells 29 2 (hdC zHd)) :: (mb, .cells 78 7 [.int .i64 (kind : Int), .int .i64 (entries : Int), .int .i64 (words : Int), .pointer (some ⟨ab, 0, none⟩), .pointer (some ⟨tb, 0, none⟩), .pointer (some ⟨bo, 0, none⟩), .bool closed]) :: (HT ++ (HO ++ ((b4, .cells 29 2 (hdC zHd)) :: (b3, .cells 82 5 (celC c)) :: H))))).hsub zH) ?_
      rintro v H' ⟨HA2, hA2, rfl, rfl⟩
      refine W_nil ?_
      refine WC_goal ?_
      refine WC_take 6 (l' := #[true, true, true, true, true, true, true, false, false, true, false, false]) rfl (by decide +kernel) (by decide +kernel) (by decide +kernel) rfl (by decide +kernel) (X_move rfl) rfl ?_
      refine WC_take 7 (l' := #[true, true, true, true, true, true, true, true, false, true, false, false]) rfl (by decide +kernel) (by decide +kernel) (by decide +kernel) rfl (by decide +kernel) (X_extract rfl rfl) rfl ?_
      refine WC_take 8 (l' := #[true, true, true, true, true, true, true, true, true, true, false, false]) rfl (by decide +kernel) (by decide +kernel) (by decide +kernel) rfl (by decide +kernel) (X_extract rfl rfl) rfl ?_
      refine WC_one 10 (l' := #[true, true, true, true, true, true, true, true, true, true, true, false]) zH (by decide +kernel) rfl (by decide +kernel) ?_
      refine W_storeA (l' := hdC s.own) rfl rfl ty29 rfl rfl (b := b6) zM (by exact Nat.le_refl 2) rfl zU ?_
      refine W_nil ?_
      refine WC_goal ?_
      refine WC_take 11 (l' := #[true, true, true, true, true, true, true, true, true, true, true, true]) rfl (by decide +kernel) (by decide +kernel) (by decide +kernel) rfl (by decide +kernel) (X_assign rfl) rfl ?_
      refine WC_done zH (by decide +kernel) ?_
      refine W_joinX (HA2, b6) hA2 (sub_cons rfl (sub_cons rfl (sub_cons rfl (sub_cons rfl (sub_cons rfl (sub_nil _)))))) zH
  rintro ⟨HA2, b6⟩ hA2
  dsimp only at hA2 ⊢
  refine W_seq ?_
  refine W_sr ?_
  refine W_move rfl rfl ?_
  refine W_bin rfl rfl b_neq rfl ?_
  refine W_nil ?_
  refine W_condF rfl rfl ?_
  refine W_skip ?_
  refine W_seq ?_
  refine W_anyC [(mb, .cells 78 7 [.int .i64 (kind : Int), .int .i64 (entries : Int), .int .i64 (words : Int), .pointer (some ⟨ab, 0, none⟩), .pointer (some ⟨tb, 0, none⟩), .pointer (some ⟨bo, 0, none⟩), .bool closed]), (b3, .cells 82 5 (celC c)), (b6, .cells 29 2 (hdC s.own))] (by kernel_rfl) ?_
  refine WC_take 0 (l' := #[true, false, false, false, false, false, false, false]) rfl (by decide +kernel) (by decide +kernel) (by decide +kernel) rfl (by decide +kernel) (X_move rfl) rfl ?_
  refine WC_take 1 (l' := #[true, true, false, false, false, false, false, false]) rfl (by decide +kernel) (by decide +kernel) (by decide +kernel) rfl (by decide +kernel) (X_nilCheck rfl) rfl ?_
  refine WC_take 2 (l' := #[true, true, true, false, false, false, false, false]) rfl (by decide +kernel) (by decide +kernel) (by decide +kernel) rfl (by decide +kernel) (X_fieldAddr rfl fld78_4 (by decide)) rfl ?_
  refine WC_take 3 (l' := #[true, true, true, true, false, false, false, false]) rfl (by decide +kernel) (by decide +kernel) (by decide +kernel) rfl (by decide +kernel) (X_load (v := .pointer (some ⟨tb, 0, none⟩)) rfl ty75 rfl (Cell.own (b := mb) zM rfl)) rfl ?_
  refine WC_take 4 (l' := #[true, true, true, true, true, false, false, false]) rfl (by decide +kernel) (by decide +kernel) (by decide +kernel) rfl (by decide +kernel) (X_fieldAddr rfl fld82_0 (by decide)) rfl ?_
  refine WC_take 5 (l' := #[true, true, true, true, true, true, false, false]) rfl (by decide +kernel) (by decide +kernel) (by decide +kernel) rfl (by decide +kernel) (X_load (v := .int .u64 c.key) rfl ty22 rfl (Cell.own (b := b3) zM rfl)) rfl ?_
  refine WC_take 6 (l' := #[true, true, true, true, true, true, true, false]) rfl (by decide +kernel) (by decide +kernel) (by decide +kernel) rfl (by decide +kernel) (X_loadB (vs := hdC s.own) rfl ty29 rfl (b := b6) zM rfl rfl) rfl ?_
  refine WC_one 7 (l' := #[true, true, true, true, true, true, true, true]) zH (by decide +kernel) rfl (by decide +kernel) ?_
  refine W_call (.cons rfl (.cons rfl (.cons rfl .nil))) Tryz.call72 rfl ((hB.put (h := s.own) hk hr he (H := (b6, .cells 29 2 (hdC s.own)) :: (b4, .cells 29 2 (hdC zHd)) :: (b3, .cells 82 5 (celC c)) :: (mb, .cells 78 7 [.int .i64 (kind : Int), .int .i64 (entries : Int), .int .i64 (words : Int), .pointer (some ⟨ab, 0, none⟩), .pointer (some ⟨tb, 0, none⟩), .pointer (some ⟨bo, 0, none⟩), .bool closed]) :: (HA2 ++ (HO ++ H)))).hsub zH) ?_
  rintro v H' ⟨HT2, hB2, rfl, rfl⟩
  refine W_nil ?_
  refine WC_goal ?_
  refine WC_done zH (by decide +kernel) ?_
  refine W_seq ?_
  refine W_anyC [(mb, .cells 78 7 [.int .i64 (kind : Int), .int .i64 (entries : Int), .int .i64 (words : Int), .pointer (some ⟨ab, 0, none⟩), .pointer (some ⟨tb, 0, none⟩), .pointer (some ⟨bo, 0, none⟩), .bool closed]), (b3, .cells 82 5 (celC c))] (by kernel_rfl) ?_
  refine WC_take 0 (l' := #[true, false, false, false, false, false, false, false]) rfl (by decide +kernel) (by decide +kernel) (by decide +kernel) rfl (by decide +kernel) (X_move rfl) rfl ?_
  refine WC_take 1 (l' := #[true, true, false, false, false, false, false, false]) rfl (by decide +kernel) (by decide +kernel) (by decide +kernel) rfl (by decide +kernel) (X_nilCheck rfl) rfl ?_
  refine WC_take 2 (l' := #[true, true, true, false, false, false, false, false]) rfl (by decide +kernel) (by decide +kernel) (by decide +kernel) rfl (by decide +kernel) (X_fieldAddr rfl fld78_5 (by decide)) rfl ?_
  refine WC_take 3 (l' := #[true, true, true, true, false, false, false, false]) rfl (by decide +kernel) (by decide +kernel) (by decide +kernel) rfl (by decide +kernel) (X_load (v := .pointer (some ⟨bo, 0, none⟩)) rfl ty76 rfl (Cell.own (b := mb) zM rfl)) rfl ?_
  refine WC_take 4 (l' := #[true, true, true, true, true, false, false, false]) rfl (by decide +kernel) (by decide +kernel) (by decide +kernel) rfl (by decide +kernel) (X_fieldAddr rfl fld82_0 (by decide)) rfl ?_
  refine WC_take 5 (l' := #[true, true, true, true, true, true, false, false]) rfl (by decide +kernel) (by decide +kernel) (by decide +kernel) rfl (by decide +kernel) (X_load (v := .int .u64 c.key) rfl ty22 rfl (Cell.own (b := b3) zM rfl)) rfl ?_
  refine WC_one 6 (l' := #[true, true, true, true, true, true, true, false]) zH (by decide +kernel) rfl (by decide +kernel) ?_
  refine W_buildSlice (l := [.int .u64 c.key]) ty42 ty22 (.cons rfl rfl rfl rfl rfl .nil) rfl rfl rfl rfl rfl rfl rfl (fun b34 => ?_)
  refine W_nil ?_
  refine WC_goal ?_
  refine WC_one 7 (l' := #[true, true, true, true, true, true, true, true]) zH (by decide +kernel) rfl (by decide +kernel) ?_
  refine W_call (.cons rfl (.cons rfl .nil)) Tryz.call39 rfl ((hO.touch hTl (k := c.key) (cap := 1) (.inr hru) (Holds.own (b := b34) zM) (H := (b34, .cells 22 (1 * 1) [.int .u64 c.key]) :: (b6, .cells 29 2 (hdC s.own)) :: (b4, .cells 29 2 (hdC zHd)) :: (b3, .cells 82 5 (celC c)) :: (mb, .cells 78 7 [.int .i64 (kind : Int), .int .i64 (entries : Int), .int .i64 (words : Int), .pointer (some ⟨ab, 0, none⟩), .pointer (some ⟨tb, 0, none⟩), .pointer (some ⟨bo, 0, none⟩), .bool closed]) :: (HA2 ++ (HT2 ++ H)))).hsub zH) ?_
  rintro v H' ⟨HO2, hO2, rfl, rfl⟩
  refine W_nil ?_
  refine WC_goal ?_
  refine WC_done zH (by decide +kernel) ?_
  refine W_sr ?_
  refine W_loadB (vs := hdC s.own) rfl ty29 rfl (b := b6) zM rfl rfl rfl ?_
  refine W_storeA (l' := hdC s.own) rfl rfl ty29 rfl rfl (b := b4) zM (by exact Nat.le_refl 2) rfl zU ?_
  refine W_assign rfl rfl ?_
  refine W_nil ?_
  refine W_ret2G (H2 := (mb, .cells 78 7 [.int .i64 (kind : Int), .int .i64 (entries : Int), .int .i64 (words : Int), .pointer (some ⟨ab, 0, none⟩), .pointer (some ⟨tb, 0, none⟩), .pointer (some ⟨bo, 0, none⟩), .bool closed]) :: (HA2 ++ (HT2 ++ (HO2 ++ H)))) Tryz.results36 (.nil _) (.own (vs := hdC s.own) rfl ty29 rfl (b := b4) zM rfl) (.tmp rfl) zH ?_
  exact ⟨HA2, HT2, HO2, hA2, hB2, hO2, rfl, rfl⟩
set_option maxHeartbeats 4000000 in
theorem unlink_at {w0 : World} {H : Heap} {mb ab tb bo T kind entries words : Nat} {closed : Bool} {C : List (Int × Hd)} {used : List Int} {HA HT HO : Heap} (hB : TabH tb entries C HT) (hO : OrdH bo entries T used HO) {k : Int}  : LCalls Tryz.prog w0 44 #[.pointer (some ⟨mb, 0, none⟩), .int .u64 k] ((mb, .cells 78 7 [.int .i64 (kind : Int), .int .i64 (entries : Int), .int .i64 (words : Int), .pointer (some ⟨ab, 0, none⟩), .pointer (some ⟨tb, 0, none⟩), .pointer (some ⟨bo, 0, none⟩), .bool closed]) :: (HA ++ (HT ++ (HO ++ H)))) (fun v H' => ∃ HT' HO', TabH tb entries (delC C k) HT' ∧ OrdH bo entries T (drop1O used k) HO' ∧ v = .agg (List.toArray (hdC ((fndC C k).getD zHd))) ∧ H' = (mb, .cells 78 7 [.int .i64 (kind : Int), .int .i64 (entries : Int), .int .i64 (words : Int), .pointer (some ⟨ab, 0, none⟩), .pointer (some ⟨tb, 0, none⟩), .pointer (some ⟨bo, 0, none⟩), .bool closed]) :: (HA ++ (HT' ++ (HO' ++ H)))) := by
  refine L_enter (l := [.pointer (some ⟨mb, 0, none⟩), .int .u64 k]) Tryz.func44 rfl Tryz.ntmps44 rfl rfl ?_
  refine W_sr ?_
  refine W_alloc (l := hdC zHd) ty29 rfl rfl (fun b4 => ?_)
  refine W_nil ?_
  refine W_sr ?_
  refine W_move rfl rfl ?_
  refine W_nilCheck rfl rfl ?_
  refine W_fieldAddr rfl fld78_4 (by decide) rfl ?_
  refine W_load (v := .pointer (some ⟨tb, 0, none⟩)) rfl ty75 rfl (Cell.own (b := mb) zM rfl) rfl ?_
  refine W_move rfl rfl ?_
  refine W_callq (.cons rfl (.cons rfl .nil)) Tryz.call45 rfl (hB.get (k := k) (fun p hp => by repeat (first | exact List.mem_append_left _ hp | apply List.mem_cons_of_mem | apply List.mem_append_right))) ?_
  obtain ⟨g, hg⟩ : ∃ g, g = (fndC C k).getD zHd := ⟨_, rfl⟩
  unfold getV
  rw [← hg]
  refine W_move rfl rfl ?_
  refine W_extract rfl rfl rfl ?_
  refine W_extract rfl rfl rfl ?_
  refine W_alloc (l := hdC zHd) ty29 rfl rfl (fun b5 => ?_)
  refine W_storeA (l' := hdC g) rfl rfl ty29 rfl rfl (b := b5) zM (by exact Nat.le_refl 2) rfl zU ?_
  refine W_assign rfl rfl ?_
  refine W_nil ?_
  refine W_sr ?_
  refine W_move rfl rfl ?_
  refine W_nilCheck rfl rfl ?_
  refine W_fieldAddr rfl fld78_4 (by decide) rfl ?_
  refine W_load (v := .pointer (some ⟨tb, 0, none⟩)) rfl ty75 rfl (Cell.own (b := mb) zM rfl) rfl ?_
  refine W_move rfl rfl ?_
  refine W_buildSlice (l := [.int .u64 k]) ty42 ty22 (.cons rfl rfl rfl rfl rfl .nil) rfl rfl rfl rfl rfl rfl rfl (fun b21 => ?_)
  refine W_call (.cons rfl (.cons rfl .nil)) Tryz.call79 rfl ((hB.del (k := k) (kc := 1) (Holds.own (b := b21) zM) (H := (b21, .cells 22 (1 * 1) [.int .u64 k]) :: (b5, .cells 29 2 (hdC g)) :: (b4, .cells 29 2 (hdC zHd)) :: (mb, .cells 78 7 [.int .i64 (kind : Int), .int .i64 (entries : Int), .int .i64 (words : Int), .pointer (some ⟨ab, 0, none⟩), .pointer (some ⟨tb, 0, none⟩), .pointer (some ⟨bo, 0, none⟩), .bool closed]) :: (HA ++ (HO ++ H)))).hsub zH) ?_
  rintro v H' ⟨HT2, hB2, rfl, rfl⟩
  refine W_nil ?_
  refine W_sr ?_
  refine W_move rfl rfl ?_
  refine W_nilCheck rfl rfl ?_
  refine W_fieldAddr rfl fld78_5 (by decide) rfl ?_
  refine W_load (v := .pointer (some ⟨bo, 0, none⟩)) rfl ty76 rfl (Cell.own (b := mb) zM rfl) rfl ?_
  refine W_move rfl rfl ?_
  refine W_call (.cons rfl (.cons rfl .nil)) Tryz.call80 rfl ((hO.drop (k := k) (H := (b21, .cells 22 (1 * 1) [.int .u64 k]) :: (b5, .cells 29 2 (hdC g)) :: (b4, .cells 29 2 (hdC zHd)) :: (mb, .cells 78 7 [.int .i64 (kind : Int), .int .i64 (entries : Int), .int .i64 (words : Int), .pointer (some ⟨ab, 0, none⟩), .pointer (some ⟨tb, 0, none⟩), .pointer (some ⟨bo, 0, none⟩), .bool closed]) :: (HA ++ (HT2 ++ H)))).hsub zH) ?_
  rintro v H' ⟨HO2, hO2, rfl, rfl⟩
  refine W_nil ?_
  refine W_sr ?_
  refine W_loadB (vs := hdC g) rfl ty29 rfl (b := b5) zM rfl rfl rfl ?_
  refine W_storeA (l' := hdC g) rfl rfl ty29 rfl rfl (b := b4) zM (by exact Nat.le_refl 2) rfl zU ?_
  refine W_nil ?_
  refine W_ret1cO (H2 := (mb, .cells 78 7 [.int .i64 (kind : Int), .int .i64 (entries : Int), .int .i64 (words : Int), .pointer (some ⟨ab, 0, none⟩), .pointer (some ⟨tb, 0, none⟩), .pointer (some ⟨bo, 0, none⟩), .bool closed]) :: (HA ++ (HT2 ++ (HO2 ++ H)))) Tryz.results44 rfl (.nil _) ty29 rfl (b := b4) zM rfl zH ?_
  exact ⟨HT2, HO2, hB2, hO2, by rw [hg], rfl⟩
set_option maxHeartbeats 1000000 in
theorem Look_q {w0 : World} {H : Heap} {mb ab tb bo kind entries words : Nat} {closed : Bool} {C : List (Int × Hd)} {HA HT HO : Heap} (hB : TabH tb entries C HT) {k : Int} (hm : ∀ p ∈ ((mb, .cells 78 7 [.int .i64 (kind : Int), .int .i64 (entries : Int), .int .i64 (words : Int), .pointer (some ⟨ab, 0, none⟩), .pointer (some ⟨tb, 0, none⟩), .pointer (some ⟨bo, 0, none⟩), .bool closed]) :: (HA ++ (HT ++ HO))), p ∈ H)  : PureAt Tryz.prog w0 H 13 [.pointer (some ⟨mb, 0, none⟩), .int .u64 k] (.tuple #[.agg (List.toArray (hdC ((fndC C k).getD zHd))), .int .i64 (if (fndC C k).isSome then 0 else 4)]) := by
  refine L_enter Tryz.func13 rfl Tryz.ntmps13 rfl rfl ?_
  refine W_sr ?_
  refine W_alloc (l := hdC zHd) ty29 rfl rfl (fun b4 => ?_)
  refine W_assign rfl rfl ?_
  refine W_nil ?_
  refine W_seq ?_
  refine W_sr ?_
  refine W_move rfl rfl ?_
  refine W_x (X_ptrNil rfl rfl ty23) (fun _ h => by cases h) rfl ?_
  refine W_nil ?_
  refine W_condF rfl rfl ?_
  refine W_skip ?_
  refine W_sr ?_
  refine W_move rfl rfl ?_
  refine W_nilCheck rfl rfl ?_
  refine W_fieldAddr rfl fld78_4 (by decide) rfl ?_
  refine W_load (v := .pointer (some ⟨tb, 0, none⟩)) rfl ty75 rfl (Cell.own (b := mb) (by repeat (first | exact hm _ List.mem_cons_self | apply List.mem_cons_of_mem)) rfl) rfl ?_
  refine W_move rfl rfl ?_
  refine W_callq (.cons rfl (.cons rfl .nil)) Tryz.call45 rfl (hB.get (k := k) (fun p hp => by repeat (first | exact hm p (List.mem_cons_of_mem _ (List.mem_append_right _ (List.mem_append_left _ hp))) | apply List.mem_cons_of_mem))) ?_
  unfold getV
  rcases hf : fndC C k with _ | g
  · skip
    simp only [Option.getD_none, Option.isSome_none]
    refine W_move rfl rfl ?_
    refine W_extract rfl rfl rfl ?_
    refine W_extract rfl rfl rfl ?_
    refine W_alloc (l := hdC zHd) ty29 rfl rfl (fun b6 => ?_)
    refine W_storeA (l' := hdC zHd) rfl rfl ty29 rfl rfl (b := b6) zM (by exact Nat.le_refl 2) rfl zU ?_
    refine W_assign rfl rfl ?_
    refine W_nil ?_
    refine W_seq ?_
    refine W_sr ?_
    refine W_move rfl rfl ?_
    refine W_not rfl rfl ?_
    refine W_nil ?_
    refine W_condT rfl rfl ?_
    refine W_sr ?_
    refine W_build (l := hdC zHd) ty29 pl29 .nil rfl rfl rfl ?_
    refine W_storeA (l' := hdC zHd) rfl rfl ty29 rfl rfl (b := b4) zM (by exact Nat.le_refl 2) rfl zU ?_
    refine W_assign rfl rfl ?_
    refine W_nil ?_
    refine W_ret2G (H2 := H) Tryz.results13 (.nil _) (.own (vs := hdC zHd) rfl ty29 rfl (b := b4) zM rfl) (.tmp rfl) zH ?_
    exact ⟨rfl, rfl⟩
  · skip
    simp only [Option.getD_some, Option.isSome_some]
    refine W_move rfl rfl ?_
    refine W_extract rfl rfl rfl ?_
    refine W_extract rfl rfl rfl ?_
    refine W_alloc (l := hdC zHd) ty29 rfl rfl (fun b6 => ?_)
    refine W_storeA (l' := hdC g) rfl rfl ty29 rfl rfl (b := b6) zM (by exact Nat.le_refl 2) rfl zU ?_
    refine W_assign rfl rfl ?_
    refine W_nil ?_
    refine W_seq ?_
    refine W_sr ?_
    refine W_move rfl rfl ?_
    refine W_not rfl rfl ?_
    refine W_nil ?_
    refine W_condF rfl rfl ?_
    refine W_skip ?_
    refine W_sr ?_
    refine W_loadB (vs := hdC g) rfl ty29 rfl (b := b6) zM rfl rfl rfl ?_
    refine W_storeA (l' := hdC g) rfl rfl ty29 rfl rfl (b := b4) zM (by exact Nat.le_refl 2) rfl zU ?_
    refine W_assign rfl rfl ?_
    refine W_nil ?_
    refine W_ret2G (H2 := H) Tryz.results13 (.nil _) (.own (vs := hdC g) rfl ty29 rfl (b := b4) zM rfl) (.tmp rfl) zH ?_
    exact ⟨rfl, rfl⟩
end Go.Proofs.YtphdlpmnidiliaaGreatDoor
namespace Go.Proofs.YtphdlpmnidiliaaGreatDoor
open Go Go.Sl
attribute [local irreducible] W
theorem mem3 {a : Nat × Blk} {X Y Z H : Heap} : ∀ p ∈ a :: (X ++ (Y ++ Z)), p ∈ a :: (X ++ (Y ++ (Z ++ H))) := fun p hp => by
  rcases List.mem_cons.1 hp with rfl | hp
  · exact List.mem_cons_self
  · refine List.mem_cons_of_mem _ ?_
    rcases List.mem_append.1 hp with hp | hp
    · exact List.mem_append_left _ hp
    · refine List.mem_append_right _ ?_
      rcases List.mem_append.1 hp with hp | hp
      · exact List.mem_append_left _ hp
      · exact List.mem_append_right _ (List.mem_append_left _ hp)
structure Xm where
  kind : Nat
  entries : Nat
  words : Nat
  closed : Bool
  L : List Slt
  C : List (Int × Hd)
  used : List Int
structure Xm.Ok (x : Xm) : Prop where
  knd : x.kind ≤ 2
  ent : 1 ≤ x.entries ∧ x.entries ≤ 8
  wrd : 1 ≤ x.words ∧ x.words ≤ 4
  len : x.L.length = 2 * x.entries
  are : AreOk x.L
  nd : (keyL x.C).Nodup
  perm : x.used.Perm (keyL x.C)
  le : x.C.length ≤ x.entries
  lk : ∀ p ∈ x.C, ∃ (i : Nat) (s : Slt), p.2.slot = (i : Int) ∧ x.L[i]? = some s ∧ s.st = 1 ∧ s.own = p.2 ∧ s.cel.key = p.1
  rng : ∀ k ∈ keyL x.C, 0 ≤ k ∧ k < 18446744073709551616
def Xm.use (x : Xm) (k : Int) : Xm := { x with used := drop1O x.used k ++ [k] }
def Xm.link (x : Xm) (c : Cel) : Xm × Hd := match firstF x.L with
  | some i => match x.L[i]? with
    | some s => ({ x with L := x.L.set i { s with st := 1, cel := c }, C := (c.key, s.own) :: x.C, used := drop1O x.used c.key ++ [c.key] }, s.own)
    | none => (x, zHd)
  | none => (x, zHd)
def Xm.unlink (x : Xm) (k : Int) : Xm × Hd := ({ x with C := delC x.C k, used := drop1O x.used k }, (fndC x.C k).getD zHd)
def Xm.find (x : Xm) (k : Int) : Xm × Hd × Int := match fndC x.C k with
  | some g => (x.use k, g, 0)
  | none => (x, zHd, 4)
def Xm.refE (x : Xm) (how : Int) : Int := if x.kind = 0 then 2 else if how = 2 then 4 else if x.kind = 1 ∧ x.C.length = x.entries then 3 else if cntA 0 x.L = 0 then 20 else 0
structure Putt where
  h : Hd
  gone : Hd
  out : Bool
deriving DecidableEq
def puttC (p : Putt) : List Value := [.int .i64 p.h.slot, .int .i64 p.h.gen, .int .i64 p.gone.slot, .int .i64 p.gone.gen, .bool p.out]
def zPutt : Putt := ⟨zHd, zHd, false⟩
def Xm.put (x : Xm) (how k : Int) (ws : List Int) : Xm × Putt × Int :=
  if (how < 0 ∨ 2 < how) ∨ x.words < ws.length then (x, zPutt, 1)
  else if x.closed = true then (x, zPutt, 22)
  else match fndC x.C k with
    | some g => if how = 1 then (x, zPutt, 5) else ({ x.use k with L := setA x.L g (fun s => { s with cel := ⟨k, W4.of ws⟩ }) }, ⟨g, zHd, false⟩, errA x.L g)
    | none => if x.refE how ≠ 0 then (x, zPutt, x.refE how)
      else if x.C.length = x.entries then
        (((x.unlink (x.used.headD 0)).1.link ⟨k, W4.of ws⟩).1, ⟨((x.unlink (x.used.headD 0)).1.link ⟨k, W4.of ws⟩).2, (x.unlink (x.used.headD 0)).2, true⟩, 0)
      else ((x.link ⟨k, W4.of ws⟩).1, ⟨(x.link ⟨k, W4.of ws⟩).2, zHd, false⟩, 0)
def Xm.del (x : Xm) (k : Int) : Xm × Hd × Int := if x.kind = 0 then (x, zHd, 17) else match fndC x.C k with
  | some _ => ((x.unlink k).1, (x.unlink k).2, 0)
  | none => (x, zHd, 4)
def Xm.linked (x : Xm) (h : Hd) : Bool := decide (errA x.L h = 0) && decide (fndC x.C (celA x.L h).key = some h)
def Xm.free (x : Xm) (h : Hd) : Xm × Int := if errA x.L h ≠ 0 then (x, errA x.L h) else if x.linked h = true then (x, 21) else ({ x with L := setA x.L h relS }, 0)
def Xm.load (x : Xm) (h : Hd) (at_ : Int) : Int × Int := if errA x.L h ≠ 0 then (0, errA x.L h) else if at_ < 0 ∨ (x.words : Int) ≤ at_ then (0, 1) else ((celA x.L h).w.get at_.toNat, 0)
def Xm.store (x : Xm) (h : Hd) (at_ v : Int) : Xm × Int := if errA x.L h ≠ 0 then (x, errA x.L h) else if at_ < 0 ∨ (x.words : Int) ≤ at_ then (x, 1) else ({ x with L := setA x.L h (fun s => { s with cel := ⟨s.cel.key, s.cel.w.put at_.toNat v⟩ }) }, 0)
def Xm.key (x : Xm) (h : Hd) : Int × Int := ((celA x.L h).key, errA x.L h)
theorem keyL_mem {C : List (Int × Hd)} {k : Int} {g : Hd} (h : fndC C k = some g) : k ∈ keyL C := List.mem_map.2 ⟨(k, g), fndC_mem h, rfl⟩
theorem Xm.Ok.ulen {x : Xm} (h : x.Ok) : x.used.length = x.C.length := by have := h.perm.length_eq; simpa using this
theorem Xm.Ok.und {x : Xm} (h : x.Ok) : x.used.Nodup := h.perm.nodup_iff.2 h.nd
theorem Xm.Ok.umem {x : Xm} (h : x.Ok) {k : Int} : k ∈ x.used ↔ k ∈ keyL x.C := h.perm.mem_iff
theorem Xm.Ok.own {x : Xm} (h : x.Ok) {k : Int} {g : Hd} (hf : fndC x.C k = some g) : ∃ (i : Nat) (s : Slt), g.slot = (i : Int) ∧ x.L[i]? = some s ∧ s.st = 1 ∧ s.own = g ∧ s.cel.key = k := h.lk (k, g) (fndC_mem hf)
theorem Xm.Ok.err0 {x : Xm} (h : x.Ok) {k : Int} {g : Hd} (hf : fndC x.C k = some g) : errA x.L g = 0 := by
  obtain ⟨i, s, h1, h2, h3, h4, _⟩ := h.own hf
  exact errA_is h1 h2 h3 h4
theorem Xm.Ok.use {x : Xm} (h : x.Ok) {k : Int} (hk : k ∈ x.used) : (x.use k).Ok :=
  ⟨h.knd, h.ent, h.wrd, h.len, h.are, h.nd, ((drop1O_perm h.und hk).symm.trans h.perm), h.le, h.lk, h.rng⟩
theorem Xm.Ok.unlink {x : Xm} (h : x.Ok) (k : Int) : (x.unlink k).1.Ok := by
  refine ⟨h.knd, h.ent, h.wrd, h.len, h.are, delC_nodup h.nd k, ?_, Nat.le_trans (List.length_filter_le _ _) h.le, fun p hp => h.lk p (List.mem_filter.1 hp).1, fun k2 hk2 => ?_⟩
  · show (drop1O x.used k).Perm (keyL (delC x.C k))
    rw [keyL_del]
    exact h.perm.filter _
  · obtain ⟨p, hp, rfl⟩ := List.mem_map.1 hk2
    exact h.rng p.1 (List.mem_map.2 ⟨p, (List.mem_filter.1 hp).1, rfl⟩)
theorem lk_set {C : List (Int × Hd)} {L : List Slt} {i : Nat} {t : Slt} (hl : ∀ p ∈ C, ∃ (i : Nat) (s : Slt), p.2.slot = (i : Int) ∧ L[i]? = some s ∧ s.st = 1 ∧ s.own = p.2 ∧ s.cel.key = p.1) (ht : ∀ s, L[i]? = some s → s.st = 1 → t.st = 1 ∧ t.own = s.own ∧ t.cel.key = s.cel.key) :
    ∀ p ∈ C, ∃ (j : Nat) (s : Slt), p.2.slot = (j : Int) ∧ (L.set i t)[j]? = some s ∧ s.st = 1 ∧ s.own = p.2 ∧ s.cel.key = p.1 := fun p hp => by
  obtain ⟨j, s, h1, h2, h3, h4, h5⟩ := hl p hp
  by_cases e : i = j
  · subst e
    obtain ⟨a1, a2, a3⟩ := ht s h2 h3
    exact ⟨i, t, h1, List.getElem?_set_self (List.getElem?_eq_some_iff.1 h2).1, a1, a2.trans h4, a3.trans h5⟩
  · exact ⟨j, s, h1, by rw [List.getElem?_set_ne e]; exact h2, h3, h4, h5⟩
theorem Xm.link_is {x : Xm} {c : Cel} {i : Nat} {s : Slt} (hf : firstF x.L = some i) (hs : x.L[i]? = some s) : x.link c = ({ x with L := x.L.set i { s with st := 1, cel := c }, C := (c.key, s.own) :: x.C, used := drop1O x.used c.key ++ [c.key] }, s.own) := by
  unfold Xm.link; rw [hf]; dsimp only; rw [hs]
theorem Xm.Ok.link {x : Xm} (h : x.Ok) {c : Cel} {i : Nat} {s : Slt} (hf : firstF x.L = some i) (hs : x.L[i]? = some s) (hk : c.key ∉ keyL x.C) (hr : x.C.length < x.entries) (hc : 0 ≤ c.key ∧ c.key < 18446744073709551616) : (x.link c).1.Ok := by
  rw [Xm.link_is hf hs]
  obtain ⟨s', hs', h0, -⟩ := firstF_some hf
  obtain rfl : s = s' := Option.some.inj (hs.symm.trans hs')
  have hi := (List.getElem?_eq_some_iff.1 hs).1
  refine ⟨h.knd, h.ent, h.wrd, by show (x.L.set i _).length = _; rw [List.length_set]; exact h.len, h.are.set (h.are.own i s hs), List.nodup_cons.2 ⟨hk, h.nd⟩, ?_, by show x.C.length + 1 ≤ x.entries; omega, fun p hp => ?_, fun k hk2 => ?_⟩
  · show (drop1O x.used c.key ++ [c.key]).Perm (c.key :: keyL x.C)
    rw [drop1O_not (fun hm => hk (h.umem.1 hm))]
    exact (List.perm_append_singleton _ _).trans (h.perm.cons _)
  · rcases List.mem_cons.1 hp with rfl | hp
    · exact ⟨i, _, (h.are.own i s hs).1, List.getElem?_set_self hi, rfl, rfl, rfl⟩
    · exact lk_set h.lk (fun t ht h1 => by
        obtain rfl : s = t := Option.some.inj (hs.symm.trans ht)
        omega) p hp
  · rcases List.mem_cons.1 hk2 with rfl | hk2
    · exact hc
    · exact h.rng k hk2
theorem Xm.Ok.cel {x : Xm} (h : x.Ok) (g : Hd) (f : Cel → Cel) (hf : ∀ c, errA x.L g = 0 → c = celA x.L g → (f c).key = c.key) : (Xm.mk x.kind x.entries x.words x.closed (setA x.L g (fun s => { s with cel := f s.cel })) x.C x.used).Ok := by
  by_cases he : errA x.L g = 0
  · obtain ⟨i, s, h1, h2, h3, h4, h5, h6⟩ := errA_ok he
    rw [h6]
    refine ⟨h.knd, h.ent, h.wrd, by show (x.L.set i _).length = _; rw [List.length_set]; exact h.len, h.are.set (h.are.own i s h2), h.nd, h.perm, h.le, lk_set h.lk (fun t ht hu => ?_), h.rng⟩
    obtain rfl : s = t := Option.some.inj (h2.symm.trans ht)
    exact ⟨h3, rfl, hf _ he h5.symm⟩
  · rw [(errA_no he).2]; exact h
theorem Xm.Ok.free {x : Xm} (h : x.Ok) (g : Hd) : (x.free g).1.Ok := by
  unfold Xm.free
  by_cases he : errA x.L g ≠ 0
  · rw [if_pos he]; exact h
  · rw [if_neg he]
    by_cases hl : x.linked g = true
    · rw [if_pos hl]; exact h
    · rw [if_neg hl]
      have he : errA x.L g = 0 := Classical.not_not.1 he
      obtain ⟨i, s, h1, h2, h3, h4, h5, h6⟩ := errA_ok he
      show (Xm.mk x.kind x.entries x.words x.closed (setA x.L g relS) x.C x.used).Ok
      rw [h6]
      refine ⟨h.knd, h.ent, h.wrd, by show (x.L.set i _).length = _; rw [List.length_set]; exact h.len, h.are.rel h2, h.nd, h.perm, h.le, fun p hp => ?_, h.rng⟩
      obtain ⟨j, t, b1, b2, b3, b4, b5⟩ := h.lk p hp
      by_cases e : i = j
      · exfalso
        subst e
        obtain rfl : s = t := Option.some.inj (h2.symm.trans b2)
        apply hl
        unfold Xm.linked
        rw [decide_eq_true he, Bool.true_and, h5, b5]
        have : (p.1, g) ∈ x.C := by
          have e : p.2 = g := b4.symm.trans h4
          rw [← e]; exact hp
        exact decide_eq_true (fndC_of h.nd this)
      · exact ⟨j, t, b1, by show (x.L.set i _)[j]? = _; rw [List.getElem?_set_ne e]; exact b2, b3, b4, b5⟩
set_option maxHeartbeats 2000000 in
theorem Find_at {w0 : World} {H : Heap} {mb ab tb bo T kind entries words : Nat} {closed : Bool} {C : List (Int × Hd)} {used : List Int} {HA HT HO : Heap} (hB : TabH tb entries C HT) (hO : OrdH bo entries T used HO) {k : Int} (hTl : T ≤ 1000000) (hum : k ∈ keyL C → k ∈ used)  : LCalls Tryz.prog w0 17 #[.pointer (some ⟨mb, 0, none⟩), .int .u64 k] ((mb, .cells 78 7 [.int .i64 (kind : Int), .int .i64 (entries : Int), .int .i64 (words : Int), .pointer (some ⟨ab, 0, none⟩), .pointer (some ⟨tb, 0, none⟩), .pointer (some ⟨bo, 0, none⟩), .bool closed]) :: (HA ++ (HT ++ (HO ++ H)))) (fun v H' => ∃ HO', OrdH bo entries (T + 1) (match fndC C k with | some _ => drop1O used k ++ [k] | none => used) HO' ∧ v = .tuple #[.agg (List.toArray (hdC ((fndC C k).getD zHd))), .int .i64 (if (fndC C k).isSome then 0 else 4)] ∧ H' = (mb, .cells 78 7 [.int .i64 (kind : Int), .int .i64 (entries : Int), .int .i64 (words : Int), .pointer (some ⟨ab, 0, none⟩), .pointer (some ⟨tb, 0, none⟩), .pointer (some ⟨bo, 0, none⟩), .bool closed]) :: (HA ++ (HT ++ (HO' ++ H)))) := by
  refine L_enter (l := [.pointer (some ⟨mb, 0, none⟩), .int .u64 k]) Tryz.func17 rfl Tryz.ntmps17 rfl rfl ?_
  refine W_sr ?_
  refine W_alloc (l := hdC zHd) ty29 rfl rfl (fun b4 => ?_)
  refine W_assign rfl rfl ?_
  refine W_nil ?_
  refine W_sr ?_
  refine W_move rfl rfl ?_
  refine W_move rfl rfl ?_
  refine W_callq (.cons rfl (.cons rfl .nil)) Tryz.call13 rfl (Look_q hB (k := k) (HA := HA) (HO := HO) (closed := closed) (kind := kind) (words := words) (fun p hp => by repeat (first | exact mem3 p hp | apply List.mem_cons_of_mem))) ?_
  rcases hf : fndC C k with _ | g
  · skip
    simp only [Option.getD_none, Option.isSome_none, Bool.false_eq_true, if_false]
    refine W_move rfl rfl ?_
    refine W_extract rfl rfl rfl ?_
    refine W_extract rfl rfl rfl ?_
    refine W_alloc (l := hdC zHd) ty29 rfl rfl (fun b6 => ?_)
    refine W_storeA (l' := hdC zHd) rfl rfl ty29 rfl rfl (b := b6) zM (by exact Nat.le_refl 2) rfl zU ?_
    refine W_assign rfl rfl ?_
    refine W_nil ?_
    refine W_seq ?_
    refine W_sr ?_
    refine W_move rfl rfl ?_
    refine W_bin rfl rfl b_eql rfl ?_
    refine W_nil ?_
    refine W_condF rfl rfl ?_
    refine W_skip ?_
    refine W_sr ?_
    refine W_loadB (vs := hdC zHd) rfl ty29 rfl (b := b6) zM rfl rfl rfl ?_
    refine W_move rfl rfl ?_
    refine W_storeA (l' := hdC zHd) rfl rfl ty29 rfl rfl (b := b4) zM (by exact Nat.le_refl 2) rfl zU ?_
    refine W_assign rfl rfl ?_
    refine W_nil ?_
    refine W_ret2G (H2 := (mb, .cells 78 7 [.int .i64 (kind : Int), .int .i64 (entries : Int), .int .i64 (words : Int), .pointer (some ⟨ab, 0, none⟩), .pointer (some ⟨tb, 0, none⟩), .pointer (some ⟨bo, 0, none⟩), .bool closed]) :: (HA ++ (HT ++ (HO ++ H)))) Tryz.results17 (.nil _) (.own (vs := hdC zHd) rfl ty29 rfl (b := b4) zM rfl) (.tmp rfl) zH ?_
    exact ⟨HO, hO.up (Nat.le_succ _), rfl, rfl⟩
  · skip
    simp only [Option.getD_some, Option.isSome_some, if_true]
    refine W_move rfl rfl ?_
    refine W_extract rfl rfl rfl ?_
    refine W_extract rfl rfl rfl ?_
    refine W_alloc (l := hdC zHd) ty29 rfl rfl (fun b6 => ?_)
    refine W_storeA (l' := hdC g) rfl rfl ty29 rfl rfl (b := b6) zM (by exact Nat.le_refl 2) rfl zU ?_
    refine W_assign rfl rfl ?_
    refine W_nil ?_
    refine W_seq ?_
    refine W_sr ?_
    refine W_move rfl rfl ?_
    refine W_bin rfl rfl b_eql rfl ?_
    refine W_nil ?_
    refine W_condT rfl rfl ?_
    refine W_region ?_
    refine W_move rfl rfl ?_
    refine W_nilCheck rfl rfl ?_
    refine W_fieldAddr rfl fld78_5 (by decide) rfl ?_
    refine W_load (v := .pointer (some ⟨bo, 0, none⟩)) rfl ty76 rfl (Cell.own (b := mb) zM rfl) rfl ?_
    refine W_move rfl rfl ?_
    refine W_buildSlice (l := [.int .u64 k]) ty42 ty22 (.cons rfl rfl rfl rfl rfl .nil) rfl rfl rfl rfl rfl rfl rfl (fun b21 => ?_)
    refine W_call (.cons rfl (.cons rfl .nil)) Tryz.call39 rfl ((hO.touch hTl (k := k) (cap := 1) (.inl (hum (keyL_mem hf))) (Holds.own (b := b21) zM) (H := (b21, .cells 22 (1 * 1) [.int .u64 k]) :: (b6, .cells 29 2 (hdC g)) :: (b4, .cells 29 2 (hdC zHd)) :: (mb, .cells 78 7 [.int .i64 (kind : Int), .int .i64 (entries : Int), .int .i64 (words : Int), .pointer (some ⟨ab, 0, none⟩), .pointer (some ⟨tb, 0, none⟩), .pointer (some ⟨bo, 0, none⟩), .bool closed]) :: (HA ++ (HT ++ H)))).hsub zH) ?_
    rintro v H' ⟨HO2, hO2, rfl, rfl⟩
    refine W_nil ?_
    refine W_sr ?_
    refine W_loadB (vs := hdC g) rfl ty29 rfl (b := b6) zM rfl rfl rfl ?_
    refine W_move rfl rfl ?_
    refine W_storeA (l' := hdC g) rfl rfl ty29 rfl rfl (b := b4) zM (by exact Nat.le_refl 2) rfl zU ?_
    refine W_assign rfl rfl ?_
    refine W_nil ?_
    refine W_ret2G (H2 := (mb, .cells 78 7 [.int .i64 (kind : Int), .int .i64 (entries : Int), .int .i64 (words : Int), .pointer (some ⟨ab, 0, none⟩), .pointer (some ⟨tb, 0, none⟩), .pointer (some ⟨bo, 0, none⟩), .bool closed]) :: (HA ++ (HT ++ (HO2 ++ H)))) Tryz.results17 (.nil _) (.own (vs := hdC g) rfl ty29 rfl (b := b4) zM rfl) (.tmp rfl) zH ?_
    exact ⟨HO2, hO2, rfl, rfl⟩
set_option maxHeartbeats 1000000 in
theorem full_q {w0 : World} {H : Heap} {mb ab tb bo kind entries words : Nat} {closed : Bool} {C : List (Int × Hd)} {HA HT HO : Heap} (hB : TabH tb entries C HT) (hm : ∀ p ∈ ((mb, .cells 78 7 [.int .i64 (kind : Int), .int .i64 (entries : Int), .int .i64 (words : Int), .pointer (some ⟨ab, 0, none⟩), .pointer (some ⟨tb, 0, none⟩), .pointer (some ⟨bo, 0, none⟩), .bool closed]) :: (HA ++ (HT ++ HO))), p ∈ H)  : PureAt Tryz.prog w0 H 42 [.pointer (some ⟨mb, 0, none⟩)] (.bool (decide (C.length = entries))) := by
  refine L_enter Tryz.func42 rfl Tryz.ntmps42 rfl rfl ?_
  refine W_sr ?_
  refine W_assign rfl rfl ?_
  refine W_nil ?_
  refine W_seq ?_
  refine W_anyC H (by kernel_rfl) ?_
  refine WC_take 0 (l' := #[true, false, false, false, false, false, false, false, false, false, false]) rfl (by decide +kernel) (by decide +kernel) (by decide +kernel) rfl (by decide +kernel) (X_move rfl) rfl ?_
  refine WC_take 1 (l' := #[true, true, false, false, false, false, false, false, false, false, false]) rfl (by decide +kernel) (by decide +kernel) (by decide +kernel) rfl (by decide +kernel) (X_nilCheck rfl) rfl ?_
  refine WC_take 2 (l' := #[true, true, true, false, false, false, false, false, false, false, false]) rfl (by decide +kernel) (by decide +kernel) (by decide +kernel) rfl (by decide +kernel) (X_fieldAddr rfl fld78_4 (by decide)) rfl ?_
  refine WC_take 3 (l' := #[true, true, true, true, false, false, false, false, false, false, false]) rfl (by decide +kernel) (by decide +kernel) (by decide +kernel) rfl (by decide +kernel) (X_load (v := .pointer (some ⟨tb, 0, none⟩)) rfl ty75 rfl (Cell.own (b := mb) (by repeat (first | exact hm _ List.mem_cons_self | apply List.mem_cons_of_mem)) rfl)) rfl ?_
  refine WC_take 5 (l' := #[true, true, true, true, false, true, false, false, false, false, false]) rfl (by decide +kernel) (by decide +kernel) (by decide +kernel) rfl (by decide +kernel) (X_move rfl) rfl ?_
  refine WC_take 6 (l' := #[true, true, true, true, false, true, true, false, false, false, false]) rfl (by decide +kernel) (by decide +kernel) (by decide +kernel) rfl (by decide +kernel) (X_nilCheck rfl) rfl ?_
  refine WC_take 7 (l' := #[true, true, true, true, false, true, true, true, false, false, false]) rfl (by decide +kernel) (by decide +kernel) (by decide +kernel) rfl (by decide +kernel) (X_fieldAddr rfl fld78_1 (by decide)) rfl ?_
  refine WC_take 8 (l' := #[true, true, true, true, false, true, true, true, true, false, false]) rfl (by decide +kernel) (by decide +kernel) (by decide +kernel) rfl (by decide +kernel) (X_load (v := .int .i64 (entries : Int)) rfl ty3 rfl (Cell.own (b := mb) (by repeat (first | exact hm _ List.mem_cons_self | apply List.mem_cons_of_mem)) rfl)) rfl ?_
  refine WC_one 4 (l' := #[true, true, true, true, true, true, true, true, true, false, false]) zH (by decide +kernel) rfl (by decide +kernel) ?_
  refine W_callq (.cons rfl .nil) Tryz.call37 rfl (hB.lenq (fun p hp => by repeat (first | exact hm p (List.mem_cons_of_mem _ (List.mem_append_right _ (List.mem_append_left _ hp))) | apply List.mem_cons_of_mem))) ?_
  refine W_nil ?_
  refine WC_goal ?_
  refine WC_take 9 (l' := #[true, true, true, true, true, true, true, true, true, true, false]) rfl (by decide +kernel) (by decide +kernel) (by decide +kernel) rfl (by decide +kernel) (X_bin rfl rfl b_eql) rfl ?_
  rw [show decide ((C.length : Int) = (entries : Int)) = decide (C.length = entries) from decide_eq_decide.2 (by omega)]
  refine WC_take 10 (l' := #[true, true, true, true, true, true, true, true, true, true, true]) rfl (by decide +kernel) (by decide +kernel) (by decide +kernel) rfl (by decide +kernel) (X_assign rfl) rfl ?_
  refine WC_done zH (by decide +kernel) ?_
  refine W_ret1m (H2 := H) Tryz.results42 rfl (.nil _) zH ?_
  exact ⟨rfl, rfl⟩
set_option maxHeartbeats 1000000 in
theorem refuse_q {w0 : World} {H : Heap} {mb ab tb bo kind entries words : Nat} {closed : Bool} {L : List Slt} {C : List (Int × Hd)} {used : List Int} {HA HT HO : Heap} (hA : AreH ab L HA) (hB : TabH tb entries C HT) {how : Int} (hm : ∀ p ∈ ((mb, .cells 78 7 [.int .i64 (kind : Int), .int .i64 (entries : Int), .int .i64 (words : Int), .pointer (some ⟨ab, 0, none⟩), .pointer (some ⟨tb, 0, none⟩), .pointer (some ⟨bo, 0, none⟩), .bool closed]) :: (HA ++ (HT ++ HO))), p ∈ H)  : PureAt Tryz.prog w0 H 41 [.pointer (some ⟨mb, 0, none⟩), .int .i64 how] (.int .i64 (Xm.refE (⟨kind, entries, words, closed, L, C, used⟩ : Xm) how)) := by
  refine L_enter Tryz.func41 rfl Tryz.ntmps41 rfl rfl ?_
  refine W_sr ?_
  refine W_assign rfl rfl ?_
  refine W_nil ?_
  refine W_seq ?_
  refine W_block ?_
  refine W_sr ?_
  refine W_move rfl rfl ?_
  refine W_nilCheck rfl rfl ?_
  refine W_fieldAddr rfl fld78_0 (by decide) rfl ?_
  refine W_load (v := .int .i64 (kind : Int)) rfl ty3 rfl (Cell.own (b := mb) (by repeat (first | exact hm _ List.mem_cons_self | apply List.mem_cons_of_mem)) rfl) rfl ?_
  refine W_bin rfl rfl b_eql rfl ?_
  refine W_assign rfl rfl ?_
  refine W_nil ?_
  refine W_condPS (p := kind = 0) rfl (by simp) (fun c0 => ?_) (fun c0 => ?_)
  · skip
    refine W_sr ?_
    refine W_assign rfl rfl ?_
    refine W_nil ?_
    refine W_ret1m (H2 := H) Tryz.results41 rfl (.nil _) zH ?_
    exact ⟨by unfold Xm.refE; dsimp only; rw [if_pos c0], rfl⟩
  · skip
    refine W_sr ?_
    refine W_move rfl rfl ?_
    refine W_bin rfl rfl b_eql rfl ?_
    refine W_assign rfl rfl ?_
    refine W_nil ?_
    refine W_condPS (p := how = 2) rfl (by simp) (fun c1 => ?_) (fun c1 => ?_)
    · skip
      refine W_sr ?_
      refine W_assign rfl rfl ?_
      refine W_nil ?_
      refine W_ret1m (H2 := H) Tryz.results41 rfl (.nil _) zH ?_
      exact ⟨by unfold Xm.refE; dsimp only; rw [if_neg c0, if_pos c1], rfl⟩
    · skip
      refine W_sr ?_
      refine W_move rfl rfl ?_
      refine W_nilCheck rfl rfl ?_
      refine W_fieldAddr rfl fld78_0 (by decide) rfl ?_
      refine W_load (v := .int .i64 (kind : Int)) rfl ty3 rfl (Cell.own (b := mb) (by repeat (first | exact hm _ List.mem_cons_self | apply List.mem_cons_of_mem)) rfl) rfl ?_
      refine W_bin rfl rfl b_eql rfl ?_
      refine W_move rfl rfl ?_
      apply W_and
      iterate 4 exact rfl
      case h1 =>
        intro hg5
        refine W_gyes rfl rfl ?_
        refine W_move rfl rfl ?_
        refine W_gyes rfl rfl ?_
        refine W_callq (.cons rfl .nil) Tryz.call42 rfl (full_q hB (HA := HA) (HO := HO) (closed := closed) (kind := kind) (words := words) hm) ?_
        exact W_met rfl zR
      refine W_assign rfl rfl ?_
      refine W_nil ?_
      refine W_condPS (p := kind = 1 ∧ C.length = entries) rfl (by simp; omega) (fun c2 => ?_) (fun c2 => ?_)
      · skip
        refine W_sr ?_
        refine W_assign rfl rfl ?_
        refine W_nil ?_
        refine W_ret1m (H2 := H) Tryz.results41 rfl (.nil _) zH ?_
        exact ⟨by unfold Xm.refE; dsimp only; rw [if_neg c0, if_neg c1, if_pos c2], rfl⟩
      · skip
        refine W_sr ?_
        refine W_move rfl rfl ?_
        refine W_nilCheck rfl rfl ?_
        refine W_fieldAddr rfl fld78_3 (by decide) rfl ?_
        refine W_load (v := .pointer (some ⟨ab, 0, none⟩)) rfl ty74 rfl (Cell.own (b := mb) (by repeat (first | exact hm _ List.mem_cons_self | apply List.mem_cons_of_mem)) rfl) rfl ?_
        refine W_callq (.cons rfl .nil) Tryz.call76 rfl (hA.roomq (fun p hp => by repeat (first | exact hm p (List.mem_cons_of_mem _ (List.mem_append_left _ hp)) | apply List.mem_cons_of_mem))) ?_
        refine W_bin rfl rfl b_eql rfl ?_
        refine W_assign rfl rfl ?_
        refine W_nil ?_
        refine W_condPS (p := cntA 0 L = 0) rfl (by simp) (fun c3 => ?_) (fun c3 => ?_)
        · skip
          refine W_sr ?_
          refine W_assign rfl rfl ?_
          refine W_nil ?_
          refine W_ret1m (H2 := H) Tryz.results41 rfl (.nil _) zH ?_
          exact ⟨by unfold Xm.refE; dsimp only; rw [if_neg c0, if_neg c1, if_neg c2, if_pos c3], rfl⟩
        · skip
          refine W_skip ?_
          refine W_blk ?_
          refine W_sr ?_
          refine W_assign rfl rfl ?_
          refine W_nil ?_
          refine W_ret1m (H2 := H) Tryz.results41 rfl (.nil _) zH ?_
          exact ⟨by unfold Xm.refE; dsimp only; rw [if_neg c0, if_neg c1, if_neg c2, if_neg c3], rfl⟩
set_option maxHeartbeats 2000000 in
theorem Del_at {w0 : World} {H : Heap} {mb ab tb bo T kind entries words : Nat} {closed : Bool} {L : List Slt} {C : List (Int × Hd)} {used : List Int} {HA HT HO : Heap} (hB : TabH tb entries C HT) (hO : OrdH bo entries T used HO) {k : Int}  : LCalls Tryz.prog w0 12 #[.pointer (some ⟨mb, 0, none⟩), .int .u64 k] ((mb, .cells 78 7 [.int .i64 (kind : Int), .int .i64 (entries : Int), .int .i64 (words : Int), .pointer (some ⟨ab, 0, none⟩), .pointer (some ⟨tb, 0, none⟩), .pointer (some ⟨bo, 0, none⟩), .bool closed]) :: (HA ++ (HT ++ (HO ++ H)))) (fun v H' => ∃ HT' HO', TabH tb entries (Xm.del (⟨kind, entries, words, closed, L, C, used⟩ : Xm) k).1.C HT' ∧ OrdH bo entries T (Xm.del (⟨kind, entries, words, closed, L, C, used⟩ : Xm) k).1.used HO' ∧ v = .tuple #[.agg (List.toArray (hdC (Xm.del (⟨kind, entries, words, closed, L, C, used⟩ : Xm) k).2.1)), .int .i64 (Xm.del (⟨kind, entries, words, closed, L, C, used⟩ : Xm) k).2.2] ∧ H' = (mb, .cells 78 7 [.int .i64 (kind : Int), .int .i64 (entries : Int), .int .i64 (words : Int), .pointer (some ⟨ab, 0, none⟩), .pointer (some ⟨tb, 0, none⟩), .pointer (some ⟨bo, 0, none⟩), .bool closed]) :: (HA ++ (HT' ++ (HO' ++ H)))) := by
  refine L_enter (l := [.pointer (some ⟨mb, 0, none⟩), .int .u64 k]) Tryz.func12 rfl Tryz.ntmps12 rfl rfl ?_
  refine W_sr ?_
  refine W_alloc (l := hdC zHd) ty29 rfl rfl (fun b4 => ?_)
  refine W_assign rfl rfl ?_
  refine W_nil ?_
  refine W_seq ?_
  refine W_sr ?_
  refine W_move rfl rfl ?_
  refine W_x (X_ptrNotNil rfl rfl ty23) (fun _ h => by cases h) rfl ?_
  refine W_move rfl rfl ?_
  apply W_and
  iterate 4 exact rfl
  case h1 =>
    intro hg2
    refine W_gyes rfl rfl ?_
    refine W_move rfl rfl ?_
    refine W_gyes rfl rfl ?_
    refine W_nilCheck rfl rfl ?_
    refine W_gyes rfl rfl ?_
    refine W_fieldAddr rfl fld78_0 (by decide) rfl ?_
    refine W_gyes rfl rfl ?_
    refine W_load (v := .int .i64 (kind : Int)) rfl ty3 rfl (Cell.own (b := mb) zM rfl) rfl ?_
    refine W_gyes rfl rfl ?_
    refine W_bin rfl rfl b_eql rfl ?_
    exact W_met rfl zR
  refine W_nil ?_
  refine W_condPS (p := kind = 0) rfl (by simp) (fun c0 => ?_) (fun c0 => ?_)
  · skip
    refine W_sr ?_
    refine W_build (l := hdC zHd) ty29 pl29 .nil rfl rfl rfl ?_
    refine W_storeA (l' := hdC zHd) rfl rfl ty29 rfl rfl (b := b4) zM (by exact Nat.le_refl 2) rfl zU ?_
    refine W_assign rfl rfl ?_
    refine W_nil ?_
    refine W_ret2G (H2 := (mb, .cells 78 7 [.int .i64 (kind : Int), .int .i64 (entries : Int), .int .i64 (words : Int), .pointer (some ⟨ab, 0, none⟩), .pointer (some ⟨tb, 0, none⟩), .pointer (some ⟨bo, 0, none⟩), .bool closed]) :: (HA ++ (HT ++ (HO ++ H)))) Tryz.results12 (.nil _) (.own (vs := hdC zHd) rfl ty29 rfl (b := b4) zM rfl) (.tmp rfl) zH ?_
    have e : Xm.del (⟨kind, entries, words, closed, L, C, used⟩ : Xm) k = ((⟨kind, entries, words, closed, L, C, used⟩ : Xm), zHd, 17) := by unfold Xm.del; rw [if_pos c0]
    rw [e]
    exact ⟨HT, HO, hB, hO, rfl, rfl⟩
  · skip
    refine W_skip ?_
    refine W_seq ?_
    refine W_sr ?_
    refine W_move rfl rfl ?_
    refine W_move rfl rfl ?_
    refine W_callq (.cons rfl (.cons rfl .nil)) Tryz.call13 rfl (Look_q hB (k := k) (HA := HA) (HO := HO) (closed := closed) (kind := kind) (words := words) (fun p hp => by repeat (first | exact mem3 p hp | apply List.mem_cons_of_mem))) ?_
    rcases hf : fndC C k with _ | g
    · skip
      simp only [Option.getD_none, Option.isSome_none, Bool.false_eq_true, if_false]
      refine W_move rfl rfl ?_
      refine W_extract rfl rfl rfl ?_
      refine W_extract rfl rfl rfl ?_
      refine W_alloc (l := hdC zHd) ty29 rfl rfl (fun b6 => ?_)
      refine W_storeA (l' := hdC zHd) rfl rfl ty29 rfl rfl (b := b6) zM (by exact Nat.le_refl 2) rfl zU ?_
      refine W_assign rfl rfl ?_
      refine W_nil ?_
      refine W_sr ?_
      refine W_move rfl rfl ?_
      refine W_bin rfl rfl b_neq rfl ?_
      refine W_nil ?_
      refine W_condT rfl rfl ?_
      refine W_sr ?_
      refine W_build (l := hdC zHd) ty29 pl29 .nil rfl rfl rfl ?_
      refine W_move rfl rfl ?_
      refine W_storeA (l' := hdC zHd) rfl rfl ty29 rfl rfl (b := b4) zM (by exact Nat.le_refl 2) rfl zU ?_
      refine W_assign rfl rfl ?_
      refine W_nil ?_
      refine W_ret2G (H2 := (mb, .cells 78 7 [.int .i64 (kind : Int), .int .i64 (entries : Int), .int .i64 (words : Int), .pointer (some ⟨ab, 0, none⟩), .pointer (some ⟨tb, 0, none⟩), .pointer (some ⟨bo, 0, none⟩), .bool closed]) :: (HA ++ (HT ++ (HO ++ H)))) Tryz.results12 (.nil _) (.own (vs := hdC zHd) rfl ty29 rfl (b := b4) zM rfl) (.tmp rfl) zH ?_
      have e : Xm.del (⟨kind, entries, words, closed, L, C, used⟩ : Xm) k = ((⟨kind, entries, words, closed, L, C, used⟩ : Xm), zHd, 4) := by unfold Xm.del; rw [if_neg c0]; dsimp only; rw [hf]
      rw [e]
      exact ⟨HT, HO, hB, hO, rfl, rfl⟩
    · skip
      simp only [Option.getD_some, Option.isSome_some, if_true]
      refine W_move rfl rfl ?_
      refine W_extract rfl rfl rfl ?_
      refine W_extract rfl rfl rfl ?_
      refine W_alloc (l := hdC zHd) ty29 rfl rfl (fun b6 => ?_)
      refine W_storeA (l' := hdC g) rfl rfl ty29 rfl rfl (b := b6) zM (by exact Nat.le_refl 2) rfl zU ?_
      refine W_assign rfl rfl ?_
      refine W_nil ?_
      refine W_sr ?_
      refine W_move rfl rfl ?_
      refine W_bin rfl rfl b_neq rfl ?_
      refine W_nil ?_
      refine W_condF rfl rfl ?_
      refine W_skip ?_
      refine W_sr ?_
      refine W_move rfl rfl ?_
      refine W_move rfl rfl ?_
      refine W_call (.cons rfl (.cons rfl .nil)) Tryz.call44 rfl ((unlink_at (closed := closed) (kind := kind) (words := words) (HA := HA) hB hO (k := k) (H := (b6, .cells 29 2 (hdC g)) :: (b4, .cells 29 2 (hdC zHd)) :: H)).hsub zH) ?_
      rintro v H' ⟨HT2, HO2, hB2, hO2, rfl, rfl⟩
      rw [hf, Option.getD_some]
      refine W_storeA (l' := hdC g) rfl rfl ty29 rfl rfl (b := b4) zM (by exact Nat.le_refl 2) rfl zU ?_
      refine W_assign rfl rfl ?_
      refine W_nil ?_
      refine W_ret2G (H2 := (mb, .cells 78 7 [.int .i64 (kind : Int), .int .i64 (entries : Int), .int .i64 (words : Int), .pointer (some ⟨ab, 0, none⟩), .pointer (some ⟨tb, 0, none⟩), .pointer (some ⟨bo, 0, none⟩), .bool closed]) :: (HA ++ (HT2 ++ (HO2 ++ H)))) Tryz.results12 (.nil _) (.own (vs := hdC g) rfl ty29 rfl (b := b4) zM rfl) (.tmp rfl) zH ?_
      have e : Xm.del (⟨kind, entries, words, closed, L, C, used⟩ : Xm) k = ((Xm.unlink (⟨kind, entries, words, closed, L, C, used⟩ : Xm) k).1, g, 0) := by unfold Xm.del; rw [if_neg c0]; dsimp only; rw [hf]; show (_, (fndC C k).getD zHd, _) = _; rw [hf]; rfl
      rw [e]
      exact ⟨HT2, HO2, hB2, hO2, rfl, rfl⟩
end Go.Proofs.YtphdlpmnidiliaaGreatDoor
namespace Go.Proofs.YtphdlpmnidiliaaGreatDoor
open Go Go.Sl
attribute [local irreducible] W
theorem Xm.free_slot {x : Xm} {how : Int} (h : x.refE how = 0) : ∃ i s, firstF x.L = some i ∧ x.L[i]? = some s := by
  have hc : cntA 0 x.L ≠ 0 := fun e => by
    unfold Xm.refE at h
    rw [if_pos e] at h
    repeat' split at h
    all_goals cases h
  obtain ⟨t, ht, h0⟩ := cntA_pos.1 hc
  cases hf : firstF x.L with
  | none => exact absurd h0 (firstF_none.1 hf t ht)
  | some i =>
    obtain ⟨s, hs, -, -⟩ := firstF_some hf
    exact ⟨i, s, rfl, hs⟩
set_option maxHeartbeats 8000000 in
theorem Put_at {w0 : World} {H : Heap} {mb ab tb bo T kind entries words : Nat} {closed : Bool} {L : List Slt} {C : List (Int × Hd)} {used : List Int} {HA HT HO : Heap} (hA : AreH ab L HA) (hB : TabH tb entries C HT) (hO : OrdH bo entries T used HO) (hTl : T ≤ 1000000) (hx : (⟨kind, entries, words, closed, L, C, used⟩ : Xm).Ok) {how k : Int} {ws : List Int} {ad : Option Addr} {cap : Nat} (hrow : Holds w0 H ad (ws.map (Value.int .u64))) (hTab : Tab w0) : LCalls Tryz.prog w0 11 #[.pointer (some ⟨mb, 0, none⟩), .int .i64 how, .int .u64 k, .slice ad ws.length cap] ((mb, .cells 78 7 [.int .i64 (kind : Int), .int .i64 (entries : Int), .int .i64 (words : Int), .pointer (some ⟨ab, 0, none⟩), .pointer (some ⟨tb, 0, none⟩), .pointer (some ⟨bo, 0, none⟩), .bool closed]) :: (HA ++ (HT ++ (HO ++ H)))) (fun v H' => ∃ HA' HT' HO', AreH ab (Xm.put (⟨kind, entries, words, closed, L, C, used⟩ : Xm) how k ws).1.L HA' ∧ TabH tb entries (Xm.put (⟨kind, entries, words, closed, L, C, used⟩ : Xm) how k ws).1.C HT' ∧ OrdH bo entries (T + 2) (Xm.put (⟨kind, entries, words, closed, L, C, used⟩ : Xm) how k ws).1.used HO' ∧ v = .tuple #[.agg (List.toArray (puttC (Xm.put (⟨kind, entries, words, closed, L, C, used⟩ : Xm) how k ws).2.1)), .int .i64 (Xm.put (⟨kind, entries, words, closed, L, C, used⟩ : Xm) how k ws).2.2] ∧ H' = (mb, .cells 78 7 [.int .i64 (kind : Int), .int .i64 (entries : Int), .int .i64 (words : Int), .pointer (some ⟨ab, 0, none⟩), .pointer (some ⟨tb, 0, none⟩), .pointer (some ⟨bo, 0, none⟩), .bool closed]) :: (HA' ++ (HT' ++ (HO' ++ H)))) := by
  refine L_enter (l := [.pointer (some ⟨mb, 0, none⟩), .int .i64 how, .int .u64 k, .slice ad ws.length cap]) Tryz.func11 rfl Tryz.ntmps11 rfl rfl ?_
  refine W_sr ?_
  refine W_alloc (l := puttC zPutt) ty31 rfl rfl (fun b8 => ?_)
  refine W_assign rfl rfl ?_
  refine W_nil ?_
  refine W_seq ?_
  refine W_block ?_
  refine W_sr ?_
  refine W_move rfl rfl ?_
  refine W_x (X_ptrNil rfl rfl ty23) (fun _ h => by cases h) rfl ?_
  refine W_assign rfl rfl ?_
  refine W_nil ?_
  refine W_condF rfl rfl ?_
  refine W_sr ?_
  refine W_move rfl rfl ?_
  refine W_bin rfl rfl b_lss rfl ?_
  refine W_move rfl rfl ?_
  apply W_or
  iterate 4 exact rfl
  case h1 =>
    intro hg2
    refine W_gyes rfl rfl ?_
    refine W_move rfl rfl ?_
    refine W_gyes rfl rfl ?_
    refine W_bin rfl rfl b_gtr rfl ?_
    exact W_met rfl zR
  refine W_move rfl rfl ?_
  apply W_or
  iterate 4 exact rfl
  case h1 =>
    intro hg6
    refine W_gyes rfl rfl ?_
    refine W_move rfl rfl ?_
    refine W_gyes rfl rfl ?_
    refine W_len rfl ty42 rfl rfl ?_
    refine W_gyes rfl rfl ?_
    refine W_move rfl rfl ?_
    refine W_gyes rfl rfl ?_
    refine W_nilCheck rfl rfl ?_
    refine W_gyes rfl rfl ?_
    refine W_fieldAddr rfl fld78_2 (by decide) rfl ?_
    refine W_gyes rfl rfl ?_
    refine W_load (v := .int .i64 (words : Int)) rfl ty3 rfl (Cell.own (b := mb) zM rfl) rfl ?_
    refine W_gyes rfl rfl ?_
    refine W_bin rfl rfl b_gtr rfl ?_
    exact W_met rfl zR
  refine W_assign rfl rfl ?_
  refine W_nil ?_
  refine W_condPS (p := (how < 0 ∨ 2 < how) ∨ (words : Int) < (ws.length : Int)) rfl (by simp) (fun c0 => ?_) (fun c0 => ?_)
  · skip
    refine W_sr ?_
    refine W_build (l := puttC zPutt) ty31 pl31 .nil rfl rfl rfl ?_
    refine W_storeA (l' := puttC zPutt) rfl rfl ty31 rfl rfl (b := b8) zM (by exact Nat.le_refl 5) rfl zU ?_
    refine W_assign rfl rfl ?_
    refine W_nil ?_
    refine W_ret2G (H2 := (mb, .cells 78 7 [.int .i64 (kind : Int), .int .i64 (entries : Int), .int .i64 (words : Int), .pointer (some ⟨ab, 0, none⟩), .pointer (some ⟨tb, 0, none⟩), .pointer (some ⟨bo, 0, none⟩), .bool closed]) :: (HA ++ (HT ++ (HO ++ H)))) Tryz.results11 (.nil _) (.own (vs := puttC zPutt) rfl ty31 rfl (b := b8) zM rfl) (.tmp rfl) zH ?_
    have e : (Xm.put (⟨kind, entries, words, closed, L, C, used⟩ : Xm) how k ws) = ((⟨kind, entries, words, closed, L, C, used⟩ : Xm), zPutt, 1) := by
      unfold Xm.put
      rw [if_pos (by dsimp only; omega)]
    rw [e]
    exact ⟨HA, HT, HO, hA, hB, hO.up (by omega), rfl, rfl⟩
  · skip
    refine W_sr ?_
    refine W_move rfl rfl ?_
    refine W_nilCheck rfl rfl ?_
    refine W_fieldAddr rfl fld78_6 (by decide) rfl ?_
    refine W_load (v := .bool closed) rfl ty4 rfl (Cell.own (b := mb) zM rfl) rfl ?_
    refine W_assign rfl rfl ?_
    refine W_nil ?_
    refine W_condPS (p := closed = true) rfl (by simp) (fun c1 => ?_) (fun c1 => ?_)
    · skip
      refine W_sr ?_
      refine W_build (l := puttC zPutt) ty31 pl31 .nil rfl rfl rfl ?_
      refine W_storeA (l' := puttC zPutt) rfl rfl ty31 rfl rfl (b := b8) zM (by exact Nat.le_refl 5) rfl zU ?_
      refine W_assign rfl rfl ?_
      refine W_nil ?_
      refine W_ret2G (H2 := (mb, .cells 78 7 [.int .i64 (kind : Int), .int .i64 (entries : Int), .int .i64 (words : Int), .pointer (some ⟨ab, 0, none⟩), .pointer (some ⟨tb, 0, none⟩), .pointer (some ⟨bo, 0, none⟩), .bool closed]) :: (HA ++ (HT ++ (HO ++ H)))) Tryz.results11 (.nil _) (.own (vs := puttC zPutt) rfl ty31 rfl (b := b8) zM rfl) (.tmp rfl) zH ?_
      have e : (Xm.put (⟨kind, entries, words, closed, L, C, used⟩ : Xm) how k ws) = ((⟨kind, entries, words, closed, L, C, used⟩ : Xm), zPutt, 22) := by
        unfold Xm.put
        rw [if_neg (by dsimp only; omega)]
        rw [if_pos c1]
      rw [e]
      exact ⟨HA, HT, HO, hA, hB, hO.up (by omega), rfl, rfl⟩
    · skip
      refine W_skip ?_
      refine W_blk ?_
      refine W_sr ?_
      refine W_move rfl rfl ?_
      refine W_build (l := celC ⟨k, zW⟩) ty82 pl82 (.cons rfl rfl rfl rfl rfl .nil) rfl rfl rfl ?_
      refine W_alloc (l := celC zCel) ty82 rfl rfl (fun b10 => ?_)
      refine W_storeA (l' := celC (⟨k, zW⟩)) rfl rfl ty82 rfl rfl (b := b10) zM (by exact Nat.le_refl 5) rfl zU ?_
      refine W_nil ?_
      refine W_sr ?_
      have hw4 : ws.length ≤ 4 := by have := hx.wrd; dsimp only at this; omega
      refine W_fieldAddr rfl fld82_1 (by decide) rfl ?_
      refine W_x (X_sliceArr (l := 0) (hh := 4) rfl ty69 ty22 rfl rfl (by decide) (by decide) (by decide)) (fun _ h => by cases h) rfl ?_
      refine W_move rfl rfl ?_
      refine W_copy (kk := ws.length) (news := ws.map (Value.int .u64)) (l' := celC ⟨k, W4.of ws⟩) rfl rfl ty42 ty22 (by omega) (by rw [List.length_map, Nat.mul_one]) (hrow.up zH) (by simp [Value.oneCell']) (b := b10) zM (by rw [List.length_map]; show 0 + 1 + 0 * 1 + ws.length ≤ 5; omega) (W4.copy hw4 (.int .u64 k)) zU rfl ?_
      refine W_nil ?_
      refine W_seq ?_
      refine W_sr ?_
      refine W_move rfl rfl ?_
      refine W_move rfl rfl ?_
      refine W_callq (.cons rfl (.cons rfl .nil)) Tryz.call13 rfl (Look_q hB (k := k) (HA := HA) (HO := HO) (closed := closed) (kind := kind) (words := words) (fun p hp => by repeat (first | exact mem3 p hp | apply List.mem_cons_of_mem))) ?_
      rcases hf : fndC C k with _ | g
      · skip
        simp only [Option.getD_none, Option.isSome_none, Bool.false_eq_true, if_false]
        refine W_move rfl rfl ?_
        refine W_extract rfl rfl rfl ?_
        refine W_extract rfl rfl rfl ?_
        refine W_alloc (l := hdC zHd) ty29 rfl rfl (fun b11 => ?_)
        refine W_storeA (l' := hdC zHd) rfl rfl ty29 rfl rfl (b := b11) zM (by exact Nat.le_refl 2) rfl zU ?_
        refine W_assign rfl rfl ?_
        refine W_nil ?_
        refine W_sr ?_
        refine W_move rfl rfl ?_
        refine W_bin rfl rfl b_eql rfl ?_
        refine W_nil ?_
        refine W_condF rfl rfl ?_
        refine W_skip ?_
        refine W_seq ?_
        refine W_sr ?_
        refine W_move rfl rfl ?_
        refine W_move rfl rfl ?_
        refine W_callq (.cons rfl (.cons rfl .nil)) Tryz.call41 rfl (refuse_q hA hB (how := how) (HO := HO) (used := used) (closed := closed) (words := words) (fun p hp => by repeat (first | exact mem3 p hp | apply List.mem_cons_of_mem))) ?_
        refine W_assign rfl rfl ?_
        refine W_nil ?_
        refine W_sr ?_
        refine W_move rfl rfl ?_
        refine W_bin rfl rfl b_neq rfl ?_
        refine W_nil ?_
        refine W_condPS (p := ¬ (Xm.refE (⟨kind, entries, words, closed, L, C, used⟩ : Xm) how) = 0) rfl (by simp) (fun c2 => ?_) (fun c2 => ?_)
        · skip
          refine W_sr ?_
          refine W_build (l := puttC zPutt) ty31 pl31 .nil rfl rfl rfl ?_
          refine W_move rfl rfl ?_
          refine W_storeA (l' := puttC zPutt) rfl rfl ty31 rfl rfl (b := b8) zM (by exact Nat.le_refl 5) rfl zU ?_
          refine W_assign rfl rfl ?_
          refine W_nil ?_
          refine W_ret2G (H2 := (mb, .cells 78 7 [.int .i64 (kind : Int), .int .i64 (entries : Int), .int .i64 (words : Int), .pointer (some ⟨ab, 0, none⟩), .pointer (some ⟨tb, 0, none⟩), .pointer (some ⟨bo, 0, none⟩), .bool closed]) :: (HA ++ (HT ++ (HO ++ H)))) Tryz.results11 (.nil _) (.own (vs := puttC zPutt) rfl ty31 rfl (b := b8) zM rfl) (.tmp rfl) zH ?_
          have e : (Xm.put (⟨kind, entries, words, closed, L, C, used⟩ : Xm) how k ws) = ((⟨kind, entries, words, closed, L, C, used⟩ : Xm), zPutt, Xm.refE (⟨kind, entries, words, closed, L, C, used⟩ : Xm) how) := by
            unfold Xm.put
            rw [if_neg (by dsimp only; omega)]
            rw [if_neg c1]
            dsimp only
            rw [hf]
            dsimp only
            rw [if_pos c2]
          rw [e]
          exact ⟨HA, HT, HO, hA, hB, hO.up (by omega), rfl, rfl⟩
        · skip
          refine W_skip ?_
          refine W_sr ?_
          refine W_alloc (l := puttC zPutt) ty31 rfl rfl (fun b14 => ?_)
          refine W_nil ?_
          refine W_seq ?_
          refine W_sr ?_
          refine W_move rfl rfl ?_
          refine W_callq (.cons rfl .nil) Tryz.call42 rfl (full_q hB (HA := HA) (HO := HO) (closed := closed) (kind := kind) (words := words) (fun p hp => by repeat (first | exact mem3 p hp | apply List.mem_cons_of_mem))) ?_
          refine W_nil ?_
          refine W_condPS (p := C.length = entries) rfl (by simp) (fun c3 => ?_) (fun c3 => ?_)
          · skip
            refine W_sr ?_
            refine W_move rfl rfl ?_
            refine W_nilCheck rfl rfl ?_
            refine W_fieldAddr rfl fld78_5 (by decide) rfl ?_
            refine W_load (v := .pointer (some ⟨bo, 0, none⟩)) rfl ty76 rfl (Cell.own (b := mb) zM rfl) rfl ?_
            obtain ⟨o, ho⟩ : ∃ o, used[0]? = some o := ⟨_, List.getElem?_eq_getElem (by have := hx.ulen; have := hx.ent; dsimp only at *; omega)⟩
            have hom : o ∈ keyL C := hx.umem.1 (List.mem_of_getElem? ho)
            refine W_call (.cons rfl .nil) Tryz.call43 rfl ((hO.oldest (by have := hx.ent; dsimp only at *; omega) (H := (b14, .cells 31 5 (puttC zPutt)) :: (b11, .cells 29 2 (hdC zHd)) :: (b10, .cells 82 5 (celC ⟨k, W4.of ws⟩)) :: (b8, .cells 31 5 (puttC zPutt)) :: (mb, .cells 78 7 [.int .i64 (kind : Int), .int .i64 (entries : Int), .int .i64 (words : Int), .pointer (some ⟨ab, 0, none⟩), .pointer (some ⟨tb, 0, none⟩), .pointer (some ⟨bo, 0, none⟩), .bool closed]) :: (HA ++ (HT ++ H)))).hsub zH) ?_
            rintro v H' ⟨rfl, rfl⟩
            rw [show fstU used = .int .u64 o from by unfold fstU; rw [ho]]
            refine W_move rfl rfl ?_
            refine W_extract rfl rfl rfl ?_
            refine W_extract rfl rfl rfl ?_
            refine W_assign rfl rfl ?_
            refine W_assign rfl rfl ?_
            refine W_nil ?_
            refine W_region ?_
            refine W_move rfl rfl ?_
            refine W_move rfl rfl ?_
            refine W_call (.cons rfl (.cons rfl .nil)) Tryz.call44 rfl ((unlink_at (closed := closed) (kind := kind) (words := words) (HA := HA) hB hO (k := o) (H := (b14, .cells 31 5 (puttC zPutt)) :: (b11, .cells 29 2 (hdC zHd)) :: (b10, .cells 82 5 (celC ⟨k, W4.of ws⟩)) :: (b8, .cells 31 5 (puttC zPutt)) :: H)).hsub zH) ?_
            rintro v H' ⟨HT2, HO2, hB2, hO2, rfl, rfl⟩
            obtain ⟨g0, hg0⟩ : ∃ g0, g0 = (fndC C o).getD zHd := ⟨_, rfl⟩
            rw [← hg0]
            refine W_fieldAddr rfl fld31_1 (by decide) rfl ?_
            refine W_storeA (l' := puttC ⟨zHd, g0, false⟩) rfl rfl ty29 rfl rfl (b := b14) zM (by show 2 + 2 ≤ 5; decide) rfl zU ?_
            refine W_fieldAddr rfl fld31_2 (by decide) rfl ?_
            refine W_store (l' := puttC ⟨zHd, g0, true⟩) rfl rfl ty4 rfl rfl (b := b14) zM rfl rfl zU ?_
            refine W_nil ?_
            refine W_sr ?_
            refine W_move rfl rfl ?_
            refine W_loadB (vs := celC ⟨k, W4.of ws⟩) rfl ty82 rfl (b := b10) zM rfl rfl rfl ?_
            obtain ⟨i, s, hfi, hs⟩ := Xm.free_slot (x := (⟨kind, entries, words, closed, L, C, used⟩ : Xm)) (how := how) (Classical.not_not.1 c2)
            dsimp only at hfi hs
            have hkn := fndC_none.1 hf
            have hdl := delC_len hB.nd.1 hom
            have hul := hx.ulen
            have hule : (drop1O used o).length + 1 = used.length := by have := (drop1O_perm hx.und (List.mem_of_getElem? ho)).length_eq; rw [List.length_append] at this; exact this.symm
            dsimp only at hul
            refine W_call (.cons rfl (.cons rfl .nil)) Tryz.call36 rfl ((link_at (closed := closed) (kind := kind) (words := words) hA hB2 hO2 (by omega) (by have := hx.ent; dsimp only at this; omega) (c := ⟨k, W4.of ws⟩) hfi hs (by rw [keyL_del]; exact fun hm => hkn (List.mem_filter.1 hm).1) (by omega) (by omega) hTab (H := (b14, .cells 31 5 (puttC ⟨zHd, g0, true⟩)) :: (b11, .cells 29 2 (hdC zHd)) :: (b10, .cells 82 5 (celC ⟨k, W4.of ws⟩)) :: (b8, .cells 31 5 (puttC zPutt)) :: H)).hsub zH) ?_
            rintro v H' ⟨HA3, HT3, HO3, hA3, hB3, hO3, rfl, rfl⟩
            refine W_move rfl rfl ?_
            refine W_extract rfl rfl rfl ?_
            refine W_extract rfl rfl rfl ?_
            refine W_alloc (l := hdC zHd) ty29 rfl rfl (fun b17 => ?_)
            refine W_storeA (l' := hdC s.own) rfl rfl ty29 rfl rfl (b := b17) zM (by exact Nat.le_refl 2) rfl zU ?_
            refine W_assign rfl rfl ?_
            refine W_nil ?_
            refine W_sr ?_
            refine W_loadB (vs := hdC s.own) rfl ty29 rfl (b := b17) zM rfl rfl rfl ?_
            refine W_fieldAddr rfl fld31_0 (by decide) rfl ?_
            refine W_storeA (l' := puttC ⟨s.own, g0, true⟩) rfl rfl ty29 rfl rfl (b := b14) zM (by show 0 + 2 ≤ 5; decide) rfl zU ?_
            refine W_nil ?_
            refine W_sr ?_
            refine W_loadB (vs := puttC ⟨s.own, g0, true⟩) rfl ty31 rfl (b := b14) zM rfl rfl rfl ?_
            refine W_move rfl rfl ?_
            refine W_storeA (l' := puttC ⟨s.own, g0, true⟩) rfl rfl ty31 rfl rfl (b := b8) zM (by exact Nat.le_refl 5) rfl zU ?_
            refine W_assign rfl rfl ?_
            refine W_nil ?_
            refine W_ret2G (H2 := (mb, .cells 78 7 [.int .i64 (kind : Int), .int .i64 (entries : Int), .int .i64 (words : Int), .pointer (some ⟨ab, 0, none⟩), .pointer (some ⟨tb, 0, none⟩), .pointer (some ⟨bo, 0, none⟩), .bool closed]) :: (HA3 ++ (HT3 ++ (HO3 ++ H)))) Tryz.results11 (.nil _) (.own (vs := puttC ⟨s.own, g0, true⟩) rfl ty31 rfl (b := b8) zM rfl) (.tmp rfl) zH ?_
            have hh : used.headD 0 = o := by cases used with
              | nil => cases ho
              | cons a t => exact Option.some.inj ho
            have e : (Xm.put (⟨kind, entries, words, closed, L, C, used⟩ : Xm) how k ws) = (((Xm.unlink (⟨kind, entries, words, closed, L, C, used⟩ : Xm) o).1.link ⟨k, W4.of ws⟩).1, ⟨((Xm.unlink (⟨kind, entries, words, closed, L, C, used⟩ : Xm) o).1.link ⟨k, W4.of ws⟩).2, (Xm.unlink (⟨kind, entries, words, closed, L, C, used⟩ : Xm) o).2, true⟩, 0) := by
              unfold Xm.put
              rw [if_neg (by dsimp only; omega)]
              rw [if_neg c1]
              dsimp only
              rw [hf]
              dsimp only
              rw [if_neg c2, if_pos c3, hh]
            rw [e, Xm.link_is (x := (Xm.unlink (⟨kind, entries, words, closed, L, C, used⟩ : Xm) o).1) hfi hs]
            exact ⟨HA3, HT3, HO3, hA3, hB3, hO3.up (by omega), by rw [hg0]; rfl, rfl⟩
          · skip
            refine W_skip ?_
            refine W_sr ?_
            refine W_move rfl rfl ?_
            refine W_loadB (vs := celC ⟨k, W4.of ws⟩) rfl ty82 rfl (b := b10) zM rfl rfl rfl ?_
            obtain ⟨i, s, hfi, hs⟩ := Xm.free_slot (x := (⟨kind, entries, words, closed, L, C, used⟩ : Xm)) (how := how) (Classical.not_not.1 c2)
            dsimp only at hfi hs
            have hkn := fndC_none.1 hf
            have hul := hx.ulen
            have hle := hx.le
            dsimp only at hul hle
            refine W_call (.cons rfl (.cons rfl .nil)) Tryz.call36 rfl ((link_at (closed := closed) (kind := kind) (words := words) hA hB hO (by omega) (by have := hx.ent; dsimp only at this; omega) (c := ⟨k, W4.of ws⟩) hfi hs hkn (by omega) (by omega) hTab (H := (b14, .cells 31 5 (puttC zPutt)) :: (b11, .cells 29 2 (hdC zHd)) :: (b10, .cells 82 5 (celC ⟨k, W4.of ws⟩)) :: (b8, .cells 31 5 (puttC zPutt)) :: H)).hsub zH) ?_
            rintro v H' ⟨HA3, HT3, HO3, hA3, hB3, hO3, rfl, rfl⟩
            refine W_move rfl rfl ?_
            refine W_extract rfl rfl rfl ?_
            refine W_extract rfl rfl rfl ?_
            refine W_alloc (l := hdC zHd) ty29 rfl rfl (fun b17 => ?_)
            refine W_storeA (l' := hdC s.own) rfl rfl ty29 rfl rfl (b := b17) zM (by exact Nat.le_refl 2) rfl zU ?_
            refine W_assign rfl rfl ?_
            refine W_nil ?_
            refine W_sr ?_
            refine W_loadB (vs := hdC s.own) rfl ty29 rfl (b := b17) zM rfl rfl rfl ?_
            refine W_fieldAddr rfl fld31_0 (by decide) rfl ?_
            refine W_storeA (l' := puttC ⟨s.own, zHd, false⟩) rfl rfl ty29 rfl rfl (b := b14) zM (by show 0 + 2 ≤ 5; decide) rfl zU ?_
            refine W_nil ?_
            refine W_sr ?_
            refine W_loadB (vs := puttC ⟨s.own, zHd, false⟩) rfl ty31 rfl (b := b14) zM rfl rfl rfl ?_
            refine W_move rfl rfl ?_
            refine W_storeA (l' := puttC ⟨s.own, zHd, false⟩) rfl rfl ty31 rfl rfl (b := b8) zM (by exact Nat.le_refl 5) rfl zU ?_
            refine W_assign rfl rfl ?_
            refine W_nil ?_
            refine W_ret2G (H2 := (mb, .cells 78 7 [.int .i64 (kind : Int), .int .i64 (entries : Int), .int .i64 (words : Int), .pointer (some ⟨ab, 0, none⟩), .pointer (some ⟨tb, 0, none⟩), .pointer (some ⟨bo, 0, none⟩), .bool closed]) :: (HA3 ++ (HT3 ++ (HO3 ++ H)))) Tryz.results11 (.nil _) (.own (vs := puttC ⟨s.own, zHd, false⟩) rfl ty31 rfl (b := b8) zM rfl) (.tmp rfl) zH ?_
            have e : (Xm.put (⟨kind, entries, words, closed, L, C, used⟩ : Xm) how k ws) = ((Xm.link (⟨kind, entries, words, closed, L, C, used⟩ : Xm) ⟨k, W4.of ws⟩).1, ⟨(Xm.link (⟨kind, entries, words, closed, L, C, used⟩ : Xm) ⟨k, W4.of ws⟩).2, zHd, false⟩, 0) := by
              unfold Xm.put
              rw [if_neg (by dsimp only; omega)]
              rw [if_neg c1]
              dsimp only
              rw [hf]
              dsimp only
              rw [if_neg c2, if_neg c3]
            rw [e, Xm.link_is (x := (⟨kind, entries, words, closed, L, C, used⟩ : Xm)) hfi hs]
            exact ⟨HA3, HT3, HO3, hA3, hB3, hO3.up (by omega), rfl, rfl⟩
      · skip
        simp only [Option.getD_some, Option.isSome_some, if_true]
        refine W_move rfl rfl ?_
        refine W_extract rfl rfl rfl ?_
        refine W_extract rfl rfl rfl ?_
        refine W_alloc (l := hdC zHd) ty29 rfl rfl (fun b11 => ?_)
        refine W_storeA (l' := hdC g) rfl rfl ty29 rfl rfl (b := b11) zM (by exact Nat.le_refl 2) rfl zU ?_
        refine W_assign rfl rfl ?_
        refine W_nil ?_
        refine W_sr ?_
        refine W_move rfl rfl ?_
        refine W_bin rfl rfl b_eql rfl ?_
        refine W_nil ?_
        refine W_condT rfl rfl ?_
        refine W_seq ?_
        refine W_sr ?_
        refine W_move rfl rfl ?_
        refine W_bin rfl rfl b_eql rfl ?_
        refine W_nil ?_
        refine W_condPS (p := how = 1) rfl (by simp) (fun c2 => ?_) (fun c2 => ?_)
        · skip
          refine W_sr ?_
          refine W_build (l := puttC zPutt) ty31 pl31 .nil rfl rfl rfl ?_
          refine W_storeA (l' := puttC zPutt) rfl rfl ty31 rfl rfl (b := b8) zM (by exact Nat.le_refl 5) rfl zU ?_
          refine W_assign rfl rfl ?_
          refine W_nil ?_
          refine W_ret2G (H2 := (mb, .cells 78 7 [.int .i64 (kind : Int), .int .i64 (entries : Int), .int .i64 (words : Int), .pointer (some ⟨ab, 0, none⟩), .pointer (some ⟨tb, 0, none⟩), .pointer (some ⟨bo, 0, none⟩), .bool closed]) :: (HA ++ (HT ++ (HO ++ H)))) Tryz.results11 (.nil _) (.own (vs := puttC zPutt) rfl ty31 rfl (b := b8) zM rfl) (.tmp rfl) zH ?_
          have e : (Xm.put (⟨kind, entries, words, closed, L, C, used⟩ : Xm) how k ws) = ((⟨kind, entries, words, closed, L, C, used⟩ : Xm), zPutt, 5) := by
            unfold Xm.put
            rw [if_neg (by dsimp only; omega)]
            rw [if_neg c1]
            dsimp only
            rw [hf]
            dsimp only
            rw [if_pos c2]
          rw [e]
          exact ⟨HA, HT, HO, hA, hB, hO.up (by omega), rfl, rfl⟩
        · skip
          refine W_skip ?_
          refine W_sr ?_
          refine W_move rfl rfl ?_
          refine W_nilCheck rfl rfl ?_
          refine W_fieldAddr rfl fld78_5 (by decide) rfl ?_
          refine W_load (v := .pointer (some ⟨bo, 0, none⟩)) rfl ty76 rfl (Cell.own (b := mb) zM rfl) rfl ?_
          refine W_move rfl rfl ?_
          refine W_buildSlice (l := [.int .u64 k]) ty42 ty22 (.cons rfl rfl rfl rfl rfl .nil) rfl rfl rfl rfl rfl rfl rfl (fun b68 => ?_)
          refine W_call (.cons rfl (.cons rfl .nil)) Tryz.call39 rfl ((hO.touch hTl (k := k) (cap := 1) (.inl (hx.umem.2 (keyL_mem hf))) (Holds.own (b := b68) zM) (H := (b68, .cells 22 (1 * 1) [.int .u64 k]) :: (b11, .cells 29 2 (hdC g)) :: (b10, .cells 82 5 (celC ⟨k, W4.of ws⟩)) :: (b8, .cells 31 5 (puttC zPutt)) :: (mb, .cells 78 7 [.int .i64 (kind : Int), .int .i64 (entries : Int), .int .i64 (words : Int), .pointer (some ⟨ab, 0, none⟩), .pointer (some ⟨tb, 0, none⟩), .pointer (some ⟨bo, 0, none⟩), .bool closed]) :: (HA ++ (HT ++ H)))).hsub zH) ?_
          rintro v H' ⟨HO2, hO2, rfl, rfl⟩
          refine W_nil ?_
          refine W_seq ?_
          refine W_anyC [(mb, .cells 78 7 [.int .i64 (kind : Int), .int .i64 (entries : Int), .int .i64 (words : Int), .pointer (some ⟨ab, 0, none⟩), .pointer (some ⟨tb, 0, none⟩), .pointer (some ⟨bo, 0, none⟩), .bool closed]), (b11, .cells 29 2 (hdC g)), (b10, .cells 82 5 (celC ⟨k, W4.of ws⟩))] (by kernel_rfl) ?_
          refine WC_take 0 (l' := #[true, false, false, false, false, false, false, false, false, false, false]) rfl (by decide +kernel) (by decide +kernel) (by decide +kernel) rfl (by decide +kernel) (X_loadB (vs := hdC g) rfl ty29 rfl (b := b11) zM rfl rfl) rfl ?_
          refine WC_take 1 (l' := #[true, true, false, false, false, false, false, false, false, false, false]) rfl (by decide +kernel) (by decide +kernel) (by decide +kernel) rfl (by decide +kernel) (X_build (l := puttC ⟨g, zHd, false⟩) ty31 pl31 (.cons rfl rfl rfl rfl rfl .nil) rfl rfl) rfl ?_
          refine WC_take 2 (l' := #[true, true, true, false, false, false, false, false, false, false, false]) rfl (by decide +kernel) (by decide +kernel) (by decide +kernel) rfl (by decide +kernel) (X_move rfl) rfl ?_
          refine WC_take 3 (l' := #[true, true, true, true, false, false, false, false, false, false, false]) rfl (by decide +kernel) (by decide +kernel) (by decide +kernel) rfl (by decide +kernel) (X_nilCheck rfl) rfl ?_
          refine WC_take 4 (l' := #[true, true, true, true, true, false, false, false, false, false, false]) rfl (by decide +kernel) (by decide +kernel) (by decide +kernel) rfl (by decide +kernel) (X_fieldAddr rfl fld78_3 (by decide)) rfl ?_
          refine WC_take 5 (l' := #[true, true, true, true, true, true, false, false, false, false, false]) rfl (by decide +kernel) (by decide +kernel) (by decide +kernel) rfl (by decide +kernel) (X_load (v := .pointer (some ⟨ab, 0, none⟩)) rfl ty74 rfl (Cell.own (b := mb) zM rfl)) rfl ?_
          refine WC_take 6 (l' := #[true, true, true, true, true, true, true, false, false, false, false]) rfl (by decide +kernel) (by decide +kernel) (by decide +kernel) rfl (by decide +kernel) (X_loadB (vs := hdC g) rfl ty29 rfl (b := b11) zM rfl rfl) rfl ?_
          refine WC_take 7 (l' := #[true, true, true, true, true, true, true, true, false, false, false]) rfl (by decide +kernel) (by decide +kernel) (by decide +kernel) rfl (by decide +kernel) (X_loadB (vs := celC (⟨k, W4.of ws⟩)) rfl ty82 rfl (b := b10) zM rfl rfl) rfl ?_
          refine WC_one 8 (l' := #[true, true, true, true, true, true, true, true, true, false, false]) zH (by decide +kernel) rfl (by decide +kernel) ?_
          refine W_call (.cons rfl (.cons rfl (.cons rfl .nil))) Tryz.call40 rfl ((hA.set (h := g) (c := ⟨k, W4.of ws⟩) (H := (b11, .cells 29 2 (hdC g)) :: (b10, .cells 82 5 (celC ⟨k, W4.of ws⟩)) :: (b8, .cells 31 5 (puttC zPutt)) :: (mb, .cells 78 7 [.int .i64 (kind : Int), .int .i64 (entries : Int), .int .i64 (words : Int), .pointer (some ⟨ab, 0, none⟩), .pointer (some ⟨tb, 0, none⟩), .pointer (some ⟨bo, 0, none⟩), .bool closed]) :: (HT ++ (HO2 ++ H)))).hsub zH) ?_
          rintro v H' ⟨HA2, hA2, rfl, rfl⟩
          refine W_nil ?_
          refine WC_goal ?_
          refine WC_one 9 (l' := #[true, true, true, true, true, true, true, true, true, true, false]) zH (by decide +kernel) rfl (by decide +kernel) ?_
          refine W_storeA (l' := puttC ⟨g, zHd, false⟩) rfl rfl ty31 rfl rfl (b := b8) zM (by exact Nat.le_refl 5) rfl zU ?_
          refine W_nil ?_
          refine WC_goal ?_
          refine WC_take 10 (l' := #[true, true, true, true, true, true, true, true, true, true, true]) rfl (by decide +kernel) (by decide +kernel) (by decide +kernel) rfl (by decide +kernel) (X_assign rfl) rfl ?_
          refine WC_done zH (by decide +kernel) ?_
          refine W_ret2G (H2 := (mb, .cells 78 7 [.int .i64 (kind : Int), .int .i64 (entries : Int), .int .i64 (words : Int), .pointer (some ⟨ab, 0, none⟩), .pointer (some ⟨tb, 0, none⟩), .pointer (some ⟨bo, 0, none⟩), .bool closed]) :: (HA2 ++ (HT ++ (HO2 ++ H)))) Tryz.results11 (.nil _) (.own (vs := puttC ⟨g, zHd, false⟩) rfl ty31 rfl (b := b8) zM rfl) (.tmp rfl) zH ?_
          have e : (Xm.put (⟨kind, entries, words, closed, L, C, used⟩ : Xm) how k ws) = ({ Xm.use (⟨kind, entries, words, closed, L, C, used⟩ : Xm) k with L := setA L g (fun s => { s with cel := ⟨k, W4.of ws⟩ }) }, ⟨g, zHd, false⟩, errA L g) := by
            unfold Xm.put
            rw [if_neg (by dsimp only; omega)]
            rw [if_neg c1]
            dsimp only
            rw [hf]
            dsimp only
            rw [if_neg c2]
          rw [e]
          exact ⟨HA2, HT, HO2, hA2, hB, hO2.up (Nat.le_succ _), rfl, rfl⟩
end Go.Proofs.YtphdlpmnidiliaaGreatDoor
namespace Go.Proofs.YtphdlpmnidiliaaGreatDoor
open Go Go.Sl
attribute [local irreducible] W
set_option maxHeartbeats 1000000 in
theorem with_no {w0 : World} {H : Heap} {mb ab tb bo kind entries words : Nat} {closed : Bool} {L : List Slt} {C : List (Int × Hd)} {HA HT HO : Heap} (hA : AreH ab L HA) (hB : TabH tb entries C HT) {h : Hd} {fi : Nat} {ca : List Value} (he : errA L h ≠ 0) (hm : ∀ p ∈ ((mb, .cells 78 7 [.int .i64 (kind : Int), .int .i64 (entries : Int), .int .i64 (words : Int), .pointer (some ⟨ab, 0, none⟩), .pointer (some ⟨tb, 0, none⟩), .pointer (some ⟨bo, 0, none⟩), .bool closed]) :: (HA ++ (HT ++ HO))), p ∈ H)  : PureAt Tryz.prog w0 H 48 [.pointer (some ⟨mb, 0, none⟩), .agg (List.toArray (hdC h)), Value.func (.func fi) #[] ca.toArray] (.int .i64 (errA L h)) := by
  refine L_enter Tryz.func48 rfl Tryz.ntmps48 rfl rfl ?_
  refine W_sr ?_
  refine W_box rfl rfl rfl (fun b4 => ?_)
  refine W_assign rfl rfl ?_
  refine W_nil ?_
  refine W_seq ?_
  refine W_sr ?_
  refine W_move rfl rfl ?_
  refine W_x (X_ptrNil rfl rfl ty23) (fun _ h => by cases h) rfl ?_
  refine W_nil ?_
  refine W_condF rfl rfl ?_
  refine W_skip ?_
  refine W_seq ?_
  refine W_cutX (X := Nat) (fun x => [(0, .pointer (some ⟨mb, 0, none⟩)), (2, Value.func (.func fi) #[] ca.toArray), (7, .pointer (some ⟨x, 0, none⟩)), (8, .int .i64 (errA L h))]) (fun x => (x, .cells 82 5 (celC (celA L h))) :: (b4, .cells 29 2 (hdC h)) :: H) (fun _ => True) ?_ ?_
  · skip
    refine W_anyC ((b4, .cells 29 2 (hdC h)) :: H) (by kernel_rfl) ?_
    refine WC_take 0 (l' := #[true, false, false, false, false, false, false, false, false, false, false, false]) rfl (by decide +kernel) (by decide +kernel) (by decide +kernel) rfl (by decide +kernel) (X_move rfl) rfl ?_
    refine WC_take 1 (l' := #[true, true, false, false, false, false, false, false, false, false, false, false]) rfl (by decide +kernel) (by decide +kernel) (by decide +kernel) rfl (by decide +kernel) (X_nilCheck rfl) rfl ?_
    refine WC_take 2 (l' := #[true, true, true, false, false, false, false, false, false, false, false, false]) rfl (by decide +kernel) (by decide +kernel) (by decide +kernel) rfl (by decide +kernel) (X_fieldAddr rfl fld78_3 (by decide)) rfl ?_
    refine WC_take 3 (l' := #[true, true, true, true, false, false, false, false, false, false, false, false]) rfl (by decide +kernel) (by decide +kernel) (by decide +kernel) rfl (by decide +kernel) (X_load (v := .pointer (some ⟨ab, 0, none⟩)) rfl ty74 rfl (Cell.own (b := mb) (by repeat (first | exact hm _ List.mem_cons_self | apply List.mem_cons_of_mem)) rfl)) rfl ?_
    refine WC_take 4 (l' := #[true, true, true, true, true, false, false, false, false, false, false, false]) rfl (by decide +kernel) (by decide +kernel) (by decide +kernel) rfl (by decide +kernel) (X_loadB (vs := hdC h) rfl ty29 rfl (b := b4) zM rfl rfl) rfl ?_
    refine WC_two 5 9 (l' := #[true, true, true, true, true, true, false, false, false, false, false, false]) (l'' := #[true, true, true, true, true, false, false, false, false, true, false, false]) zH (by decide +kernel) rfl rfl (by decide +kernel) (by decide +kernel) ?_ ?_
    · skip
      refine W_callq (.cons rfl (.cons rfl .nil)) Tryz.call84 rfl (hA.get (h := h) (fun p hp => by repeat (first | exact hm p (List.mem_cons_of_mem _ (List.mem_append_left _ hp)) | apply List.mem_cons_of_mem))) ?_
      refine W_nil ?_
      refine WC_goal ?_
      refine WC_take 6 (l' := #[true, true, true, true, true, true, true, false, false, false, false, false]) rfl (by decide +kernel) (by decide +kernel) (by decide +kernel) rfl (by decide +kernel) (X_move rfl) rfl ?_
      refine WC_take 7 (l' := #[true, true, true, true, true, true, true, true, false, false, false, false]) rfl (by decide +kernel) (by decide +kernel) (by decide +kernel) rfl (by decide +kernel) (X_extract rfl rfl) rfl ?_
      refine WC_take 8 (l' := #[true, true, true, true, true, true, true, true, true, false, false, false]) rfl (by decide +kernel) (by decide +kernel) (by decide +kernel) rfl (by decide +kernel) (X_extract rfl rfl) rfl ?_
      refine WC_one 9 (l' := #[true, true, true, true, true, true, true, true, true, true, false, false]) zH (by decide +kernel) rfl (by decide +kernel) ?_
      refine W_alloc (l := celC zCel) ty82 rfl rfl (fun b7 => ?_)
      refine W_nil ?_
      refine WC_goal ?_
      refine WC_one 10 (l' := #[true, true, true, true, true, true, true, true, true, true, true, false]) zH (by decide +kernel) rfl (by decide +kernel) ?_
      refine W_storeA (l' := celC (celA L h)) rfl rfl ty82 rfl rfl (b := b7) zM (by exact Nat.le_refl 5) rfl zU ?_
      refine W_nil ?_
      refine WC_goal ?_
      refine WC_take 11 (l' := #[true, true, true, true, true, true, true, true, true, true, true, true]) rfl (by decide +kernel) (by decide +kernel) (by decide +kernel) rfl (by decide +kernel) (X_assign rfl) rfl ?_
      refine WC_done zH (by decide +kernel) ?_
      refine W_joinX b7 trivial (sub_cons rfl (sub_cons rfl (sub_cons rfl (sub_cons rfl (sub_nil _))))) zH
    · skip
      refine W_alloc (l := celC zCel) ty82 rfl rfl (fun b7 => ?_)
      refine W_nil ?_
      refine WC_goal ?_
      refine WC_one 5 (l' := #[true, true, true, true, true, true, false, false, false, true, false, false]) zH (by decide +kernel) rfl (by decide +kernel) ?_
      refine W_callq (.cons rfl (.cons rfl .nil)) Tryz.call84 rfl (hA.get (h := h) (fun p hp => by repeat (first | exact hm p (List.mem_cons_of_mem _ (List.mem_append_left _ hp)) | apply List.mem_cons_of_mem))) ?_
      refine W_nil ?_
      refine WC_goal ?_
      refine WC_take 6 (l' := #[true, true, true, true, true, true, true, false, false, true, false, false]) rfl (by decide +kernel) (by decide +kernel) (by decide +kernel) rfl (by decide +kernel) (X_move rfl) rfl ?_
      refine WC_take 7 (l' := #[true, true, true, true, true, true, true, true, false, true, false, false]) rfl (by decide +kernel) (by decide +kernel) (by decide +kernel) rfl (by decide +kernel) (X_extract rfl rfl) rfl ?_
      refine WC_take 8 (l' := #[true, true, true, true, true, true, true, true, true, true, false, false]) rfl (by decide +kernel) (by decide +kernel) (by decide +kernel) rfl (by decide +kernel) (X_extract rfl rfl) rfl ?_
      refine WC_one 10 (l' := #[true, true, true, true, true, true, true, true, true, true, true, false]) zH (by decide +kernel) rfl (by decide +kernel) ?_
      refine W_storeA (l' := celC (celA L h)) rfl rfl ty82 rfl rfl (b := b7) zM (by exact Nat.le_refl 5) rfl zU ?_
      refine W_nil ?_
      refine WC_goal ?_
      refine WC_take 11 (l' := #[true, true, true, true, true, true, true, true, true, true, true, true]) rfl (by decide +kernel) (by decide +kernel) (by decide +kernel) rfl (by decide +kernel) (X_assign rfl) rfl ?_
      refine WC_done zH (by decide +kernel) ?_
      refine W_joinX b7 trivial (sub_cons rfl (sub_cons rfl (sub_cons rfl (sub_cons rfl (sub_nil _))))) zH
  rintro b7 -
  refine W_seq ?_
  refine W_sr ?_
  refine W_move rfl rfl ?_
  refine W_bin rfl rfl b_neq rfl ?_
  refine W_nil ?_
  refine W_condT rfl (decide_eq_true he) ?_
  refine W_sr ?_
  refine W_move rfl rfl ?_
  refine W_assign rfl rfl ?_
  refine W_nil ?_
  refine W_ret1m (H2 := H) Tryz.results48 rfl (.nil _) zH ?_
  exact ⟨rfl, rfl⟩
set_option maxHeartbeats 1000000 in
theorem with_yes {w0 : World} {H : Heap} {mb ab tb bo kind entries words : Nat} {closed : Bool} {L : List Slt} {C : List (Int × Hd)} {HA HT HO : Heap} (hA : AreH ab L HA) (hB : TabH tb entries C HT) {h : Hd} {fi : Nat} {ca : List Value} {R : Value → Heap → Prop} (hfi : ∀ (args : Array Value) (w : World), (callFunc fi args).run Tryz.prog w = .ok (.enter fi args) w) (he : errA L h = 0) (hm : ∀ p ∈ ((mb, .cells 78 7 [.int .i64 (kind : Int), .int .i64 (entries : Int), .int .i64 (words : Int), .pointer (some ⟨ab, 0, none⟩), .pointer (some ⟨tb, 0, none⟩), .pointer (some ⟨bo, 0, none⟩), .bool closed]) :: (HA ++ (HT ++ HO))), p ∈ H) (hdo : LCalls Tryz.prog w0 fi (#[] ++ #[.agg (List.toArray (celC (celA L h)))] ++ ca.toArray) (H) R)  : LCalls Tryz.prog w0 48 #[.pointer (some ⟨mb, 0, none⟩), .agg (List.toArray (hdC h)), Value.func (.func fi) #[] ca.toArray] (H) (R) := by
  refine L_enter (l := [.pointer (some ⟨mb, 0, none⟩), .agg (List.toArray (hdC h)), Value.func (.func fi) #[] ca.toArray]) Tryz.func48 rfl Tryz.ntmps48 rfl rfl ?_
  refine W_sr ?_
  refine W_box rfl rfl rfl (fun b4 => ?_)
  refine W_assign rfl rfl ?_
  refine W_nil ?_
  refine W_seq ?_
  refine W_sr ?_
  refine W_move rfl rfl ?_
  refine W_x (X_ptrNil rfl rfl ty23) (fun _ h => by cases h) rfl ?_
  refine W_nil ?_
  refine W_condF rfl rfl ?_
  refine W_skip ?_
  refine W_seq ?_
  refine W_cutX (X := Nat) (fun x => [(0, .pointer (some ⟨mb, 0, none⟩)), (2, Value.func (.func fi) #[] ca.toArray), (7, .pointer (some ⟨x, 0, none⟩)), (8, .int .i64 (errA L h))]) (fun x => (x, .cells 82 5 (celC (celA L h))) :: (b4, .cells 29 2 (hdC h)) :: H) (fun _ => True) ?_ ?_
  · skip
    refine W_anyC ((b4, .cells 29 2 (hdC h)) :: H) (by kernel_rfl) ?_
    refine WC_take 0 (l' := #[true, false, false, false, false, false, false, false, false, false, false, false]) rfl (by decide +kernel) (by decide +kernel) (by decide +kernel) rfl (by decide +kernel) (X_move rfl) rfl ?_
    refine WC_take 1 (l' := #[true, true, false, false, false, false, false, false, false, false, false, false]) rfl (by decide +kernel) (by decide +kernel) (by decide +kernel) rfl (by decide +kernel) (X_nilCheck rfl) rfl ?_
    refine WC_take 2 (l' := #[true, true, true, false, false, false, false, false, false, false, false, false]) rfl (by decide +kernel) (by decide +kernel) (by decide +kernel) rfl (by decide +kernel) (X_fieldAddr rfl fld78_3 (by decide)) rfl ?_
    refine WC_take 3 (l' := #[true, true, true, true, false, false, false, false, false, false, false, false]) rfl (by decide +kernel) (by decide +kernel) (by decide +kernel) rfl (by decide +kernel) (X_load (v := .pointer (some ⟨ab, 0, none⟩)) rfl ty74 rfl (Cell.own (b := mb) (by repeat (first | exact hm _ List.mem_cons_self | apply List.mem_cons_of_mem)) rfl)) rfl ?_
    refine WC_take 4 (l' := #[true, true, true, true, true, false, false, false, false, false, false, false]) rfl (by decide +kernel) (by decide +kernel) (by decide +kernel) rfl (by decide +kernel) (X_loadB (vs := hdC h) rfl ty29 rfl (b := b4) zM rfl rfl) rfl ?_
    refine WC_two 5 9 (l' := #[true, true, true, true, true, true, false, false, false, false, false, false]) (l'' := #[true, true, true, true, true, false, false, false, false, true, false, false]) zH (by decide +kernel) rfl rfl (by decide +kernel) (by decide +kernel) ?_ ?_
    · skip
      refine W_callq (.cons rfl (.cons rfl .nil)) Tryz.call84 rfl (hA.get (h := h) (fun p hp => by repeat (first | exact hm p (List.mem_cons_of_mem _ (List.mem_append_left _ hp)) | apply List.mem_cons_of_mem))) ?_
      refine W_nil ?_
      refine WC_goal ?_
      refine WC_take 6 (l' := #[true, true, true, true, true, true, true, false, false, false, false, false]) rfl (by decide +kernel) (by decide +kernel) (by decide +kernel) rfl (by decide +kernel) (X_move rfl) rfl ?_
      refine WC_take 7 (l' := #[true, true, true, true, true, true, true, true, false, false, false, false]) rfl (by decide +kernel) (by decide +kernel) (by decide +kernel) rfl (by decide +kernel) (X_extract rfl rfl) rfl ?_
      refine WC_take 8 (l' := #[true, true, true, true, true, true, true, true, true, false, false, false]) rfl (by decide +kernel) (by decide +kernel) (by decide +kernel) rfl (by decide +kernel) (X_extract rfl rfl) rfl ?_
      refine WC_one 9 (l' := #[true, true, true, true, true, true, true, true, true, true, false, false]) zH (by decide +kernel) rfl (by decide +kernel) ?_
      refine W_alloc (l := celC zCel) ty82 rfl rfl (fun b7 => ?_)
      refine W_nil ?_
      refine WC_goal ?_
      refine WC_one 10 (l' := #[true, true, true, true, true, true, true, true, true, true, true, false]) zH (by decide +kernel) rfl (by decide +kernel) ?_
      refine W_storeA (l' := celC (celA L h)) rfl rfl ty82 rfl rfl (b := b7) zM (by exact Nat.le_refl 5) rfl zU ?_
      refine W_nil ?_
      refine WC_goal ?_
      refine WC_take 11 (l' := #[true, true, true, true, true, true, true, true, true, true, true, true]) rfl (by decide +kernel) (by decide +kernel) (by decide +kernel) rfl (by decide +kernel) (X_assign rfl) rfl ?_
      refine WC_done zH (by decide +kernel) ?_
      refine W_joinX b7 trivial (sub_cons rfl (sub_cons rfl (sub_cons rfl (sub_cons rfl (sub_nil _))))) zH
    · skip
      refine W_alloc (l := celC zCel) ty82 rfl rfl (fun b7 => ?_)
      refine W_nil ?_
      refine WC_goal ?_
      refine WC_one 5 (l' := #[true, true, true, true, true, true, false, false, false, true, false, false]) zH (by decide +kernel) rfl (by decide +kernel) ?_
      refine W_callq (.cons rfl (.cons rfl .nil)) Tryz.call84 rfl (hA.get (h := h) (fun p hp => by repeat (first | exact hm p (List.mem_cons_of_mem _ (List.mem_append_left _ hp)) | apply List.mem_cons_of_mem))) ?_
      refine W_nil ?_
      refine WC_goal ?_
      refine WC_take 6 (l' := #[true, true, true, true, true, true, true, false, false, true, false, false]) rfl (by decide +kernel) (by decide +kernel) (by decide +kernel) rfl (by decide +kernel) (X_move rfl) rfl ?_
      refine WC_take 7 (l' := #[true, true, true, true, true, true, true, true, false, true, false, false]) rfl (by decide +kernel) (by decide +kernel) (by decide +kernel) rfl (by decide +kernel) (X_extract rfl rfl) rfl ?_
      refine WC_take 8 (l' := #[true, true, true, true, true, true, true, true, true, true, false, false]) rfl (by decide +kernel) (by decide +kernel) (by decide +kernel) rfl (by decide +kernel) (X_extract rfl rfl) rfl ?_
      refine WC_one 10 (l' := #[true, true, true, true, true, true, true, true, true, true, true, false]) zH (by decide +kernel) rfl (by decide +kernel) ?_
      refine W_storeA (l' := celC (celA L h)) rfl rfl ty82 rfl rfl (b := b7) zM (by exact Nat.le_refl 5) rfl zU ?_
      refine W_nil ?_
      refine WC_goal ?_
      refine WC_take 11 (l' := #[true, true, true, true, true, true, true, true, true, true, true, true]) rfl (by decide +kernel) (by decide +kernel) (by decide +kernel) rfl (by decide +kernel) (X_assign rfl) rfl ?_
      refine WC_done zH (by decide +kernel) ?_
      refine W_joinX b7 trivial (sub_cons rfl (sub_cons rfl (sub_cons rfl (sub_cons rfl (sub_nil _))))) zH
  rintro b7 -
  refine W_seq ?_
  refine W_sr ?_
  refine W_move rfl rfl ?_
  refine W_bin rfl rfl b_neq rfl ?_
  refine W_nil ?_
  refine W_condF rfl (decide_eq_false (fun h => h he)) ?_
  refine W_skip ?_
  refine W_sr ?_
  refine W_move rfl rfl ?_
  refine W_loadB (vs := celC (celA L h)) rfl ty82 rfl (b := b7) zM rfl rfl rfl ?_
  refine W_callv (fa := #[]) (ca := ca.toArray) rfl (.cons rfl .nil) hfi rfl (hdo.hsub zH) ?_
  rintro v H' hR
  refine W_assign rfl rfl ?_
  refine W_nil ?_
  refine W_ret1m (H2 := H') Tryz.results48 rfl (.nil _) zH ?_
  exact hR
set_option maxHeartbeats 1000000 in
theorem word1_lo {w0 : World} {H : Heap} {mb ab tb bo kind entries words b4 b5 b6 b7 : Nat} {closed : Bool} {HA HT HO : Heap} {h : Hd} {c : Cel} {at_ : Int} {fi : Nat} {ca : List Value} (hat : at_ < 0) (hm : ∀ p ∈ ((mb, .cells 78 7 [.int .i64 (kind : Int), .int .i64 (entries : Int), .int .i64 (words : Int), .pointer (some ⟨ab, 0, none⟩), .pointer (some ⟨tb, 0, none⟩), .pointer (some ⟨bo, 0, none⟩), .bool closed]) :: (HA ++ (HT ++ HO))), p ∈ H)  : LCalls Tryz.prog w0 83 #[.agg (List.toArray (celC c)), .pointer (some ⟨b6, 0, none⟩), .pointer (some ⟨b4, 0, none⟩), .pointer (some ⟨b7, 0, none⟩)] ((b7, .cells 97 1 [Value.func (.func fi) #[] ca.toArray]) :: (b6, .cells 3 1 [.int .i64 at_]) :: (b5, .cells 29 2 (hdC h)) :: (b4, .cells 23 1 [.pointer (some ⟨mb, 0, none⟩)]) :: H) (fun v H' => v = .int .i64 1 ∧ H' = H) := by
  refine L_enter (l := [.agg (List.toArray (celC c)), .pointer (some ⟨b6, 0, none⟩), .pointer (some ⟨b4, 0, none⟩), .pointer (some ⟨b7, 0, none⟩)]) Tryz.func83 rfl Tryz.ntmps83 rfl rfl ?_
  refine W_sr ?_
  refine W_box (l := celC c) rfl rfl rfl (fun b0 => ?_)
  refine W_assign rfl rfl ?_
  refine W_nil ?_
  refine W_seq ?_
  refine W_quietsr (by kernel_rfl) (by decide +kernel) ?_
  refine WQ_x (X_load (v := .int .i64 at_) rfl ty3 rfl (Cell.own (b := b6) zM rfl)) rfl ?_
  refine WQ_x (X_bin rfl rfl b_lss) rfl ?_
  rw [decide_eq_true hat]
  refine WQ_x (X_move rfl) rfl ?_
  refine WQ_gno rfl rfl rfl rfl ?_
  refine WQ_gno rfl rfl rfl rfl ?_
  refine WQ_gno rfl rfl rfl rfl ?_
  refine WQ_gno rfl rfl rfl rfl ?_
  refine WQ_gno rfl rfl rfl rfl ?_
  refine WQ_gno rfl rfl rfl rfl ?_
  first | refine WQ_x (X_pickt rfl rfl) rfl ?_ | refine WQ_x (X_pickf rfl rfl) rfl ?_
  refine WQ_nil ?_
  refine W_condT rfl rfl ?_
  refine W_sr ?_
  refine W_assign rfl rfl ?_
  refine W_nil ?_
  refine W_ret1m (H2 := H) Tryz.results83 rfl (.nil _) zH ?_
  exact ⟨rfl, rfl⟩
set_option maxHeartbeats 1000000 in
theorem word1_hi {w0 : World} {H : Heap} {mb ab tb bo kind entries words b4 b5 b6 b7 : Nat} {closed : Bool} {HA HT HO : Heap} {h : Hd} {c : Cel} {at_ : Int} {fi : Nat} {ca : List Value} (h0 : ¬ at_ < 0) (hat : (words : Int) ≤ at_) (hm : ∀ p ∈ ((mb, .cells 78 7 [.int .i64 (kind : Int), .int .i64 (entries : Int), .int .i64 (words : Int), .pointer (some ⟨ab, 0, none⟩), .pointer (some ⟨tb, 0, none⟩), .pointer (some ⟨bo, 0, none⟩), .bool closed]) :: (HA ++ (HT ++ HO))), p ∈ H)  : LCalls Tryz.prog w0 83 #[.agg (List.toArray (celC c)), .pointer (some ⟨b6, 0, none⟩), .pointer (some ⟨b4, 0, none⟩), .pointer (some ⟨b7, 0, none⟩)] ((b7, .cells 97 1 [Value.func (.func fi) #[] ca.toArray]) :: (b6, .cells 3 1 [.int .i64 at_]) :: (b5, .cells 29 2 (hdC h)) :: (b4, .cells 23 1 [.pointer (some ⟨mb, 0, none⟩)]) :: H) (fun v H' => v = .int .i64 1 ∧ H' = H) := by
  refine L_enter (l := [.agg (List.toArray (celC c)), .pointer (some ⟨b6, 0, none⟩), .pointer (some ⟨b4, 0, none⟩), .pointer (some ⟨b7, 0, none⟩)]) Tryz.func83 rfl Tryz.ntmps83 rfl rfl ?_
  refine W_sr ?_
  refine W_box (l := celC c) rfl rfl rfl (fun b0 => ?_)
  refine W_assign rfl rfl ?_
  refine W_nil ?_
  refine W_seq ?_
  refine W_quietsr (by kernel_rfl) (by decide +kernel) ?_
  refine WQ_x (X_load (v := .int .i64 at_) rfl ty3 rfl (Cell.own (b := b6) zM rfl)) rfl ?_
  refine WQ_x (X_bin rfl rfl b_lss) rfl ?_
  rw [decide_eq_false h0]
  refine WQ_x (X_move rfl) rfl ?_
  refine WQ_gyes rfl rfl ?_
  refine WQ_x (X_load (v := .int .i64 at_) rfl ty3 rfl (Cell.own (b := b6) zM rfl)) rfl ?_
  refine WQ_gyes rfl rfl ?_
  refine WQ_x (X_load (v := .pointer (some ⟨mb, 0, none⟩)) rfl ty23 rfl (Cell.own (b := b4) zM rfl)) rfl ?_
  refine WQ_gyes rfl rfl ?_
  refine WQ_x (X_nilCheck rfl) rfl ?_
  refine WQ_gyes rfl rfl ?_
  refine WQ_x (X_fieldAddr rfl fld78_2 (by decide)) rfl ?_
  refine WQ_gyes rfl rfl ?_
  refine WQ_x (X_load (v := .int .i64 (words : Int)) rfl ty3 rfl (Cell.own (b := mb) (by repeat (first | exact hm _ List.mem_cons_self | apply List.mem_cons_of_mem)) rfl)) rfl ?_
  refine WQ_gyes rfl rfl ?_
  refine WQ_x (X_bin rfl rfl b_geq) rfl ?_
  rw [decide_eq_true hat]
  first | refine WQ_x (X_pickt rfl rfl) rfl ?_ | refine WQ_x (X_pickf rfl rfl) rfl ?_
  refine WQ_nil ?_
  refine W_condT rfl rfl ?_
  refine W_sr ?_
  refine W_assign rfl rfl ?_
  refine W_nil ?_
  refine W_ret1m (H2 := H) Tryz.results83 rfl (.nil _) zH ?_
  exact ⟨rfl, rfl⟩
set_option maxHeartbeats 1000000 in
theorem word1_in {w0 : World} {H : Heap} {mb ab tb bo kind entries words b4 b5 b6 b7 : Nat} {closed : Bool} {HA HT HO : Heap} {h : Hd} {c : Cel} {at_ : Int} {fi : Nat} {ca : List Value} {R : Value → Heap → Prop} (hfi : ∀ (args : Array Value) (w : World), (callFunc fi args).run Tryz.prog w = .ok (.enter fi args) w) (hat : 0 ≤ at_ ∧ at_ < (words : Int)) (hm : ∀ p ∈ ((mb, .cells 78 7 [.int .i64 (kind : Int), .int .i64 (entries : Int), .int .i64 (words : Int), .pointer (some ⟨ab, 0, none⟩), .pointer (some ⟨tb, 0, none⟩), .pointer (some ⟨bo, 0, none⟩), .bool closed]) :: (HA ++ (HT ++ HO))), p ∈ H) (hdo : LCalls Tryz.prog w0 fi (#[] ++ #[.agg (List.toArray (celC c))] ++ ca.toArray) H R)  : LCalls Tryz.prog w0 83 #[.agg (List.toArray (celC c)), .pointer (some ⟨b6, 0, none⟩), .pointer (some ⟨b4, 0, none⟩), .pointer (some ⟨b7, 0, none⟩)] ((b7, .cells 97 1 [Value.func (.func fi) #[] ca.toArray]) :: (b6, .cells 3 1 [.int .i64 at_]) :: (b5, .cells 29 2 (hdC h)) :: (b4, .cells 23 1 [.pointer (some ⟨mb, 0, none⟩)]) :: H) (R) := by
  refine L_enter (l := [.agg (List.toArray (celC c)), .pointer (some ⟨b6, 0, none⟩), .pointer (some ⟨b4, 0, none⟩), .pointer (some ⟨b7, 0, none⟩)]) Tryz.func83 rfl Tryz.ntmps83 rfl rfl ?_
  refine W_sr ?_
  refine W_box (l := celC c) rfl rfl rfl (fun b0 => ?_)
  refine W_assign rfl rfl ?_
  refine W_nil ?_
  refine W_seq ?_
  refine W_quietsr (by kernel_rfl) (by decide +kernel) ?_
  refine WQ_x (X_load (v := .int .i64 at_) rfl ty3 rfl (Cell.own (b := b6) zM rfl)) rfl ?_
  refine WQ_x (X_bin rfl rfl b_lss) rfl ?_
  rw [decide_eq_false (by omega)]
  refine WQ_x (X_move rfl) rfl ?_
  refine WQ_gyes rfl rfl ?_
  refine WQ_x (X_load (v := .int .i64 at_) rfl ty3 rfl (Cell.own (b := b6) zM rfl)) rfl ?_
  refine WQ_gyes rfl rfl ?_
  refine WQ_x (X_load (v := .pointer (some ⟨mb, 0, none⟩)) rfl ty23 rfl (Cell.own (b := b4) zM rfl)) rfl ?_
  refine WQ_gyes rfl rfl ?_
  refine WQ_x (X_nilCheck rfl) rfl ?_
  refine WQ_gyes rfl rfl ?_
  refine WQ_x (X_fieldAddr rfl fld78_2 (by decide)) rfl ?_
  refine WQ_gyes rfl rfl ?_
  refine WQ_x (X_load (v := .int .i64 (words : Int)) rfl ty3 rfl (Cell.own (b := mb) (by repeat (first | exact hm _ List.mem_cons_self | apply List.mem_cons_of_mem)) rfl)) rfl ?_
  refine WQ_gyes rfl rfl ?_
  refine WQ_x (X_bin rfl rfl b_geq) rfl ?_
  rw [decide_eq_false (by omega)]
  first | refine WQ_x (X_pickt rfl rfl) rfl ?_ | refine WQ_x (X_pickf rfl rfl) rfl ?_
  refine WQ_nil ?_
  refine W_condF rfl rfl ?_
  refine W_skip ?_
  refine W_sr ?_
  refine W_load (v := Value.func (.func fi) #[] ca.toArray) rfl ty97 rfl (Cell.own (b := b7) zM rfl) rfl ?_
  refine W_loadB (vs := celC (c)) rfl ty82 rfl (b := b0) zM rfl rfl rfl ?_
  refine W_callv (fa := #[]) (ca := ca.toArray) rfl (.cons rfl .nil) hfi rfl (hdo.hsub zH) ?_
  rintro v H' hR
  refine W_assign rfl rfl ?_
  refine W_nil ?_
  refine W_ret1m (H2 := H') Tryz.results83 rfl (.nil _) zH ?_
  exact hR
set_option maxHeartbeats 1000000 in
theorem word_no {w0 : World} {H : Heap} {mb ab tb bo kind entries words : Nat} {closed : Bool} {L : List Slt} {C : List (Int × Hd)} {HA HT HO : Heap} (hA : AreH ab L HA) (hB : TabH tb entries C HT) {h : Hd} {at_ : Int} {fi : Nat} {ca : List Value} (he : errA L h ≠ 0) (hm : ∀ p ∈ ((mb, .cells 78 7 [.int .i64 (kind : Int), .int .i64 (entries : Int), .int .i64 (words : Int), .pointer (some ⟨ab, 0, none⟩), .pointer (some ⟨tb, 0, none⟩), .pointer (some ⟨bo, 0, none⟩), .bool closed]) :: (HA ++ (HT ++ HO))), p ∈ H)  : PureAt Tryz.prog w0 H 46 [.pointer (some ⟨mb, 0, none⟩), .agg (List.toArray (hdC h)), .int .i64 at_, Value.func (.func fi) #[] ca.toArray] (.int .i64 (errA L h)) := by
  refine L_enter Tryz.func46 rfl Tryz.ntmps46 rfl rfl ?_
  refine W_sr ?_
  refine W_box (l := [.pointer (some ⟨mb, 0, none⟩)]) rfl rfl rfl (fun b4 => ?_)
  refine W_box (l := hdC h) rfl rfl rfl (fun b5 => ?_)
  refine W_box (l := [.int .i64 at_]) rfl rfl rfl (fun b6 => ?_)
  refine W_box (l := [Value.func (.func fi) #[] ca.toArray]) rfl rfl rfl (fun b7 => ?_)
  refine W_assign rfl rfl ?_
  refine W_nil ?_
  refine W_sr ?_
  refine W_load (v := .pointer (some ⟨mb, 0, none⟩)) rfl ty23 rfl (Cell.own (b := b4) zM rfl) rfl ?_
  refine W_loadB (vs := hdC h) rfl ty29 rfl (b := b5) zM rfl rfl rfl ?_
  refine W_makeFunc .nil (.cons rfl (.cons rfl (.cons rfl .nil))) rfl ?_
  refine W_callq (.cons rfl (.cons rfl (.cons rfl .nil))) Tryz.call48 rfl (with_no (ca := [.pointer (some ⟨b6, 0, none⟩), .pointer (some ⟨b4, 0, none⟩), .pointer (some ⟨b7, 0, none⟩)]) hA hB he (HO := HO) (closed := closed) (kind := kind) (words := words) (fun p hp => by repeat (first | exact hm p hp | apply List.mem_cons_of_mem))) ?_
  refine W_assign rfl rfl ?_
  refine W_nil ?_
  refine W_ret1m (H2 := H) Tryz.results46 rfl (.nil _) zH ?_
  exact ⟨rfl, rfl⟩
set_option maxHeartbeats 1000000 in
theorem word_lo {w0 : World} {H : Heap} {mb ab tb bo kind entries words : Nat} {closed : Bool} {L : List Slt} {C : List (Int × Hd)} {HA HT HO : Heap} (hA : AreH ab L HA) (hB : TabH tb entries C HT) {h : Hd} {at_ : Int} {fi : Nat} {ca : List Value} (he : errA L h = 0) (hat : at_ < 0) (hm : ∀ p ∈ ((mb, .cells 78 7 [.int .i64 (kind : Int), .int .i64 (entries : Int), .int .i64 (words : Int), .pointer (some ⟨ab, 0, none⟩), .pointer (some ⟨tb, 0, none⟩), .pointer (some ⟨bo, 0, none⟩), .bool closed]) :: (HA ++ (HT ++ HO))), p ∈ H)  : LCalls Tryz.prog w0 46 #[.pointer (some ⟨mb, 0, none⟩), .agg (List.toArray (hdC h)), .int .i64 at_, Value.func (.func fi) #[] ca.toArray] (H) (fun v H' => v = .int .i64 1 ∧ H' = H) := by
  refine L_enter (l := [.pointer (some ⟨mb, 0, none⟩), .agg (List.toArray (hdC h)), .int .i64 at_, Value.func (.func fi) #[] ca.toArray]) Tryz.func46 rfl Tryz.ntmps46 rfl rfl ?_
  refine W_sr ?_
  refine W_box (l := [.pointer (some ⟨mb, 0, none⟩)]) rfl rfl rfl (fun b4 => ?_)
  refine W_box (l := hdC h) rfl rfl rfl (fun b5 => ?_)
  refine W_box (l := [.int .i64 at_]) rfl rfl rfl (fun b6 => ?_)
  refine W_box (l := [Value.func (.func fi) #[] ca.toArray]) rfl rfl rfl (fun b7 => ?_)
  refine W_assign rfl rfl ?_
  refine W_nil ?_
  refine W_sr ?_
  refine W_load (v := .pointer (some ⟨mb, 0, none⟩)) rfl ty23 rfl (Cell.own (b := b4) zM rfl) rfl ?_
  refine W_loadB (vs := hdC h) rfl ty29 rfl (b := b5) zM rfl rfl rfl ?_
  refine W_makeFunc .nil (.cons rfl (.cons rfl (.cons rfl .nil))) rfl ?_
  refine W_call (.cons rfl (.cons rfl (.cons rfl .nil))) Tryz.call48 rfl (with_yes (ca := [.pointer (some ⟨b6, 0, none⟩), .pointer (some ⟨b4, 0, none⟩), .pointer (some ⟨b7, 0, none⟩)]) hA hB Tryz.call83 he (HO := HO) (closed := closed) (kind := kind) (words := words) (fun p hp => by repeat (first | exact hm p hp | apply List.mem_cons_of_mem)) (word1_lo  hat hm)) ?_
  rintro v H' ⟨rfl, hH⟩
  subst H'
  refine W_assign rfl rfl ?_
  refine W_nil ?_
  refine W_ret1m (H2 := H) Tryz.results46 rfl (.nil _) zH ?_
  exact ⟨rfl, rfl⟩
set_option maxHeartbeats 1000000 in
theorem word_hi {w0 : World} {H : Heap} {mb ab tb bo kind entries words : Nat} {closed : Bool} {L : List Slt} {C : List (Int × Hd)} {HA HT HO : Heap} (hA : AreH ab L HA) (hB : TabH tb entries C HT) {h : Hd} {at_ : Int} {fi : Nat} {ca : List Value} (he : errA L h = 0) (h0 : ¬ at_ < 0) (hat : (words : Int) ≤ at_) (hm : ∀ p ∈ ((mb, .cells 78 7 [.int .i64 (kind : Int), .int .i64 (entries : Int), .int .i64 (words : Int), .pointer (some ⟨ab, 0, none⟩), .pointer (some ⟨tb, 0, none⟩), .pointer (some ⟨bo, 0, none⟩), .bool closed]) :: (HA ++ (HT ++ HO))), p ∈ H)  : LCalls Tryz.prog w0 46 #[.pointer (some ⟨mb, 0, none⟩), .agg (List.toArray (hdC h)), .int .i64 at_, Value.func (.func fi) #[] ca.toArray] (H) (fun v H' => v = .int .i64 1 ∧ H' = H) := by
  refine L_enter (l := [.pointer (some ⟨mb, 0, none⟩), .agg (List.toArray (hdC h)), .int .i64 at_, Value.func (.func fi) #[] ca.toArray]) Tryz.func46 rfl Tryz.ntmps46 rfl rfl ?_
  refine W_sr ?_
  refine W_box (l := [.pointer (some ⟨mb, 0, none⟩)]) rfl rfl rfl (fun b4 => ?_)
  refine W_box (l := hdC h) rfl rfl rfl (fun b5 => ?_)
  refine W_box (l := [.int .i64 at_]) rfl rfl rfl (fun b6 => ?_)
  refine W_box (l := [Value.func (.func fi) #[] ca.toArray]) rfl rfl rfl (fun b7 => ?_)
  refine W_assign rfl rfl ?_
  refine W_nil ?_
  refine W_sr ?_
  refine W_load (v := .pointer (some ⟨mb, 0, none⟩)) rfl ty23 rfl (Cell.own (b := b4) zM rfl) rfl ?_
  refine W_loadB (vs := hdC h) rfl ty29 rfl (b := b5) zM rfl rfl rfl ?_
  refine W_makeFunc .nil (.cons rfl (.cons rfl (.cons rfl .nil))) rfl ?_
  refine W_call (.cons rfl (.cons rfl (.cons rfl .nil))) Tryz.call48 rfl (with_yes (ca := [.pointer (some ⟨b6, 0, none⟩), .pointer (some ⟨b4, 0, none⟩), .pointer (some ⟨b7, 0, none⟩)]) hA hB Tryz.call83 he (HO := HO) (closed := closed) (kind := kind) (words := words) (fun p hp => by repeat (first | exact hm p hp | apply List.mem_cons_of_mem)) (word1_hi h0 hat hm)) ?_
  rintro v H' ⟨rfl, hH⟩
  subst H'
  refine W_assign rfl rfl ?_
  refine W_nil ?_
  refine W_ret1m (H2 := H) Tryz.results46 rfl (.nil _) zH ?_
  exact ⟨rfl, rfl⟩
set_option maxHeartbeats 1000000 in
theorem word_in {w0 : World} {H : Heap} {mb ab tb bo kind entries words : Nat} {closed : Bool} {L : List Slt} {C : List (Int × Hd)} {HA HT HO : Heap} (hA : AreH ab L HA) (hB : TabH tb entries C HT) {h : Hd} {at_ : Int} {fi : Nat} {ca : List Value} {R : Value → Heap → Prop} (hfi : ∀ (args : Array Value) (w : World), (callFunc fi args).run Tryz.prog w = .ok (.enter fi args) w) (he : errA L h = 0) (hat : 0 ≤ at_ ∧ at_ < (words : Int)) (hm : ∀ p ∈ ((mb, .cells 78 7 [.int .i64 (kind : Int), .int .i64 (entries : Int), .int .i64 (words : Int), .pointer (some ⟨ab, 0, none⟩), .pointer (some ⟨tb, 0, none⟩), .pointer (some ⟨bo, 0, none⟩), .bool closed]) :: (HA ++ (HT ++ HO))), p ∈ H) (hdo : LCalls Tryz.prog w0 fi (#[] ++ #[.agg (List.toArray (celC (celA L h)))] ++ ca.toArray) (H) R)  : LCalls Tryz.prog w0 46 #[.pointer (some ⟨mb, 0, none⟩), .agg (List.toArray (hdC h)), .int .i64 at_, Value.func (.func fi) #[] ca.toArray] (H) (R) := by
  refine L_enter (l := [.pointer (some ⟨mb, 0, none⟩), .agg (List.toArray (hdC h)), .int .i64 at_, Value.func (.func fi) #[] ca.toArray]) Tryz.func46 rfl Tryz.ntmps46 rfl rfl ?_
  refine W_sr ?_
  refine W_box (l := [.pointer (some ⟨mb, 0, none⟩)]) rfl rfl rfl (fun b4 => ?_)
  refine W_box (l := hdC h) rfl rfl rfl (fun b5 => ?_)
  refine W_box (l := [.int .i64 at_]) rfl rfl rfl (fun b6 => ?_)
  refine W_box (l := [Value.func (.func fi) #[] ca.toArray]) rfl rfl rfl (fun b7 => ?_)
  refine W_assign rfl rfl ?_
  refine W_nil ?_
  refine W_sr ?_
  refine W_load (v := .pointer (some ⟨mb, 0, none⟩)) rfl ty23 rfl (Cell.own (b := b4) zM rfl) rfl ?_
  refine W_loadB (vs := hdC h) rfl ty29 rfl (b := b5) zM rfl rfl rfl ?_
  refine W_makeFunc .nil (.cons rfl (.cons rfl (.cons rfl .nil))) rfl ?_
  refine W_call (.cons rfl (.cons rfl (.cons rfl .nil))) Tryz.call48 rfl (with_yes (ca := [.pointer (some ⟨b6, 0, none⟩), .pointer (some ⟨b4, 0, none⟩), .pointer (some ⟨b7, 0, none⟩)]) hA hB Tryz.call83 he (HO := HO) (closed := closed) (kind := kind) (words := words) (fun p hp => by repeat (first | exact hm p hp | apply List.mem_cons_of_mem)) (word1_in hfi hat hm hdo)) ?_
  rintro v H' hR
  refine W_assign rfl rfl ?_
  refine W_nil ?_
  refine W_ret1m (H2 := H') Tryz.results46 rfl (.nil _) zH ?_
  exact hR
end Go.Proofs.YtphdlpmnidiliaaGreatDoor
