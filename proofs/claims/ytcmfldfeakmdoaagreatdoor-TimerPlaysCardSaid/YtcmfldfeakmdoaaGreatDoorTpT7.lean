/-
  Own work: contracts of functions that the statement reaches, and plain facts on what they compute; each theorem says its conditions.
-/
import Derived.Test.YtcmfldfeakmdoaaGreatDoorTpT6
import Derived.Test.YtcmfldfeakmdoaaGreatDoorTpS2
import Derived.Test.YtcmfldfeakmdoaaGreatDoorTpS1
import Derived.Lib.LaidTab
import Derived.Lib.LaidIn
import Derived.Stop.LaidErr
import Derived.Test.YtcmfldfeakmdoaaGreatDoorCards
import Derived.Test.YtcmfldfeakmdoaaGreatDoorTie
import Derived.ChangeKeysEq
import Derived.Test.YtcmfldfeakmdoaaGreatDoorTpA
set_option linter.all false
set_option linter.unusedSimpArgs false
set_option linter.unusedVariables false
set_option maxHeartbeats 16000000
namespace Go.Proofs.YtcmfldfeakmdoaaGreatDoor
open Go Go.Sl
attribute [local irreducible] W
theorem nowK_at2 {Ws : List Wl} {k : Nat} {w : Wl} (h : Ws[k]? = some w) : nowK Ws (k : Int) = w.now := by
 unfold nowK wlAt
 rw [if_pos (by omega), show ((k : Nat) : Int).toNat = k by omega, h]
inductive StartM (Ws : List Wl) (Q : List (Int × Int)) (As : List Tone) (i k a : Nat) (o : Tone) (w : Wl) : List Wl → List (Int × Int) → List Tone → Spot → Int → Prop
 | gone (h : o.shut = true) : StartM Ws Q As i k a o w Ws Q As zSpot 22
 | unset (hs : o.shut = false) (h : o.made = false ∨ o.prog = 0) : StartM Ws Q As i k a o w Ws Q As zSpot 1
 | late (hs : o.shut = false) (h : ¬ (o.made = false ∨ o.prog = 0)) (hm : w.now = 18446744073709551615) : StartM Ws Q As i k a o w Ws Q As zSpot 12
 | put {Ws' : List Wl} {s : Spot} {e : Int} (hs : o.shut = false) (h : ¬ (o.made = false ∨ o.prog = 0)) (hm : ¬ w.now = 18446744073709551615) (hp : PutIs (Ws.map (delW [(i : Int)])) (k : Int) (i : Int) a Ws' s e) : StartM Ws Q As i k a o w Ws' (delQ Q (i : Int)) (As.set i { o with starts := o.starts + 1 }) s e
theorem start1_L {w0 : World} {H : Heap} {tb pb bb n : Nat} {HP HBk : Heap} {Ws : List Wl} {Q Rs : List (Int × Int)} {As : List Tone} (hP : PendH pb n Q Rs HP) (hB : BankH bb Ws HBk) (hn : Ws.length = n ∧ n ≤ 64) {i k a : Nat} {o : Tone} {w : Wl} (hA : As[i]? = some o) (hw : Ws[k]? = some w) (ha : a ≤ 18446744073709551615) (hnow : ∀ w ∈ Ws, w.now ≤ 18446744073709551615) (htn : ∀ w ∈ Ws, w.turn ≤ 4611686018427387904) (hst : 0 ≤ o.starts ∧ o.starts ≤ 4611686018427387904) (hs : o.shut = false) {b4 b5 b6 b7 b10 : Nat}  : LCalls Tryz.prog w0 39 #[.pointer (some ⟨tb, 2 + i * 4, none⟩), .pointer (some ⟨b4, 0, none⟩), .pointer (some ⟨b6, 0, none⟩), .pointer (some ⟨b5, 0, none⟩), .pointer (some ⟨b7, 0, none⟩), .pointer (some ⟨b10, 0, none⟩)] ((b10, .cells 32 4 zSpot.v) :: (b4, .cells 25 1 [.pointer (some ⟨tb, 0, none⟩)]) :: (b5, .cells 3 1 [.int .i64 (i : Int)]) :: (b6, .cells 3 1 [.int .i64 (k : Int)]) :: (b7, .cells 22 1 [.int .u64 ((a : Nat) : Int)]) :: (tb, .cells 91 1026 (tmRow pb bb As)) :: (HP ++ (HBk ++ H))) (fun v H' => ∃ Ws' Q' As' s e HP2 HB2, StartM Ws Q As i k a o w Ws' Q' As' s e ∧ PendH pb n Q' Rs HP2 ∧ BankH bb Ws' HB2 ∧ v = .int .i64 e ∧ H' = (b10, .cells 32 4 s.v) :: (b4, .cells 25 1 [.pointer (some ⟨tb, 0, none⟩)]) :: (b5, .cells 3 1 [.int .i64 (i : Int)]) :: (b6, .cells 3 1 [.int .i64 (k : Int)]) :: (b7, .cells 22 1 [.int .u64 ((a : Nat) : Int)]) :: (tb, .cells 91 1026 (tmRow pb bb As')) :: (HP2 ++ (HB2 ++ H))) := by
 have hnow2 : ∀ w ∈ Ws.map (delW [(i : Int)]), w.now ≤ 18446744073709551615 := fun u hu => by
  obtain ⟨v, hv, rfl⟩ := List.mem_map.1 hu
  exact hnow v hv
 have htn2 : ∀ w ∈ Ws.map (delW [(i : Int)]), w.turn ≤ 4611686018427387904 := fun u hu => by
  obtain ⟨v, hv, rfl⟩ := List.mem_map.1 hu
  exact htn v hv
 refine L_enter (l := [.pointer (some ⟨tb, 2 + i * 4, none⟩), .pointer (some ⟨b4, 0, none⟩), .pointer (some ⟨b6, 0, none⟩), .pointer (some ⟨b5, 0, none⟩), .pointer (some ⟨b7, 0, none⟩), .pointer (some ⟨b10, 0, none⟩)]) Tryz.func39 rfl Tryz.ntmps39 rfl rfl ?_
 refine W_sr ?_
 refine W_assign rfl rfl ?_
 refine W_nil (W_seq ?_)
 refine W_block (W_sr ?_)
 refine W_move rfl rfl ?_
 refine W_nilCheck rfl rfl ?_
 refine W_fieldAddr rfl fld88_0 zd rfl ?_
 refine W_load (v := .bool o.made) rfl ty4 rfl (Cell.own (b := tb) zM (tm_get0 hA)) rfl ?_
 refine W_not rfl rfl ?_
 refine W_move rfl rfl ?_
 apply W_or
 iterate 4 exact rfl
 case h1 =>
  intro hg5
  refine W_gyes rfl rfl ?_
  refine W_move rfl rfl ?_
  refine W_gyes rfl rfl ?_
  refine W_nilCheck rfl rfl ?_
  refine W_gyes rfl rfl ?_
  refine W_fieldAddr rfl fld88_2 zd rfl ?_
  refine W_gyes rfl rfl ?_
  refine W_load (v := .int .i64 o.prog) rfl ty3 rfl (Cell.own (b := tb) zM (tm_get2 hA)) rfl ?_
  refine W_gyes rfl rfl ?_
  refine W_bin rfl rfl b_eql rfl ?_
  exact W_met rfl zR
 refine W_assign rfl rfl ?_
 refine W_nil ?_
 refine W_condPS (p := o.made = false ∨ o.prog = 0) rfl (by simp) (fun c0 => ?_) (fun c0 => ?_)
 ·skip
  refine W_sr ?_
  refine W_assign rfl rfl ?_
  refine W_nil ?_
  refine W_ret1m (H2 := (b10, .cells 32 4 zSpot.v) :: (b4, .cells 25 1 [.pointer (some ⟨tb, 0, none⟩)]) :: (b5, .cells 3 1 [.int .i64 (i : Int)]) :: (b6, .cells 3 1 [.int .i64 (k : Int)]) :: (b7, .cells 22 1 [.int .u64 ((a : Nat) : Int)]) :: (tb, .cells 91 1026 (tmRow pb bb As)) :: (HP ++ (HBk ++ H))) Tryz.results39 rfl (.nil _) zH ?_
  exact ⟨Ws, Q, As, zSpot, 1, HP, HBk, .unset hs c0, hP, hB, rfl, rfl⟩
 ·skip
  refine W_quietsr zk zK ?_
  refine WQ_x (X_load (v := .pointer (some ⟨tb, 0, none⟩)) rfl ty25 rfl (Cell.own (b := b4) zM rfl)) rfl ?_
  refine WQ_x (X_nilCheck rfl) rfl ?_
  refine WQ_x (X_fieldAddr rfl fld91_1 zd) rfl ?_
  refine WQ_x (X_load (v := .pointer (some ⟨bb, 0, none⟩)) rfl ty84 rfl (Cell.own (b := tb) zM rfl)) rfl ?_
  refine WQ_x (X_load (v := .int .i64 (k : Int)) rfl ty3 rfl (Cell.own (b := b6) zM rfl)) rfl ?_
  refine WQ_callq (.cons rfl (.cons rfl .nil)) Tryz.call40 rfl (NowB_q hB (fun p hp => (by repeat (first | exact List.mem_append_left _ hp | exact List.mem_cons_self | apply List.mem_cons_of_mem | apply List.mem_append_right)))) ?_
  rw [nowK_at2 hw]
  refine WQ_x (X_bin rfl rfl b_eql) rfl ?_
  refine WQ_x (X_assign rfl) rfl ?_
  refine WQ_nil ?_
  refine W_condPS (p := w.now = 18446744073709551615) rfl (by rw [decide_eq_true_eq]; omega) (fun c1 => ?_) (fun c1 => ?_)
  ·skip
   refine W_sr ?_
   refine W_assign rfl rfl ?_
   refine W_nil ?_
   refine W_ret1m (H2 := (b10, .cells 32 4 zSpot.v) :: (b4, .cells 25 1 [.pointer (some ⟨tb, 0, none⟩)]) :: (b5, .cells 3 1 [.int .i64 (i : Int)]) :: (b6, .cells 3 1 [.int .i64 (k : Int)]) :: (b7, .cells 22 1 [.int .u64 ((a : Nat) : Int)]) :: (tb, .cells 91 1026 (tmRow pb bb As)) :: (HP ++ (HBk ++ H))) Tryz.results39 rfl (.nil _) zH ?_
   exact ⟨Ws, Q, As, zSpot, 12, HP, HBk, .late hs c0 c1, hP, hB, rfl, rfl⟩
  ·skip
   refine W_skip ?_
   refine W_blk ?_
   refine W_sr ?_
   refine W_load (v := .pointer (some ⟨tb, 0, none⟩)) rfl ty25 rfl (Cell.own (b := b4) zM rfl) rfl ?_
   refine W_load (v := .int .i64 (i : Int)) rfl ty3 rfl (Cell.own (b := b5) zM rfl) rfl ?_
   refine W_call (.cons rfl (.cons rfl .nil)) Tryz.call41 rfl ((take_L (z := (i : Int)) hP hB hn (As := As) (H := (b10, .cells 32 4 zSpot.v) :: (b4, .cells 25 1 [.pointer (some ⟨tb, 0, none⟩)]) :: (b5, .cells 3 1 [.int .i64 (i : Int)]) :: (b6, .cells 3 1 [.int .i64 (k : Int)]) :: (b7, .cells 22 1 [.int .u64 ((a : Nat) : Int)]) :: H)).hsub zH) ?_
   rintro v H' ⟨HP2, HB2, hP2, hB2, rfl, rfl⟩
   refine W_nil (W_sr ?_)
   refine W_move rfl rfl ?_
   refine W_nilCheck rfl rfl ?_
   refine W_fieldAddr rfl fld88_3 zd rfl ?_
   refine W_load (v := .int .i64 o.starts) rfl ty3 rfl (Cell.own (b := tb) zM (tm_get3 hA)) rfl ?_
   refine W_bin rfl rfl (b_add (m := o.starts + 1) (i64w zO)) rfl ?_
   refine W_nilCheck rfl rfl ?_
   refine W_fieldAddr rfl fld88_3 zd rfl ?_
   refine W_store (l' := tmRow pb bb (As.set i { o with starts := o.starts + 1 })) rfl rfl ty3 rfl rfl (b := tb) zM (tm_lt hA zd) (tm_set3 hA) zU ?_
   refine W_nil (W_seq ?_)
   refine W_cutX (X := (List Wl × Heap × Spot × Int × Nat)) (fun x => [(5, .pointer (some ⟨b10, 0, none⟩)), (8, .pointer (some ⟨x.2.2.2.2, 0, none⟩)), (9, .int .i64 x.2.2.2.1)]) (fun x => (x.2.2.2.2, .cells 32 4 x.2.2.1.v) :: (tb, .cells 91 1026 (tmRow pb bb (As.set i { o with starts := o.starts + 1 }))) :: (HP2 ++ (x.2.1 ++ ((b10, .cells 32 4 zSpot.v) :: (b4, .cells 25 1 [.pointer (some ⟨tb, 0, none⟩)]) :: (b5, .cells 3 1 [.int .i64 (i : Int)]) :: (b6, .cells 3 1 [.int .i64 (k : Int)]) :: (b7, .cells 22 1 [.int .u64 ((a : Nat) : Int)]) :: H)))) (fun x => BankH bb x.1 x.2.1 ∧ PutIs (Ws.map (delW [(i : Int)])) (k : Int) (i : Int) a x.1 x.2.2.1 x.2.2.2.1) ?_ ?_
   ·skip
    refine W_anyC [(tb, .cells 91 1026 (tmRow pb bb (As.set i { o with starts := o.starts + 1 }))), (b4, .cells 25 1 [.pointer (some ⟨tb, 0, none⟩)]), (b5, .cells 3 1 [.int .i64 (i : Int)]), (b6, .cells 3 1 [.int .i64 (k : Int)]), (b7, .cells 22 1 [.int .u64 ((a : Nat) : Int)])] zk ?_
    refine WC_take 0 (l' := #[true, false, false, false, false, false, false, false, false, false, false, false, false, false]) rfl zK zK zK rfl zK (X_load (v := .pointer (some ⟨tb, 0, none⟩)) rfl ty25 rfl (Cell.own (b := b4) zM rfl)) rfl ?_
    refine WC_take 1 (l' := #[true, true, false, false, false, false, false, false, false, false, false, false, false, false]) rfl zK zK zK rfl zK (X_nilCheck rfl) rfl ?_
    refine WC_take 2 (l' := #[true, true, true, false, false, false, false, false, false, false, false, false, false, false]) rfl zK zK zK rfl zK (X_fieldAddr rfl fld91_1 zd) rfl ?_
    refine WC_take 3 (l' := #[true, true, true, true, false, false, false, false, false, false, false, false, false, false]) rfl zK zK zK rfl zK (X_load (v := .pointer (some ⟨bb, 0, none⟩)) rfl ty84 rfl (Cell.own (b := tb) zM rfl)) rfl ?_
    refine WC_take 4 (l' := #[true, true, true, true, true, false, false, false, false, false, false, false, false, false]) rfl zK zK zK rfl zK (X_load (v := .int .i64 (k : Int)) rfl ty3 rfl (Cell.own (b := b6) zM rfl)) rfl ?_
    refine WC_take 5 (l' := #[true, true, true, true, true, true, false, false, false, false, false, false, false, false]) rfl zK zK zK rfl zK (X_load (v := .int .i64 (i : Int)) rfl ty3 rfl (Cell.own (b := b5) zM rfl)) rfl ?_
    refine WC_take 6 (l' := #[true, true, true, true, true, true, true, false, false, false, false, false, false, false]) rfl zK zK zK rfl zK (X_load (v := .int .u64 ((a : Nat) : Int)) rfl ty22 rfl (Cell.own (b := b7) zM rfl)) rfl ?_
    refine WC_two 7 11 (l' := #[true, true, true, true, true, true, true, true, false, false, false, false, false, false]) (l'' := #[true, true, true, true, true, true, true, false, false, false, false, true, false, false]) zH zK rfl rfl zK zK ?_ ?_
    ·skip
     refine W_call (.cons rfl (.cons rfl (.cons rfl (.cons rfl .nil)))) Tryz.call42 rfl ((PutB_L hB2 (by rw [List.length_map]; omega) (cpu := (k : Int)) (id := (i : Int)) (a := a) ha hnow2 htn2 (H := (tb, .cells 91 1026 (tmRow pb bb (As.set i { o with starts := o.starts + 1 }))) :: (HP2 ++ ((b10, .cells 32 4 zSpot.v) :: (b4, .cells 25 1 [.pointer (some ⟨tb, 0, none⟩)]) :: (b5, .cells 3 1 [.int .i64 (i : Int)]) :: (b6, .cells 3 1 [.int .i64 (k : Int)]) :: (b7, .cells 22 1 [.int .u64 ((a : Nat) : Int)]) :: H)))).hsub zH) ?_
     rintro v H' ⟨Ws3, HB3, s3, e3, hB3, rfl, hpi, rfl⟩
     refine W_nil ?_
     refine WC_goal ?_
     refine WC_take 8 (l' := #[true, true, true, true, true, true, true, true, true, false, false, false, false, false]) rfl zK zK zK rfl zK (X_move rfl) rfl ?_
     refine WC_take 9 (l' := #[true, true, true, true, true, true, true, true, true, true, false, false, false, false]) rfl zK zK zK rfl zK (X_extract rfl rfl) rfl ?_
     refine WC_take 10 (l' := #[true, true, true, true, true, true, true, true, true, true, true, false, false, false]) rfl zK zK zK rfl zK (X_extract rfl rfl) rfl ?_
     refine WC_one 11 (l' := #[true, true, true, true, true, true, true, true, true, true, true, true, false, false]) zH zK rfl zK ?_
     refine W_alloc (l := zSpot.v) ty32 rfl rfl (fun b8 => ?_)
     refine W_nil ?_
     refine WC_goal ?_
     refine WC_one 12 (l' := #[true, true, true, true, true, true, true, true, true, true, true, true, true, false]) zH zK rfl zK ?_
     refine W_storeA (l' := s3.v) rfl rfl ty32 rfl rfl (b := b8) zM (by exact Nat.le_refl 4) rfl zU ?_
     refine W_nil ?_
     refine WC_goal ?_
     refine WC_take 13 (l' := #[true, true, true, true, true, true, true, true, true, true, true, true, true, true]) rfl zK zK zK rfl zK (X_assign rfl) rfl ?_
     refine WC_done zH zK ?_
     refine W_joinX (Ws3, HB3, s3, e3, b8) ⟨hB3, hpi⟩ (sub_cons rfl (sub_cons rfl (sub_cons rfl (sub_nil _)))) zH
    ·skip
     refine W_alloc (l := zSpot.v) ty32 rfl rfl (fun b8 => ?_)
     refine W_nil ?_
     refine WC_goal ?_
     refine WC_one 7 (l' := #[true, true, true, true, true, true, true, true, false, false, false, true, false, false]) zH zK rfl zK ?_
     refine W_call (.cons rfl (.cons rfl (.cons rfl (.cons rfl .nil)))) Tryz.call42 rfl ((PutB_L hB2 (by rw [List.length_map]; omega) (cpu := (k : Int)) (id := (i : Int)) (a := a) ha hnow2 htn2 (H := (b8, .cells 32 4 zSpot.v) :: (tb, .cells 91 1026 (tmRow pb bb (As.set i { o with starts := o.starts + 1 }))) :: (HP2 ++ ((b10, .cells 32 4 zSpot.v) :: (b4, .cells 25 1 [.pointer (some ⟨tb, 0, none⟩)]) :: (b5, .cells 3 1 [.int .i64 (i : Int)]) :: (b6, .cells 3 1 [.int .i64 (k : Int)]) :: (b7, .cells 22 1 [.int .u64 ((a : Nat) : Int)]) :: H)))).hsub zH) ?_
     rintro v H' ⟨Ws3, HB3, s3, e3, hB3, rfl, hpi, rfl⟩
     refine W_nil ?_
     refine WC_goal ?_
     refine WC_take 8 (l' := #[true, true, true, true, true, true, true, true, true, false, false, true, false, false]) rfl zK zK zK rfl zK (X_move rfl) rfl ?_
     refine WC_take 9 (l' := #[true, true, true, true, true, true, true, true, true, true, false, true, false, false]) rfl zK zK zK rfl zK (X_extract rfl rfl) rfl ?_
     refine WC_take 10 (l' := #[true, true, true, true, true, true, true, true, true, true, true, true, false, false]) rfl zK zK zK rfl zK (X_extract rfl rfl) rfl ?_
     refine WC_one 12 (l' := #[true, true, true, true, true, true, true, true, true, true, true, true, true, false]) zH zK rfl zK ?_
     refine W_storeA (l' := s3.v) rfl rfl ty32 rfl rfl (b := b8) zM (by exact Nat.le_refl 4) rfl zU ?_
     refine W_nil ?_
     refine WC_goal ?_
     refine WC_take 13 (l' := #[true, true, true, true, true, true, true, true, true, true, true, true, true, true]) rfl zK zK zK rfl zK (X_assign rfl) rfl ?_
     refine WC_done zH zK ?_
     refine W_joinX (Ws3, HB3, s3, e3, b8) ⟨hB3, hpi⟩ (sub_cons rfl (sub_cons rfl (sub_cons rfl (sub_nil _)))) zH
   rintro ⟨Ws3, HB3, s3, e3, b8⟩ ⟨hB3, hpi⟩
   dsimp only at hB3 hpi ⊢
   refine W_sr ?_
   refine W_loadB (vs := s3.v) rfl ty32 rfl (b := b8) zM rfl rfl rfl ?_
   refine W_storeA (l' := s3.v) rfl rfl ty32 rfl rfl (b := b10) zM (by exact Nat.le_refl 4) rfl zU ?_
   refine W_nil (W_sr ?_)
   refine W_move rfl rfl ?_
   refine W_assign rfl rfl ?_
   refine W_nil ?_
   refine W_ret1m (H2 := (b10, .cells 32 4 s3.v) :: (b4, .cells 25 1 [.pointer (some ⟨tb, 0, none⟩)]) :: (b5, .cells 3 1 [.int .i64 (i : Int)]) :: (b6, .cells 3 1 [.int .i64 (k : Int)]) :: (b7, .cells 22 1 [.int .u64 ((a : Nat) : Int)]) :: (tb, .cells 91 1026 (tmRow pb bb (As.set i { o with starts := o.starts + 1 }))) :: (HP2 ++ (HB3 ++ H))) Tryz.results39 rfl (.nil _) zH ?_
   exact ⟨Ws3, _, _, s3, e3, HP2, HB3, .put hs c0 c1 hpi, hP2, hB3, rfl, rfl⟩
theorem Start_lo {tb a : Nat} {id cpu : Int} (hc : cpu < 0) : Pure Tryz.prog (fun _ => True) 11 [.pointer (some ⟨tb, 0, none⟩), .int .i64 id, .int .i64 cpu, .int .u64 ((a : Nat) : Int)] (.tuple #[.agg zSpot.v.toArray, .int .i64 2]) := by
 intro w0 H hT
 refine L_enter Tryz.func11 rfl Tryz.ntmps11 rfl rfl ?_
 refine W_sr ?_
 refine W_box (l := [.pointer (some ⟨tb, 0, none⟩)]) rfl rfl rfl (fun b4 => ?_)
 refine W_box (l := [.int .i64 id]) rfl rfl rfl (fun b5 => ?_)
 refine W_box (l := [.int .i64 cpu]) rfl rfl rfl (fun b6 => ?_)
 refine W_box (l := [.int .u64 ((a : Nat) : Int)]) rfl rfl rfl (fun b7 => ?_)
 refine W_alloc (l := zSpot.v) ty32 rfl rfl (fun b8 => ?_)
 refine W_assign rfl rfl ?_
 refine W_nil (W_seq ?_)
 refine W_quietsr zk zK ?_
 refine WQ_x (X_load (v := .pointer (some ⟨tb, 0, none⟩)) rfl ty25 rfl (Cell.own (b := b4) zM rfl)) rfl ?_
 refine WQ_x (X_ptrNotNil rfl rfl ty25) rfl ?_
 refine WQ_x (X_move rfl) rfl ?_
 refine WQ_gyes rfl rfl ?_
 refine WQ_x (X_load (v := .int .i64 cpu) rfl ty3 rfl (Cell.own (b := b6) zM rfl)) rfl ?_
 refine WQ_gyes rfl rfl ?_
 refine WQ_x (X_bin rfl rfl b_lss) rfl ?_
 first | rw [decide_eq_true (by omega)] | rw [decide_eq_false (by omega)]
 refine WQ_gyes rfl rfl ?_
 refine WQ_x (X_move rfl) rfl ?_
 refine WQ_gno rfl rfl rfl rfl ?_
 refine WQ_gno rfl rfl rfl rfl ?_
 refine WQ_gno rfl rfl rfl rfl ?_
 refine WQ_gno rfl rfl rfl rfl ?_
 refine WQ_gno rfl rfl rfl rfl ?_
 refine WQ_gno rfl rfl rfl rfl ?_
 refine WQ_gno rfl rfl rfl rfl ?_
 refine WQ_gyes rfl rfl ?_
 first | refine WQ_x (X_pickt rfl rfl) rfl ?_ | refine WQ_x (X_pickf rfl rfl) rfl ?_
 first | refine WQ_x (X_pickt rfl rfl) rfl ?_ | refine WQ_x (X_pickf rfl rfl) rfl ?_
 refine WQ_nil ?_
 refine W_condT rfl rfl ?_
 refine W_sr ?_
 refine W_build (l := zSpot.v) ty32 pl32 .nil rfl rfl rfl ?_
 refine W_storeA (l' := zSpot.v) rfl rfl ty32 rfl rfl (b := b8) zM (by exact Nat.le_refl 4) rfl zU ?_
 refine W_assign rfl rfl ?_
 refine W_nil ?_
 refine W_ret2G (H2 := H) Tryz.results11 (.nil _) (.own rfl ty32 rfl zM rfl) (.tmp rfl) zH ?_
 exact ⟨rfl, rfl⟩
theorem Start_hi {w0 : World} {H : Heap} {tb pb bb n : Nat} {HP HBk : Heap} {Ws : List Wl} {Q Rs : List (Int × Int)} {As : List Tone} (hP : PendH pb n Q Rs HP) (hB : BankH bb Ws HBk) (hn : Ws.length = n ∧ n ≤ 64) {a : Nat} {id cpu : Int} (hc : (n : Int) ≤ cpu)  : LCalls Tryz.prog w0 11 #[.pointer (some ⟨tb, 0, none⟩), .int .i64 id, .int .i64 cpu, .int .u64 ((a : Nat) : Int)] ((tb, .cells 91 1026 (tmRow pb bb As)) :: (HP ++ (HBk ++ H))) (fun v H' => v = .tuple #[.agg zSpot.v.toArray, .int .i64 2] ∧ H' = (tb, .cells 91 1026 (tmRow pb bb As)) :: (HP ++ (HBk ++ H))) := by
 refine L_enter (l := [.pointer (some ⟨tb, 0, none⟩), .int .i64 id, .int .i64 cpu, .int .u64 ((a : Nat) : Int)]) Tryz.func11 rfl Tryz.ntmps11 rfl rfl ?_
 refine W_sr ?_
 refine W_box (l := [.pointer (some ⟨tb, 0, none⟩)]) rfl rfl rfl (fun b4 => ?_)
 refine W_box (l := [.int .i64 id]) rfl rfl rfl (fun b5 => ?_)
 refine W_box (l := [.int .i64 cpu]) rfl rfl rfl (fun b6 => ?_)
 refine W_box (l := [.int .u64 ((a : Nat) : Int)]) rfl rfl rfl (fun b7 => ?_)
 refine W_alloc (l := zSpot.v) ty32 rfl rfl (fun b8 => ?_)
 refine W_assign rfl rfl ?_
 refine W_nil (W_seq ?_)
 refine W_quietsr zk zK ?_
 refine WQ_x (X_load (v := .pointer (some ⟨tb, 0, none⟩)) rfl ty25 rfl (Cell.own (b := b4) zM rfl)) rfl ?_
 refine WQ_x (X_ptrNotNil rfl rfl ty25) rfl ?_
 refine WQ_x (X_move rfl) rfl ?_
 refine WQ_gyes rfl rfl ?_
 refine WQ_x (X_load (v := .int .i64 cpu) rfl ty3 rfl (Cell.own (b := b6) zM rfl)) rfl ?_
 refine WQ_gyes rfl rfl ?_
 refine WQ_x (X_bin rfl rfl b_lss) rfl ?_
 first | rw [decide_eq_true (by omega)] | rw [decide_eq_false (by omega)]
 refine WQ_gyes rfl rfl ?_
 refine WQ_x (X_move rfl) rfl ?_
 refine WQ_gyes rfl rfl ?_
 refine WQ_x (X_load (v := .int .i64 cpu) rfl ty3 rfl (Cell.own (b := b6) zM rfl)) rfl ?_
 refine WQ_gyes rfl rfl ?_
 refine WQ_x (X_load (v := .pointer (some ⟨tb, 0, none⟩)) rfl ty25 rfl (Cell.own (b := b4) zM rfl)) rfl ?_
 refine WQ_gyes rfl rfl ?_
 refine WQ_x (X_nilCheck rfl) rfl ?_
 refine WQ_gyes rfl rfl ?_
 refine WQ_x (X_fieldAddr rfl fld91_1 zd) rfl ?_
 refine WQ_gyes rfl rfl ?_
 refine WQ_x (X_load (v := .pointer (some ⟨bb, 0, none⟩)) rfl ty84 rfl (Cell.own (b := tb) zM rfl)) rfl ?_
 refine WQ_gyes rfl rfl ?_
 refine WQ_callq (.cons rfl .nil) Tryz.call38 rfl (CPUs_q hB (fun p hp => (by repeat (first | exact List.mem_append_left _ hp | exact List.mem_cons_self | apply List.mem_cons_of_mem | apply List.mem_append_right)))) ?_
 refine WQ_gyes rfl rfl ?_
 refine WQ_x (X_bin rfl rfl b_geq) rfl ?_
 first | rw [decide_eq_true (by omega)] | rw [decide_eq_false (by omega)]
 refine WQ_gyes rfl rfl ?_
 first | refine WQ_x (X_pickt rfl rfl) rfl ?_ | refine WQ_x (X_pickf rfl rfl) rfl ?_
 first | refine WQ_x (X_pickt rfl rfl) rfl ?_ | refine WQ_x (X_pickf rfl rfl) rfl ?_
 refine WQ_nil ?_
 refine W_condT rfl rfl ?_
 refine W_sr ?_
 refine W_build (l := zSpot.v) ty32 pl32 .nil rfl rfl rfl ?_
 refine W_storeA (l' := zSpot.v) rfl rfl ty32 rfl rfl (b := b8) zM (by exact Nat.le_refl 4) rfl zU ?_
 refine W_assign rfl rfl ?_
 refine W_nil ?_
 refine W_ret2G (H2 := (tb, .cells 91 1026 (tmRow pb bb As)) :: (HP ++ (HBk ++ H))) Tryz.results11 (.nil _) (.own rfl ty32 rfl zM rfl) (.tmp rfl) zH ?_
 exact ⟨rfl, rfl⟩
theorem Start_out {w0 : World} {H : Heap} {tb pb bb n : Nat} {HP HBk : Heap} {Ws : List Wl} {Q Rs : List (Int × Int)} {As : List Tone} (hP : PendH pb n Q Rs HP) (hB : BankH bb Ws HBk) (hn : Ws.length = n ∧ n ≤ 64) {a k : Nat} {id : Int} (hk : k < n) (hi : ¬ (0 ≤ id ∧ id < 256))  : LCalls Tryz.prog w0 11 #[.pointer (some ⟨tb, 0, none⟩), .int .i64 id, .int .i64 (k : Int), .int .u64 ((a : Nat) : Int)] ((tb, .cells 91 1026 (tmRow pb bb As)) :: (HP ++ (HBk ++ H))) (fun v H' => v = .tuple #[.agg zSpot.v.toArray, .int .i64 2] ∧ H' = (tb, .cells 91 1026 (tmRow pb bb As)) :: (HP ++ (HBk ++ H))) := by
 refine L_enter (l := [.pointer (some ⟨tb, 0, none⟩), .int .i64 id, .int .i64 (k : Int), .int .u64 ((a : Nat) : Int)]) Tryz.func11 rfl Tryz.ntmps11 rfl rfl ?_
 refine W_sr ?_
 refine W_box (l := [.pointer (some ⟨tb, 0, none⟩)]) rfl rfl rfl (fun b4 => ?_)
 refine W_box (l := [.int .i64 id]) rfl rfl rfl (fun b5 => ?_)
 refine W_box (l := [.int .i64 (k : Int)]) rfl rfl rfl (fun b6 => ?_)
 refine W_box (l := [.int .u64 ((a : Nat) : Int)]) rfl rfl rfl (fun b7 => ?_)
 refine W_alloc (l := zSpot.v) ty32 rfl rfl (fun b8 => ?_)
 refine W_assign rfl rfl ?_
 refine W_nil (W_seq ?_)
 refine W_quietsr zk zK ?_
 refine WQ_x (X_load (v := .pointer (some ⟨tb, 0, none⟩)) rfl ty25 rfl (Cell.own (b := b4) zM rfl)) rfl ?_
 refine WQ_x (X_ptrNotNil rfl rfl ty25) rfl ?_
 refine WQ_x (X_move rfl) rfl ?_
 refine WQ_gyes rfl rfl ?_
 refine WQ_x (X_load (v := .int .i64 (k : Int)) rfl ty3 rfl (Cell.own (b := b6) zM rfl)) rfl ?_
 refine WQ_gyes rfl rfl ?_
 refine WQ_x (X_bin rfl rfl b_lss) rfl ?_
 first | rw [decide_eq_true (by omega)] | rw [decide_eq_false (by omega)]
 refine WQ_gyes rfl rfl ?_
 refine WQ_x (X_move rfl) rfl ?_
 refine WQ_gyes rfl rfl ?_
 refine WQ_x (X_load (v := .int .i64 (k : Int)) rfl ty3 rfl (Cell.own (b := b6) zM rfl)) rfl ?_
 refine WQ_gyes rfl rfl ?_
 refine WQ_x (X_load (v := .pointer (some ⟨tb, 0, none⟩)) rfl ty25 rfl (Cell.own (b := b4) zM rfl)) rfl ?_
 refine WQ_gyes rfl rfl ?_
 refine WQ_x (X_nilCheck rfl) rfl ?_
 refine WQ_gyes rfl rfl ?_
 refine WQ_x (X_fieldAddr rfl fld91_1 zd) rfl ?_
 refine WQ_gyes rfl rfl ?_
 refine WQ_x (X_load (v := .pointer (some ⟨bb, 0, none⟩)) rfl ty84 rfl (Cell.own (b := tb) zM rfl)) rfl ?_
 refine WQ_gyes rfl rfl ?_
 refine WQ_callq (.cons rfl .nil) Tryz.call38 rfl (CPUs_q hB (fun p hp => (by repeat (first | exact List.mem_append_left _ hp | exact List.mem_cons_self | apply List.mem_cons_of_mem | apply List.mem_append_right)))) ?_
 refine WQ_gyes rfl rfl ?_
 refine WQ_x (X_bin rfl rfl b_geq) rfl ?_
 first | rw [decide_eq_true (by omega)] | rw [decide_eq_false (by omega)]
 refine WQ_gyes rfl rfl ?_
 first | refine WQ_x (X_pickt rfl rfl) rfl ?_ | refine WQ_x (X_pickf rfl rfl) rfl ?_
 first | refine WQ_x (X_pickt rfl rfl) rfl ?_ | refine WQ_x (X_pickf rfl rfl) rfl ?_
 refine WQ_nil ?_
 refine W_condF rfl rfl ?_
 refine W_skip (W_sr ?_)
 refine W_alloc (l := zSpot.v) ty32 rfl rfl (fun b10 => ?_)
 refine W_nil (W_sr ?_)
 refine W_load (v := .pointer (some ⟨tb, 0, none⟩)) rfl ty25 rfl (Cell.own (b := b4) zM rfl) rfl ?_
 refine W_load (v := .int .i64 id) rfl ty3 rfl (Cell.own (b := b5) zM rfl) rfl ?_
 refine W_makeFunc .nil (.cons rfl (.cons rfl (.cons rfl (.cons rfl (.cons rfl .nil))))) rfl ?_
 refine W_callp (.cons rfl (.cons rfl (.cons rfl .nil))) Tryz.call35 rfl (T := fun _ => True) trivial (open_out hi) ?_
 refine W_assign rfl rfl ?_
 refine W_nil (W_sr ?_)
 refine W_loadB (vs := zSpot.v) rfl ty32 rfl (b := b10) zM rfl rfl rfl ?_
 refine W_move rfl rfl ?_
 refine W_storeA (l' := zSpot.v) rfl rfl ty32 rfl rfl (b := b8) zM (by exact Nat.le_refl 4) rfl zU ?_
 refine W_assign rfl rfl ?_
 refine W_nil ?_
 refine W_ret2G (H2 := (tb, .cells 91 1026 (tmRow pb bb As)) :: (HP ++ (HBk ++ H))) Tryz.results11 (.nil _) (.own rfl ty32 rfl zM rfl) (.tmp rfl) zH ?_
 exact ⟨rfl, rfl⟩
theorem Start_at {w0 : World} {H : Heap} {tb pb bb n : Nat} {HP HBk : Heap} {Ws : List Wl} {Q Rs : List (Int × Int)} {As : List Tone} (hP : PendH pb n Q Rs HP) (hB : BankH bb Ws HBk) (hn : Ws.length = n ∧ n ≤ 64) {i k a : Nat} {o : Tone} {w : Wl} (hi : i < 256) (hA : As[i]? = some o) (hw : Ws[k]? = some w) (ha : a ≤ 18446744073709551615) (hnow : ∀ w ∈ Ws, w.now ≤ 18446744073709551615) (htn : ∀ w ∈ Ws, w.turn ≤ 4611686018427387904) (hst : 0 ≤ o.starts ∧ o.starts ≤ 4611686018427387904)  : LCalls Tryz.prog w0 11 #[.pointer (some ⟨tb, 0, none⟩), .int .i64 (i : Int), .int .i64 (k : Int), .int .u64 ((a : Nat) : Int)] ((tb, .cells 91 1026 (tmRow pb bb As)) :: (HP ++ (HBk ++ H))) (fun v H' => ∃ Ws' Q' As' s e HP2 HB2, StartM Ws Q As i k a o w Ws' Q' As' s e ∧ PendH pb n Q' Rs HP2 ∧ BankH bb Ws' HB2 ∧ v = .tuple #[.agg (Spot.v s).toArray, .int .i64 e] ∧ H' = (tb, .cells 91 1026 (tmRow pb bb As')) :: (HP2 ++ (HB2 ++ H))) := by
 have hk := (List.getElem?_eq_some_iff.1 hw).1
 refine L_enter (l := [.pointer (some ⟨tb, 0, none⟩), .int .i64 (i : Int), .int .i64 (k : Int), .int .u64 ((a : Nat) : Int)]) Tryz.func11 rfl Tryz.ntmps11 rfl rfl ?_
 refine W_sr ?_
 refine W_box (l := [.pointer (some ⟨tb, 0, none⟩)]) rfl rfl rfl (fun b4 => ?_)
 refine W_box (l := [.int .i64 (i : Int)]) rfl rfl rfl (fun b5 => ?_)
 refine W_box (l := [.int .i64 (k : Int)]) rfl rfl rfl (fun b6 => ?_)
 refine W_box (l := [.int .u64 ((a : Nat) : Int)]) rfl rfl rfl (fun b7 => ?_)
 refine W_alloc (l := zSpot.v) ty32 rfl rfl (fun b8 => ?_)
 refine W_assign rfl rfl ?_
 refine W_nil (W_seq ?_)
 refine W_quietsr zk zK ?_
 refine WQ_x (X_load (v := .pointer (some ⟨tb, 0, none⟩)) rfl ty25 rfl (Cell.own (b := b4) zM rfl)) rfl ?_
 refine WQ_x (X_ptrNotNil rfl rfl ty25) rfl ?_
 refine WQ_x (X_move rfl) rfl ?_
 refine WQ_gyes rfl rfl ?_
 refine WQ_x (X_load (v := .int .i64 (k : Int)) rfl ty3 rfl (Cell.own (b := b6) zM rfl)) rfl ?_
 refine WQ_gyes rfl rfl ?_
 refine WQ_x (X_bin rfl rfl b_lss) rfl ?_
 first | rw [decide_eq_true (by omega)] | rw [decide_eq_false (by omega)]
 refine WQ_gyes rfl rfl ?_
 refine WQ_x (X_move rfl) rfl ?_
 refine WQ_gyes rfl rfl ?_
 refine WQ_x (X_load (v := .int .i64 (k : Int)) rfl ty3 rfl (Cell.own (b := b6) zM rfl)) rfl ?_
 refine WQ_gyes rfl rfl ?_
 refine WQ_x (X_load (v := .pointer (some ⟨tb, 0, none⟩)) rfl ty25 rfl (Cell.own (b := b4) zM rfl)) rfl ?_
 refine WQ_gyes rfl rfl ?_
 refine WQ_x (X_nilCheck rfl) rfl ?_
 refine WQ_gyes rfl rfl ?_
 refine WQ_x (X_fieldAddr rfl fld91_1 zd) rfl ?_
 refine WQ_gyes rfl rfl ?_
 refine WQ_x (X_load (v := .pointer (some ⟨bb, 0, none⟩)) rfl ty84 rfl (Cell.own (b := tb) zM rfl)) rfl ?_
 refine WQ_gyes rfl rfl ?_
 refine WQ_callq (.cons rfl .nil) Tryz.call38 rfl (CPUs_q hB (fun p hp => (by repeat (first | exact List.mem_append_left _ hp | exact List.mem_cons_self | apply List.mem_cons_of_mem | apply List.mem_append_right)))) ?_
 refine WQ_gyes rfl rfl ?_
 refine WQ_x (X_bin rfl rfl b_geq) rfl ?_
 first | rw [decide_eq_true (by omega)] | rw [decide_eq_false (by omega)]
 refine WQ_gyes rfl rfl ?_
 first | refine WQ_x (X_pickt rfl rfl) rfl ?_ | refine WQ_x (X_pickf rfl rfl) rfl ?_
 first | refine WQ_x (X_pickt rfl rfl) rfl ?_ | refine WQ_x (X_pickf rfl rfl) rfl ?_
 refine WQ_nil ?_
 refine W_condF rfl rfl ?_
 refine W_skip (W_sr ?_)
 refine W_alloc (l := zSpot.v) ty32 rfl rfl (fun b10 => ?_)
 refine W_nil (W_sr ?_)
 refine W_load (v := .pointer (some ⟨tb, 0, none⟩)) rfl ty25 rfl (Cell.own (b := b4) zM rfl) rfl ?_
 refine W_load (v := .int .i64 (i : Int)) rfl ty3 rfl (Cell.own (b := b5) zM rfl) rfl ?_
 refine W_makeFunc .nil (.cons rfl (.cons rfl (.cons rfl (.cons rfl (.cons rfl .nil))))) rfl ?_
 cases hs : o.shut
 ·skip
  refine W_call (.cons rfl (.cons rfl (.cons rfl .nil))) Tryz.call35 rfl ((open_in (ca := [.pointer (some ⟨b4, 0, none⟩), .pointer (some ⟨b6, 0, none⟩), .pointer (some ⟨b5, 0, none⟩), .pointer (some ⟨b7, 0, none⟩), .pointer (some ⟨b10, 0, none⟩)]) Tryz.call39 hi hA zM hs (start1_L (b4 := b4) (b5 := b5) (b6 := b6) (b7 := b7) (b10 := b10) hP hB hn hA hw ha hnow htn hst hs (H := (b8, .cells 32 4 zSpot.v) :: H)) (by rintro v H2 ⟨_, _, _, _, _, _, _, _, _, _, e, _⟩; exact ⟨_, e⟩)).hsub zH) ?_
  rintro v H' ⟨Ws', Q', As', s, e, HP2, HB2, hM, hP2, hB2, rfl, rfl⟩
  refine W_assign rfl rfl ?_
  refine W_nil (W_sr ?_)
  refine W_loadB (vs := s.v) rfl ty32 rfl (b := b10) zM rfl rfl rfl ?_
  refine W_move rfl rfl ?_
  refine W_storeA (l' := s.v) rfl rfl ty32 rfl rfl (b := b8) zM (by exact Nat.le_refl 4) rfl zU ?_
  refine W_assign rfl rfl ?_
  refine W_nil ?_
  refine W_ret2G (H2 := (tb, .cells 91 1026 (tmRow pb bb As')) :: (HP2 ++ (HB2 ++ H))) Tryz.results11 (.nil _) (.own rfl ty32 rfl zM rfl) (.tmp rfl) zH ?_
  exact ⟨Ws', Q', As', s, e, HP2, HB2, hM, hP2, hB2, rfl, rfl⟩
 ·skip
  refine W_call (.cons rfl (.cons rfl (.cons rfl .nil))) Tryz.call35 rfl ((open_gone (ca := [.pointer (some ⟨b4, 0, none⟩), .pointer (some ⟨b6, 0, none⟩), .pointer (some ⟨b5, 0, none⟩), .pointer (some ⟨b7, 0, none⟩), .pointer (some ⟨b10, 0, none⟩)]) (H := (b10, .cells 32 4 zSpot.v) :: (b4, .cells 25 1 [.pointer (some ⟨tb, 0, none⟩)]) :: (b5, .cells 3 1 [.int .i64 (i : Int)]) :: (b6, .cells 3 1 [.int .i64 (k : Int)]) :: (b7, .cells 22 1 [.int .u64 ((a : Nat) : Int)]) :: (tb, .cells 91 1026 (tmRow pb bb As)) :: (HP ++ (HBk ++ ((b8, .cells 32 4 zSpot.v) :: H)))) hi hA zM hs).hsub zH) ?_
  rintro v H' ⟨rfl, rfl⟩
  refine W_assign rfl rfl ?_
  refine W_nil (W_sr ?_)
  refine W_loadB (vs := zSpot.v) rfl ty32 rfl (b := b10) zM rfl rfl rfl ?_
  refine W_move rfl rfl ?_
  refine W_storeA (l' := zSpot.v) rfl rfl ty32 rfl rfl (b := b8) zM (by exact Nat.le_refl 4) rfl zU ?_
  refine W_assign rfl rfl ?_
  refine W_nil ?_
  refine W_ret2G (H2 := (tb, .cells 91 1026 (tmRow pb bb As)) :: (HP ++ (HBk ++ H))) Tryz.results11 (.nil _) (.own rfl ty32 rfl zM rfl) (.tmp rfl) zH ?_
  exact ⟨Ws, Q, As, zSpot, 22, HP, HBk, .gone hs, hP, hB, rfl, rfl⟩
inductive StartIs (n : Nat) (Ws : List Wl) (Q : List (Int × Int)) (As : List Tone) (id cpu : Int) (a : Nat) : List Wl → List (Int × Int) → List Tone → Spot → Int → Prop
 | out (h : cpu < 0 ∨ (n : Int) ≤ cpu ∨ ¬ (0 ≤ id ∧ id < 256)) : StartIs n Ws Q As id cpu a Ws Q As zSpot 2
 | at_ {i k : Nat} {o : Tone} {w : Wl} {Ws' : List Wl} {Q' : List (Int × Int)} {As' : List Tone} {s : Spot} {e : Int} (hi : i < 256) (ei : id = (i : Int)) (ek : cpu = (k : Int)) (hA : As[i]? = some o) (hw : Ws[k]? = some w) (h : StartM Ws Q As i k a o w Ws' Q' As' s e) : StartIs n Ws Q As id cpu a Ws' Q' As' s e
structure TOk (T : Nat) (Ws : List Wl) (As : List Tone) : Prop where
 bank : BOk T Ws
 starts : ∀ o ∈ As, 0 ≤ o.starts ∧ o.starts ≤ (T : Int)
theorem TOk.up {T T' : Nat} {Ws : List Wl} {As : List Tone} (h : TOk T Ws As) (hl : T ≤ T') : TOk T' Ws As := ⟨h.bank.up hl, fun o ho => by have := h.starts o ho; omega⟩
theorem StartM.len {Ws Ws' : List Wl} {Q Q' : List (Int × Int)} {As As' : List Tone} {i k a : Nat} {o : Tone} {w : Wl} {s : Spot} {e : Int} (h : StartM Ws Q As i k a o w Ws' Q' As' s e) : Ws'.length = Ws.length := by
 cases h with
 | gone _ => rfl
 | unset _ _ => rfl
 | late _ _ _ => rfl
 | put _ _ _ hp => cases hp <;> first | exact List.length_map _ | (rw [List.length_set, List.length_map])
theorem StartM.asOk {Ws Ws' : List Wl} {Q Q' : List (Int × Int)} {As As' : List Tone} {i k a : Nat} {o : Tone} {w : Wl} {s : Spot} {e : Int} (h : StartM Ws Q As i k a o w Ws' Q' As' s e) (hA : AsOk As) (ho : As[i]? = some o) : AsOk As' := by
 cases h with
 | gone _ => exact hA
 | unset _ _ => exact hA
 | late _ _ _ => exact hA
 | put _ _ _ hp => exact hA.set i (o := { o with starts := o.starts + 1 }) (hA.rng o (List.mem_of_getElem? ho))
theorem Start_L {w0 : World} {H HB : Heap} {tb n T : Nat} {Ws : List Wl} {Q Rs : List (Int × Int)} {As : List Tone} (hT : TimerH tb n Ws Q Rs As HB) (hO : TOk T Ws As) (hTl : T ≤ 1000000) {id cpu : Int} {a : Nat} (ha : a ≤ 18446744073709551615) :
  LCalls Tryz.prog w0 11 #[.pointer (some ⟨tb, 0, none⟩), .int .i64 id, .int .i64 cpu, .int .u64 ((a : Nat) : Int)] (HB ++ H) (fun v H' => ∃ Ws' Q' As' s e HB', StartIs n Ws Q As id cpu a Ws' Q' As' s e ∧ TimerH tb n Ws' Q' Rs As' HB' ∧ TOk (T + 1) Ws' As' ∧ v = .tuple #[.agg (Spot.v s).toArray, .int .i64 e] ∧ H' = HB' ++ H) := by
 by_cases h0 : cpu < 0
 ·refine (Start_lo h0 w0 _ trivial).mono ?_
  rintro v H' ⟨rfl, rfl⟩
  exact ⟨Ws, Q, As, zSpot, 2, HB, .out (.inl h0), hT, hO.up (Nat.le_succ _), rfl, rfl⟩
 ·obtain ⟨k, rfl⟩ : ∃ k : Nat, cpu = (k : Int) := ⟨cpu.toNat, by omega⟩
  cases hT with
  | @mk pb bb HP HBk hP hB hA hn =>
   show LCalls _ _ _ _ ((tb, .cells 91 1026 (tmRow pb bb As)) :: ((HP ++ HBk) ++ H)) _
   rw [List.append_assoc]
   by_cases h1 : n ≤ k
   ·refine (Start_hi (H := H) hP hB hn (id := id) (cpu := (k : Int)) zO).mono ?_
    rintro v H' ⟨rfl, rfl⟩
    exact ⟨Ws, Q, As, zSpot, 2, _, .out (.inr (.inl (by omega))), .mk hP hB hA hn, hO.up (Nat.le_succ _), rfl, by show _ = (tb, .cells 91 1026 (tmRow pb bb As)) :: ((HP ++ HBk) ++ H); rw [List.append_assoc]⟩
   ·by_cases hi : 0 ≤ id ∧ id < 256
    ·obtain ⟨i, rfl⟩ : ∃ i : Nat, id = (i : Int) := ⟨id.toNat, by omega⟩
     obtain ⟨o, ho⟩ := hA.at (i := i) zO
     obtain ⟨w, hw⟩ : ∃ w, Ws[k]? = some w := ⟨_, List.getElem?_eq_getElem zO⟩
     have hos := hO.starts o (List.mem_of_getElem? ho)
     refine (Start_at (H := H) hP hB hn zO ho hw ha hO.bank.now (fun u hu => by have := hO.bank.turn u hu; omega) zO).mono ?_
     rintro v H' ⟨Ws', Q', As', s, e, HP2, HB2, hM, hP2, hB2, rfl, rfl⟩
     refine ⟨Ws', Q', As', s, e, _, .at_ (by omega) rfl rfl ho hw hM, .mk hP2 hB2 (hM.asOk hA ho) (by rw [hM.len]; exact hn), ?_, rfl, by show _ = (tb, .cells 91 1026 (tmRow pb bb As')) :: ((HP2 ++ HB2) ++ H); rw [List.append_assoc]⟩
     cases hM with
     | gone _ => exact hO.up (Nat.le_succ _)
     | unset _ _ => exact hO.up (Nat.le_succ _)
     | late _ _ _ => exact hO.up (Nat.le_succ _)
     | put hs h hm hp =>
      refine ⟨(hO.bank.del (i : Int)).put (fun w hw t ht => ?_) hp hB2, fun x hx => ?_⟩
      ·obtain ⟨u, hu, rfl⟩ := List.mem_map.1 hw
       exact hB.rng u hu t (List.mem_filter.1 ht).1
      ·rcases List.mem_or_eq_of_mem_set hx with hx | rfl
       ·have := hO.starts x hx; omega
       ·show 0 ≤ o.starts + 1 ∧ o.starts + 1 ≤ ((T + 1 : Nat) : Int); omega
    ·refine (Start_out (H := H) hP hB hn (k := k) zO hi).mono ?_
     rintro v H' ⟨rfl, rfl⟩
     exact ⟨Ws, Q, As, zSpot, 2, _, .out (.inr (.inr hi)), .mk hP hB hA hn, hO.up (Nat.le_succ _), rfl, by show _ = (tb, .cells 91 1026 (tmRow pb bb As)) :: ((HP ++ HBk) ++ H); rw [List.append_assoc]⟩
theorem Add_L2 {w0 : World} {H : Heap} {HB : Heap} {pb n : Nat} {Q Rs : List (Int × Int)} (hP : PendH pb n Q Rs HB) (hn : n ≤ 64) {cpu : Int} {ids : List Int} {ad : Option Addr} {cap m : Nat} (hm : ids.length = m) (hil : m ≤ 1000000) (hrow : Holds w0 H ad (ids.map (Value.int .i64))) : LCalls Tryz.prog w0 48 #[.pointer (some ⟨pb, 0, none⟩), .int .i64 cpu, .slice ad m cap] (HB ++ H) (fun v H' => ∃ HB', PendH pb n (addsQ n Q cpu ids).1 Rs HB' ∧ v = .int .i64 (addsQ n Q cpu ids).2 ∧ H' = HB' ++ H) := by
 subst hm; exact Add_L hP hn hil hrow
theorem CatchIs.out2 {Ws Ws' : List Wl} {cpu : Int} {a : Nat} {O : List Tm} (h : CatchIs Ws cpu a Ws' O) (hl : ∀ w ∈ Ws, w.L.length ≤ 256) : O.length ≤ 256 := by
 rcases h with ⟨_, _, rfl⟩ | ⟨k, w, Li, _, hk, hG, _⟩
 ·exact Nat.zero_le _
 ·exact Nat.le_trans hG.len (hl w (List.mem_of_getElem? hk))
theorem CatchIs.len2 {Ws Ws' : List Wl} {cpu : Int} {a : Nat} {O : List Tm} (h : CatchIs Ws cpu a Ws' O) : Ws'.length = Ws.length := by
 rcases h with ⟨_, rfl, _⟩ | ⟨k, w, Li, _, _, _, rfl⟩
 ·rfl
 ·exact List.length_set
theorem Catch_at {w0 : World} {H : Heap} {tb pb bb n : Nat} {HP HBk : Heap} {Ws : List Wl} {Q Rs : List (Int × Int)} {As : List Tone} (hP : PendH pb n Q Rs HP) (hB : BankH bb Ws HBk) (hn : Ws.length = n ∧ n ≤ 64) {a : Nat} {cpu : Int} (ha : a ≤ 18446744073709551615) (hlt : ∀ w ∈ Ws, ∀ t ∈ w.L, w.now < t.s.due) (hTb : Tab w0)  : LCalls Tryz.prog w0 15 #[.pointer (some ⟨tb, 0, none⟩), .int .i64 cpu, .int .u64 ((a : Nat) : Int)] ((tb, .cells 91 1026 (tmRow pb bb As)) :: (HP ++ (HBk ++ H))) (fun v H' => ∃ (Ws' : List Wl) (O : List Tm) (XO HP2 HB2 : Heap), CatchIs Ws cpu a Ws' O ∧ PendH pb n (addsQ n Q cpu (O.map (·.id))).1 Rs HP2 ∧ BankH bb Ws' HB2 ∧ OwnS 3 1 v O.length ((O.map (·.id)).map (Value.int .i64)) XO ∧ H' = XO ++ ((tb, .cells 91 1026 (tmRow pb bb As)) :: (HP2 ++ (HB2 ++ H)))) := by
 refine L_enter (l := [.pointer (some ⟨tb, 0, none⟩), .int .i64 cpu, .int .u64 ((a : Nat) : Int)]) Tryz.func15 rfl Tryz.ntmps15 rfl rfl ?_
 refine W_sr ?_
 refine W_assign rfl rfl ?_
 refine W_nil (W_seq (W_sr ?_))
 refine W_move rfl rfl ?_
 refine W_x (X_ptrNil rfl rfl ty25) (fun _ h => by cases h) rfl ?_
 refine W_nil ?_
 refine W_condF rfl rfl ?_
 refine W_skip (W_sr ?_)
 refine W_move rfl rfl ?_
 refine W_nilCheck rfl rfl ?_
 refine W_fieldAddr rfl fld91_1 zd rfl ?_
 refine W_load (v := .pointer (some ⟨bb, 0, none⟩)) rfl ty84 rfl (Cell.own (b := tb) zM rfl) rfl ?_
 refine W_move rfl rfl ?_
 refine W_move rfl rfl ?_
 refine W_call (.cons rfl (.cons rfl (.cons rfl .nil))) Tryz.call47 rfl ((CatchB_L hB (cpu := cpu) ha hlt hTb (H := (tb, .cells 91 1026 (tmRow pb bb As)) :: (HP ++ H))).hsub zH) ?_
 rintro v H' ⟨Ws2, HB2, O, XO, hB2, hO, hC, rfl⟩
 have hOl := hC.out2 hB.lens
 obtain ⟨ado, capo, rfl, hoc, _, hro⟩ := Holds.of_own (w0 := w0) (H := XO ++ []) hO (fun p hp => List.mem_append_left _ hp)
 refine W_assign rfl rfl ?_
 refine W_nil (W_sr ?_)
 refine W_move rfl rfl ?_
 refine W_nilCheck rfl rfl ?_
 refine W_fieldAddr rfl fld91_0 zd rfl ?_
 refine W_load (v := .pointer (some ⟨pb, 0, none⟩)) rfl ty81 rfl (Cell.own (b := tb) zM rfl) rfl ?_
 refine W_move rfl rfl ?_
 refine W_move rfl rfl ?_
 refine W_call (.cons rfl (.cons rfl (.cons rfl .nil))) Tryz.call48 rfl ((Add_L2 hP zO (cpu := cpu) (ids := (O.map (·.id))) (cap := capo) (ad := ado) (by exact List.length_map _) zO (H := XO ++ ((tb, .cells 91 1026 (tmRow pb bb As)) :: (HB2 ++ H))) (hro.up zH)).hsub zH) ?_
 rintro v H' ⟨HP2, hP2, rfl, rfl⟩
 refine W_nil (W_sr ?_)
 refine W_move rfl rfl ?_
 refine W_assign rfl rfl ?_
 refine W_nil ?_
 refine W_ret1m (H2 := XO ++ ((tb, .cells 91 1026 (tmRow pb bb As)) :: (HP2 ++ (HB2 ++ H)))) Tryz.results15 rfl (.nil _) zH ?_
 exact ⟨Ws2, O, XO, HP2, HB2, hC, hP2, hB2, hO, rfl⟩
theorem Catch_L {w0 : World} {H HB : Heap} {tb n T : Nat} {Ws : List Wl} {Q Rs : List (Int × Int)} {As : List Tone} (hT : TimerH tb n Ws Q Rs As HB) (hO : TOk T Ws As) (hTb : Tab w0) {cpu : Int} {a : Nat} (ha : a ≤ 18446744073709551615) :
  LCalls Tryz.prog w0 15 #[.pointer (some ⟨tb, 0, none⟩), .int .i64 cpu, .int .u64 ((a : Nat) : Int)] (HB ++ H) (fun v H' => ∃ (Ws' : List Wl) (O : List Tm) (XO HB' : Heap), CatchIs Ws cpu a Ws' O ∧ TimerH tb n Ws' (addsQ n Q cpu (O.map (·.id))).1 Rs As HB' ∧ TOk T Ws' As ∧ OwnS 3 1 v O.length ((O.map (·.id)).map (Value.int .i64)) XO ∧ O.length ≤ 256 ∧ H' = XO ++ (HB' ++ H)) := by
 cases hT with
 | @mk pb bb HP HBk hP hB hA hn =>
  show LCalls _ _ _ _ ((tb, .cells 91 1026 (tmRow pb bb As)) :: ((HP ++ HBk) ++ H)) _
  rw [List.append_assoc]
  refine (Catch_at (H := H) hP hB hn ha hO.bank.later hTb).mono ?_
  rintro v H' ⟨Ws', O, XO, HP2, HB2, hC, hP2, hB2, hv, rfl⟩
  exact ⟨Ws', O, XO, _, hC, .mk hP2 hB2 hA (by rw [hC.len2]; exact hn), ⟨hO.bank.catch ha hC, hO.starts⟩, hv, hC.out2 hB.lens, by show _ = XO ++ ((tb, .cells 91 1026 (tmRow pb bb As)) :: ((HP2 ++ HB2) ++ H)); rw [List.append_assoc]⟩
theorem inner_q {w0 : World} {H : Heap} {tb pb bb : Nat} {As : List Tone} (hm : (tb, .cells 91 1026 (tmRow pb bb As)) ∈ H)  : PureAt Tryz.prog w0 H 51 [.pointer (some ⟨tb, 0, none⟩)] (.pointer (some ⟨pb, 0, none⟩)) := by
 refine L_enter Tryz.func51 rfl Tryz.ntmps51 rfl rfl ?_
 refine W_sr ?_
 refine W_assign rfl rfl ?_
 refine W_nil (W_seq (W_sr ?_))
 refine W_move rfl rfl ?_
 refine W_x (X_ptrNil rfl rfl ty25) (fun _ h => by cases h) rfl ?_
 refine W_nil ?_
 refine W_condF rfl rfl ?_
 refine W_skip (W_sr ?_)
 refine W_move rfl rfl ?_
 refine W_nilCheck rfl rfl ?_
 refine W_fieldAddr rfl fld91_0 zd rfl ?_
 refine W_load (v := .pointer (some ⟨pb, 0, none⟩)) rfl ty81 rfl (Cell.own (b := tb) hm rfl) rfl ?_
 refine W_assign rfl rfl ?_
 refine W_nil ?_
 refine W_ret1m (H2 := H) Tryz.results51 rfl (.nil _) zH ?_
 exact ⟨rfl, rfl⟩
theorem tReady_at {w0 : World} {H : Heap} {tb pb bb n : Nat} {HP HBk : Heap} {Ws : List Wl} {Q Rs : List (Int × Int)} {As : List Tone} (hP : PendH pb n Q Rs HP) (hn : Ws.length = n ∧ n ≤ 64) (hm : ∀ p ∈ ((tb, .cells 91 1026 (tmRow pb bb As)) :: (HP ++ HBk)), p ∈ H) {cpu : Int}  : PureAt Tryz.prog w0 H 24 [.pointer (some ⟨tb, 0, none⟩), .int .i64 cpu] (.tuple #[.int .i64 (rdyQ Q Rs cpu).1, .bool (rdyQ Q Rs cpu).2]) := by
 refine L_enter Tryz.func24 rfl Tryz.ntmps24 rfl rfl ?_
 refine W_sr ?_
 refine W_assign rfl rfl ?_
 refine W_assign rfl rfl ?_
 refine W_nil (W_sr ?_)
 refine W_move rfl rfl ?_
 refine W_callq (.cons rfl .nil) Tryz.call51 rfl (inner_q (pb := pb) (bb := bb) (As := As) (hm _ List.mem_cons_self)) ?_
 refine W_move rfl rfl ?_
 refine W_callq (.cons rfl (.cons rfl .nil)) Tryz.call66 rfl (hP.Ready_q zO (cpu := cpu) (fun p hp => hm p (List.mem_cons_of_mem _ (List.mem_append_left _ hp)))) ?_
 refine W_extract rfl rfl rfl ?_
 refine W_extract rfl rfl rfl ?_
 refine W_assign rfl rfl ?_
 refine W_assign rfl rfl ?_
 refine W_nil ?_
 refine W_ret2m (H2 := H) Tryz.results24 rfl rfl (.nil _) zH ?_
 exact ⟨rfl, rfl⟩
theorem tRuns_at {w0 : World} {H : Heap} {tb pb bb n : Nat} {HP HBk : Heap} {Ws : List Wl} {Q Rs : List (Int × Int)} {As : List Tone} (hP : PendH pb n Q Rs HP) (hn : Ws.length = n ∧ n ≤ 64) (hm : ∀ p ∈ ((tb, .cells 91 1026 (tmRow pb bb As)) :: (HP ++ HBk)), p ∈ H) {id : Int}  : PureAt Tryz.prog w0 H 26 [.pointer (some ⟨tb, 0, none⟩), .int .i64 id] (optV (inR Rs id)) := by
 refine L_enter Tryz.func26 rfl Tryz.ntmps26 rfl rfl ?_
 refine W_sr ?_
 refine W_assign rfl rfl ?_
 refine W_assign rfl rfl ?_
 refine W_nil (W_sr ?_)
 refine W_move rfl rfl ?_
 refine W_callq (.cons rfl .nil) Tryz.call51 rfl (inner_q (pb := pb) (bb := bb) (As := As) (hm _ List.mem_cons_self)) ?_
 refine W_move rfl rfl ?_
 refine W_callq (.cons rfl (.cons rfl .nil)) Tryz.call68 rfl (hP.Runs_q (id := id) (fun p hp => hm p (List.mem_cons_of_mem _ (List.mem_append_left _ hp)))) ?_
 obtain ⟨rx, rb, er⟩ : ∃ (x : Int) (b : Bool), optV (inR Rs id) = .tuple #[.int .i64 x, .bool b] := by rcases optV_ways (inR Rs id) with ⟨_, e⟩ | ⟨cx, _, e⟩ <;> exact ⟨_, _, e⟩
 rw [er]
 refine W_extract rfl rfl rfl ?_
 refine W_extract rfl rfl rfl ?_
 refine W_assign rfl rfl ?_
 refine W_assign rfl rfl ?_
 refine W_nil ?_
 refine W_ret2m (H2 := H) Tryz.results26 rfl rfl (.nil _) zH ?_
 exact ⟨rfl, rfl⟩
theorem tEnd_at {w0 : World} {H : Heap} {tb pb bb n : Nat} {HP HBk : Heap} {Ws : List Wl} {Q Rs : List (Int × Int)} {As : List Tone} (hP : PendH pb n Q Rs HP) (hB : BankH bb Ws HBk) (hn : Ws.length = n ∧ n ≤ 64) {c : Int}  : LCalls Tryz.prog w0 18 #[.pointer (some ⟨tb, 0, none⟩), .int .i64 c] ((tb, .cells 91 1026 (tmRow pb bb As)) :: (HP ++ (HBk ++ H))) (fun v H' => ∃ HP2, PendH pb n Q (endQ Rs c).1 HP2 ∧ v = .tuple #[.int .i64 (endQ Rs c).2.1, .int .i64 (endQ Rs c).2.2] ∧ H' = (tb, .cells 91 1026 (tmRow pb bb As)) :: (HP2 ++ (HBk ++ H))) := by
 refine L_enter (l := [.pointer (some ⟨tb, 0, none⟩), .int .i64 c]) Tryz.func18 rfl Tryz.ntmps18 rfl rfl ?_
 refine W_sr ?_
 refine W_assign rfl rfl ?_
 refine W_assign rfl rfl ?_
 refine W_nil (W_sr ?_)
 refine W_move rfl rfl ?_
 refine W_callq (.cons rfl .nil) Tryz.call51 rfl (inner_q (pb := pb) (bb := bb) (As := As) zM) ?_
 refine W_move rfl rfl ?_
 refine W_call (.cons rfl (.cons rfl .nil)) Tryz.call53 rfl ((End_L hP zO (c := c) (H := (tb, .cells 91 1026 (tmRow pb bb As)) :: (HBk ++ H))).hsub zH) ?_
 rintro v H' ⟨HP2, hP2, rfl, rfl⟩
 refine W_extract rfl rfl rfl ?_
 refine W_extract rfl rfl rfl ?_
 refine W_assign rfl rfl ?_
 refine W_assign rfl rfl ?_
 refine W_nil ?_
 refine W_ret2m (H2 := (tb, .cells 91 1026 (tmRow pb bb As)) :: (HP2 ++ (HBk ++ H))) Tryz.results18 rfl rfl (.nil _) zH ?_
 exact ⟨HP2, hP2, rfl, rfl⟩
def progOf (As : List Tone) (id : Int) : Int := match As[id.toNat]? with
 | some o => o.prog - 1
 | none => 0
theorem progOf_at {As : List Tone} {i : Nat} {o : Tone} (h : As[i]? = some o) : progOf As (i : Int) = o.prog - 1 := by
 unfold progOf; rw [show ((i : Nat) : Int).toNat = i by omega, h]
theorem begQ_ok {n : Nat} {Q Rs : List (Int × Int)} {cpu c : Int} (hq : QOk n Q) (h : (begQ n Q Rs cpu c).2.2.2 = 0) : 0 ≤ (begQ n Q Rs cpu c).2.2.1 ∧ (begQ n Q Rs cpu c).2.2.1 < 256 := by
 have key : ∀ x l, quOf Q cpu = x :: l → 0 ≤ x ∧ x < 256 := fun x l e => (quOf_sub hq cpu).2 x (by rw [e]; exact List.mem_cons_self)
 revert h
 unfold begQ
 repeat' split
 all_goals (intro h; first | (exact key _ _ (by assumption)) | (simp at h))
theorem tBegin_at {w0 : World} {H : Heap} {tb pb bb n : Nat} {HP HBk : Heap} {Ws : List Wl} {Q Rs : List (Int × Int)} {As : List Tone} (hP : PendH pb n Q Rs HP) (hB : BankH bb Ws HBk) (hn : Ws.length = n ∧ n ≤ 64) {cpu c : Int} (hA : AsOk As)  : LCalls Tryz.prog w0 17 #[.pointer (some ⟨tb, 0, none⟩), .int .i64 cpu, .int .i64 c] ((tb, .cells 91 1026 (tmRow pb bb As)) :: (HP ++ (HBk ++ H))) (fun v H' => ∃ HP2, PendH pb n (begQ n Q Rs cpu c).1 (begQ n Q Rs cpu c).2.1 HP2 ∧ v = (if (begQ n Q Rs cpu c).2.2.2 = 0 then .tuple #[.int .i64 (begQ n Q Rs cpu c).2.2.1, .int .i64 ((progOf As (begQ n Q Rs cpu c).2.2.1)), .int .i64 0] else .tuple #[.int .i64 0, .int .i64 0, .int .i64 (begQ n Q Rs cpu c).2.2.2]) ∧ H' = (tb, .cells 91 1026 (tmRow pb bb As)) :: (HP2 ++ (HBk ++ H))) := by
 refine L_enter (l := [.pointer (some ⟨tb, 0, none⟩), .int .i64 cpu, .int .i64 c]) Tryz.func17 rfl Tryz.ntmps17 rfl rfl ?_
 refine W_sr ?_
 refine W_assign rfl rfl ?_
 refine W_assign rfl rfl ?_
 refine W_assign rfl rfl ?_
 refine W_nil (W_sr ?_)
 refine W_move rfl rfl ?_
 refine W_callq (.cons rfl .nil) Tryz.call51 rfl (inner_q (pb := pb) (bb := bb) (As := As) zM) ?_
 refine W_move rfl rfl ?_
 refine W_move rfl rfl ?_
 refine W_call (.cons rfl (.cons rfl (.cons rfl .nil))) Tryz.call52 rfl ((Begin_L hP zO (cpu := cpu) (c := c) (H := (tb, .cells 91 1026 (tmRow pb bb As)) :: (HBk ++ H))).hsub zH) ?_
 rintro v H' ⟨HP2, hP2, rfl, rfl⟩
 refine W_move rfl rfl ?_
 refine W_extract rfl rfl rfl ?_
 refine W_extract rfl rfl rfl ?_
 refine W_assign rfl rfl ?_
 refine W_assign rfl rfl ?_
 refine W_nil (W_seq (W_sr ?_))
 refine W_move rfl rfl ?_
 refine W_bin rfl rfl b_neq rfl ?_
 refine W_nil ?_
 refine W_condPS (p := ¬ (begQ n Q Rs cpu c).2.2.2 = 0) rfl (by simp) (fun c0 => ?_) (fun c0 => ?_)
 ·skip
  refine W_sr ?_
  refine W_move rfl rfl ?_
  refine W_assign rfl rfl ?_
  refine W_assign rfl rfl ?_
  refine W_assign rfl rfl ?_
  refine W_nil ?_
  refine W_ret3m (H2 := (tb, .cells 91 1026 (tmRow pb bb As)) :: (HP2 ++ (HBk ++ H))) Tryz.results17 rfl rfl rfl (.nil _) zH ?_
  rw [if_neg c0]
  exact ⟨HP2, hP2, rfl, rfl⟩
 ·skip
  refine W_skip ?_
  refine W_quietsr zk zK ?_
  have hid := begQ_ok (n := n) (Q := Q) (Rs := Rs) (cpu := cpu) (c := c) hP.ok (by simpa using c0)
  obtain ⟨i, hi⟩ : ∃ i : Nat, (begQ n Q Rs cpu c).2.2.1 = (i : Int) := ⟨((begQ n Q Rs cpu c).2.2.1).toNat, by omega⟩
  obtain ⟨o, ho⟩ := hA.at (i := i) zO
  have hpr := hA.rng o (List.mem_of_getElem? ho)
  rw [hi]
  refine WQ_x (X_move rfl) rfl ?_
  refine WQ_x (X_move rfl) rfl ?_
  refine WQ_x (X_move rfl) rfl ?_
  refine WQ_x (X_nilCheck rfl) rfl ?_
  refine WQ_x (X_fieldAddr rfl fld91_2 zd) rfl ?_
  refine WQ_x (X_indexAddrA (j := i) rfl rfl ty89 ty88 (by first | rfl | omega) (by first | decide | omega | simp) rfl) rfl ?_
  refine WQ_x (X_fieldAddr rfl fld88_2 zd) rfl ?_
  refine WQ_x (X_load (v := .int .i64 o.prog) rfl ty3 rfl (Cell.own (b := tb) zM (tm_get2 ho))) rfl ?_
  refine WQ_x (X_bin rfl rfl (b_sub (m := o.prog - 1) (i64w zO))) rfl ?_
  refine WQ_x (X_assign rfl) rfl ?_
  refine WQ_x (X_assign rfl) rfl ?_
  refine WQ_x (X_assign rfl) rfl ?_
  refine WQ_nil ?_
  refine W_ret3m (H2 := (tb, .cells 91 1026 (tmRow pb bb As)) :: (HP2 ++ (HBk ++ H))) Tryz.results17 rfl rfl rfl (.nil _) zH ?_
  rw [if_pos (by simpa using c0), progOf_at ho]
  exact ⟨HP2, hP2, rfl, rfl⟩
def shutA (s : List Wl × List (Int × Int) × List Tone × Nat) (id : Int) : List Wl × List (Int × Int) × List Tone × Nat := if 0 ≤ id ∧ id < 256 then (match s.2.2.1[id.toNat]? with
 | some o => if o.shut = true then s else (s.1.map (delW [id]), delQ s.2.1 id, s.2.2.1.set id.toNat { o with shut := true }, s.2.2.2 + 1)
 | none => s) else s
def shutsA (Ws : List Wl) (Q : List (Int × Int)) (As : List Tone) (ids : List Int) : List Wl × List (Int × Int) × List Tone × Nat := ids.foldl shutA (Ws, Q, As, 0)
theorem shutsA_at {Ws : List Wl} {Q : List (Int × Int)} {As : List Tone} {ids : List Int} {i : Nat} {z : Int} (h : ids[i]? = some z) : shutsA Ws Q As (ids.take (i + 1)) = shutA (shutsA Ws Q As (ids.take i)) z := by
 unfold shutsA; rw [takeAt h, List.foldl_append]; rfl
theorem shutA_out {s : List Wl × List (Int × Int) × List Tone × Nat} {id : Int} (h : ¬ (0 ≤ id ∧ id < 256)) : shutA s id = s := if_neg h
theorem shutA_at {s : List Wl × List (Int × Int) × List Tone × Nat} {i : Nat} {o : Tone} (hi : i < 256) (h : s.2.2.1[i]? = some o) : shutA s (i : Int) = if o.shut = true then s else (s.1.map (delW [(i : Int)]), delQ s.2.1 (i : Int), s.2.2.1.set i { o with shut := true }, s.2.2.2 + 1) := by
 unfold shutA; rw [if_pos (by omega), show ((i : Nat) : Int).toNat = i by omega, h]
theorem shut_ways {As : List Tone} (hA : AsOk As) (z : Int) : ¬ (0 ≤ z ∧ z < 256) ∨ (∃ j o, z = ((j : Nat) : Int) ∧ j < 256 ∧ As[j]? = some o ∧ o.shut = true) ∨ (∃ j o, z = ((j : Nat) : Int) ∧ j < 256 ∧ As[j]? = some o ∧ o.shut = false) := by
 by_cases hi : 0 ≤ z ∧ z < 256
 ·obtain ⟨j, rfl⟩ : ∃ j : Nat, z = (j : Int) := ⟨z.toNat, by omega⟩
  obtain ⟨o, ho⟩ := hA.at (i := j) zO
  cases hs : o.shut with
  | true => exact .inr (.inl ⟨j, o, rfl, by omega, ho, hs⟩)
  | false => exact .inr (.inr ⟨j, o, rfl, by omega, ho, hs⟩)
 ·exact .inl hi
structure ShS where
 i : Nat
 Ws : List Wl
 Q : List (Int × Int)
 As : List Tone
 c : Nat
 HP : Heap
 HB : Heap
theorem shut1_L {w0 : World} {H : Heap} {tb pb bb n : Nat} {HP HBk : Heap} {Ws : List Wl} {Q Rs : List (Int × Int)} {As : List Tone} (hP : PendH pb n Q Rs HP) (hB : BankH bb Ws HBk) (hn : Ws.length = n ∧ n ≤ 64) {i : Nat} {o : Tone} {z : Int} (hA : As[i]? = some o) {b2 b7 : Nat}  : LCalls Tryz.prog w0 54 #[.pointer (some ⟨tb, 2 + i * 4, none⟩), .pointer (some ⟨b2, 0, none⟩), .pointer (some ⟨b7, 0, none⟩)] ((b2, .cells 25 1 [.pointer (some ⟨tb, 0, none⟩)]) :: (b7, .cells 3 1 [.int .i64 z]) :: (tb, .cells 91 1026 (tmRow pb bb As)) :: (HP ++ (HBk ++ H))) (fun v H' => ∃ HP2 HB2, PendH pb n (delQ Q z) Rs HP2 ∧ BankH bb (Ws.map (delW [z])) HB2 ∧ v = .int .i64 0 ∧ H' = (b2, .cells 25 1 [.pointer (some ⟨tb, 0, none⟩)]) :: (b7, .cells 3 1 [.int .i64 z]) :: (tb, .cells 91 1026 (tmRow pb bb (As.set i { o with shut := true }))) :: (HP2 ++ (HB2 ++ H))) := by
 refine L_enter (l := [.pointer (some ⟨tb, 2 + i * 4, none⟩), .pointer (some ⟨b2, 0, none⟩), .pointer (some ⟨b7, 0, none⟩)]) Tryz.func54 rfl Tryz.ntmps54 rfl rfl ?_
 refine W_sr ?_
 refine W_assign rfl rfl ?_
 refine W_nil (W_sr ?_)
 refine W_load (v := .pointer (some ⟨tb, 0, none⟩)) rfl ty25 rfl (Cell.own (b := b2) zM rfl) rfl ?_
 refine W_load (v := .int .i64 z) rfl ty3 rfl (Cell.own (b := b7) zM rfl) rfl ?_
 refine W_call (.cons rfl (.cons rfl .nil)) Tryz.call41 rfl ((take_L (z := z) hP hB hn (As := As) (H := (b2, .cells 25 1 [.pointer (some ⟨tb, 0, none⟩)]) :: (b7, .cells 3 1 [.int .i64 z]) :: H)).hsub zH) ?_
 rintro v H' ⟨HP2, HB2, hP2, hB2, rfl, rfl⟩
 refine W_nil (W_sr ?_)
 refine W_move rfl rfl ?_
 refine W_nilCheck rfl rfl ?_
 refine W_fieldAddr rfl fld88_1 zd rfl ?_
 refine W_store (l' := tmRow pb bb (As.set i { o with shut := true })) rfl rfl ty4 rfl rfl (b := tb) zM (tm_lt hA zd) (tm_set1 hA) zU ?_
 refine W_nil (W_sr ?_)
 refine W_assign rfl rfl ?_
 refine W_nil ?_
 refine W_ret1m (H2 := (b2, .cells 25 1 [.pointer (some ⟨tb, 0, none⟩)]) :: (b7, .cells 3 1 [.int .i64 z]) :: (tb, .cells 91 1026 (tmRow pb bb (As.set i { o with shut := true }))) :: (HP2 ++ (HB2 ++ H))) Tryz.results54 rfl (.nil _) zH ?_
 exact ⟨HP2, HB2, hP2, hB2, rfl, rfl⟩
theorem Shut_at {w0 : World} {H : Heap} {tb pb bb n : Nat} {HP HBk : Heap} {Ws : List Wl} {Q Rs : List (Int × Int)} {As : List Tone} (hP : PendH pb n Q Rs HP) (hB : BankH bb Ws HBk) (hn : Ws.length = n ∧ n ≤ 64) (hA : AsOk As) {ids : List Int} {ad : Option Addr} {cap : Nat} (hil : ids.length ≤ 1000000) (hrow : Holds w0 H ad (ids.map (Value.int .i64)))  : LCalls Tryz.prog w0 19 #[.pointer (some ⟨tb, 0, none⟩), .slice ad ids.length cap] ((tb, .cells 91 1026 (tmRow pb bb As)) :: (HP ++ (HBk ++ H))) (fun v H' => ∃ HP2 HB2, PendH pb n (shutsA Ws Q As ids).2.1 Rs HP2 ∧ BankH bb (shutsA Ws Q As ids).1 HB2 ∧ AsOk (shutsA Ws Q As ids).2.2.1 ∧ (shutsA Ws Q As ids).1.length = n ∧ v = .int .i64 ((shutsA Ws Q As ids).2.2.2 : Nat) ∧ H' = (tb, .cells 91 1026 (tmRow pb bb (shutsA Ws Q As ids).2.2.1)) :: (HP2 ++ (HB2 ++ H))) := by
 refine L_enter (l := [.pointer (some ⟨tb, 0, none⟩), .slice ad ids.length cap]) Tryz.func19 rfl Tryz.ntmps19 rfl rfl ?_
 refine W_sr ?_
 refine W_box (l := [.pointer (some ⟨tb, 0, none⟩)]) rfl rfl rfl (fun b2 => ?_)
 refine W_assign rfl rfl ?_
 refine W_nil (W_sr ?_)
 refine W_assign rfl rfl ?_
 refine W_nil (W_seq (W_sr ?_))
 refine W_move rfl rfl ?_
 refine W_len rfl ty24 rfl rfl ?_
 refine W_move rfl rfl ?_
 refine W_nil (W_block ?_)
 refine W_loopC (X := ShS) [(2, _), (9, _), (10, _)] (fun (x : ShS) => [(5, .int .i64 (x.c : Int)), (11, .int .i64 (x.i : Int))]) (fun _ => _) (fun (x : ShS) => (b2, .cells 25 1 [.pointer (some ⟨tb, 0, none⟩)]) :: (tb, .cells 91 1026 (tmRow pb bb x.As)) :: (x.HP ++ (x.HB ++ H))) (fun (x : ShS) => x.i ≤ ids.length ∧ PendH pb n x.Q Rs x.HP ∧ BankH bb x.Ws x.HB ∧ (x.Ws.length = n ∧ n ≤ 64) ∧ AsOk x.As ∧ shutsA Ws Q As (ids.take x.i) = (x.Ws, x.Q, x.As, x.c) ∧ x.c ≤ x.i) (fun (x : ShS) => ids.length - x.i) ⟨0, Ws, Q, As, 0, HP, HBk⟩ ⟨Nat.zero_le _, hP, hB, hn, hA, rfl, Nat.le_refl _⟩ (sub_cons rfl (sub_cons rfl (sub_cons rfl (sub_nil _)))) (sub_cons rfl (sub_cons rfl (sub_nil _))) rfl zH ?_
 rintro ⟨i, Ws1, Q1, As1, c1, HP1, HB1⟩ ⟨hil, hP1, hB1, hn1, hA1, hsh, hci⟩
 dsimp only at hil hP1 hB1 hn1 hA1 hsh hci ⊢
 simp only [List.cons_append, List.nil_append]
 refine W_sr ?_
 refine W_bin rfl rfl b_lss rfl ?_
 refine W_nil (W_seq ?_)
 refine W_condPS (p := (i : Int) < (ids.length : Int)) rfl (by simp) (fun q0 => ?_) (fun q0 => ?_)
 ·skip
  refine W_skip (W_seq ?_)
  refine W_block (W_sr ?_)
  obtain ⟨z, hz⟩ : ∃ z, ids[i]? = some z := ⟨_, List.getElem?_eq_getElem zO⟩
  obtain ⟨q0, p0, rfl, hcz⟩ := hrow.at (i := i) (v := .int .i64 z) (by rw [List.getElem?_map, hz]; rfl)
  refine W_indexAddr (j := i) rfl rfl ty24 ty3 rfl zO rfl rfl ?_
  refine W_load (v := .int .i64 z) rfl ty3 rfl (by rw [Nat.mul_one]; exact hcz.up zH) rfl ?_
  refine W_alloc (l := [.int .i64 0]) ty3 rfl rfl (fun b7 => ?_)
  refine W_store (l' := [.int .i64 z]) rfl rfl ty3 rfl rfl (b := b7) zM rfl rfl zU ?_
  refine W_nil (W_sr ?_)
  refine W_load (v := .pointer (some ⟨tb, 0, none⟩)) rfl ty25 rfl (Cell.own (b := b2) zM rfl) rfl ?_
  refine W_load (v := .int .i64 z) rfl ty3 rfl (Cell.own (b := b7) zM rfl) rfl ?_
  refine W_makeFunc .nil (.cons rfl (.cons rfl .nil)) rfl ?_
  rcases shut_ways hA1 z with hi | ⟨j, o, rfl, hj, ho, hs⟩ | ⟨j, o, rfl, hj, ho, hs⟩
  ·skip
   refine W_callp (.cons rfl (.cons rfl (.cons rfl .nil))) Tryz.call35 rfl (T := fun _ => True) trivial (open_out hi) ?_
   refine W_assign rfl rfl ?_
   refine W_nil (W_sr ?_)
   refine W_move rfl rfl ?_
   refine W_bin rfl rfl b_eql rfl ?_
   refine W_nil ?_
   refine W_condF rfl rfl ?_
   refine W_skip ?_
   refine W_blk ?_
   refine W_region ?_
   refine W_bin rfl rfl (b_add (m := ((i + 1 : Nat) : Int)) (by rw [i64w (by omega)]; omega)) rfl ?_
   refine W_move rfl rfl ?_
   refine W_nil ?_
   refine W_again ⟨i + 1, Ws1, Q1, As1, c1, HP1, HB1⟩ ⟨by show i + 1 ≤ _; omega, hP1, hB1, hn1, hA1, by rw [shutsA_at hz, hsh, shutA_out hi], by show c1 ≤ i + 1; omega⟩ (by show ids.length - (i + 1) < ids.length - i; omega) (sub_cons rfl (sub_cons rfl (sub_cons rfl (sub_cons rfl (sub_cons rfl (sub_nil _)))))) rfl zH
  ·skip
   refine W_call (.cons rfl (.cons rfl (.cons rfl .nil))) Tryz.call35 rfl ((open_gone (ca := [.pointer (some ⟨b2, 0, none⟩), .pointer (some ⟨b7, 0, none⟩)]) (H := (b2, .cells 25 1 [.pointer (some ⟨tb, 0, none⟩)]) :: (b7, .cells 3 1 [.int .i64 (j : Int)]) :: (tb, .cells 91 1026 (tmRow pb bb As1)) :: (HP1 ++ (HB1 ++ H))) hj ho zM hs).hsub zH) ?_
   rintro v H' ⟨rfl, rfl⟩
   refine W_assign rfl rfl ?_
   refine W_nil (W_sr ?_)
   refine W_move rfl rfl ?_
   refine W_bin rfl rfl b_eql rfl ?_
   refine W_nil ?_
   refine W_condF rfl rfl ?_
   refine W_skip ?_
   refine W_blk ?_
   refine W_region ?_
   refine W_bin rfl rfl (b_add (m := ((i + 1 : Nat) : Int)) (by rw [i64w (by omega)]; omega)) rfl ?_
   refine W_move rfl rfl ?_
   refine W_nil ?_
   refine W_again ⟨i + 1, Ws1, Q1, As1, c1, HP1, HB1⟩ ⟨by show i + 1 ≤ _; omega, hP1, hB1, hn1, hA1, by rw [shutsA_at hz, hsh, shutA_at hj ho, if_pos hs], by show c1 ≤ i + 1; omega⟩ (by show ids.length - (i + 1) < ids.length - i; omega) (sub_cons rfl (sub_cons rfl (sub_cons rfl (sub_cons rfl (sub_cons rfl (sub_nil _)))))) rfl zH
  ·skip
   refine W_call (.cons rfl (.cons rfl (.cons rfl .nil))) Tryz.call35 rfl ((open_in (ca := [.pointer (some ⟨b2, 0, none⟩), .pointer (some ⟨b7, 0, none⟩)]) Tryz.call54 hj ho zM hs (shut1_L (z := (j : Int)) (b2 := b2) (b7 := b7) hP1 hB1 hn1 ho (H := H)) (by rintro v H2 ⟨_, _, _, _, e, _⟩; exact ⟨_, e⟩)).hsub zH) ?_
   rintro v H' ⟨HP2, HB2, hP2, hB2, rfl, rfl⟩
   refine W_assign rfl rfl ?_
   refine W_nil (W_sr ?_)
   refine W_move rfl rfl ?_
   refine W_bin rfl rfl b_eql rfl ?_
   refine W_nil ?_
   refine W_condT rfl rfl ?_
   refine W_region ?_
   refine W_move rfl rfl ?_
   refine W_bin rfl rfl (b_add (m := ((c1 + 1 : Nat) : Int)) (by rw [i64w (by omega)]; omega)) rfl ?_
   refine W_assign rfl rfl ?_
   refine W_nil ?_
   refine W_blk ?_
   refine W_region ?_
   refine W_bin rfl rfl (b_add (m := ((i + 1 : Nat) : Int)) (by rw [i64w (by omega)]; omega)) rfl ?_
   refine W_move rfl rfl ?_
   refine W_nil ?_
   refine W_again ⟨i + 1, Ws1.map (delW [(j : Int)]), delQ Q1 (j : Int), As1.set j { o with shut := true }, c1 + 1, HP2, HB2⟩ ⟨by show i + 1 ≤ _; omega, hP2, hB2, ⟨by show (Ws1.map _).length = n; rw [List.length_map]; exact hn1.1, hn1.2⟩, hA1.set j (o := { o with shut := true }) (hA1.rng o (List.mem_of_getElem? ho)), by rw [shutsA_at hz, hsh, shutA_at hj ho, if_neg (by rw [hs]; decide)], by show c1 + 1 ≤ i + 1; omega⟩ (by show ids.length - (i + 1) < ids.length - i; omega) (sub_cons rfl (sub_cons rfl (sub_cons rfl (sub_cons rfl (sub_cons rfl (sub_nil _)))))) rfl zH
 ·skip
  refine W_exit rfl ?_
  refine W_sr ?_
  refine W_move rfl rfl ?_
  refine W_assign rfl rfl ?_
  refine W_nil ?_
  refine W_ret1m (H2 := (tb, .cells 91 1026 (tmRow pb bb As1)) :: (HP1 ++ (HB1 ++ H))) Tryz.results19 rfl (.nil _) zH ?_
  obtain rfl : i = ids.length := by omega
  rw [List.take_length] at hsh
  rw [hsh]
  exact ⟨HP1, HB1, hP1, hB1, hA1, hn1.1, rfl, rfl⟩
theorem shutsA_tok {T : Nat} {Ws : List Wl} {Q : List (Int × Int)} {As : List Tone} (ids : List Int) (h : TOk T Ws As) : TOk T (shutsA Ws Q As ids).1 (shutsA Ws Q As ids).2.2.1 := by
 have key : ∀ (ids : List Int) (s : List Wl × List (Int × Int) × List Tone × Nat), TOk T s.1 s.2.2.1 → TOk T (ids.foldl shutA s).1 (ids.foldl shutA s).2.2.1 := fun ids => by
  induction ids with
  | nil => intro s hs; exact hs
  | cons z ids ih =>
   intro s hs
   refine ih _ ?_
   unfold shutA
   split
   ·split
    ·split
     ·exact hs
     ·rename_i o ho _
      refine ⟨hs.bank.del z, fun x hx => ?_⟩
      rcases List.mem_or_eq_of_mem_set hx with hx | rfl
      ·exact hs.starts x hx
      ·exact hs.starts o (List.mem_of_getElem? ho)
    ·exact hs
   ·exact hs
 exact key ids _ h
theorem Shut_L {w0 : World} {H HB : Heap} {tb n T : Nat} {Ws : List Wl} {Q Rs : List (Int × Int)} {As : List Tone} (hT : TimerH tb n Ws Q Rs As HB) (hO : TOk T Ws As) {ids : List Int} {ad : Option Addr} {cap : Nat} (hil : ids.length ≤ 1000000) (hrow : Holds w0 H ad (ids.map (Value.int .i64))) :
  LCalls Tryz.prog w0 19 #[.pointer (some ⟨tb, 0, none⟩), .slice ad ids.length cap] (HB ++ H) (fun v H' => ∃ HB', TimerH tb n (shutsA Ws Q As ids).1 (shutsA Ws Q As ids).2.1 Rs (shutsA Ws Q As ids).2.2.1 HB' ∧ TOk T (shutsA Ws Q As ids).1 (shutsA Ws Q As ids).2.2.1 ∧ v = .int .i64 ((shutsA Ws Q As ids).2.2.2 : Nat) ∧ H' = HB' ++ H) := by
 cases hT with
 | @mk pb bb HP HBk hP hB hA hn =>
  show LCalls _ _ _ _ ((tb, .cells 91 1026 (tmRow pb bb As)) :: ((HP ++ HBk) ++ H)) _
  rw [List.append_assoc]
  refine (Shut_at (H := H) hP hB hn hA hil hrow).mono ?_
  rintro v H' ⟨HP2, HB2, hP2, hB2, hA2, hl2, rfl, rfl⟩
  exact ⟨_, .mk hP2 hB2 hA2 ⟨hl2, hn.2⟩, shutsA_tok ids hO, rfl, by show _ = (tb, .cells 91 1026 (tmRow pb bb (shutsA Ws Q As ids).2.2.1)) :: ((HP2 ++ HB2) ++ H); rw [List.append_assoc]⟩
theorem mem_ex {p x : Nat × Blk} {X Y Z : Heap} (hp : p ∈ x :: (X ++ Y)) : p ∈ x :: (X ++ (Y ++ Z)) := by
 rcases List.mem_cons.1 hp with rfl | hp
 ·exact List.mem_cons_self
 ·rcases List.mem_append.1 hp with hp | hp
  ·exact List.mem_cons_of_mem _ (List.mem_append_left _ hp)
  ·exact List.mem_cons_of_mem _ (List.mem_append_right _ (List.mem_append_left _ hp))
def clearM (Ws : List Wl) (Q Rs : List (Int × Int)) (As : List Tone) (i : Nat) : List Wl × List (Int × Int) × List Tone × Int := if (inR Rs (i : Int)).isSome = true then (Ws, Q, As, 21) else (Ws.map (delW [(i : Int)]), delQ Q (i : Int), As.set i zTone, 0)
def clearA (Ws : List Wl) (Q Rs : List (Int × Int)) (As : List Tone) (id : Int) : List Wl × List (Int × Int) × List Tone × Int := if 0 ≤ id ∧ id < 256 then clearM Ws Q Rs As id.toNat else (Ws, Q, As, 2)
theorem clearA_at {Ws : List Wl} {Q Rs : List (Int × Int)} {As : List Tone} {i : Nat} (hi : i < 256) : clearA Ws Q Rs As (i : Int) = clearM Ws Q Rs As i := by
 unfold clearA; rw [if_pos (by omega), show ((i : Nat) : Int).toNat = i by omega]
theorem clearM_busy {Ws : List Wl} {Q Rs : List (Int × Int)} {As : List Tone} {i : Nat} {c : Int} (h : inR Rs (i : Int) = some c) : clearM Ws Q Rs As i = (Ws, Q, As, 21) := by unfold clearM; rw [h]; rfl
theorem clearM_ok {Ws : List Wl} {Q Rs : List (Int × Int)} {As : List Tone} {i : Nat} (h : inR Rs (i : Int) = none) : clearM Ws Q Rs As i = (Ws.map (delW [(i : Int)]), delQ Q (i : Int), As.set i zTone, 0) := by unfold clearM; rw [h]; rfl
theorem clear1_L {w0 : World} {H : Heap} {tb pb bb n : Nat} {HP HBk : Heap} {Ws : List Wl} {Q Rs : List (Int × Int)} {As : List Tone} (hP : PendH pb n Q Rs HP) (hB : BankH bb Ws HBk) (hn : Ws.length = n ∧ n ≤ 64) {i : Nat} {o : Tone} (hA : As[i]? = some o) {b2 b3 : Nat}  : LCalls Tryz.prog w0 55 #[.pointer (some ⟨tb, 2 + i * 4, none⟩), .pointer (some ⟨b2, 0, none⟩), .pointer (some ⟨b3, 0, none⟩)] ((b2, .cells 25 1 [.pointer (some ⟨tb, 0, none⟩)]) :: (b3, .cells 3 1 [.int .i64 (i : Int)]) :: (tb, .cells 91 1026 (tmRow pb bb As)) :: (HP ++ (HBk ++ H))) (fun v H' => ∃ HP2 HB2, PendH pb n (clearM Ws Q Rs As i).2.1 Rs HP2 ∧ BankH bb (clearM Ws Q Rs As i).1 HB2 ∧ v = .int .i64 (clearM Ws Q Rs As i).2.2.2 ∧ H' = (b2, .cells 25 1 [.pointer (some ⟨tb, 0, none⟩)]) :: (b3, .cells 3 1 [.int .i64 (i : Int)]) :: (tb, .cells 91 1026 (tmRow pb bb (clearM Ws Q Rs As i).2.2.1)) :: (HP2 ++ (HB2 ++ H))) := by
 have hil := (List.getElem?_eq_some_iff.1 hA).1
 refine L_enter (l := [.pointer (some ⟨tb, 2 + i * 4, none⟩), .pointer (some ⟨b2, 0, none⟩), .pointer (some ⟨b3, 0, none⟩)]) Tryz.func55 rfl Tryz.ntmps55 rfl rfl ?_
 refine W_sr ?_
 refine W_assign rfl rfl ?_
 refine W_nil (W_seq (W_sr ?_))
 refine W_load (v := .pointer (some ⟨tb, 0, none⟩)) rfl ty25 rfl (Cell.own (b := b2) zM rfl) rfl ?_
 refine W_load (v := .int .i64 (i : Int)) rfl ty3 rfl (Cell.own (b := b3) zM rfl) rfl ?_
 refine W_callq (.cons rfl (.cons rfl .nil)) Tryz.call26 rfl (tRuns_at (bb := bb) (As := As) (Ws := Ws) (HBk := HBk) (id := (i : Int)) hP hn (fun p hp => List.mem_cons_of_mem _ (List.mem_cons_of_mem _ (mem_ex hp)))) ?_
 rcases hir : inR Rs (i : Int) with _ | cx
 ·skip
  rw [show optV none = .tuple #[.int .i64 0, .bool false] from rfl]
  refine W_move rfl rfl ?_
  refine W_extract rfl rfl rfl ?_
  refine W_extract rfl rfl rfl ?_
  refine W_assign rfl rfl ?_
  refine W_assign rfl rfl ?_
  refine W_nil (W_sr ?_)
  refine W_move rfl rfl ?_
  refine W_nil ?_
  refine W_condF rfl rfl ?_
  refine W_skip (W_sr ?_)
  refine W_load (v := .pointer (some ⟨tb, 0, none⟩)) rfl ty25 rfl (Cell.own (b := b2) zM rfl) rfl ?_
  refine W_load (v := .int .i64 (i : Int)) rfl ty3 rfl (Cell.own (b := b3) zM rfl) rfl ?_
  refine W_call (.cons rfl (.cons rfl .nil)) Tryz.call41 rfl ((take_L (z := (i : Int)) hP hB hn (As := As) (H := (b2, .cells 25 1 [.pointer (some ⟨tb, 0, none⟩)]) :: (b3, .cells 3 1 [.int .i64 (i : Int)]) :: H)).hsub zH) ?_
  rintro v H' ⟨HP2, HB2, hP2, hB2, rfl, rfl⟩
  refine W_nil (W_sr ?_)
  refine W_move rfl rfl ?_
  refine W_build (l := oneC zTone) ty88 pl88 .nil rfl rfl rfl ?_
  refine W_nilCheck rfl rfl ?_
  refine W_storeA (l' := tmRow pb bb (As.set i zTone)) rfl rfl ty88 rfl rfl (b := tb) zM (by show 2 + i * 4 + 4 ≤ (tmRow pb bb As).length; rw [tm_len]; omega) (tm_spl (o' := zTone) hil) zU ?_
  refine W_nil (W_sr ?_)
  refine W_assign rfl rfl ?_
  refine W_nil ?_
  refine W_ret1m (H2 := (b2, .cells 25 1 [.pointer (some ⟨tb, 0, none⟩)]) :: (b3, .cells 3 1 [.int .i64 (i : Int)]) :: (tb, .cells 91 1026 (tmRow pb bb (As.set i zTone))) :: (HP2 ++ (HB2 ++ H))) Tryz.results55 rfl (.nil _) zH ?_
  rw [clearM_ok hir]
  exact ⟨HP2, HB2, hP2, hB2, rfl, rfl⟩
 ·skip
  rw [show optV (some cx) = .tuple #[.int .i64 cx, .bool true] from rfl]
  refine W_move rfl rfl ?_
  refine W_extract rfl rfl rfl ?_
  refine W_extract rfl rfl rfl ?_
  refine W_assign rfl rfl ?_
  refine W_assign rfl rfl ?_
  refine W_nil (W_sr ?_)
  refine W_move rfl rfl ?_
  refine W_nil ?_
  refine W_condT rfl rfl ?_
  refine W_sr ?_
  refine W_assign rfl rfl ?_
  refine W_nil ?_
  refine W_ret1m (H2 := (b2, .cells 25 1 [.pointer (some ⟨tb, 0, none⟩)]) :: (b3, .cells 3 1 [.int .i64 (i : Int)]) :: (tb, .cells 91 1026 (tmRow pb bb As)) :: (HP ++ (HBk ++ H))) Tryz.results55 rfl (.nil _) zH ?_
  rw [clearM_busy hir]
  exact ⟨HP, HBk, hP, hB, rfl, rfl⟩
theorem Clear_at {w0 : World} {H : Heap} {tb pb bb n : Nat} {HP HBk : Heap} {Ws : List Wl} {Q Rs : List (Int × Int)} {As : List Tone} (hP : PendH pb n Q Rs HP) (hB : BankH bb Ws HBk) (hn : Ws.length = n ∧ n ≤ 64) {i : Nat} {o : Tone} (hi : i < 256) (hA : As[i]? = some o)  : LCalls Tryz.prog w0 20 #[.pointer (some ⟨tb, 0, none⟩), .int .i64 (i : Int)] ((tb, .cells 91 1026 (tmRow pb bb As)) :: (HP ++ (HBk ++ H))) (fun v H' => ∃ HP2 HB2, PendH pb n (clearM Ws Q Rs As i).2.1 Rs HP2 ∧ BankH bb (clearM Ws Q Rs As i).1 HB2 ∧ v = .int .i64 (clearM Ws Q Rs As i).2.2.2 ∧ H' = (tb, .cells 91 1026 (tmRow pb bb (clearM Ws Q Rs As i).2.2.1)) :: (HP2 ++ (HB2 ++ H))) := by
 refine L_enter (l := [.pointer (some ⟨tb, 0, none⟩), .int .i64 (i : Int)]) Tryz.func20 rfl Tryz.ntmps20 rfl rfl ?_
 refine W_sr ?_
 refine W_box (l := [.pointer (some ⟨tb, 0, none⟩)]) rfl rfl rfl (fun b2 => ?_)
 refine W_box (l := [.int .i64 (i : Int)]) rfl rfl rfl (fun b3 => ?_)
 refine W_assign rfl rfl ?_
 refine W_nil (W_sr ?_)
 refine W_load (v := .pointer (some ⟨tb, 0, none⟩)) rfl ty25 rfl (Cell.own (b := b2) zM rfl) rfl ?_
 refine W_load (v := .int .i64 (i : Int)) rfl ty3 rfl (Cell.own (b := b3) zM rfl) rfl ?_
 refine W_makeFunc .nil (.cons rfl (.cons rfl .nil)) rfl ?_
 refine W_call (.cons rfl (.cons rfl (.cons rfl .nil))) Tryz.call49 rfl ((with_in (i := i) (fi := 55) (ca := [.pointer (some ⟨b2, 0, none⟩), .pointer (some ⟨b3, 0, none⟩)]) Tryz.call55 hi (clear1_L (b2 := b2) (b3 := b3) hP hB hn hA (H := H)) ?_).hsub zH) ?_
 ·rintro v H2 ⟨_, _, _, _, e, _⟩
  exact ⟨_, e⟩
 rintro v H' ⟨HP2, HB2, hP2, hB2, rfl, rfl⟩
 refine W_assign rfl rfl ?_
 refine W_nil ?_
 refine W_ret1m (H2 := (tb, .cells 91 1026 (tmRow pb bb (clearM Ws Q Rs As i).2.2.1)) :: (HP2 ++ (HB2 ++ H))) Tryz.results20 rfl (.nil _) zH ?_
 exact ⟨HP2, HB2, hP2, hB2, rfl, rfl⟩
theorem Clear_out {tb : Nat} {id : Int} (hi : ¬ (0 ≤ id ∧ id < 256)) : Pure Tryz.prog (fun _ => True) 20 [.pointer (some ⟨tb, 0, none⟩), .int .i64 id] (.int .i64 2) := by
 intro w0 H hT
 refine L_enter Tryz.func20 rfl Tryz.ntmps20 rfl rfl ?_
 refine W_sr ?_
 refine W_box (l := [.pointer (some ⟨tb, 0, none⟩)]) rfl rfl rfl (fun b2 => ?_)
 refine W_box (l := [.int .i64 id]) rfl rfl rfl (fun b3 => ?_)
 refine W_assign rfl rfl ?_
 refine W_nil (W_sr ?_)
 refine W_load (v := .pointer (some ⟨tb, 0, none⟩)) rfl ty25 rfl (Cell.own (b := b2) zM rfl) rfl ?_
 refine W_load (v := .int .i64 id) rfl ty3 rfl (Cell.own (b := b3) zM rfl) rfl ?_
 refine W_makeFunc .nil (.cons rfl (.cons rfl .nil)) rfl ?_
 refine W_callp (.cons rfl (.cons rfl (.cons rfl .nil))) Tryz.call49 rfl (T := fun _ => True) trivial (with_out hi ) ?_
 refine W_assign rfl rfl ?_
 refine W_nil ?_
 refine W_ret1m (H2 := H) Tryz.results20 rfl (.nil _) zH ?_
 exact ⟨rfl, rfl⟩
theorem clear_tok {T : Nat} {Ws : List Wl} {Q Rs : List (Int × Int)} {As : List Tone} {i : Nat} (h : TOk T Ws As) : TOk T (clearM Ws Q Rs As i).1 (clearM Ws Q Rs As i).2.2.1 := by
 unfold clearM
 split
 ·exact h
 ·refine ⟨h.bank.del _, fun x hx => ?_⟩
  rcases List.mem_or_eq_of_mem_set hx with hx | rfl
  ·exact h.starts x hx
  ·show 0 ≤ (0 : Int) ∧ (0 : Int) ≤ (T : Int); omega
theorem clear_as {Ws : List Wl} {Q Rs : List (Int × Int)} {As : List Tone} {i : Nat} (h : AsOk As) : AsOk (clearM Ws Q Rs As i).2.2.1 := by
 unfold clearM
 split
 ·exact h
 ·exact h.set i (o := zTone) zd
theorem clear_len {Ws : List Wl} {Q Rs : List (Int × Int)} {As : List Tone} {i : Nat} : (clearM Ws Q Rs As i).1.length = Ws.length := by
 unfold clearM
 split
 ·rfl
 ·exact List.length_map _
theorem Clear_L {w0 : World} {H HB : Heap} {tb n T : Nat} {Ws : List Wl} {Q Rs : List (Int × Int)} {As : List Tone} (hT : TimerH tb n Ws Q Rs As HB) (hO : TOk T Ws As) {id : Int} :
  LCalls Tryz.prog w0 20 #[.pointer (some ⟨tb, 0, none⟩), .int .i64 id] (HB ++ H) (fun v H' => ∃ HB', TimerH tb n (clearA Ws Q Rs As id).1 (clearA Ws Q Rs As id).2.1 Rs (clearA Ws Q Rs As id).2.2.1 HB' ∧ TOk T (clearA Ws Q Rs As id).1 (clearA Ws Q Rs As id).2.2.1 ∧ v = .int .i64 (clearA Ws Q Rs As id).2.2.2 ∧ H' = HB' ++ H) := by
 by_cases hi : 0 ≤ id ∧ id < 256
 ·obtain ⟨i, rfl⟩ : ∃ i : Nat, id = (i : Int) := ⟨id.toNat, by omega⟩
  rw [clearA_at (by omega)]
  cases hT with
  | @mk pb bb HP HBk hP hB hA hn =>
   obtain ⟨o, ho⟩ := hA.at (i := i) zO
   show LCalls _ _ _ _ ((tb, .cells 91 1026 (tmRow pb bb As)) :: ((HP ++ HBk) ++ H)) _
   rw [List.append_assoc]
   refine (Clear_at (H := H) hP hB hn zO ho).mono ?_
   rintro v H' ⟨HP2, HB2, hP2, hB2, rfl, rfl⟩
   exact ⟨_, .mk hP2 hB2 (clear_as hA) (by rw [clear_len]; exact hn), clear_tok hO, rfl, by show _ = (tb, .cells 91 1026 (tmRow pb bb (clearM Ws Q Rs As i).2.2.1)) :: ((HP2 ++ HB2) ++ H); rw [List.append_assoc]⟩
 ·have e : clearA Ws Q Rs As id = (Ws, Q, As, 2) := if_neg hi
  rw [e]
  refine (Clear_out hi w0 _ trivial).mono ?_
  rintro v H' ⟨rfl, rfl⟩
  exact ⟨HB, hT, hO, rfl, rfl⟩
theorem of1_L {w0 : World} {H : Heap} {tb pb bb i : Nat} {As : List Tone} {o : Tone} (hA : As[i]? = some o) (hm : (tb, .cells 91 1026 (tmRow pb bb As)) ∈ H) {b5 : Nat}  : LCalls Tryz.prog w0 80 #[.pointer (some ⟨tb, 2 + i * 4, none⟩), .pointer (some ⟨b5, 0, none⟩)] ((b5, .cells 88 4 (oneC zTone)) :: H) (fun v H' => v = .int .i64 0 ∧ H' = (b5, .cells 88 4 (oneC o)) :: H) := by
 refine L_enter (l := [.pointer (some ⟨tb, 2 + i * 4, none⟩), .pointer (some ⟨b5, 0, none⟩)]) Tryz.func80 rfl Tryz.ntmps80 rfl rfl ?_
 refine W_sr ?_
 refine W_assign rfl rfl ?_
 refine W_nil (W_sr ?_)
 refine W_move rfl rfl ?_
 refine W_nilCheck rfl rfl ?_
 refine W_loadB (vs := oneC o) rfl ty88 rfl (b := tb) (List.mem_cons_of_mem _ hm) (by show Nat.ble (2 + i * 4 + 4) (tmRow pb bb As).length = true; rw [tm_len, Nat.ble_eq]; have := (List.getElem?_eq_some_iff.1 hA).1; omega) (tm_load hA) rfl ?_
 refine W_storeA (l' := oneC o) rfl rfl ty88 rfl rfl (b := b5) zM (by exact Nat.le_refl 4) rfl zU ?_
 refine W_nil (W_sr ?_)
 refine W_assign rfl rfl ?_
 refine W_nil ?_
 refine W_ret1m (H2 := (b5, .cells 88 4 (oneC o)) :: H) Tryz.results80 rfl (.nil _) zH ?_
 exact ⟨rfl, rfl⟩
theorem of_at {w0 : World} {H : Heap} {tb pb bb i : Nat} {As : List Tone} {o : Tone} (hi : i < 256) (hA : As[i]? = some o) (hm : (tb, .cells 91 1026 (tmRow pb bb As)) ∈ H)  : PureAt Tryz.prog w0 H 44 [.pointer (some ⟨tb, 0, none⟩), .int .i64 (i : Int)] (.agg (oneC o).toArray) := by
 refine L_enter Tryz.func44 rfl Tryz.ntmps44 rfl rfl ?_
 refine W_sr ?_
 refine W_alloc (l := oneC zTone) ty88 rfl rfl (fun b4 => ?_)
 refine W_nil (W_sr ?_)
 refine W_alloc (l := oneC zTone) ty88 rfl rfl (fun b5 => ?_)
 refine W_nil (W_sr ?_)
 refine W_move rfl rfl ?_
 refine W_move rfl rfl ?_
 refine W_makeFunc .nil (.cons rfl .nil) rfl ?_
 refine W_call (.cons rfl (.cons rfl (.cons rfl .nil))) Tryz.call49 rfl ((with_in (i := i) (fi := 80) (ca := [.pointer (some ⟨b5, 0, none⟩)]) Tryz.call80 hi (of1_L (b5 := b5) hA (by repeat (first | exact hm | exact List.mem_cons_self | apply List.mem_cons_of_mem | apply List.mem_append_right)) (H := (b4, .cells 88 4 (oneC zTone)) :: H)) ?_).hsub zH) ?_
 ·rintro v H2 ⟨e, _⟩
  exact ⟨_, e⟩
 rintro v H' ⟨rfl, rfl⟩
 refine W_nil (W_sr ?_)
 refine W_loadB (vs := oneC o) rfl ty88 rfl (b := b5) zM rfl rfl rfl ?_
 refine W_storeA (l' := oneC o) rfl rfl ty88 rfl rfl (b := b4) zM (by exact Nat.le_refl 4) rfl zU ?_
 refine W_nil ?_
 refine W_ret1cO (H2 := H) Tryz.results44 rfl (.nil _) ty88 rfl zM rfl zH ?_
 exact ⟨rfl, rfl⟩
theorem of_out {tb : Nat} {id : Int} (hi : ¬ (0 ≤ id ∧ id < 256)) : Pure Tryz.prog (fun _ => True) 44 [.pointer (some ⟨tb, 0, none⟩), .int .i64 id] (.agg (oneC zTone).toArray) := by
 intro w0 H hT
 refine L_enter Tryz.func44 rfl Tryz.ntmps44 rfl rfl ?_
 refine W_sr ?_
 refine W_alloc (l := oneC zTone) ty88 rfl rfl (fun b4 => ?_)
 refine W_nil (W_sr ?_)
 refine W_alloc (l := oneC zTone) ty88 rfl rfl (fun b5 => ?_)
 refine W_nil (W_sr ?_)
 refine W_move rfl rfl ?_
 refine W_move rfl rfl ?_
 refine W_makeFunc .nil (.cons rfl .nil) rfl ?_
 refine W_callp (.cons rfl (.cons rfl (.cons rfl .nil))) Tryz.call49 rfl (T := fun _ => True) trivial (with_out hi ) ?_
 refine W_nil (W_sr ?_)
 refine W_loadB (vs := oneC zTone) rfl ty88 rfl (b := b5) zM rfl rfl rfl ?_
 refine W_storeA (l' := oneC zTone) rfl rfl ty88 rfl rfl (b := b4) zM (by exact Nat.le_refl 4) rfl zU ?_
 refine W_nil ?_
 refine W_ret1cO (H2 := H) Tryz.results44 rfl (.nil _) ty88 rfl zM rfl zH ?_
 exact ⟨rfl, rfl⟩
def ofA (As : List Tone) (id : Int) : Tone := if 0 ≤ id ∧ id < 256 then As.getD id.toNat zTone else zTone
theorem ofA_at {As : List Tone} {i : Nat} {o : Tone} (hi : i < 256) (h : As[i]? = some o) : ofA As (i : Int) = o := by
 unfold ofA; rw [if_pos (by omega), show ((i : Nat) : Int).toNat = i by omega, List.getD_eq_getElem?_getD, h]; rfl
theorem ofA_out {As : List Tone} {id : Int} (h : ¬ (0 ≤ id ∧ id < 256)) : ofA As id = zTone := if_neg h
theorem tof_q {w0 : World} {H : Heap} {tb pb bb : Nat} {As : List Tone} (hA : AsOk As) (hm : (tb, .cells 91 1026 (tmRow pb bb As)) ∈ H) {id : Int} : PureAt Tryz.prog w0 H 44 [.pointer (some ⟨tb, 0, none⟩), .int .i64 id] (.agg (oneC (ofA As id)).toArray) := by
 by_cases hi : 0 ≤ id ∧ id < 256
 ·obtain ⟨i, rfl⟩ : ∃ i : Nat, id = (i : Int) := ⟨id.toNat, by omega⟩
  obtain ⟨o, ho⟩ := hA.at (i := i) zO
  rw [ofA_at (by omega) ho]
  exact of_at zO ho hm
 ·rw [ofA_out hi]
  exact (of_out hi).at trivial
theorem Starts_q {w0 : World} {H : Heap} {tb pb bb : Nat} {As : List Tone} (hA : AsOk As) (hm : (tb, .cells 91 1026 (tmRow pb bb As)) ∈ H) {id : Int}  : PureAt Tryz.prog w0 H 14 [.pointer (some ⟨tb, 0, none⟩), .int .i64 id] (.int .i64 (ofA As id).starts) := by
 refine L_enter Tryz.func14 rfl Tryz.ntmps14 rfl rfl ?_
 refine W_sr ?_
 refine W_assign rfl rfl ?_
 refine W_nil (W_sr ?_)
 refine W_move rfl rfl ?_
 refine W_move rfl rfl ?_
 refine W_callq (.cons rfl (.cons rfl .nil)) Tryz.call44 rfl (tof_q (id := id) hA (by repeat (first | exact hm | exact List.mem_cons_self | apply List.mem_cons_of_mem | apply List.mem_append_right))) ?_
 refine W_field rfl fld88_3 rfl rfl ?_
 refine W_assign rfl rfl ?_
 refine W_nil ?_
 refine W_ret1m (H2 := H) Tryz.results14 rfl (.nil _) zH ?_
 exact ⟨rfl, rfl⟩
theorem ofA_rng {As : List Tone} (h : AsOk As) (id : Int) : 0 ≤ (ofA As id).prog ∧ (ofA As id).prog ≤ 16 := by
 by_cases hi : 0 ≤ id ∧ id < 256
 ·obtain ⟨i, rfl⟩ : ∃ i : Nat, id = (i : Int) := ⟨id.toNat, by omega⟩
  obtain ⟨o, ho⟩ := h.at (i := i) zO
  rw [ofA_at (by omega) ho]
  exact h.rng o (List.mem_of_getElem? ho)
 ·rw [ofA_out hi]; decide
theorem Prog_q {w0 : World} {H : Heap} {tb pb bb : Nat} {As : List Tone} (hA : AsOk As) (hm : (tb, .cells 91 1026 (tmRow pb bb As)) ∈ H) {id : Int}  : PureAt Tryz.prog w0 H 21 [.pointer (some ⟨tb, 0, none⟩), .int .i64 id] (.tuple #[.int .i64 (max ((ofA As id).prog - 1) 0), .bool (decide (0 < (ofA As id).prog))]) := by
 have hpr := ofA_rng hA id
 refine L_enter Tryz.func21 rfl Tryz.ntmps21 rfl rfl ?_
 refine W_sr ?_
 refine W_assign rfl rfl ?_
 refine W_assign rfl rfl ?_
 refine W_nil (W_sr ?_)
 refine W_move rfl rfl ?_
 refine W_move rfl rfl ?_
 refine W_callq (.cons rfl (.cons rfl .nil)) Tryz.call44 rfl (tof_q (id := id) hA (by repeat (first | exact hm | exact List.mem_cons_self | apply List.mem_cons_of_mem | apply List.mem_append_right))) ?_
 refine W_alloc (l := oneC zTone) ty88 rfl rfl (fun b6 => ?_)
 refine W_storeA (l' := oneC (ofA As id)) rfl rfl ty88 rfl rfl (b := b6) zM (by exact Nat.le_refl 4) rfl zU ?_
 refine W_nil ?_
 refine W_quietsr zk zK ?_
 refine WQ_x (X_fieldAddr rfl fld88_2 zd) rfl ?_
 refine WQ_x (X_load (v := .int .i64 ((ofA As id)).prog) rfl ty3 rfl (Cell.own (b := b6) zM rfl)) rfl ?_
 refine WQ_x (X_bin rfl rfl (b_sub (m := ((ofA As id)).prog - 1) (i64w zO))) rfl ?_
 refine WQ_x (X_max2 rfl rfl (m := max (((ofA As id)).prog - 1) 0) (by split <;> omega)) rfl ?_
 refine WQ_x (X_fieldAddr rfl fld88_2 zd) rfl ?_
 refine WQ_x (X_load (v := .int .i64 ((ofA As id)).prog) rfl ty3 rfl (Cell.own (b := b6) zM rfl)) rfl ?_
 refine WQ_x (X_bin rfl rfl b_gtr) rfl ?_
 refine WQ_x (X_assign rfl) rfl ?_
 refine WQ_x (X_assign rfl) rfl ?_
 refine WQ_nil ?_
 refine W_ret2m (H2 := H) Tryz.results21 rfl rfl (.nil _) zH ?_
 exact ⟨rfl, rfl⟩
def stateO (Ws : List Wl) (Q : List (Int × Int)) (o : Tone) (id : Int) : Int := if o.shut = true then 4 else if o.made = false then 0 else if (findK Ws id).isSome = true then 2 else if (whQ Q id).isSome = true then 3 else 1
def stateA (Ws : List Wl) (Q : List (Int × Int)) (As : List Tone) (id : Int) : Int := stateO Ws Q (ofA As id) id
theorem State_at {w0 : World} {H : Heap} {tb pb bb n : Nat} {HP HBk : Heap} {Ws : List Wl} {Q Rs : List (Int × Int)} {As : List Tone} (hP : PendH pb n Q Rs HP) (hB : BankH bb Ws HBk) (hn : Ws.length = n ∧ n ≤ 64) (hA : AsOk As) {id : Int}  : LCalls Tryz.prog w0 13 #[.pointer (some ⟨tb, 0, none⟩), .int .i64 id] ((tb, .cells 91 1026 (tmRow pb bb As)) :: (HP ++ (HBk ++ H))) (fun v H' => ∃ HB2, BankH bb Ws HB2 ∧ v = .int .i64 (stateA Ws Q As id) ∧ H' = (tb, .cells 91 1026 (tmRow pb bb As)) :: (HP ++ (HB2 ++ H))) := by
 refine L_enter (l := [.pointer (some ⟨tb, 0, none⟩), .int .i64 id]) Tryz.func13 rfl Tryz.ntmps13 rfl rfl ?_
 refine W_sr ?_
 refine W_assign rfl rfl ?_
 refine W_nil (W_sr ?_)
 refine W_move rfl rfl ?_
 refine W_move rfl rfl ?_
 refine W_callq (.cons rfl (.cons rfl .nil)) Tryz.call44 rfl (tof_q (id := id) hA zM) ?_
 refine W_alloc (l := oneC zTone) ty88 rfl rfl (fun b5 => ?_)
 refine W_storeA (l' := oneC (ofA As id)) rfl rfl ty88 rfl rfl (b := b5) zM (by exact Nat.le_refl 4) rfl zU ?_
 refine W_nil (W_seq ?_)
 refine W_block (W_sr ?_)
 refine W_fieldAddr rfl fld88_1 zd rfl ?_
 refine W_load (v := .bool (ofA As id).shut) rfl ty4 rfl (Cell.own (b := b5) zM rfl) rfl ?_
 refine W_assign rfl rfl ?_
 refine W_nil ?_
 refine W_condPS (p := (ofA As id).shut = true) rfl (by simp) (fun c0 => ?_) (fun c0 => ?_)
 ·skip
  refine W_sr ?_
  refine W_assign rfl rfl ?_
  refine W_nil ?_
  refine W_ret1m (H2 := (tb, .cells 91 1026 (tmRow pb bb As)) :: (HP ++ (HBk ++ H))) Tryz.results13 rfl (.nil _) zH ?_
  exact ⟨HBk, hB, by unfold stateA stateO; rw [if_pos c0], rfl⟩
 ·skip
  refine W_sr ?_
  refine W_fieldAddr rfl fld88_0 zd rfl ?_
  refine W_load (v := .bool (ofA As id).made) rfl ty4 rfl (Cell.own (b := b5) zM rfl) rfl ?_
  refine W_not rfl rfl ?_
  refine W_assign rfl rfl ?_
  refine W_nil ?_
  refine W_condPS (p := (ofA As id).made = false) rfl (by simp) (fun c1 => ?_) (fun c1 => ?_)
  ·skip
   refine W_sr ?_
   refine W_assign rfl rfl ?_
   refine W_nil ?_
   refine W_ret1m (H2 := (tb, .cells 91 1026 (tmRow pb bb As)) :: (HP ++ (HBk ++ H))) Tryz.results13 rfl (.nil _) zH ?_
   exact ⟨HBk, hB, by unfold stateA stateO; rw [if_neg c0, if_pos c1], rfl⟩
  ·skip
   refine W_skip ?_
   refine W_blk ?_
   refine W_seq (W_sr ?_)
   refine W_move rfl rfl ?_
   refine W_nilCheck rfl rfl ?_
   refine W_fieldAddr rfl fld91_1 zd rfl ?_
   refine W_load (v := .pointer (some ⟨bb, 0, none⟩)) rfl ty84 rfl (Cell.own (b := tb) zM rfl) rfl ?_
   refine W_move rfl rfl ?_
   refine W_call (.cons rfl (.cons rfl .nil)) Tryz.call45 rfl ((FindB_L (id := id) hB zO (H := (tb, .cells 91 1026 (tmRow pb bb As)) :: (HP ++ H))).hsub zH) ?_
   rintro v H' ⟨HB2, hB2, rfl, rfl⟩
   rcases hfk : findK Ws id with _ | kf
   ·skip
    rw [show findV Ws id = .tuple #[.int .i64 0, .agg zSpot.v.toArray, .bool false] from by unfold findV; rw [hfk]]
    refine W_move rfl rfl ?_
    refine W_extract rfl rfl rfl ?_
    refine W_extract rfl rfl rfl ?_
    refine W_extract rfl rfl rfl ?_
    refine W_alloc (l := zSpot.v) ty32 rfl rfl (fun b7 => ?_)
    refine W_assign rfl rfl ?_
    refine W_storeA (l' := zSpot.v) rfl rfl ty32 rfl rfl (b := b7) zM (by exact Nat.le_refl 4) rfl zU ?_
    refine W_assign rfl rfl ?_
    refine W_nil (W_sr ?_)
    refine W_move rfl rfl ?_
    refine W_nil ?_
    refine W_condF rfl rfl ?_
    refine W_skip (W_seq (W_sr ?_))
    refine W_move rfl rfl ?_
    refine W_nilCheck rfl rfl ?_
    refine W_fieldAddr rfl fld91_0 zd rfl ?_
    refine W_load (v := .pointer (some ⟨pb, 0, none⟩)) rfl ty81 rfl (Cell.own (b := tb) zM rfl) rfl ?_
    refine W_move rfl rfl ?_
    refine W_call (.cons rfl (.cons rfl .nil)) Tryz.call46 rfl ((Where_L (id := id) hP zO (H := (tb, .cells 91 1026 (tmRow pb bb As)) :: (HB2 ++ H))).hsub zH) ?_
    rintro v H' ⟨rfl, rfl⟩
    rcases hwq : whQ Q id with _ | kq
    ·skip
     rw [show optV none = .tuple #[.int .i64 0, .bool false] from rfl]
     refine W_move rfl rfl ?_
     refine W_extract rfl rfl rfl ?_
     refine W_extract rfl rfl rfl ?_
     refine W_assign rfl rfl ?_
     refine W_assign rfl rfl ?_
     refine W_nil (W_sr ?_)
     refine W_move rfl rfl ?_
     refine W_nil ?_
     refine W_condF rfl rfl ?_
     refine W_skip (W_sr ?_)
     refine W_assign rfl rfl ?_
     refine W_nil ?_
     refine W_ret1m (H2 := (tb, .cells 91 1026 (tmRow pb bb As)) :: (HP ++ (HB2 ++ H))) Tryz.results13 rfl (.nil _) zH ?_
     exact ⟨HB2, hB2, by unfold stateA stateO; rw [if_neg c0, if_neg c1, if_neg (by rw [hfk]; decide), if_neg (by rw [hwq]; decide)], rfl⟩
    ·skip
     rw [show optV (some kq) = .tuple #[.int .i64 kq, .bool true] from rfl]
     refine W_move rfl rfl ?_
     refine W_extract rfl rfl rfl ?_
     refine W_extract rfl rfl rfl ?_
     refine W_assign rfl rfl ?_
     refine W_assign rfl rfl ?_
     refine W_nil (W_sr ?_)
     refine W_move rfl rfl ?_
     refine W_nil ?_
     refine W_condT rfl rfl ?_
     refine W_sr ?_
     refine W_assign rfl rfl ?_
     refine W_nil ?_
     refine W_ret1m (H2 := (tb, .cells 91 1026 (tmRow pb bb As)) :: (HP ++ (HB2 ++ H))) Tryz.results13 rfl (.nil _) zH ?_
     exact ⟨HB2, hB2, by unfold stateA stateO; rw [if_neg c0, if_neg c1, if_neg (by rw [hfk]; decide), if_pos (by rw [hwq]; rfl)], rfl⟩
   ·skip
    obtain ⟨wf, hwf, hfh⟩ := findK_at hfk
    rw [show findV Ws id = .tuple #[.int .i64 (kf : Int), .agg (spotOf wf.L id).v.toArray, .bool true] from by unfold findV; rw [hfk]; dsimp only; rw [hwf]]
    refine W_move rfl rfl ?_
    refine W_extract rfl rfl rfl ?_
    refine W_extract rfl rfl rfl ?_
    refine W_extract rfl rfl rfl ?_
    refine W_alloc (l := zSpot.v) ty32 rfl rfl (fun b7 => ?_)
    refine W_assign rfl rfl ?_
    refine W_storeA (l' := (spotOf wf.L id).v) rfl rfl ty32 rfl rfl (b := b7) zM (by exact Nat.le_refl 4) rfl zU ?_
    refine W_assign rfl rfl ?_
    refine W_nil (W_sr ?_)
    refine W_move rfl rfl ?_
    refine W_nil ?_
    refine W_condT rfl rfl ?_
    refine W_sr ?_
    refine W_assign rfl rfl ?_
    refine W_nil ?_
    refine W_ret1m (H2 := (tb, .cells 91 1026 (tmRow pb bb As)) :: (HP ++ (HB2 ++ H))) Tryz.results13 rfl (.nil _) zH ?_
    exact ⟨HB2, hB2, by unfold stateA stateO; rw [if_neg c0, if_neg c1, if_pos (by rw [hfk]; rfl)], rfl⟩
theorem Spot_at {w0 : World} {H : Heap} {tb pb bb n : Nat} {HP HBk : Heap} {Ws : List Wl} {Q Rs : List (Int × Int)} {As : List Tone} (hP : PendH pb n Q Rs HP) (hB : BankH bb Ws HBk) (hn : Ws.length = n ∧ n ≤ 64) {id : Int}  : LCalls Tryz.prog w0 29 #[.pointer (some ⟨tb, 0, none⟩), .int .i64 id] ((tb, .cells 91 1026 (tmRow pb bb As)) :: (HP ++ (HBk ++ H))) (fun v H' => ∃ HB2, BankH bb Ws HB2 ∧ v = findV Ws id ∧ H' = (tb, .cells 91 1026 (tmRow pb bb As)) :: (HP ++ (HB2 ++ H))) := by
 refine L_enter (l := [.pointer (some ⟨tb, 0, none⟩), .int .i64 id]) Tryz.func29 rfl Tryz.ntmps29 rfl rfl ?_
 refine W_sr ?_
 refine W_assign rfl rfl ?_
 refine W_alloc (l := zSpot.v) ty32 rfl rfl (fun b5 => ?_)
 refine W_assign rfl rfl ?_
 refine W_nil (W_seq (W_sr ?_))
 refine W_move rfl rfl ?_
 refine W_x (X_ptrNil rfl rfl ty25) (fun _ h => by cases h) rfl ?_
 refine W_nil ?_
 refine W_condF rfl rfl ?_
 refine W_skip (W_sr ?_)
 refine W_move rfl rfl ?_
 refine W_nilCheck rfl rfl ?_
 refine W_fieldAddr rfl fld91_1 zd rfl ?_
 refine W_load (v := .pointer (some ⟨bb, 0, none⟩)) rfl ty84 rfl (Cell.own (b := tb) zM rfl) rfl ?_
 refine W_move rfl rfl ?_
 refine W_call (.cons rfl (.cons rfl .nil)) Tryz.call45 rfl ((FindB_L (id := id) hB zO (H := (b5, .cells 32 4 zSpot.v) :: (tb, .cells 91 1026 (tmRow pb bb As)) :: (HP ++ H))).hsub zH) ?_
 rintro v H' ⟨HB2, hB2, rfl, rfl⟩
 rcases hfk : findK Ws id with _ | kf
 ·skip
  rw [show findV Ws id = .tuple #[.int .i64 0, .agg zSpot.v.toArray, .bool false] from by unfold findV; rw [hfk]]
  refine W_extract rfl rfl rfl ?_
  refine W_extract rfl rfl rfl ?_
  refine W_extract rfl rfl rfl ?_
  refine W_assign rfl rfl ?_
  refine W_storeA (l' := zSpot.v) rfl rfl ty32 rfl rfl (b := b5) zM (by exact Nat.le_refl 4) rfl zU ?_
  refine W_assign rfl rfl ?_
  refine W_nil ?_
  refine W_ret3G (H2 := (tb, .cells 91 1026 (tmRow pb bb As)) :: (HP ++ (HB2 ++ H))) Tryz.results29 (.nil _) (.tmp rfl) (.own rfl ty32 rfl zM rfl) (.tmp rfl) zH ?_
  exact ⟨HB2, hB2, rfl, rfl⟩
 ·skip
  obtain ⟨wf, hwf, hfh⟩ := findK_at hfk
  rw [show findV Ws id = .tuple #[.int .i64 (kf : Int), .agg (spotOf wf.L id).v.toArray, .bool true] from by unfold findV; rw [hfk]; dsimp only; rw [hwf]]
  refine W_extract rfl rfl rfl ?_
  refine W_extract rfl rfl rfl ?_
  refine W_extract rfl rfl rfl ?_
  refine W_assign rfl rfl ?_
  refine W_storeA (l' := (spotOf wf.L id).v) rfl rfl ty32 rfl rfl (b := b5) zM (by exact Nat.le_refl 4) rfl zU ?_
  refine W_assign rfl rfl ?_
  refine W_nil ?_
  refine W_ret3G (H2 := (tb, .cells 91 1026 (tmRow pb bb As)) :: (HP ++ (HB2 ++ H))) Tryz.results29 (.nil _) (.tmp rfl) (.own rfl ty32 rfl zM rfl) (.tmp rfl) zH ?_
  exact ⟨HB2, hB2, rfl, rfl⟩
set_option maxRecDepth 100000
theorem tNew_at {w0 : World} {H : Heap} {n now : Nat} (hn : 1 ≤ n ∧ n ≤ 64)  : LCalls Tryz.prog w0 8 #[.int .i64 (n : Int), .int .u64 ((now : Nat) : Int)] (H) (fun v H' => ∃ tb Ws HB, v = .tuple #[.pointer (some ⟨tb, 0, none⟩), .int .i64 0] ∧ TimerH tb n Ws [] [] (List.replicate 256 zTone) HB ∧ Ws.length = n ∧ (∀ w ∈ Ws, FreshW now w) ∧ H' = HB ++ H) := by
 refine L_enter (l := [.int .i64 (n : Int), .int .u64 ((now : Nat) : Int)]) Tryz.func8 rfl Tryz.ntmps8 rfl rfl ?_
 refine W_sr ?_
 refine W_assign rfl rfl ?_
 refine W_assign rfl rfl ?_
 refine W_nil (W_sr ?_)
 refine W_move rfl rfl ?_
 refine W_call (.cons rfl .nil) Tryz.call33 rfl (pNew_L hn) ?_
 rintro v H' ⟨pb, HP, rfl, hP, rfl⟩
 refine W_move rfl rfl ?_
 refine W_extract rfl rfl rfl ?_
 refine W_extract rfl rfl rfl ?_
 refine W_assign rfl rfl ?_
 refine W_assign rfl rfl ?_
 refine W_nil (W_seq (W_sr ?_))
 refine W_move rfl rfl ?_
 refine W_bin rfl rfl b_neq rfl ?_
 refine W_nil ?_
 refine W_condF rfl rfl ?_
 refine W_skip (W_sr ?_)
 refine W_move rfl rfl ?_
 refine W_move rfl rfl ?_
 refine W_call (.cons rfl (.cons rfl .nil)) Tryz.call34 rfl (NewB_L (now := now) hn) ?_
 rintro v H' ⟨bb, Ws, HBk, rfl, hB, hWl, hfr, rfl⟩
 refine W_move rfl rfl ?_
 refine W_extract rfl rfl rfl ?_
 refine W_extract rfl rfl rfl ?_
 refine W_assign rfl rfl ?_
 refine W_assign rfl rfl ?_
 refine W_nil (W_seq (W_sr ?_))
 refine W_move rfl rfl ?_
 refine W_bin rfl rfl b_neq rfl ?_
 refine W_nil ?_
 refine W_condF rfl rfl ?_
 refine W_skip (W_sr ?_)
 refine W_move rfl rfl ?_
 refine W_move rfl rfl ?_
 refine W_build (l := tmRow pb bb (List.replicate 256 zTone)) ty91 pl91 (.cons rfl rfl rfl rfl rfl (.cons rfl rfl rfl rfl rfl .nil)) rfl zk rfl ?_
 refine W_box (l := tmRow pb bb (List.replicate 256 zTone)) rfl rfl rfl (fun b29 => ?_)
 refine W_assign rfl rfl ?_
 refine W_assign rfl rfl ?_
 refine W_nil ?_
 refine W_ret2m (H2 := (b29, .cells 91 1026 (tmRow pb bb (List.replicate 256 zTone))) :: (HP ++ (HBk ++ H))) Tryz.results8 rfl rfl (.nil _) zH ?_
 exact ⟨b29, Ws, (b29, .cells 91 1026 (tmRow pb bb (List.replicate 256 zTone))) :: (HP ++ HBk), rfl, .mk hP hB ⟨List.length_replicate, fun o ho => by rw [List.eq_of_mem_replicate ho]; decide⟩ ⟨hWl, hn.2⟩, hWl, hfr, by show _ = (b29, .cells 91 1026 (tmRow pb bb (List.replicate 256 zTone))) :: ((HP ++ HBk) ++ H); rw [List.append_assoc]⟩
theorem State_L {w0 : World} {H HB : Heap} {tb n : Nat} {Ws : List Wl} {Q Rs : List (Int × Int)} {As : List Tone} (hT : TimerH tb n Ws Q Rs As HB) {id : Int} : LCalls Tryz.prog w0 13 #[.pointer (some ⟨tb, 0, none⟩), .int .i64 id] (HB ++ H) (fun v H' => ∃ HB', TimerH tb n Ws Q Rs As HB' ∧ v = .int .i64 (stateA Ws Q As id) ∧ H' = HB' ++ H) := by
 cases hT with
 | @mk pb bb HP HBk hP hB hA hn =>
  show LCalls _ _ _ _ ((tb, .cells 91 1026 (tmRow pb bb As)) :: ((HP ++ HBk) ++ H)) _
  rw [List.append_assoc]
  refine (State_at (H := H) hP hB hn hA).mono ?_
  rintro v H' ⟨HB2, hB2, rfl, rfl⟩
  exact ⟨_, .mk hP hB2 hA hn, rfl, by show _ = (tb, .cells 91 1026 (tmRow pb bb As)) :: ((HP ++ HB2) ++ H); rw [List.append_assoc]⟩
theorem Spot_L {w0 : World} {H HB : Heap} {tb n : Nat} {Ws : List Wl} {Q Rs : List (Int × Int)} {As : List Tone} (hT : TimerH tb n Ws Q Rs As HB) {id : Int} : LCalls Tryz.prog w0 29 #[.pointer (some ⟨tb, 0, none⟩), .int .i64 id] (HB ++ H) (fun v H' => ∃ HB', TimerH tb n Ws Q Rs As HB' ∧ v = findV Ws id ∧ H' = HB' ++ H) := by
 cases hT with
 | @mk pb bb HP HBk hP hB hA hn =>
  show LCalls _ _ _ _ ((tb, .cells 91 1026 (tmRow pb bb As)) :: ((HP ++ HBk) ++ H)) _
  rw [List.append_assoc]
  refine (Spot_at (H := H) hP hB hn).mono ?_
  rintro v H' ⟨HB2, hB2, rfl, rfl⟩
  exact ⟨_, .mk hP hB2 hA hn, rfl, by show _ = (tb, .cells 91 1026 (tmRow pb bb As)) :: ((HP ++ HB2) ++ H); rw [List.append_assoc]⟩
theorem tEnd_L {w0 : World} {H HB : Heap} {tb n : Nat} {Ws : List Wl} {Q Rs : List (Int × Int)} {As : List Tone} (hT : TimerH tb n Ws Q Rs As HB) {c : Int} : LCalls Tryz.prog w0 18 #[.pointer (some ⟨tb, 0, none⟩), .int .i64 c] (HB ++ H) (fun v H' => ∃ HB', TimerH tb n Ws Q (endQ Rs c).1 As HB' ∧ v = .tuple #[.int .i64 (endQ Rs c).2.1, .int .i64 (endQ Rs c).2.2] ∧ H' = HB' ++ H) := by
 cases hT with
 | @mk pb bb HP HBk hP hB hA hn =>
  show LCalls _ _ _ _ ((tb, .cells 91 1026 (tmRow pb bb As)) :: ((HP ++ HBk) ++ H)) _
  rw [List.append_assoc]
  refine (tEnd_at (H := H) hP hB hn).mono ?_
  rintro v H' ⟨HP2, hP2, rfl, rfl⟩
  exact ⟨_, .mk hP2 hB hA hn, rfl, by show _ = (tb, .cells 91 1026 (tmRow pb bb As)) :: ((HP2 ++ HBk) ++ H); rw [List.append_assoc]⟩
def begV (n : Nat) (Q Rs : List (Int × Int)) (As : List Tone) (cpu c : Int) : Value := if (begQ n Q Rs cpu c).2.2.2 = 0 then .tuple #[.int .i64 (begQ n Q Rs cpu c).2.2.1, .int .i64 ((progOf As (begQ n Q Rs cpu c).2.2.1)), .int .i64 0] else .tuple #[.int .i64 0, .int .i64 0, .int .i64 (begQ n Q Rs cpu c).2.2.2]
theorem tBegin_L {w0 : World} {H HB : Heap} {tb n : Nat} {Ws : List Wl} {Q Rs : List (Int × Int)} {As : List Tone} (hT : TimerH tb n Ws Q Rs As HB) {cpu c : Int} : LCalls Tryz.prog w0 17 #[.pointer (some ⟨tb, 0, none⟩), .int .i64 cpu, .int .i64 c] (HB ++ H) (fun v H' => ∃ HB', TimerH tb n Ws (begQ n Q Rs cpu c).1 (begQ n Q Rs cpu c).2.1 As HB' ∧ v = begV n Q Rs As cpu c ∧ H' = HB' ++ H) := by
 cases hT with
 | @mk pb bb HP HBk hP hB hA hn =>
  show LCalls _ _ _ _ ((tb, .cells 91 1026 (tmRow pb bb As)) :: ((HP ++ HBk) ++ H)) _
  rw [List.append_assoc]
  refine (tBegin_at (H := H) hP hB hn hA).mono ?_
  rintro v H' ⟨HP2, hP2, hv, rfl⟩
  exact ⟨_, .mk hP2 hB hA hn, hv, by show _ = (tb, .cells 91 1026 (tmRow pb bb As)) :: ((HP2 ++ HBk) ++ H); rw [List.append_assoc]⟩
theorem tReady_q {w0 : World} {H HB : Heap} {tb n : Nat} {Ws : List Wl} {Q Rs : List (Int × Int)} {As : List Tone} (hT : TimerH tb n Ws Q Rs As HB) (hm : ∀ p ∈ HB, p ∈ H) {cpu : Int} : PureAt Tryz.prog w0 H 24 [.pointer (some ⟨tb, 0, none⟩), .int .i64 cpu] (.tuple #[.int .i64 (rdyQ Q Rs cpu).1, .bool (rdyQ Q Rs cpu).2]) := by
 cases hT with
 | @mk pb bb HP HBk hP hB hA hn => exact tReady_at (bb := bb) (As := As) hP hn hm
theorem tRuns_q {w0 : World} {H HB : Heap} {tb n : Nat} {Ws : List Wl} {Q Rs : List (Int × Int)} {As : List Tone} (hT : TimerH tb n Ws Q Rs As HB) (hm : ∀ p ∈ HB, p ∈ H) {id : Int} : PureAt Tryz.prog w0 H 26 [.pointer (some ⟨tb, 0, none⟩), .int .i64 id] (optV (inR Rs id)) := by
 cases hT with
 | @mk pb bb HP HBk hP hB hA hn => exact tRuns_at (bb := bb) (As := As) hP hn hm
theorem tProg_q {w0 : World} {H HB : Heap} {tb n : Nat} {Ws : List Wl} {Q Rs : List (Int × Int)} {As : List Tone} (hT : TimerH tb n Ws Q Rs As HB) (hm : ∀ p ∈ HB, p ∈ H) {id : Int} : PureAt Tryz.prog w0 H 21 [.pointer (some ⟨tb, 0, none⟩), .int .i64 id] (.tuple #[.int .i64 (max ((ofA As id).prog - 1) 0), .bool (decide (0 < (ofA As id).prog))]) := by
 cases hT with
 | @mk pb bb HP HBk hP hB hA hn => exact Prog_q hA (hm _ List.mem_cons_self)
theorem tStarts_q {w0 : World} {H HB : Heap} {tb n : Nat} {Ws : List Wl} {Q Rs : List (Int × Int)} {As : List Tone} (hT : TimerH tb n Ws Q Rs As HB) (hm : ∀ p ∈ HB, p ∈ H) {id : Int} : PureAt Tryz.prog w0 H 14 [.pointer (some ⟨tb, 0, none⟩), .int .i64 id] (.int .i64 (ofA As id).starts) := by
 cases hT with
 | @mk pb bb HP HBk hP hB hA hn => exact Starts_q hA (hm _ List.mem_cons_self)
theorem findK_isSome {Ws : List Wl} {id : Int} {k : Nat} {w : Wl} (h : Ws[k]? = some w) (hh : heldB w.L id = true) : (findK Ws id).isSome = true := by
  cases hf : findK Ws id with
  | some _ => rfl
  | none => exact absurd (heldB_iff.1 hh) (findK_no hf (List.mem_of_getElem? h))
theorem findK_noneOf {Ws : List Wl} {id : Int} (h : ∀ w ∈ Ws, heldB w.L id = false) : findK Ws id = none :=
  findK_none (fun j u _ hu => h u (List.mem_of_getElem? hu))
theorem heldB_del (L : List Tm) (id : Int) : heldB (delT L id) id = false := by
  cases h : heldB (delT L id) id with
  | false => rfl
  | true =>
    obtain ⟨t, ht, e⟩ := List.mem_map.1 (heldB_iff.1 h)
    exact absurd e (of_decide_eq_true (List.mem_filter.1 ht).2)
theorem findK_del (Ws : List Wl) (id : Int) : findK (Ws.map (delW [id])) id = none := findK_noneOf fun w hw => by
  obtain ⟨u, hu, rfl⟩ := List.mem_map.1 hw
  exact heldB_del u.L id
theorem start_ok {n i k a : Nat} {Ws Ws' : List Wl} {Q Q' : List (Int × Int)} {As As' : List Tone} {o : Tone} {w : Wl} {s : Spot} {e : Int} (h : StartIs n Ws Q As (i : Int) (k : Int) a Ws' Q' As' s e) (hl : Ws.length = n) (hi : i < 256) (hA : As[i]? = some o) (hw : Ws[k]? = some w) (hs : o.shut = false) (hm : o.made = true) (hp : ¬ o.prog = 0) (hn : w.now < 18446744073709551615) :
    e = 0 ∧ s = (placeT w.now a).1 ∧ Ws' = (Ws.map (delW [(i : Int)])).set k ⟨w.bw, w.now, delT w.L (i : Int) ++ [tmOf w.now a w.turn (i : Int)], w.turn + 1⟩ ∧ Q' = delQ Q (i : Int) ∧ As' = As.set i { o with starts := o.starts + 1 } := by
  have hkl := (List.getElem?_eq_some_iff.1 hw).1
  generalize hid : (i : Int) = id at h ⊢
  generalize hcp : (k : Int) = cpu at h
  cases h with
  | out h => exact absurd h zO
  | @at_ i2 k2 o2 w2 _ _ _ _ _ hi2 ei ek hA2 hw2 hM =>
    subst hid hcp
    obtain rfl : i2 = i := by omega
    obtain rfl : k2 = k := by omega
    obtain rfl : o2 = o := Option.some.inj (hA2.symm.trans hA)
    obtain rfl : w2 = w := Option.some.inj (hw2.symm.trans hw)
    cases hM with
    | gone h => rw [hs] at h; cases h
    | unset _ h => rcases h with h | h
                   · rw [hm] at h; cases h
                   · exact absurd h hp
    | late _ _ h => omega
    | put _ _ _ hp =>
      obtain ⟨e1, e2, e3⟩ := hp.ok_of (k := k2) (w := delW [(i2 : Int)] w2) rfl (by rw [List.getElem?_map, hw]; rfl) (findK_del Ws _) (by omega) hn
      exact ⟨e3, e2, e1, rfl, rfl⟩
theorem delsQ_one (Q : List (Int × Int)) (z : Int) : delsQ Q [z] = (delQ Q z, if (whQ Q z).isSome = true then 1 else 0) := by
  unfold delsQ
  show (delQ Q z, 0 + _) = _
  rw [Nat.zero_add]
theorem wasT_is {Ws : List Wl} (hU : UniS (stW Ws)) (Q : List (Int × Int)) (z : Int) : wasT Ws Q z = ((findK Ws z).isSome || (whQ Q z).isSome) := by
  unfold wasT
  rw [cnt_find hU, findS_stW, delsQ_one]
  cases (findK Ws z).isSome <;> cases (whQ Q z).isSome <;> rfl
theorem gone_all {now nw : Nat} {L Li O : List Tm} {t : Tm} (h : Gone now nw L Li O) (hL : L = [t]) (hd : t.s.due ≤ nw) : Li = [] ∧ O = [t] := by
  subst hL
  refine ⟨?_, ?_⟩
  · rw [h.left, List.filter_cons_of_neg (by simpa using hd)]; rfl
  · have hp := h.perm
    rw [List.filter_cons_of_pos (by simpa using hd)] at hp
    exact List.perm_singleton.1 hp
theorem catch_at {Ws Ws' : List Wl} {k a : Nat} {O : List Tm} {w : Wl} (h : CatchIs Ws (k : Int) a Ws' O) (hw : Ws[k]? = some w) : ∃ Li, Gone w.now (max w.now a) w.L Li O ∧ Ws' = Ws.set k ⟨w.bw, max w.now a, Li, w.turn⟩ := by
  rcases h with ⟨h, _, _⟩ | ⟨k2, w2, Li, e, hk, hG, hW⟩
  · unfold wlAt at h
    rw [if_pos (by omega), show ((k : Nat) : Int).toNat = k by omega, hw] at h
    cases h
  · obtain rfl : k = k2 := by omega
    obtain rfl := Option.some.inj (hk.symm.trans hw)
    exact ⟨Li, hG, hW⟩
theorem tok0 {now : Nat} {Ws : List Wl} (hn : now ≤ 18446744073709551615) (hf : ∀ w ∈ Ws, FreshW now w) : TOk 0 Ws (List.replicate 256 zTone) := ⟨BOk.start hn hf, fun o ho => by rw [List.eq_of_mem_replicate ho]; decide⟩
theorem TOk.onA {T : Nat} {Ws : List Wl} {As : List Tone} {f : Tone → Tone × Int} (h : TOk T Ws As) (hf : ∀ o, (f o).1.starts = o.starts) (id : Int) : TOk T Ws (onA f As id).1 := by
  refine ⟨h.bank, fun o ho => ?_⟩
  unfold Go.Proofs.YtcmfldfeakmdoaaGreatDoor.onA at ho
  split at ho
  · split at ho
    · rename_i x hx
      rcases List.mem_or_eq_of_mem_set ho with ho | rfl
      · exact h.starts o ho
      · rw [hf]; exact h.starts x (List.mem_of_getElem? hx)
    · exact h.starts o ho
  · exact h.starts o ho
theorem initO_starts (o : Tone) : (initO o).1.starts = o.starts := by unfold initO; split; rfl; split <;> rfl
theorem setO_starts (p : Int) (o : Tone) : (setO p o).1.starts = o.starts := by unfold setO; split; rfl; split <;> rfl
theorem TOk.setA {T : Nat} {Ws : List Wl} {As : List Tone} (h : TOk T Ws As) (id prog : Int) : TOk T Ws (setA As id prog).1 := by
  unfold Go.Proofs.YtcmfldfeakmdoaaGreatDoor.setA
  split
  · exact h.onA (setO_starts prog) id
  · exact h
theorem tknown_pure  : Pure Tryz.prog (Tab) 12 [] (.bool true) := by
 intro w0 H hT
 obtain ⟨A0, hA0⟩ : ∃ A, A = List.replicate 256 zTone := ⟨_, rfl⟩
 have hz : A0[5]? = some zTone := by rw [hA0, List.getElem?_replicate]; rfl
 obtain ⟨A1, hA1e⟩ : ∃ A, A = A0.set 5 (⟨true, false, 0, 0⟩ : Tone) := ⟨_, rfl⟩
 have hA1 : A1[5]? = some (⟨true, false, 0, 0⟩ : Tone) := by rw [hA1e, List.getElem?_set_self (List.getElem?_eq_some_iff.1 hz).1]
 have e1 : onA initO A0 5 = (A1, 0) := by rw [hA1e]; exact onA_at (i := 5) (by decide) hz
 obtain ⟨A2, hA2e⟩ : ∃ A, A = A1.set 5 (⟨true, false, 4, 0⟩ : Tone) := ⟨_, rfl⟩
 have hA2 : A2[5]? = some (⟨true, false, 4, 0⟩ : Tone) := by rw [hA2e, List.getElem?_set_self (List.getElem?_eq_some_iff.1 hA1).1]
 have e2 : setA A1 5 3 = (A2, 0) := by unfold setA; rw [if_pos (by decide), hA2e]; exact onA_at (i := 5) (by decide) hA1
 refine L_enter Tryz.func12 rfl Tryz.ntmps12 rfl rfl ?_
 refine W_sr ?_
 refine W_assign rfl rfl ?_
 refine W_nil (W_sr ?_)
 refine W_call (.cons rfl (.cons rfl .nil)) Tryz.call8 rfl (tNew_at (n := 2) (now := 0) zd) ?_
 rintro v H' ⟨tb, Ws0, HB0, rfl, hT0, hWl, hfr, rfl⟩
 have hO0 := (tok0 (now := 0) zd hfr)
 rw [← hA0] at hT0 hO0
 have hO1 := hO0.onA initO_starts 5
 rw [e1] at hO1
 have hO2 := hO1.setA 5 3
 rw [e2] at hO2
 obtain ⟨w0_, hw0⟩ : ∃ w, Ws0[0]? = some w := ⟨_, List.getElem?_eq_getElem zO⟩
 obtain ⟨w1, hw1⟩ : ∃ w, Ws0[1]? = some w := ⟨_, List.getElem?_eq_getElem zO⟩
 obtain ⟨n0, l0, t0⟩ := hfr w0_ (List.mem_of_getElem? hw0)
 obtain ⟨n1, l1, t1⟩ := hfr w1 (List.mem_of_getElem? hw1)
 refine W_move rfl rfl ?_
 refine W_extract rfl rfl rfl ?_
 refine W_extract rfl rfl rfl ?_
 refine W_assign rfl rfl ?_
 refine W_assign rfl rfl ?_
 refine W_nil (W_seq (W_sr ?_))
 refine W_move rfl rfl ?_
 refine W_bin rfl rfl b_neq rfl ?_
 refine W_move rfl rfl ?_
 refine W_gyes rfl rfl ?_
 refine W_move rfl rfl ?_
 refine W_gyes rfl rfl ?_
 refine W_call (.cons rfl (.cons rfl .nil)) Tryz.call9 rfl ((Init_L hT0 (id := 5) (H := H)).hsub zH) ?_
 rintro v H' ⟨HB1, hT1, rfl, rfl⟩
 rw [e1] at hT1 ⊢
 refine W_gyes rfl rfl ?_
 refine W_bin rfl rfl b_neq rfl ?_
 first | refine W_pickt rfl rfl rfl ?_ | refine W_pickf rfl rfl rfl ?_
 refine W_move rfl rfl ?_
 refine W_gyes rfl rfl ?_
 refine W_move rfl rfl ?_
 refine W_gyes rfl rfl ?_
 refine W_call (.cons rfl (.cons rfl (.cons rfl .nil))) Tryz.call10 rfl ((Set_L hT1 (id := 5) (prog := 3) (H := H)).hsub zH) ?_
 rintro v H' ⟨HB2, hT2, rfl, rfl⟩
 rw [e2] at hT2 ⊢
 refine W_gyes rfl rfl ?_
 refine W_bin rfl rfl b_neq rfl ?_
 first | refine W_pickt rfl rfl rfl ?_ | refine W_pickf rfl rfl rfl ?_
 refine W_nil ?_
 refine W_condF rfl rfl ?_
 refine W_skip (W_sr ?_)
 refine W_move rfl rfl ?_
 refine W_call (.cons rfl (.cons rfl (.cons rfl (.cons rfl .nil)))) Tryz.call11 rfl ((Start_L hT2 hO2 zd (id := 5) (cpu := 1) (a := 10) zd (H := H)).hsub zH) ?_
 rintro v H' ⟨W1, Q1, A3, s1, x1, HB3, hS1, hT3, hO3, rfl, rfl⟩
 obtain ⟨rfl, rfl, hW1, rfl, hA3e⟩ := start_ok (i := 5) (k := 1) hS1 hWl (by decide) hA2 hw1 rfl rfl (by decide) (by rw [n1]; decide)
 have hA3 : A3[5]? = some (⟨true, false, 4, 1⟩ : Tone) := by rw [hA3e, List.getElem?_set_self (List.getElem?_eq_some_iff.1 hA2).1]; rfl
 have hW1a : W1[1]? = some ⟨w1.bw, w1.now, delT w1.L (5 : Nat) ++ [tmOf w1.now 10 w1.turn (5 : Nat)], w1.turn + 1⟩ := by rw [hW1, List.getElem?_set_self (by rw [List.length_map]; omega)]
 have ho3 : ofA A3 5 = (⟨true, false, 4, 1⟩ : Tone) := ofA_at (i := 5) zd hA3
 have es1 : ∀ Q, stateA W1 Q A3 5 = 2 := fun Q => by
  unfold stateA
  rw [ho3]
  unfold stateO
  rw [if_neg (by decide), if_neg (by decide), if_pos (findK_isSome hW1a (heldB_iff.2 (by simp)))]
 refine W_move rfl rfl ?_
 refine W_extract rfl rfl rfl ?_
 refine W_extract rfl rfl rfl ?_
 refine W_alloc (l := zSpot.v) ty32 rfl rfl (fun b3 => ?_)
 refine W_storeA (l' := (placeT w1.now 10).1.v) rfl rfl ty32 rfl rfl (b := b3) zM (by exact Nat.le_refl 4) rfl zU ?_
 refine W_assign rfl rfl ?_
 refine W_nil (W_seq (W_sr ?_))
 refine W_move rfl rfl ?_
 refine W_bin rfl rfl b_neq rfl ?_
 refine W_move rfl rfl ?_
 refine W_gyes rfl rfl ?_
 refine W_move rfl rfl ?_
 refine W_gyes rfl rfl ?_
 refine W_call (.cons rfl (.cons rfl .nil)) Tryz.call13 rfl ((State_L hT3 (id := 5) (H := (b3, .cells 32 4 (placeT w1.now 10).1.v) :: H)).hsub zH) ?_
 rintro v H' ⟨HB4, hT4, rfl, rfl⟩
 rw [es1]
 refine W_gyes rfl rfl ?_
 refine W_bin rfl rfl b_neq rfl ?_
 first | refine W_pickt rfl rfl rfl ?_ | refine W_pickf rfl rfl rfl ?_
 refine W_move rfl rfl ?_
 refine W_gyes rfl rfl ?_
 refine W_move rfl rfl ?_
 refine W_gyes rfl rfl ?_
 refine W_call (.cons rfl (.cons rfl (.cons rfl .nil))) Tryz.call15 rfl ((Catch_L hT4 hO3 hT (cpu := 1) (a := 10) zd (H := (b3, .cells 32 4 (placeT w1.now 10).1.v) :: H)).hsub zH) ?_
 rintro v H' ⟨W2, O, XO, HB5, hC, hT5, hO5, hOO, hol, rfl⟩
 obtain ⟨Li, hG, hW2⟩ := catch_at (k := 1) hC hW1a
 dsimp only at hG hW2
 obtain ⟨rfl, rfl⟩ := gone_all hG (t := tmOf w1.now 10 w1.turn (5 : Nat)) (by rw [l1]; rfl) (by rw [n1]; show (placeT 0 10).1.due ≤ max 0 10; decide +kernel)
 obtain ⟨ado, capo, rfl, hoc, _, hro⟩ := Holds.of_own (w0 := w0) (H := XO ++ []) hOO (fun p hp => List.mem_append_left _ hp)
 have hemp : ∀ w ∈ W2, heldB w.L 5 = false := fun w hw => by
  rw [hW2, hW1, List.set_set] at hw
  rcases List.mem_or_eq_of_mem_set hw with hw | rfl
  ·obtain ⟨u, hu, rfl⟩ := List.mem_map.1 hw
   exact heldB_del u.L 5
  ·rfl
 have eq5 : addsQ 2 (delQ [] (5 : Nat)) 1 (List.map (·.id) [tmOf w1.now 10 w1.turn (5 : Nat)]) = ([(5, 1)], 0) := by show addsQ 2 [] 1 [5] = _; decide
 rw [eq5] at hT5
 have es2 : stateA W2 [(5, 1)] A3 5 = 3 := by
  unfold stateA
  rw [ho3]
  unfold stateO
  rw [if_neg (by decide), if_neg (by decide), if_neg (by rw [findK_noneOf hemp]; decide), if_pos (by decide)]
 have hW20 : W2[0]? = some (delW [(5 : Nat)] w0_) := by rw [hW2, hW1, List.set_set, List.getElem?_set_ne (by decide), List.getElem?_map, hw0]; rfl
 have hW2l : W2.length = 2 := by rw [hW2, hW1, List.set_set, List.length_set, List.length_map, hWl]
 have ebq : begQ 2 [(5, 1)] [] 1 4 = ([], [(5, 4)], 5, 0) := by decide
 have eb : begV 2 [(5, 1)] [] A3 1 4 = .tuple #[.int .i64 5, .int .i64 3, .int .i64 0] := by
  unfold begV
  rw [ebq, if_pos rfl, show progOf A3 5 = _ from progOf_at (i := 5) hA3]; rfl
 refine W_gyes rfl rfl ?_
 refine W_buildSlice (l := [.int .i64 5]) ty24 ty3 (.cons rfl rfl rfl rfl rfl .nil) rfl rfl rfl rfl rfl rfl rfl (fun b45 => ?_)
 refine W_gyes rfl rfl ?_
 refine W_callq (.cons rfl (.cons rfl .nil)) Tryz.call43 rfl (same_q (l := [5]) (r := [5]) (c1 := capo) (hro.up zH) (Holds.own (b := b45) zM) zd) ?_
 rw [decide_eq_true rfl]
 refine W_gyes rfl rfl ?_
 refine W_not rfl rfl ?_
 first | refine W_pickt rfl rfl rfl ?_ | refine W_pickf rfl rfl rfl ?_
 refine W_move rfl rfl ?_
 refine W_gyes rfl rfl ?_
 refine W_move rfl rfl ?_
 refine W_gyes rfl rfl ?_
 refine W_call (.cons rfl (.cons rfl .nil)) Tryz.call13 rfl ((State_L hT5 (id := 5) (H := (b3, .cells 32 4 (placeT w1.now 10).1.v) :: H)).hsub zH) ?_
 rintro v H' ⟨HB6, hT6, rfl, rfl⟩
 rw [es2]
 refine W_gyes rfl rfl ?_
 refine W_bin rfl rfl b_neq rfl ?_
 first | refine W_pickt rfl rfl rfl ?_ | refine W_pickf rfl rfl rfl ?_
 refine W_nil ?_
 refine W_condF rfl rfl ?_
 refine W_skip (W_sr ?_)
 refine W_move rfl rfl ?_
 refine W_call (.cons rfl (.cons rfl (.cons rfl .nil))) Tryz.call17 rfl ((tBegin_L hT6 (cpu := 1) (c := 4) (H := (b3, .cells 32 4 (placeT w1.now 10).1.v) :: H)).hsub zH) ?_
 rintro v H' ⟨HB7, hT7, rfl, rfl⟩
 rw [ebq] at hT7
 rw [eb]
 refine W_move rfl rfl ?_
 refine W_extract rfl rfl rfl ?_
 refine W_extract rfl rfl rfl ?_
 refine W_extract rfl rfl rfl ?_
 refine W_assign rfl rfl ?_
 refine W_assign rfl rfl ?_
 refine W_assign rfl rfl ?_
 refine W_nil (W_sr ?_)
 refine W_move rfl rfl ?_
 refine W_call (.cons rfl (.cons rfl (.cons rfl (.cons rfl .nil)))) Tryz.call11 rfl ((Start_L hT7 hO5 zd (id := 5) (cpu := 0) (a := 20) zd (H := (b3, .cells 32 4 (placeT w1.now 10).1.v) :: H)).hsub zH) ?_
 rintro v H' ⟨W3, Q3, A4, s2, x2, HB8, hS2, hT8, hO8, rfl, rfl⟩
 obtain ⟨rfl, rfl, hW3, rfl, hA4e⟩ := start_ok (i := 5) (k := 0) hS2 hW2l (by decide) hA3 hW20 rfl rfl (by decide) (by show w0_.now < _; rw [n0]; decide)
 have hA4 : A4[5]? = some (⟨true, false, 4, 2⟩ : Tone) := by rw [hA4e, List.getElem?_set_self (List.getElem?_eq_some_iff.1 hA3).1]; rfl
 have hW3a : (findK W3 5).isSome = true := by
  rw [hW3]
  exact findK_isSome (List.getElem?_set_self (by rw [List.length_map, hW2l]; decide)) (heldB_iff.2 (by simp))
 have ep : stopA W3 (delQ [] (5 : Nat)) A4 5 = (W3.map (delW [5]), delQ (delQ [] (5 : Nat)) 5, true, 0) := by
  refine (stopA_at (i := 5) zd hA4).trans ?_
  unfold stopM
  rw [if_pos rfl, wasT_is hO8.bank.uni]
  show (_, _, (findK W3 5).isSome || _, _) = _
  rw [hW3a]; rfl
 refine W_move rfl rfl ?_
 refine W_extract rfl rfl rfl ?_
 refine W_extract rfl rfl rfl ?_
 refine W_alloc (l := zSpot.v) ty32 rfl rfl (fun b8 => ?_)
 refine W_storeA (l' := (placeT (delW [(5 : Nat)] w0_).now 20).1.v) rfl rfl ty32 rfl rfl (b := b8) zM (by exact Nat.le_refl 4) rfl zU ?_
 refine W_assign rfl rfl ?_
 refine W_nil (W_sr ?_)
 refine W_move rfl rfl ?_
 refine W_call (.cons rfl (.cons rfl .nil)) Tryz.call16 rfl ((Stop_L hT8 (id := 5) (H := (b8, .cells 32 4 (placeT (delW [(5 : Nat)] w0_).now 20).1.v) :: (b3, .cells 32 4 (placeT w1.now 10).1.v) :: H)).hsub zH) ?_
 rintro v H' ⟨HB9, hT9, rfl, rfl⟩
 rw [ep] at hT9 ⊢
 refine W_move rfl rfl ?_
 refine W_extract rfl rfl rfl ?_
 refine W_extract rfl rfl rfl ?_
 refine W_assign rfl rfl ?_
 refine W_assign rfl rfl ?_
 refine W_nil (W_sr ?_)
 refine W_move rfl rfl ?_
 refine W_call (.cons rfl (.cons rfl .nil)) Tryz.call18 rfl ((tEnd_L hT9 (c := 4) (H := (b8, .cells 32 4 (placeT (delW [(5 : Nat)] w0_).now 20).1.v) :: (b3, .cells 32 4 (placeT w1.now 10).1.v) :: H)).hsub zH) ?_
 rintro v H' ⟨HB10, hT10, rfl, rfl⟩
 rw [show endQ [(5, 4)] 4 = ([], 5, 0) from by decide]
 refine W_move rfl rfl ?_
 refine W_extract rfl rfl rfl ?_
 refine W_extract rfl rfl rfl ?_
 refine W_assign rfl rfl ?_
 refine W_assign rfl rfl ?_
 refine W_nil (W_sr ?_)
 refine W_move rfl rfl ?_
 refine W_bin rfl rfl b_eql rfl ?_
 refine W_move rfl rfl ?_
 refine W_gyes rfl rfl ?_
 refine W_move rfl rfl ?_
 refine W_gyes rfl rfl ?_
 refine W_bin rfl rfl b_eql rfl ?_
 first | refine W_pickt rfl rfl rfl ?_ | refine W_pickf rfl rfl rfl ?_
 refine W_move rfl rfl ?_
 refine W_gyes rfl rfl ?_
 refine W_move rfl rfl ?_
 refine W_gyes rfl rfl ?_
 refine W_bin rfl rfl b_eql rfl ?_
 first | refine W_pickt rfl rfl rfl ?_ | refine W_pickf rfl rfl rfl ?_
 refine W_move rfl rfl ?_
 refine W_gyes rfl rfl ?_
 refine W_move rfl rfl ?_
 refine W_gyes rfl rfl ?_
 refine W_bin rfl rfl b_eql rfl ?_
 first | refine W_pickt rfl rfl rfl ?_ | refine W_pickf rfl rfl rfl ?_
 refine W_move rfl rfl ?_
 refine W_gyes rfl rfl ?_
 refine W_move rfl rfl ?_
 first | refine W_pickt rfl rfl rfl ?_ | refine W_pickf rfl rfl rfl ?_
 refine W_move rfl rfl ?_
 refine W_gyes rfl rfl ?_
 refine W_move rfl rfl ?_
 refine W_gyes rfl rfl ?_
 refine W_bin rfl rfl b_eql rfl ?_
 first | refine W_pickt rfl rfl rfl ?_ | refine W_pickf rfl rfl rfl ?_
 refine W_assign rfl rfl ?_
 refine W_nil ?_
 refine W_ret1m (H2 := H) Tryz.results12 rfl (.nil _) zH ?_
 exact ⟨rfl, rfl⟩
end Go.Proofs.YtcmfldfeakmdoaaGreatDoor
namespace Go.Proofs.YtcmfldfeakmdoaaGreatDoor
open Go Go.Sl Go.ChangeShapes Go.WideShapes Go.ChangeAt Go.RowKit
set_option maxRecDepth 100000
theorem own : ownKnob Tryz.prog.godebug = none := by kernel_rfl
theorem kids : Kids Tryz.prog (· < Tryz.prog.types.size) := kids_rows zk zk
theorem full : ∀ t e, t < Tryz.prog.types.size → Tryz.prog.underlying t = some (.slice e) → 0 < Tryz.prog.cellsOf e := slices_full_of Tryz.prog zk
theorem u4 : Tryz.prog.underlying 4 = some .bool := by kernel_rfl
theorem u3 : Tryz.prog.underlying 3 = some (.int .i64) := by kernel_rfl
theorem u22 : Tryz.prog.underlying 22 = some (.int .u64) := by kernel_rfl
theorem u235 : Tryz.prog.underlying 235 = some (.array 64 5) := by kernel_rfl
theorem u5 : Tryz.prog.underlying 5 = some (.int .u8) := by kernel_rfl
theorem gDz : Tryz.prog.globalNamed "math/bits.deBruijn64tab" = some 0 := by kernel_rfl
theorem tDz : (Tryz.prog.globals[0]?).map (·.type) = some 235 := by kernel_rfl
abbrev laidL : List (String × DataW Unit) := [("math/bits.deBruijn64tab", Rows.laid_math_bits_deBruijn64tab)]
theorem tab_laid {W : World} (h : laidMetH Tryz.prog laidL W) : Tab W := fun j hj => by
 have h1 : Lib.TabIs Tryz.prog W "math/bits.deBruijn64tab" .u8 (Lib.deBruijn64tab.map fun z : Nat => (z : Int)) := Lib.tabIs_of_head (rest := []) gDz tDz u235 u5 zk zk (show laidMet Tryz.prog laidL W from h)
 have h2 := h1.cell gDz j (by rw [List.length_map]; exact hj)
 rw [h2]
 rw [List.getD_eq_getElem?_getD, List.getD_eq_getElem?_getD, List.getElem?_map]
 cases Lib.deBruijn64tab[j]? <;> rfl
noncomputable def laidWorld (os : Os) : World :=
 let w0 := World.holding Tryz.prog os ⟨#[], #[], []⟩
 let put (h : Array Obj) (g : Nat) (cs : Array Value) : Array Obj := h.modify g fun
  | .cells _ t frozen => .cells cs t frozen
  | o => o
 { w0 with heap := put w0.heap 0 (Lib.deBruijn64tab.map fun z : Nat => Value.int .u8 (z : Int)).toArray }
theorem laid_met (os : Os) (args : Array Value) : laidMet Tryz.prog laidL ((laidWorld os).forCall (fun _ _ => 0) ⟨#[], args, []⟩).memory :=
 laidMet_of_run' 8 zk zk
set_option maxRecDepth 100000
theorem modW_is (y : Int) {N : Nat} (hN : 0 < N) : ∃ c : Nat, c < N ∧ (IntKind.u64.wrap y).tmod (N : Int) = (c : Int) := by
 have e : IntKind.u64.wrap y = y % 18446744073709551616 := by simp [IntKind.wrap, IntKind.signed, IntKind.bits]
 have h0 : 0 ≤ y % 18446744073709551616 := Int.emod_nonneg _ zd
 have h1 : 0 ≤ (IntKind.u64.wrap y).tmod (N : Int) := Int.tmod_nonneg _ zO
 have h2 : (IntKind.u64.wrap y).tmod (N : Int) < (N : Int) := Int.tmod_lt_of_pos _ zO
 exact ⟨((IntKind.u64.wrap y).tmod (N : Int)).toNat, by omega, by omega⟩
theorem TimerH.len {tb n : Nat} {Ws : List Wl} {Q Rs : List (Int × Int)} {As : List Tone} {HB : Heap} (h : TimerH tb n Ws Q Rs As HB) : Ws.length = n ∧ n ≤ 64 := by cases h; assumption
set_option maxRecDepth 100000
structure Tct where
 kind : Int
 id : Int
 cpu : Int
 n : Int
 at_ : Int
deriving DecidableEq
def tcC (v : Tct) : List Value := [.int .i64 v.kind, .int .i64 v.id, .int .i64 v.cpu, .int .i64 v.n, .int .u64 v.at_]
instance : Inhabited Tct := ⟨⟨0, 0, 0, 0, 0⟩⟩
def Tct.In (v : Tct) : Prop := (-9223372036854775808 ≤ v.kind ∧ v.kind ≤ 9223372036854775807) ∧ (-9223372036854775808 ≤ v.id ∧ v.id ≤ 9223372036854775807) ∧ (-9223372036854775808 ≤ v.cpu ∧ v.cpu ≤ 9223372036854775807) ∧ (-9223372036854775808 ≤ v.n ∧ v.n ≤ 9223372036854775807) ∧ (0 ≤ v.at_ ∧ v.at_ ≤ 18446744073709551615)
theorem tcC_len (v : Tct) : (tcC v).length = 5 := rfl
theorem tcC_of {cs : List Value} (h : Leafs [.int .i64, .int .i64, .int .i64, .int .i64, .int .u64] cs) : ∃ v : Tct, cs = tcC v ∧ v.In := by
 obtain ⟨a0, c0, rfl, ⟨m0, rfl, e0⟩, h0⟩ := leafs_cons h
 obtain ⟨a1, c1, rfl, ⟨m1, rfl, e1⟩, h1⟩ := leafs_cons h0
 obtain ⟨a2, c2, rfl, ⟨m2, rfl, e2⟩, h2⟩ := leafs_cons h1
 obtain ⟨a3, c3, rfl, ⟨m3, rfl, e3⟩, h3⟩ := leafs_cons h2
 obtain ⟨a4, c4, rfl, ⟨m4, rfl, e4⟩, h4⟩ := leafs_cons h3
 obtain rfl := leafs_nil h4
 exact ⟨⟨m0, m1, m2, m3, m4⟩, rfl, ⟨e0, e1, e2, e3, e4⟩⟩
theorem flat45 : Flat Tryz.prog 1 45 [.int .i64, .int .i64, .int .i64, .int .i64, .int .u64] := (Flat.struct ty45 zk zk (.cons (ks := [.int .i64]) zd rfl zk (Flat.leaf (k := .int .i64) ty3) (.cons (ks := [.int .i64]) zd rfl zk (Flat.leaf (k := .int .i64) ty3) (.cons (ks := [.int .i64]) zd rfl zk (Flat.leaf (k := .int .i64) ty3) (.cons (ks := [.int .i64]) zd rfl zk (Flat.leaf (k := .int .i64) ty3) (.cons (ks := [.int .u64]) zd rfl zk (Flat.leaf (k := .int .u64) ty22) .nil))))))
theorem ce45 : Tryz.prog.cellsOf 45 = 5 := by kernel_rfl
abbrev tcRow (l : List Tct) : List Value := l.flatMap tcC
end Go.Proofs.YtcmfldfeakmdoaaGreatDoor
