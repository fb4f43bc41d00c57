/-
  Own work: contracts of functions that the statement reaches, and plain facts on what they compute; each theorem says its conditions.
-/
import Derived.Test.YtcmfldfeakmdoaaGreatDoorToT6
import Derived.Test.YtcmfldfeakmdoaaGreatDoorToS2
import Derived.Test.YtcmfldfeakmdoaaGreatDoorToS1
import Derived.Lib.LaidTab
import Derived.Lib.LaidIn
import Derived.Stop.LaidErr
import Derived.Test.YtcmfldfeakmdoaaGreatDoorCards
import Derived.Test.YtcmfldfeakmdoaaGreatDoorTie
import Derived.ChangeKeysEq
import Derived.Test.YtcmfldfeakmdoaaGreatDoorToA
set_option linter.all false
set_option linter.unusedSimpArgs false
set_option linter.unusedVariables false
namespace Go.Proofs.YtcmfldfeakmdoaaGreatDoor
open Go Go.Sl
attribute [local irreducible] W
def shutA (s : List Wl × List (Int × Int) × List Tone × Nat) (id : Int) : List Wl × List (Int × Int) × List Tone × Nat := if 0 ≤ id ∧ id < 256 then (match s.2.2.1[id.toNat]? with
  | some o => if o.shut = true then s else (s.1.map (delW [id]), delQ s.2.1 id, s.2.2.1.set id.toNat { o with shut := true }, s.2.2.2 + 1)
  | none => s) else s
def shutsA (Ws : List Wl) (Q : List (Int × Int)) (As : List Tone) (ids : List Int) : List Wl × List (Int × Int) × List Tone × Nat := ids.foldl shutA (Ws, Q, As, 0)
theorem shutsA_at {Ws : List Wl} {Q : List (Int × Int)} {As : List Tone} {ids : List Int} {i : Nat} {z : Int} (h : ids[i]? = some z) : shutsA Ws Q As (ids.take (i + 1)) = shutA (shutsA Ws Q As (ids.take i)) z := by
  unfold shutsA; rw [takeAt h, List.foldl_append]; rfl
theorem shutA_out {s : List Wl × List (Int × Int) × List Tone × Nat} {id : Int} (h : ¬ (0 ≤ id ∧ id < 256)) : shutA s id = s := if_neg h
theorem shutA_at {s : List Wl × List (Int × Int) × List Tone × Nat} {i : Nat} {o : Tone} (hi : i < 256) (h : s.2.2.1[i]? = some o) : shutA s (i : Int) = if o.shut = true then s else (s.1.map (delW [(i : Int)]), delQ s.2.1 (i : Int), s.2.2.1.set i { o with shut := true }, s.2.2.2 + 1) := by
  unfold shutA; rw [if_pos (by omega), show ((i : Nat) : Int).toNat = i by omega, h]
theorem shut_ways {As : List Tone} (hA : AsOk As) (z : Int) : ¬ (0 ≤ z ∧ z < 256) ∨ (∃ j o, z = ((j : Nat) : Int) ∧ j < 256 ∧ As[j]? = some o ∧ o.shut = true) ∨ (∃ j o, z = ((j : Nat) : Int) ∧ j < 256 ∧ As[j]? = some o ∧ o.shut = false) := by
  by_cases hi : 0 ≤ z ∧ z < 256
  · obtain ⟨j, rfl⟩ : ∃ j : Nat, z = (j : Int) := ⟨z.toNat, by omega⟩
    obtain ⟨o, ho⟩ := hA.at (i := j) (by omega)
    cases hs : o.shut with
    | true => exact .inr (.inl ⟨j, o, rfl, by omega, ho, hs⟩)
    | false => exact .inr (.inr ⟨j, o, rfl, by omega, ho, hs⟩)
  · exact .inl hi
structure ShS where
  i : Nat
  Ws : List Wl
  Q : List (Int × Int)
  As : List Tone
  c : Nat
  HP : Heap
  HB : Heap
set_option maxHeartbeats 1000000 in
theorem shut1_L {w0 : World} {H : Heap} {tb pb bb n : Nat} {HP HBk : Heap} {Ws : List Wl} {Q Rs : List (Int × Int)} {As : List Tone} (hP : PendH pb n Q Rs HP) (hB : BankH bb Ws HBk) (hn : Ws.length = n ∧ n ≤ 64) {i : Nat} {o : Tone} {z : Int} (hA : As[i]? = some o) {b2 b7 : Nat}  : LCalls Tryz.prog w0 54 #[.pointer (some ⟨tb, 2 + i * 4, none⟩), .pointer (some ⟨b2, 0, none⟩), .pointer (some ⟨b7, 0, none⟩)] ((b2, .cells 25 1 [.pointer (some ⟨tb, 0, none⟩)]) :: (b7, .cells 3 1 [.int .i64 z]) :: (tb, .cells 91 1026 (tmRow pb bb As)) :: (HP ++ (HBk ++ H))) (fun v H' => ∃ HP2 HB2, PendH pb n (delQ Q z) Rs HP2 ∧ BankH bb (Ws.map (delW [z])) HB2 ∧ v = .int .i64 0 ∧ H' = (b2, .cells 25 1 [.pointer (some ⟨tb, 0, none⟩)]) :: (b7, .cells 3 1 [.int .i64 z]) :: (tb, .cells 91 1026 (tmRow pb bb (As.set i { o with shut := true }))) :: (HP2 ++ (HB2 ++ H))) := by
  refine L_enter (l := [.pointer (some ⟨tb, 2 + i * 4, none⟩), .pointer (some ⟨b2, 0, none⟩), .pointer (some ⟨b7, 0, none⟩)]) Tryz.func54 rfl Tryz.ntmps54 rfl rfl ?_
  refine W_sr ?_
  refine W_assign rfl rfl ?_
  refine W_nil ?_
  refine W_sr ?_
  refine W_load (v := .pointer (some ⟨tb, 0, none⟩)) rfl ty25 rfl (Cell.own (b := b2) zM rfl) rfl ?_
  refine W_load (v := .int .i64 z) rfl ty3 rfl (Cell.own (b := b7) zM rfl) rfl ?_
  refine W_call (.cons rfl (.cons rfl .nil)) Tryz.call41 rfl ((take_L (z := z) hP hB hn (As := As) (H := (b2, .cells 25 1 [.pointer (some ⟨tb, 0, none⟩)]) :: (b7, .cells 3 1 [.int .i64 z]) :: H)).hsub zH) ?_
  rintro v H' ⟨HP2, HB2, hP2, hB2, rfl, rfl⟩
  refine W_nil ?_
  refine W_sr ?_
  refine W_move rfl rfl ?_
  refine W_nilCheck rfl rfl ?_
  refine W_fieldAddr rfl fld88_1 (by decide) rfl ?_
  refine W_store (l' := tmRow pb bb (As.set i { o with shut := true })) rfl rfl ty4 rfl rfl (b := tb) zM (tm_lt hA (by decide)) (tm_set1 hA) zU ?_
  refine W_nil ?_
  refine W_sr ?_
  refine W_assign rfl rfl ?_
  refine W_nil ?_
  refine W_ret1m (H2 := (b2, .cells 25 1 [.pointer (some ⟨tb, 0, none⟩)]) :: (b7, .cells 3 1 [.int .i64 z]) :: (tb, .cells 91 1026 (tmRow pb bb (As.set i { o with shut := true }))) :: (HP2 ++ (HB2 ++ H))) Tryz.results54 rfl (.nil _) zH ?_
  exact ⟨HP2, HB2, hP2, hB2, rfl, rfl⟩
set_option maxHeartbeats 4000000 in
theorem Shut_at {w0 : World} {H : Heap} {tb pb bb n : Nat} {HP HBk : Heap} {Ws : List Wl} {Q Rs : List (Int × Int)} {As : List Tone} (hP : PendH pb n Q Rs HP) (hB : BankH bb Ws HBk) (hn : Ws.length = n ∧ n ≤ 64) (hA : AsOk As) {ids : List Int} {ad : Option Addr} {cap : Nat} (hil : ids.length ≤ 1000000) (hrow : Holds w0 H ad (ids.map (Value.int .i64)))  : LCalls Tryz.prog w0 19 #[.pointer (some ⟨tb, 0, none⟩), .slice ad ids.length cap] ((tb, .cells 91 1026 (tmRow pb bb As)) :: (HP ++ (HBk ++ H))) (fun v H' => ∃ HP2 HB2, PendH pb n (shutsA Ws Q As ids).2.1 Rs HP2 ∧ BankH bb (shutsA Ws Q As ids).1 HB2 ∧ AsOk (shutsA Ws Q As ids).2.2.1 ∧ (shutsA Ws Q As ids).1.length = n ∧ v = .int .i64 ((shutsA Ws Q As ids).2.2.2 : Nat) ∧ H' = (tb, .cells 91 1026 (tmRow pb bb (shutsA Ws Q As ids).2.2.1)) :: (HP2 ++ (HB2 ++ H))) := by
  refine L_enter (l := [.pointer (some ⟨tb, 0, none⟩), .slice ad ids.length cap]) Tryz.func19 rfl Tryz.ntmps19 rfl rfl ?_
  refine W_sr ?_
  refine W_box (l := [.pointer (some ⟨tb, 0, none⟩)]) rfl rfl rfl (fun b2 => ?_)
  refine W_assign rfl rfl ?_
  refine W_nil ?_
  refine W_sr ?_
  refine W_assign rfl rfl ?_
  refine W_nil ?_
  refine W_seq ?_
  refine W_sr ?_
  refine W_move rfl rfl ?_
  refine W_len rfl ty24 rfl rfl ?_
  refine W_move rfl rfl ?_
  refine W_nil ?_
  refine W_block ?_
  refine W_loopC (X := ShS) [(2, _), (9, _), (10, _)] (fun (x : ShS) => [(5, .int .i64 (x.c : Int)), (11, .int .i64 (x.i : Int))]) (fun _ => _) (fun (x : ShS) => (b2, .cells 25 1 [.pointer (some ⟨tb, 0, none⟩)]) :: (tb, .cells 91 1026 (tmRow pb bb x.As)) :: (x.HP ++ (x.HB ++ H))) (fun (x : ShS) => x.i ≤ ids.length ∧ PendH pb n x.Q Rs x.HP ∧ BankH bb x.Ws x.HB ∧ (x.Ws.length = n ∧ n ≤ 64) ∧ AsOk x.As ∧ shutsA Ws Q As (ids.take x.i) = (x.Ws, x.Q, x.As, x.c) ∧ x.c ≤ x.i) (fun (x : ShS) => ids.length - x.i) ⟨0, Ws, Q, As, 0, HP, HBk⟩ ⟨Nat.zero_le _, hP, hB, hn, hA, rfl, Nat.le_refl _⟩ (sub_cons rfl (sub_cons rfl (sub_cons rfl (sub_nil _)))) (sub_cons rfl (sub_cons rfl (sub_nil _))) rfl zH ?_
  rintro ⟨i, Ws1, Q1, As1, c1, HP1, HB1⟩ ⟨hil, hP1, hB1, hn1, hA1, hsh, hci⟩
  dsimp only at hil hP1 hB1 hn1 hA1 hsh hci ⊢
  simp only [List.cons_append, List.nil_append]
  refine W_sr ?_
  refine W_bin rfl rfl b_lss rfl ?_
  refine W_nil ?_
  refine W_seq ?_
  refine W_condPS (p := (i : Int) < (ids.length : Int)) rfl (by simp) (fun q0 => ?_) (fun q0 => ?_)
  · skip
    refine W_skip ?_
    refine W_seq ?_
    refine W_block ?_
    refine W_sr ?_
    obtain ⟨z, hz⟩ : ∃ z, ids[i]? = some z := ⟨_, List.getElem?_eq_getElem (by omega)⟩
    obtain ⟨q0, p0, rfl, hcz⟩ := hrow.at (i := i) (v := .int .i64 z) (by rw [List.getElem?_map, hz]; rfl)
    refine W_indexAddr (j := i) rfl rfl ty24 ty3 rfl (by omega) rfl rfl ?_
    refine W_load (v := .int .i64 z) rfl ty3 rfl (by rw [Nat.mul_one]; exact hcz.up zH) rfl ?_
    refine W_alloc (l := [.int .i64 0]) ty3 rfl rfl (fun b7 => ?_)
    refine W_store (l' := [.int .i64 z]) rfl rfl ty3 rfl rfl (b := b7) zM rfl rfl zU ?_
    refine W_nil ?_
    refine W_sr ?_
    refine W_load (v := .pointer (some ⟨tb, 0, none⟩)) rfl ty25 rfl (Cell.own (b := b2) zM rfl) rfl ?_
    refine W_load (v := .int .i64 z) rfl ty3 rfl (Cell.own (b := b7) zM rfl) rfl ?_
    refine W_makeFunc .nil (.cons rfl (.cons rfl .nil)) rfl ?_
    rcases shut_ways hA1 z with hi | ⟨j, o, rfl, hj, ho, hs⟩ | ⟨j, o, rfl, hj, ho, hs⟩
    · skip
      refine W_callp (.cons rfl (.cons rfl (.cons rfl .nil))) Tryz.call35 rfl (T := fun _ => True) trivial (open_out hi) ?_
      refine W_assign rfl rfl ?_
      refine W_nil ?_
      refine W_sr ?_
      refine W_move rfl rfl ?_
      refine W_bin rfl rfl b_eql rfl ?_
      refine W_nil ?_
      refine W_condF rfl rfl ?_
      refine W_skip ?_
      refine W_blk ?_
      refine W_region ?_
      refine W_bin rfl rfl (b_add (m := ((i + 1 : Nat) : Int)) (by rw [i64w (by omega)]; omega)) rfl ?_
      refine W_move rfl rfl ?_
      refine W_nil ?_
      refine W_again ⟨i + 1, Ws1, Q1, As1, c1, HP1, HB1⟩ ⟨by show i + 1 ≤ _; omega, hP1, hB1, hn1, hA1, by rw [shutsA_at hz, hsh, shutA_out hi], by show c1 ≤ i + 1; omega⟩ (by show ids.length - (i + 1) < ids.length - i; omega) (sub_cons rfl (sub_cons rfl (sub_cons rfl (sub_cons rfl (sub_cons rfl (sub_nil _)))))) rfl zH
    · skip
      refine W_call (.cons rfl (.cons rfl (.cons rfl .nil))) Tryz.call35 rfl ((open_gone (ca := [.pointer (some ⟨b2, 0, none⟩), .pointer (some ⟨b7, 0, none⟩)]) (H := (b2, .cells 25 1 [.pointer (some ⟨tb, 0, none⟩)]) :: (b7, .cells 3 1 [.int .i64 (j : Int)]) :: (tb, .cells 91 1026 (tmRow pb bb As1)) :: (HP1 ++ (HB1 ++ H))) hj ho zM hs).hsub zH) ?_
      rintro v H' ⟨rfl, rfl⟩
      refine W_assign rfl rfl ?_
      refine W_nil ?_
      refine W_sr ?_
      refine W_move rfl rfl ?_
      refine W_bin rfl rfl b_eql rfl ?_
      refine W_nil ?_
      refine W_condF rfl rfl ?_
      refine W_skip ?_
      refine W_blk ?_
      refine W_region ?_
      refine W_bin rfl rfl (b_add (m := ((i + 1 : Nat) : Int)) (by rw [i64w (by omega)]; omega)) rfl ?_
      refine W_move rfl rfl ?_
      refine W_nil ?_
      refine W_again ⟨i + 1, Ws1, Q1, As1, c1, HP1, HB1⟩ ⟨by show i + 1 ≤ _; omega, hP1, hB1, hn1, hA1, by rw [shutsA_at hz, hsh, shutA_at hj ho, if_pos hs], by show c1 ≤ i + 1; omega⟩ (by show ids.length - (i + 1) < ids.length - i; omega) (sub_cons rfl (sub_cons rfl (sub_cons rfl (sub_cons rfl (sub_cons rfl (sub_nil _)))))) rfl zH
    · skip
      refine W_call (.cons rfl (.cons rfl (.cons rfl .nil))) Tryz.call35 rfl ((open_in (ca := [.pointer (some ⟨b2, 0, none⟩), .pointer (some ⟨b7, 0, none⟩)]) Tryz.call54 hj ho zM hs (shut1_L (z := (j : Int)) (b2 := b2) (b7 := b7) hP1 hB1 hn1 ho (H := H)) (by rintro v H2 ⟨_, _, _, _, e, _⟩; exact ⟨_, e⟩)).hsub zH) ?_
      rintro v H' ⟨HP2, HB2, hP2, hB2, rfl, rfl⟩
      refine W_assign rfl rfl ?_
      refine W_nil ?_
      refine W_sr ?_
      refine W_move rfl rfl ?_
      refine W_bin rfl rfl b_eql rfl ?_
      refine W_nil ?_
      refine W_condT rfl rfl ?_
      refine W_region ?_
      refine W_move rfl rfl ?_
      refine W_bin rfl rfl (b_add (m := ((c1 + 1 : Nat) : Int)) (by rw [i64w (by omega)]; omega)) rfl ?_
      refine W_assign rfl rfl ?_
      refine W_nil ?_
      refine W_blk ?_
      refine W_region ?_
      refine W_bin rfl rfl (b_add (m := ((i + 1 : Nat) : Int)) (by rw [i64w (by omega)]; omega)) rfl ?_
      refine W_move rfl rfl ?_
      refine W_nil ?_
      refine W_again ⟨i + 1, Ws1.map (delW [(j : Int)]), delQ Q1 (j : Int), As1.set j { o with shut := true }, c1 + 1, HP2, HB2⟩ ⟨by show i + 1 ≤ _; omega, hP2, hB2, ⟨by show (Ws1.map _).length = n; rw [List.length_map]; exact hn1.1, hn1.2⟩, hA1.set j (o := { o with shut := true }) (hA1.rng o (List.mem_of_getElem? ho)), by rw [shutsA_at hz, hsh, shutA_at hj ho, if_neg (by rw [hs]; decide)], by show c1 + 1 ≤ i + 1; omega⟩ (by show ids.length - (i + 1) < ids.length - i; omega) (sub_cons rfl (sub_cons rfl (sub_cons rfl (sub_cons rfl (sub_cons rfl (sub_nil _)))))) rfl zH
  · skip
    refine W_exit rfl ?_
    refine W_sr ?_
    refine W_move rfl rfl ?_
    refine W_assign rfl rfl ?_
    refine W_nil ?_
    refine W_ret1m (H2 := (tb, .cells 91 1026 (tmRow pb bb As1)) :: (HP1 ++ (HB1 ++ H))) Tryz.results19 rfl (.nil _) zH ?_
    obtain rfl : i = ids.length := by omega
    rw [List.take_length] at hsh
    rw [hsh]
    exact ⟨HP1, HB1, hP1, hB1, hA1, hn1.1, rfl, rfl⟩
theorem shutsA_tok {T : Nat} {Ws : List Wl} {Q : List (Int × Int)} {As : List Tone} (ids : List Int) (h : TOk T Ws As) : TOk T (shutsA Ws Q As ids).1 (shutsA Ws Q As ids).2.2.1 := by
  have key : ∀ (ids : List Int) (s : List Wl × List (Int × Int) × List Tone × Nat), TOk T s.1 s.2.2.1 → TOk T (ids.foldl shutA s).1 (ids.foldl shutA s).2.2.1 := fun ids => by
    induction ids with
    | nil => intro s hs; exact hs
    | cons z ids ih =>
      intro s hs
      refine ih _ ?_
      unfold shutA
      split
      · split
        · split
          · exact hs
          · rename_i o ho _
            refine ⟨hs.bank.del z, fun x hx => ?_⟩
            rcases List.mem_or_eq_of_mem_set hx with hx | rfl
            · exact hs.starts x hx
            · exact hs.starts o (List.mem_of_getElem? ho)
        · exact hs
      · exact hs
  exact key ids _ h
theorem Shut_L {w0 : World} {H HB : Heap} {tb n T : Nat} {Ws : List Wl} {Q Rs : List (Int × Int)} {As : List Tone} (hT : TimerH tb n Ws Q Rs As HB) (hO : TOk T Ws As) {ids : List Int} {ad : Option Addr} {cap : Nat} (hil : ids.length ≤ 1000000) (hrow : Holds w0 H ad (ids.map (Value.int .i64))) :
    LCalls Tryz.prog w0 19 #[.pointer (some ⟨tb, 0, none⟩), .slice ad ids.length cap] (HB ++ H) (fun v H' => ∃ HB', TimerH tb n (shutsA Ws Q As ids).1 (shutsA Ws Q As ids).2.1 Rs (shutsA Ws Q As ids).2.2.1 HB' ∧ TOk T (shutsA Ws Q As ids).1 (shutsA Ws Q As ids).2.2.1 ∧ v = .int .i64 ((shutsA Ws Q As ids).2.2.2 : Nat) ∧ H' = HB' ++ H) := by
  cases hT with
  | @mk pb bb HP HBk hP hB hA hn =>
    show LCalls _ _ _ _ ((tb, .cells 91 1026 (tmRow pb bb As)) :: ((HP ++ HBk) ++ H)) _
    rw [List.append_assoc]
    refine (Shut_at (H := H) hP hB hn hA hil hrow).mono ?_
    rintro v H' ⟨HP2, HB2, hP2, hB2, hA2, hl2, rfl, rfl⟩
    exact ⟨_, .mk hP2 hB2 hA2 ⟨hl2, hn.2⟩, shutsA_tok ids hO, rfl, by show _ = (tb, .cells 91 1026 (tmRow pb bb (shutsA Ws Q As ids).2.2.1)) :: ((HP2 ++ HB2) ++ H); rw [List.append_assoc]⟩
end Go.Proofs.YtcmfldfeakmdoaaGreatDoor
namespace Go.Proofs.YtcmfldfeakmdoaaGreatDoor
open Go Go.Sl
attribute [local irreducible] W
set_option maxHeartbeats 1000000 in
theorem of1_L {w0 : World} {H : Heap} {tb pb bb i : Nat} {As : List Tone} {o : Tone} (hA : As[i]? = some o) (hm : (tb, .cells 91 1026 (tmRow pb bb As)) ∈ H) {b5 : Nat}  : LCalls Tryz.prog w0 80 #[.pointer (some ⟨tb, 2 + i * 4, none⟩), .pointer (some ⟨b5, 0, none⟩)] ((b5, .cells 88 4 (oneC zTone)) :: H) (fun v H' => v = .int .i64 0 ∧ H' = (b5, .cells 88 4 (oneC o)) :: H) := by
  refine L_enter (l := [.pointer (some ⟨tb, 2 + i * 4, none⟩), .pointer (some ⟨b5, 0, none⟩)]) Tryz.func80 rfl Tryz.ntmps80 rfl rfl ?_
  refine W_sr ?_
  refine W_assign rfl rfl ?_
  refine W_nil ?_
  refine W_sr ?_
  refine W_move rfl rfl ?_
  refine W_nilCheck rfl rfl ?_
  refine W_loadB (vs := oneC o) rfl ty88 rfl (b := tb) (List.mem_cons_of_mem _ hm) (by show Nat.ble (2 + i * 4 + 4) (tmRow pb bb As).length = true; rw [tm_len, Nat.ble_eq]; have := (List.getElem?_eq_some_iff.1 hA).1; omega) (tm_load hA) rfl ?_
  refine W_storeA (l' := oneC o) rfl rfl ty88 rfl rfl (b := b5) zM (by exact Nat.le_refl 4) rfl zU ?_
  refine W_nil ?_
  refine W_sr ?_
  refine W_assign rfl rfl ?_
  refine W_nil ?_
  refine W_ret1m (H2 := (b5, .cells 88 4 (oneC o)) :: H) Tryz.results80 rfl (.nil _) zH ?_
  exact ⟨rfl, rfl⟩
set_option maxHeartbeats 1000000 in
theorem of_at {w0 : World} {H : Heap} {tb pb bb i : Nat} {As : List Tone} {o : Tone} (hi : i < 256) (hA : As[i]? = some o) (hm : (tb, .cells 91 1026 (tmRow pb bb As)) ∈ H)  : PureAt Tryz.prog w0 H 44 [.pointer (some ⟨tb, 0, none⟩), .int .i64 (i : Int)] (.agg (oneC o).toArray) := by
  refine L_enter Tryz.func44 rfl Tryz.ntmps44 rfl rfl ?_
  refine W_sr ?_
  refine W_alloc (l := oneC zTone) ty88 rfl rfl (fun b4 => ?_)
  refine W_nil ?_
  refine W_sr ?_
  refine W_alloc (l := oneC zTone) ty88 rfl rfl (fun b5 => ?_)
  refine W_nil ?_
  refine W_sr ?_
  refine W_move rfl rfl ?_
  refine W_move rfl rfl ?_
  refine W_makeFunc .nil (.cons rfl .nil) rfl ?_
  refine W_call (.cons rfl (.cons rfl (.cons rfl .nil))) Tryz.call49 rfl ((with_in (i := i) (fi := 80) (ca := [.pointer (some ⟨b5, 0, none⟩)]) Tryz.call80 hi (of1_L (b5 := b5) hA (by repeat (first | exact hm | exact List.mem_cons_self | apply List.mem_cons_of_mem | apply List.mem_append_right)) (H := (b4, .cells 88 4 (oneC zTone)) :: H)) ?_).hsub zH) ?_
  · rintro v H2 ⟨e, _⟩
    exact ⟨_, e⟩
  rintro v H' ⟨rfl, rfl⟩
  refine W_nil ?_
  refine W_sr ?_
  refine W_loadB (vs := oneC o) rfl ty88 rfl (b := b5) zM rfl rfl rfl ?_
  refine W_storeA (l' := oneC o) rfl rfl ty88 rfl rfl (b := b4) zM (by exact Nat.le_refl 4) rfl zU ?_
  refine W_nil ?_
  refine W_ret1cO (H2 := H) Tryz.results44 rfl (.nil _) ty88 rfl zM rfl zH ?_
  exact ⟨rfl, rfl⟩
set_option maxHeartbeats 1000000 in
theorem of_out {tb : Nat} {id : Int} (hi : ¬ (0 ≤ id ∧ id < 256)) : Pure Tryz.prog (fun _ => True) 44 [.pointer (some ⟨tb, 0, none⟩), .int .i64 id] (.agg (oneC zTone).toArray) := by
  intro w0 H hT
  refine L_enter Tryz.func44 rfl Tryz.ntmps44 rfl rfl ?_
  refine W_sr ?_
  refine W_alloc (l := oneC zTone) ty88 rfl rfl (fun b4 => ?_)
  refine W_nil ?_
  refine W_sr ?_
  refine W_alloc (l := oneC zTone) ty88 rfl rfl (fun b5 => ?_)
  refine W_nil ?_
  refine W_sr ?_
  refine W_move rfl rfl ?_
  refine W_move rfl rfl ?_
  refine W_makeFunc .nil (.cons rfl .nil) rfl ?_
  refine W_callp (.cons rfl (.cons rfl (.cons rfl .nil))) Tryz.call49 rfl (T := fun _ => True) trivial (with_out hi ) ?_
  refine W_nil ?_
  refine W_sr ?_
  refine W_loadB (vs := oneC zTone) rfl ty88 rfl (b := b5) zM rfl rfl rfl ?_
  refine W_storeA (l' := oneC zTone) rfl rfl ty88 rfl rfl (b := b4) zM (by exact Nat.le_refl 4) rfl zU ?_
  refine W_nil ?_
  refine W_ret1cO (H2 := H) Tryz.results44 rfl (.nil _) ty88 rfl zM rfl zH ?_
  exact ⟨rfl, rfl⟩
def ofA (As : List Tone) (id : Int) : Tone := if 0 ≤ id ∧ id < 256 then As.getD id.toNat zTone else zTone
theorem ofA_at {As : List Tone} {i : Nat} {o : Tone} (hi : i < 256) (h : As[i]? = some o) : ofA As (i : Int) = o := by
  unfold ofA; rw [if_pos (by omega), show ((i : Nat) : Int).toNat = i by omega, List.getD_eq_getElem?_getD, h]; rfl
theorem ofA_out {As : List Tone} {id : Int} (h : ¬ (0 ≤ id ∧ id < 256)) : ofA As id = zTone := if_neg h
theorem tof_q {w0 : World} {H : Heap} {tb pb bb : Nat} {As : List Tone} (hA : AsOk As) (hm : (tb, .cells 91 1026 (tmRow pb bb As)) ∈ H) {id : Int} : PureAt Tryz.prog w0 H 44 [.pointer (some ⟨tb, 0, none⟩), .int .i64 id] (.agg (oneC (ofA As id)).toArray) := by
  by_cases hi : 0 ≤ id ∧ id < 256
  · obtain ⟨i, rfl⟩ : ∃ i : Nat, id = (i : Int) := ⟨id.toNat, by omega⟩
    obtain ⟨o, ho⟩ := hA.at (i := i) (by omega)
    rw [ofA_at (by omega) ho]
    exact of_at (by omega) ho hm
  · rw [ofA_out hi]
    exact (of_out hi).at trivial
end Go.Proofs.YtcmfldfeakmdoaaGreatDoor
namespace Go.Proofs.YtcmfldfeakmdoaaGreatDoor
open Go Go.Sl
attribute [local irreducible] W
def stateO (Ws : List Wl) (Q : List (Int × Int)) (o : Tone) (id : Int) : Int := if o.shut = true then 4 else if o.made = false then 0 else if (findK Ws id).isSome = true then 2 else if (whQ Q id).isSome = true then 3 else 1
def stateA (Ws : List Wl) (Q : List (Int × Int)) (As : List Tone) (id : Int) : Int := stateO Ws Q (ofA As id) id
set_option maxHeartbeats 2000000 in
theorem State_at {w0 : World} {H : Heap} {tb pb bb n : Nat} {HP HBk : Heap} {Ws : List Wl} {Q Rs : List (Int × Int)} {As : List Tone} (hP : PendH pb n Q Rs HP) (hB : BankH bb Ws HBk) (hn : Ws.length = n ∧ n ≤ 64) (hA : AsOk As) {id : Int}  : LCalls Tryz.prog w0 13 #[.pointer (some ⟨tb, 0, none⟩), .int .i64 id] ((tb, .cells 91 1026 (tmRow pb bb As)) :: (HP ++ (HBk ++ H))) (fun v H' => ∃ HB2, BankH bb Ws HB2 ∧ v = .int .i64 (stateA Ws Q As id) ∧ H' = (tb, .cells 91 1026 (tmRow pb bb As)) :: (HP ++ (HB2 ++ H))) := by
  refine L_enter (l := [.pointer (some ⟨tb, 0, none⟩), .int .i64 id]) Tryz.func13 rfl Tryz.ntmps13 rfl rfl ?_
  refine W_sr ?_
  refine W_assign rfl rfl ?_
  refine W_nil ?_
  refine W_sr ?_
  refine W_move rfl rfl ?_
  refine W_move rfl rfl ?_
  refine W_callq (.cons rfl (.cons rfl .nil)) Tryz.call44 rfl (tof_q (id := id) hA zM) ?_
  refine W_alloc (l := oneC zTone) ty88 rfl rfl (fun b5 => ?_)
  refine W_storeA (l' := oneC (ofA As id)) rfl rfl ty88 rfl rfl (b := b5) zM (by exact Nat.le_refl 4) rfl zU ?_
  refine W_nil ?_
  refine W_seq ?_
  refine W_block ?_
  refine W_sr ?_
  refine W_fieldAddr rfl fld88_1 (by decide) rfl ?_
  refine W_load (v := .bool (ofA As id).shut) rfl ty4 rfl (Cell.own (b := b5) zM rfl) rfl ?_
  refine W_assign rfl rfl ?_
  refine W_nil ?_
  refine W_condPS (p := (ofA As id).shut = true) rfl (by simp) (fun c0 => ?_) (fun c0 => ?_)
  · skip
    refine W_sr ?_
    refine W_assign rfl rfl ?_
    refine W_nil ?_
    refine W_ret1m (H2 := (tb, .cells 91 1026 (tmRow pb bb As)) :: (HP ++ (HBk ++ H))) Tryz.results13 rfl (.nil _) zH ?_
    exact ⟨HBk, hB, by unfold stateA stateO; rw [if_pos c0], rfl⟩
  · skip
    refine W_sr ?_
    refine W_fieldAddr rfl fld88_0 (by decide) rfl ?_
    refine W_load (v := .bool (ofA As id).made) rfl ty4 rfl (Cell.own (b := b5) zM rfl) rfl ?_
    refine W_not rfl rfl ?_
    refine W_assign rfl rfl ?_
    refine W_nil ?_
    refine W_condPS (p := (ofA As id).made = false) rfl (by simp) (fun c1 => ?_) (fun c1 => ?_)
    · skip
      refine W_sr ?_
      refine W_assign rfl rfl ?_
      refine W_nil ?_
      refine W_ret1m (H2 := (tb, .cells 91 1026 (tmRow pb bb As)) :: (HP ++ (HBk ++ H))) Tryz.results13 rfl (.nil _) zH ?_
      exact ⟨HBk, hB, by unfold stateA stateO; rw [if_neg c0, if_pos c1], rfl⟩
    · skip
      refine W_skip ?_
      refine W_blk ?_
      refine W_seq ?_
      refine W_sr ?_
      refine W_move rfl rfl ?_
      refine W_nilCheck rfl rfl ?_
      refine W_fieldAddr rfl fld91_1 (by decide) rfl ?_
      refine W_load (v := .pointer (some ⟨bb, 0, none⟩)) rfl ty84 rfl (Cell.own (b := tb) zM rfl) rfl ?_
      refine W_move rfl rfl ?_
      refine W_call (.cons rfl (.cons rfl .nil)) Tryz.call45 rfl ((FindB_L (id := id) hB (by omega) (H := (tb, .cells 91 1026 (tmRow pb bb As)) :: (HP ++ H))).hsub zH) ?_
      rintro v H' ⟨HB2, hB2, rfl, rfl⟩
      rcases hfk : findK Ws id with _ | kf
      · skip
        rw [show findV Ws id = .tuple #[.int .i64 0, .agg zSpot.v.toArray, .bool false] from by unfold findV; rw [hfk]]
        refine W_move rfl rfl ?_
        refine W_extract rfl rfl rfl ?_
        refine W_extract rfl rfl rfl ?_
        refine W_extract rfl rfl rfl ?_
        refine W_alloc (l := zSpot.v) ty32 rfl rfl (fun b7 => ?_)
        refine W_assign rfl rfl ?_
        refine W_storeA (l' := zSpot.v) rfl rfl ty32 rfl rfl (b := b7) zM (by exact Nat.le_refl 4) rfl zU ?_
        refine W_assign rfl rfl ?_
        refine W_nil ?_
        refine W_sr ?_
        refine W_move rfl rfl ?_
        refine W_nil ?_
        refine W_condF rfl rfl ?_
        refine W_skip ?_
        refine W_seq ?_
        refine W_sr ?_
        refine W_move rfl rfl ?_
        refine W_nilCheck rfl rfl ?_
        refine W_fieldAddr rfl fld91_0 (by decide) rfl ?_
        refine W_load (v := .pointer (some ⟨pb, 0, none⟩)) rfl ty81 rfl (Cell.own (b := tb) zM rfl) rfl ?_
        refine W_move rfl rfl ?_
        refine W_call (.cons rfl (.cons rfl .nil)) Tryz.call46 rfl ((Where_L (id := id) hP (by omega) (H := (tb, .cells 91 1026 (tmRow pb bb As)) :: (HB2 ++ H))).hsub zH) ?_
        rintro v H' ⟨rfl, rfl⟩
        rcases hwq : whQ Q id with _ | kq
        · skip
          rw [show optV none = .tuple #[.int .i64 0, .bool false] from rfl]
          refine W_move rfl rfl ?_
          refine W_extract rfl rfl rfl ?_
          refine W_extract rfl rfl rfl ?_
          refine W_assign rfl rfl ?_
          refine W_assign rfl rfl ?_
          refine W_nil ?_
          refine W_sr ?_
          refine W_move rfl rfl ?_
          refine W_nil ?_
          refine W_condF rfl rfl ?_
          refine W_skip ?_
          refine W_sr ?_
          refine W_assign rfl rfl ?_
          refine W_nil ?_
          refine W_ret1m (H2 := (tb, .cells 91 1026 (tmRow pb bb As)) :: (HP ++ (HB2 ++ H))) Tryz.results13 rfl (.nil _) zH ?_
          exact ⟨HB2, hB2, by unfold stateA stateO; rw [if_neg c0, if_neg c1, if_neg (by rw [hfk]; decide), if_neg (by rw [hwq]; decide)], rfl⟩
        · skip
          rw [show optV (some kq) = .tuple #[.int .i64 kq, .bool true] from rfl]
          refine W_move rfl rfl ?_
          refine W_extract rfl rfl rfl ?_
          refine W_extract rfl rfl rfl ?_
          refine W_assign rfl rfl ?_
          refine W_assign rfl rfl ?_
          refine W_nil ?_
          refine W_sr ?_
          refine W_move rfl rfl ?_
          refine W_nil ?_
          refine W_condT rfl rfl ?_
          refine W_sr ?_
          refine W_assign rfl rfl ?_
          refine W_nil ?_
          refine W_ret1m (H2 := (tb, .cells 91 1026 (tmRow pb bb As)) :: (HP ++ (HB2 ++ H))) Tryz.results13 rfl (.nil _) zH ?_
          exact ⟨HB2, hB2, by unfold stateA stateO; rw [if_neg c0, if_neg c1, if_neg (by rw [hfk]; decide), if_pos (by rw [hwq]; rfl)], rfl⟩
      · skip
        obtain ⟨wf, hwf, hfh⟩ := findK_at hfk
        rw [show findV Ws id = .tuple #[.int .i64 (kf : Int), .agg (spotOf wf.L id).v.toArray, .bool true] from by unfold findV; rw [hfk]; dsimp only; rw [hwf]]
        refine W_move rfl rfl ?_
        refine W_extract rfl rfl rfl ?_
        refine W_extract rfl rfl rfl ?_
        refine W_extract rfl rfl rfl ?_
        refine W_alloc (l := zSpot.v) ty32 rfl rfl (fun b7 => ?_)
        refine W_assign rfl rfl ?_
        refine W_storeA (l' := (spotOf wf.L id).v) rfl rfl ty32 rfl rfl (b := b7) zM (by exact Nat.le_refl 4) rfl zU ?_
        refine W_assign rfl rfl ?_
        refine W_nil ?_
        refine W_sr ?_
        refine W_move rfl rfl ?_
        refine W_nil ?_
        refine W_condT rfl rfl ?_
        refine W_sr ?_
        refine W_assign rfl rfl ?_
        refine W_nil ?_
        refine W_ret1m (H2 := (tb, .cells 91 1026 (tmRow pb bb As)) :: (HP ++ (HB2 ++ H))) Tryz.results13 rfl (.nil _) zH ?_
        exact ⟨HB2, hB2, by unfold stateA stateO; rw [if_neg c0, if_neg c1, if_pos (by rw [hfk]; rfl)], rfl⟩
set_option maxRecDepth 100000
set_option maxHeartbeats 4000000 in
theorem tNew_at {w0 : World} {H : Heap} {n now : Nat} (hn : 1 ≤ n ∧ n ≤ 64)  : LCalls Tryz.prog w0 8 #[.int .i64 (n : Int), .int .u64 ((now : Nat) : Int)] (H) (fun v H' => ∃ tb Ws HB, v = .tuple #[.pointer (some ⟨tb, 0, none⟩), .int .i64 0] ∧ TimerH tb n Ws [] [] (List.replicate 256 zTone) HB ∧ Ws.length = n ∧ (∀ w ∈ Ws, FreshW now w) ∧ H' = HB ++ H) := by
  refine L_enter (l := [.int .i64 (n : Int), .int .u64 ((now : Nat) : Int)]) Tryz.func8 rfl Tryz.ntmps8 rfl rfl ?_
  refine W_sr ?_
  refine W_assign rfl rfl ?_
  refine W_assign rfl rfl ?_
  refine W_nil ?_
  refine W_sr ?_
  refine W_move rfl rfl ?_
  refine W_call (.cons rfl .nil) Tryz.call33 rfl (pNew_L hn) ?_
  rintro v H' ⟨pb, HP, rfl, hP, rfl⟩
  refine W_move rfl rfl ?_
  refine W_extract rfl rfl rfl ?_
  refine W_extract rfl rfl rfl ?_
  refine W_assign rfl rfl ?_
  refine W_assign rfl rfl ?_
  refine W_nil ?_
  refine W_seq ?_
  refine W_sr ?_
  refine W_move rfl rfl ?_
  refine W_bin rfl rfl b_neq rfl ?_
  refine W_nil ?_
  refine W_condF rfl rfl ?_
  refine W_skip ?_
  refine W_sr ?_
  refine W_move rfl rfl ?_
  refine W_move rfl rfl ?_
  refine W_call (.cons rfl (.cons rfl .nil)) Tryz.call34 rfl (NewB_L (now := now) hn) ?_
  rintro v H' ⟨bb, Ws, HBk, rfl, hB, hWl, hfr, rfl⟩
  refine W_move rfl rfl ?_
  refine W_extract rfl rfl rfl ?_
  refine W_extract rfl rfl rfl ?_
  refine W_assign rfl rfl ?_
  refine W_assign rfl rfl ?_
  refine W_nil ?_
  refine W_seq ?_
  refine W_sr ?_
  refine W_move rfl rfl ?_
  refine W_bin rfl rfl b_neq rfl ?_
  refine W_nil ?_
  refine W_condF rfl rfl ?_
  refine W_skip ?_
  refine W_sr ?_
  refine W_move rfl rfl ?_
  refine W_move rfl rfl ?_
  refine W_build (l := tmRow pb bb (List.replicate 256 zTone)) ty91 pl91 (.cons rfl rfl rfl rfl rfl (.cons rfl rfl rfl rfl rfl .nil)) rfl (by kernel_rfl) rfl ?_
  refine W_box (l := tmRow pb bb (List.replicate 256 zTone)) rfl rfl rfl (fun b29 => ?_)
  refine W_assign rfl rfl ?_
  refine W_assign rfl rfl ?_
  refine W_nil ?_
  refine W_ret2m (H2 := (b29, .cells 91 1026 (tmRow pb bb (List.replicate 256 zTone))) :: (HP ++ (HBk ++ H))) Tryz.results8 rfl rfl (.nil _) zH ?_
  exact ⟨b29, Ws, (b29, .cells 91 1026 (tmRow pb bb (List.replicate 256 zTone))) :: (HP ++ HBk), rfl, .mk hP hB ⟨List.length_replicate, fun o ho => by rw [List.eq_of_mem_replicate ho]; decide⟩ ⟨hWl, hn.2⟩, hWl, hfr, by show _ = (b29, .cells 91 1026 (tmRow pb bb (List.replicate 256 zTone))) :: ((HP ++ HBk) ++ H); rw [List.append_assoc]⟩
theorem State_L {w0 : World} {H HB : Heap} {tb n : Nat} {Ws : List Wl} {Q Rs : List (Int × Int)} {As : List Tone} (hT : TimerH tb n Ws Q Rs As HB) {id : Int} : LCalls Tryz.prog w0 13 #[.pointer (some ⟨tb, 0, none⟩), .int .i64 id] (HB ++ H) (fun v H' => ∃ HB', TimerH tb n Ws Q Rs As HB' ∧ v = .int .i64 (stateA Ws Q As id) ∧ H' = HB' ++ H) := by
  cases hT with
  | @mk pb bb HP HBk hP hB hA hn =>
    show LCalls _ _ _ _ ((tb, .cells 91 1026 (tmRow pb bb As)) :: ((HP ++ HBk) ++ H)) _
    rw [List.append_assoc]
    refine (State_at (H := H) hP hB hn hA).mono ?_
    rintro v H' ⟨HB2, hB2, rfl, rfl⟩
    exact ⟨_, .mk hP hB2 hA hn, rfl, by show _ = (tb, .cells 91 1026 (tmRow pb bb As)) :: ((HP ++ HB2) ++ H); rw [List.append_assoc]⟩
theorem tEnd_L {w0 : World} {H HB : Heap} {tb n : Nat} {Ws : List Wl} {Q Rs : List (Int × Int)} {As : List Tone} (hT : TimerH tb n Ws Q Rs As HB) {c : Int} : LCalls Tryz.prog w0 18 #[.pointer (some ⟨tb, 0, none⟩), .int .i64 c] (HB ++ H) (fun v H' => ∃ HB', TimerH tb n Ws Q (endQ Rs c).1 As HB' ∧ v = .tuple #[.int .i64 (endQ Rs c).2.1, .int .i64 (endQ Rs c).2.2] ∧ H' = HB' ++ H) := by
  cases hT with
  | @mk pb bb HP HBk hP hB hA hn =>
    show LCalls _ _ _ _ ((tb, .cells 91 1026 (tmRow pb bb As)) :: ((HP ++ HBk) ++ H)) _
    rw [List.append_assoc]
    refine (tEnd_at (H := H) hP hB hn).mono ?_
    rintro v H' ⟨HP2, hP2, rfl, rfl⟩
    exact ⟨_, .mk hP2 hB hA hn, rfl, by show _ = (tb, .cells 91 1026 (tmRow pb bb As)) :: ((HP2 ++ HBk) ++ H); rw [List.append_assoc]⟩
def begV (n : Nat) (Q Rs : List (Int × Int)) (As : List Tone) (cpu c : Int) : Value := if (begQ n Q Rs cpu c).2.2.2 = 0 then .tuple #[.int .i64 (begQ n Q Rs cpu c).2.2.1, .int .i64 ((progOf As (begQ n Q Rs cpu c).2.2.1)), .int .i64 0] else .tuple #[.int .i64 0, .int .i64 0, .int .i64 (begQ n Q Rs cpu c).2.2.2]
theorem tBegin_L {w0 : World} {H HB : Heap} {tb n : Nat} {Ws : List Wl} {Q Rs : List (Int × Int)} {As : List Tone} (hT : TimerH tb n Ws Q Rs As HB) {cpu c : Int} : LCalls Tryz.prog w0 17 #[.pointer (some ⟨tb, 0, none⟩), .int .i64 cpu, .int .i64 c] (HB ++ H) (fun v H' => ∃ HB', TimerH tb n Ws (begQ n Q Rs cpu c).1 (begQ n Q Rs cpu c).2.1 As HB' ∧ v = begV n Q Rs As cpu c ∧ H' = HB' ++ H) := by
  cases hT with
  | @mk pb bb HP HBk hP hB hA hn =>
    show LCalls _ _ _ _ ((tb, .cells 91 1026 (tmRow pb bb As)) :: ((HP ++ HBk) ++ H)) _
    rw [List.append_assoc]
    refine (tBegin_at (H := H) hP hB hn hA).mono ?_
    rintro v H' ⟨HP2, hP2, hv, rfl⟩
    exact ⟨_, .mk hP2 hB hA hn, hv, by show _ = (tb, .cells 91 1026 (tmRow pb bb As)) :: ((HP2 ++ HBk) ++ H); rw [List.append_assoc]⟩
end Go.Proofs.YtcmfldfeakmdoaaGreatDoor
namespace Go.Proofs.YtcmfldfeakmdoaaGreatDoor
open Go Go.Sl
attribute [local irreducible] W
theorem findK_isSome {Ws : List Wl} {id : Int} {k : Nat} {w : Wl} (h : Ws[k]? = some w) (hh : heldB w.L id = true) : (findK Ws id).isSome = true := by
  cases hf : findK Ws id with
  | some _ => rfl
  | none => exact absurd (heldB_iff.1 hh) (findK_no hf (List.mem_of_getElem? h))
theorem findK_noneOf {Ws : List Wl} {id : Int} (h : ∀ w ∈ Ws, heldB w.L id = false) : findK Ws id = none :=
  findK_none (fun j u _ hu => h u (List.mem_of_getElem? hu))
theorem heldB_del (L : List Tm) (id : Int) : heldB (delT L id) id = false := by
  cases h : heldB (delT L id) id with
  | false => rfl
  | true =>
    obtain ⟨t, ht, e⟩ := List.mem_map.1 (heldB_iff.1 h)
    exact absurd e (of_decide_eq_true (List.mem_filter.1 ht).2)
theorem findK_del (Ws : List Wl) (id : Int) : findK (Ws.map (delW [id])) id = none := findK_noneOf fun w hw => by
  obtain ⟨u, hu, rfl⟩ := List.mem_map.1 hw
  exact heldB_del u.L id
theorem start_ok {n i k a : Nat} {Ws Ws' : List Wl} {Q Q' : List (Int × Int)} {As As' : List Tone} {o : Tone} {w : Wl} {s : Spot} {e : Int} (h : StartIs n Ws Q As (i : Int) (k : Int) a Ws' Q' As' s e) (hl : Ws.length = n) (hi : i < 256) (hA : As[i]? = some o) (hw : Ws[k]? = some w) (hs : o.shut = false) (hm : o.made = true) (hp : ¬ o.prog = 0) (hn : w.now < 18446744073709551615) :
    e = 0 ∧ s = (placeT w.now a).1 ∧ Ws' = (Ws.map (delW [(i : Int)])).set k ⟨w.bw, w.now, delT w.L (i : Int) ++ [tmOf w.now a w.turn (i : Int)], w.turn + 1⟩ ∧ Q' = delQ Q (i : Int) ∧ As' = As.set i { o with starts := o.starts + 1 } := by
  have hkl := (List.getElem?_eq_some_iff.1 hw).1
  generalize hid : (i : Int) = id at h ⊢
  generalize hcp : (k : Int) = cpu at h
  cases h with
  | out h => exact absurd h (by omega)
  | @at_ i2 k2 o2 w2 _ _ _ _ _ hi2 ei ek hA2 hw2 hM =>
    subst hid hcp
    obtain rfl : i2 = i := by omega
    obtain rfl : k2 = k := by omega
    obtain rfl : o2 = o := Option.some.inj (hA2.symm.trans hA)
    obtain rfl : w2 = w := Option.some.inj (hw2.symm.trans hw)
    cases hM with
    | gone h => rw [hs] at h; cases h
    | unset _ h => rcases h with h | h
                   · rw [hm] at h; cases h
                   · exact absurd h hp
    | late _ _ h => omega
    | put _ _ _ hp =>
      obtain ⟨e1, e2, e3⟩ := hp.ok_of (k := k2) (w := delW [(i2 : Int)] w2) rfl (by rw [List.getElem?_map, hw]; rfl) (findK_del Ws _) (by omega) hn
      exact ⟨e3, e2, e1, rfl, rfl⟩
theorem delsQ_one (Q : List (Int × Int)) (z : Int) : delsQ Q [z] = (delQ Q z, if (whQ Q z).isSome = true then 1 else 0) := by
  unfold delsQ
  show (delQ Q z, 0 + _) = _
  rw [Nat.zero_add]
theorem wasT_is {Ws : List Wl} (hU : UniS (stW Ws)) (Q : List (Int × Int)) (z : Int) : wasT Ws Q z = ((findK Ws z).isSome || (whQ Q z).isSome) := by
  unfold wasT
  rw [cnt_find hU, findS_stW, delsQ_one]
  cases (findK Ws z).isSome <;> cases (whQ Q z).isSome <;> rfl
theorem gone_all {now nw : Nat} {L Li O : List Tm} {t : Tm} (h : Gone now nw L Li O) (hL : L = [t]) (hd : t.s.due ≤ nw) : Li = [] ∧ O = [t] := by
  subst hL
  refine ⟨?_, ?_⟩
  · rw [h.left, List.filter_cons_of_neg (by simpa using hd)]; rfl
  · have hp := h.perm
    rw [List.filter_cons_of_pos (by simpa using hd)] at hp
    exact List.perm_singleton.1 hp
theorem catch_at {Ws Ws' : List Wl} {k a : Nat} {O : List Tm} {w : Wl} (h : CatchIs Ws (k : Int) a Ws' O) (hw : Ws[k]? = some w) : ∃ Li, Gone w.now (max w.now a) w.L Li O ∧ Ws' = Ws.set k ⟨w.bw, max w.now a, Li, w.turn⟩ := by
  rcases h with ⟨h, _, _⟩ | ⟨k2, w2, Li, e, hk, hG, hW⟩
  · unfold wlAt at h
    rw [if_pos (by omega), show ((k : Nat) : Int).toNat = k by omega, hw] at h
    cases h
  · obtain rfl : k = k2 := by omega
    obtain rfl := Option.some.inj (hk.symm.trans hw)
    exact ⟨Li, hG, hW⟩
theorem tok0 {now : Nat} {Ws : List Wl} (hn : now ≤ 18446744073709551615) (hf : ∀ w ∈ Ws, FreshW now w) : TOk 0 Ws (List.replicate 256 zTone) := ⟨BOk.start hn hf, fun o ho => by rw [List.eq_of_mem_replicate ho]; decide⟩
theorem TOk.onA {T : Nat} {Ws : List Wl} {As : List Tone} {f : Tone → Tone × Int} (h : TOk T Ws As) (hf : ∀ o, (f o).1.starts = o.starts) (id : Int) : TOk T Ws (onA f As id).1 := by
  refine ⟨h.bank, fun o ho => ?_⟩
  unfold Go.Proofs.YtcmfldfeakmdoaaGreatDoor.onA at ho
  split at ho
  · split at ho
    · rename_i x hx
      rcases List.mem_or_eq_of_mem_set ho with ho | rfl
      · exact h.starts o ho
      · rw [hf]; exact h.starts x (List.mem_of_getElem? hx)
    · exact h.starts o ho
  · exact h.starts o ho
theorem initO_starts (o : Tone) : (initO o).1.starts = o.starts := by unfold initO; split; rfl; split <;> rfl
theorem setO_starts (p : Int) (o : Tone) : (setO p o).1.starts = o.starts := by unfold setO; split; rfl; split <;> rfl
theorem TOk.setA {T : Nat} {Ws : List Wl} {As : List Tone} (h : TOk T Ws As) (id prog : Int) : TOk T Ws (setA As id prog).1 := by
  unfold Go.Proofs.YtcmfldfeakmdoaaGreatDoor.setA
  split
  · exact h.onA (setO_starts prog) id
  · exact h
end Go.Proofs.YtcmfldfeakmdoaaGreatDoor
namespace Go.Proofs.YtcmfldfeakmdoaaGreatDoor
open Go Go.Sl
attribute [local irreducible] W
set_option maxHeartbeats 4000000 in
theorem tknown_pure  : Pure Tryz.prog (Tab) 12 [] (.bool true) := by
  intro w0 H hT
  obtain ⟨A0, hA0⟩ : ∃ A, A = List.replicate 256 zTone := ⟨_, rfl⟩
  have hz : A0[5]? = some zTone := by rw [hA0, List.getElem?_replicate]; rfl
  obtain ⟨A1, hA1e⟩ : ∃ A, A = A0.set 5 (⟨true, false, 0, 0⟩ : Tone) := ⟨_, rfl⟩
  have hA1 : A1[5]? = some (⟨true, false, 0, 0⟩ : Tone) := by rw [hA1e, List.getElem?_set_self (List.getElem?_eq_some_iff.1 hz).1]
  have e1 : onA initO A0 5 = (A1, 0) := by rw [hA1e]; exact onA_at (i := 5) (by decide) hz
  obtain ⟨A2, hA2e⟩ : ∃ A, A = A1.set 5 (⟨true, false, 4, 0⟩ : Tone) := ⟨_, rfl⟩
  have hA2 : A2[5]? = some (⟨true, false, 4, 0⟩ : Tone) := by rw [hA2e, List.getElem?_set_self (List.getElem?_eq_some_iff.1 hA1).1]
  have e2 : setA A1 5 3 = (A2, 0) := by unfold setA; rw [if_pos (by decide), hA2e]; exact onA_at (i := 5) (by decide) hA1
  refine L_enter Tryz.func12 rfl Tryz.ntmps12 rfl rfl ?_
  refine W_sr ?_
  refine W_assign rfl rfl ?_
  refine W_nil ?_
  refine W_sr ?_
  refine W_call (.cons rfl (.cons rfl .nil)) Tryz.call8 rfl (tNew_at (n := 2) (now := 0) (by decide)) ?_
  rintro v H' ⟨tb, Ws0, HB0, rfl, hT0, hWl, hfr, rfl⟩
  have hO0 := (tok0 (now := 0) (by decide) hfr)
  rw [← hA0] at hT0 hO0
  have hO1 := hO0.onA initO_starts 5
  rw [e1] at hO1
  have hO2 := hO1.setA 5 3
  rw [e2] at hO2
  obtain ⟨w0_, hw0⟩ : ∃ w, Ws0[0]? = some w := ⟨_, List.getElem?_eq_getElem (by omega)⟩
  obtain ⟨w1, hw1⟩ : ∃ w, Ws0[1]? = some w := ⟨_, List.getElem?_eq_getElem (by omega)⟩
  obtain ⟨n0, l0, t0⟩ := hfr w0_ (List.mem_of_getElem? hw0)
  obtain ⟨n1, l1, t1⟩ := hfr w1 (List.mem_of_getElem? hw1)
  refine W_move rfl rfl ?_
  refine W_extract rfl rfl rfl ?_
  refine W_extract rfl rfl rfl ?_
  refine W_assign rfl rfl ?_
  refine W_assign rfl rfl ?_
  refine W_nil ?_
  refine W_seq ?_
  refine W_sr ?_
  refine W_move rfl rfl ?_
  refine W_bin rfl rfl b_neq rfl ?_
  refine W_move rfl rfl ?_
  refine W_gyes rfl rfl ?_
  refine W_move rfl rfl ?_
  refine W_gyes rfl rfl ?_
  refine W_call (.cons rfl (.cons rfl .nil)) Tryz.call9 rfl ((Init_L hT0 (id := 5) (H := H)).hsub zH) ?_
  rintro v H' ⟨HB1, hT1, rfl, rfl⟩
  rw [e1] at hT1 ⊢
  refine W_gyes rfl rfl ?_
  refine W_bin rfl rfl b_neq rfl ?_
  first | refine W_pickt rfl rfl rfl ?_ | refine W_pickf rfl rfl rfl ?_
  refine W_move rfl rfl ?_
  refine W_gyes rfl rfl ?_
  refine W_move rfl rfl ?_
  refine W_gyes rfl rfl ?_
  refine W_call (.cons rfl (.cons rfl (.cons rfl .nil))) Tryz.call10 rfl ((Set_L hT1 (id := 5) (prog := 3) (H := H)).hsub zH) ?_
  rintro v H' ⟨HB2, hT2, rfl, rfl⟩
  rw [e2] at hT2 ⊢
  refine W_gyes rfl rfl ?_
  refine W_bin rfl rfl b_neq rfl ?_
  first | refine W_pickt rfl rfl rfl ?_ | refine W_pickf rfl rfl rfl ?_
  refine W_nil ?_
  refine W_condF rfl rfl ?_
  refine W_skip ?_
  refine W_sr ?_
  refine W_move rfl rfl ?_
  refine W_call (.cons rfl (.cons rfl (.cons rfl (.cons rfl .nil)))) Tryz.call11 rfl ((Start_L hT2 hO2 (by decide) (id := 5) (cpu := 1) (a := 10) (by decide) (H := H)).hsub zH) ?_
  rintro v H' ⟨W1, Q1, A3, s1, x1, HB3, hS1, hT3, hO3, rfl, rfl⟩
  obtain ⟨rfl, rfl, hW1, rfl, hA3e⟩ := start_ok (i := 5) (k := 1) hS1 hWl (by decide) hA2 hw1 rfl rfl (by decide) (by rw [n1]; decide)
  have hA3 : A3[5]? = some (⟨true, false, 4, 1⟩ : Tone) := by rw [hA3e, List.getElem?_set_self (List.getElem?_eq_some_iff.1 hA2).1]; rfl
  have hW1a : W1[1]? = some ⟨w1.bw, w1.now, delT w1.L (5 : Nat) ++ [tmOf w1.now 10 w1.turn (5 : Nat)], w1.turn + 1⟩ := by rw [hW1, List.getElem?_set_self (by rw [List.length_map]; omega)]
  have ho3 : ofA A3 5 = (⟨true, false, 4, 1⟩ : Tone) := ofA_at (i := 5) (by decide) hA3
  have es1 : ∀ Q, stateA W1 Q A3 5 = 2 := fun Q => by
    unfold stateA
    rw [ho3]
    unfold stateO
    rw [if_neg (by decide), if_neg (by decide), if_pos (findK_isSome hW1a (heldB_iff.2 (by simp)))]
  refine W_move rfl rfl ?_
  refine W_extract rfl rfl rfl ?_
  refine W_extract rfl rfl rfl ?_
  refine W_alloc (l := zSpot.v) ty32 rfl rfl (fun b3 => ?_)
  refine W_storeA (l' := (placeT w1.now 10).1.v) rfl rfl ty32 rfl rfl (b := b3) zM (by exact Nat.le_refl 4) rfl zU ?_
  refine W_assign rfl rfl ?_
  refine W_nil ?_
  refine W_seq ?_
  refine W_sr ?_
  refine W_move rfl rfl ?_
  refine W_bin rfl rfl b_neq rfl ?_
  refine W_move rfl rfl ?_
  refine W_gyes rfl rfl ?_
  refine W_move rfl rfl ?_
  refine W_gyes rfl rfl ?_
  refine W_call (.cons rfl (.cons rfl .nil)) Tryz.call13 rfl ((State_L hT3 (id := 5) (H := (b3, .cells 32 4 (placeT w1.now 10).1.v) :: H)).hsub zH) ?_
  rintro v H' ⟨HB4, hT4, rfl, rfl⟩
  rw [es1]
  refine W_gyes rfl rfl ?_
  refine W_bin rfl rfl b_neq rfl ?_
  first | refine W_pickt rfl rfl rfl ?_ | refine W_pickf rfl rfl rfl ?_
  refine W_move rfl rfl ?_
  refine W_gyes rfl rfl ?_
  refine W_move rfl rfl ?_
  refine W_gyes rfl rfl ?_
  refine W_call (.cons rfl (.cons rfl (.cons rfl .nil))) Tryz.call15 rfl ((Catch_L hT4 hO3 hT (cpu := 1) (a := 10) (by decide) (H := (b3, .cells 32 4 (placeT w1.now 10).1.v) :: H)).hsub zH) ?_
  rintro v H' ⟨W2, O, XO, HB5, hC, hT5, hO5, hOO, hol, rfl⟩
  obtain ⟨Li, hG, hW2⟩ := catch_at (k := 1) hC hW1a
  dsimp only at hG hW2
  obtain ⟨rfl, rfl⟩ := gone_all hG (t := tmOf w1.now 10 w1.turn (5 : Nat)) (by rw [l1]; rfl) (by rw [n1]; show (placeT 0 10).1.due ≤ max 0 10; decide +kernel)
  obtain ⟨ado, capo, rfl, hoc, _, hro⟩ := Holds.of_own (w0 := w0) (H := XO ++ []) hOO (fun p hp => List.mem_append_left _ hp)
  have hemp : ∀ w ∈ W2, heldB w.L 5 = false := fun w hw => by
    rw [hW2, hW1, List.set_set] at hw
    rcases List.mem_or_eq_of_mem_set hw with hw | rfl
    · obtain ⟨u, hu, rfl⟩ := List.mem_map.1 hw
      exact heldB_del u.L 5
    · rfl
  have eq5 : addsQ 2 (delQ [] (5 : Nat)) 1 (List.map (·.id) [tmOf w1.now 10 w1.turn (5 : Nat)]) = ([(5, 1)], 0) := by show addsQ 2 [] 1 [5] = _; decide
  rw [eq5] at hT5
  have es2 : stateA W2 [(5, 1)] A3 5 = 3 := by
    unfold stateA
    rw [ho3]
    unfold stateO
    rw [if_neg (by decide), if_neg (by decide), if_neg (by rw [findK_noneOf hemp]; decide), if_pos (by decide)]
  have hW20 : W2[0]? = some (delW [(5 : Nat)] w0_) := by rw [hW2, hW1, List.set_set, List.getElem?_set_ne (by decide), List.getElem?_map, hw0]; rfl
  have hW2l : W2.length = 2 := by rw [hW2, hW1, List.set_set, List.length_set, List.length_map, hWl]
  have ebq : begQ 2 [(5, 1)] [] 1 4 = ([], [(5, 4)], 5, 0) := by decide
  have eb : begV 2 [(5, 1)] [] A3 1 4 = .tuple #[.int .i64 5, .int .i64 3, .int .i64 0] := by
    unfold begV
    rw [ebq, if_pos rfl, show progOf A3 5 = _ from progOf_at (i := 5) hA3]; rfl
  refine W_gyes rfl rfl ?_
  refine W_buildSlice (l := [.int .i64 5]) ty24 ty3 (.cons rfl rfl rfl rfl rfl .nil) rfl rfl rfl rfl rfl rfl rfl (fun b45 => ?_)
  refine W_gyes rfl rfl ?_
  refine W_callq (.cons rfl (.cons rfl .nil)) Tryz.call43 rfl (same_q (l := [5]) (r := [5]) (c1 := capo) (hro.up zH) (Holds.own (b := b45) zM) (by decide)) ?_
  rw [decide_eq_true rfl]
  refine W_gyes rfl rfl ?_
  refine W_not rfl rfl ?_
  first | refine W_pickt rfl rfl rfl ?_ | refine W_pickf rfl rfl rfl ?_
  refine W_move rfl rfl ?_
  refine W_gyes rfl rfl ?_
  refine W_move rfl rfl ?_
  refine W_gyes rfl rfl ?_
  refine W_call (.cons rfl (.cons rfl .nil)) Tryz.call13 rfl ((State_L hT5 (id := 5) (H := (b3, .cells 32 4 (placeT w1.now 10).1.v) :: H)).hsub zH) ?_
  rintro v H' ⟨HB6, hT6, rfl, rfl⟩
  rw [es2]
  refine W_gyes rfl rfl ?_
  refine W_bin rfl rfl b_neq rfl ?_
  first | refine W_pickt rfl rfl rfl ?_ | refine W_pickf rfl rfl rfl ?_
  refine W_nil ?_
  refine W_condF rfl rfl ?_
  refine W_skip ?_
  refine W_sr ?_
  refine W_move rfl rfl ?_
  refine W_call (.cons rfl (.cons rfl (.cons rfl .nil))) Tryz.call17 rfl ((tBegin_L hT6 (cpu := 1) (c := 4) (H := (b3, .cells 32 4 (placeT w1.now 10).1.v) :: H)).hsub zH) ?_
  rintro v H' ⟨HB7, hT7, rfl, rfl⟩
  rw [ebq] at hT7
  rw [eb]
  refine W_move rfl rfl ?_
  refine W_extract rfl rfl rfl ?_
  refine W_extract rfl rfl rfl ?_
  refine W_extract rfl rfl rfl ?_
  refine W_assign rfl rfl ?_
  refine W_assign rfl rfl ?_
  refine W_assign rfl rfl ?_
  refine W_nil ?_
  refine W_sr ?_
  refine W_move rfl rfl ?_
  refine W_call (.cons rfl (.cons rfl (.cons rfl (.cons rfl .nil)))) Tryz.call11 rfl ((Start_L hT7 hO5 (by decide) (id := 5) (cpu := 0) (a := 20) (by decide) (H := (b3, .cells 32 4 (placeT w1.now 10).1.v) :: H)).hsub zH) ?_
  rintro v H' ⟨W3, Q3, A4, s2, x2, HB8, hS2, hT8, hO8, rfl, rfl⟩
  obtain ⟨rfl, rfl, hW3, rfl, hA4e⟩ := start_ok (i := 5) (k := 0) hS2 hW2l (by decide) hA3 hW20 rfl rfl (by decide) (by show w0_.now < _; rw [n0]; decide)
  have hA4 : A4[5]? = some (⟨true, false, 4, 2⟩ : Tone) := by rw [hA4e, List.getElem?_set_self (List.getElem?_eq_some_iff.1 hA3).1]; rfl
  have hW3a : (findK W3 5).isSome = true := by
    rw [hW3]
    exact findK_isSome (List.getElem?_set_self (by rw [List.length_map, hW2l]; decide)) (heldB_iff.2 (by simp))
  have ep : stopA W3 (delQ [] (5 : Nat)) A4 5 = (W3.map (delW [5]), delQ (delQ [] (5 : Nat)) 5, true, 0) := by
    refine (stopA_at (i := 5) (by decide) hA4).trans ?_
    unfold stopM
    rw [if_pos rfl, wasT_is hO8.bank.uni]
    show (_, _, (findK W3 5).isSome || _, _) = _
    rw [hW3a]; rfl
  refine W_move rfl rfl ?_
  refine W_extract rfl rfl rfl ?_
  refine W_extract rfl rfl rfl ?_
  refine W_alloc (l := zSpot.v) ty32 rfl rfl (fun b8 => ?_)
  refine W_storeA (l' := (placeT (delW [(5 : Nat)] w0_).now 20).1.v) rfl rfl ty32 rfl rfl (b := b8) zM (by exact Nat.le_refl 4) rfl zU ?_
  refine W_assign rfl rfl ?_
  refine W_nil ?_
  refine W_sr ?_
  refine W_move rfl rfl ?_
  refine W_call (.cons rfl (.cons rfl .nil)) Tryz.call16 rfl ((Stop_L hT8 (id := 5) (H := (b8, .cells 32 4 (placeT (delW [(5 : Nat)] w0_).now 20).1.v) :: (b3, .cells 32 4 (placeT w1.now 10).1.v) :: H)).hsub zH) ?_
  rintro v H' ⟨HB9, hT9, rfl, rfl⟩
  rw [ep] at hT9 ⊢
  refine W_move rfl rfl ?_
  refine W_extract rfl rfl rfl ?_
  refine W_extract rfl rfl rfl ?_
  refine W_assign rfl rfl ?_
  refine W_assign rfl rfl ?_
  refine W_nil ?_
  refine W_sr ?_
  refine W_move rfl rfl ?_
  refine W_call (.cons rfl (.cons rfl .nil)) Tryz.call18 rfl ((tEnd_L hT9 (c := 4) (H := (b8, .cells 32 4 (placeT (delW [(5 : Nat)] w0_).now 20).1.v) :: (b3, .cells 32 4 (placeT w1.now 10).1.v) :: H)).hsub zH) ?_
  rintro v H' ⟨HB10, hT10, rfl, rfl⟩
  rw [show endQ [(5, 4)] 4 = ([], 5, 0) from by decide]
  refine W_move rfl rfl ?_
  refine W_extract rfl rfl rfl ?_
  refine W_extract rfl rfl rfl ?_
  refine W_assign rfl rfl ?_
  refine W_assign rfl rfl ?_
  refine W_nil ?_
  refine W_sr ?_
  refine W_move rfl rfl ?_
  refine W_bin rfl rfl b_eql rfl ?_
  refine W_move rfl rfl ?_
  refine W_gyes rfl rfl ?_
  refine W_move rfl rfl ?_
  refine W_gyes rfl rfl ?_
  refine W_bin rfl rfl b_eql rfl ?_
  first | refine W_pickt rfl rfl rfl ?_ | refine W_pickf rfl rfl rfl ?_
  refine W_move rfl rfl ?_
  refine W_gyes rfl rfl ?_
  refine W_move rfl rfl ?_
  refine W_gyes rfl rfl ?_
  refine W_bin rfl rfl b_eql rfl ?_
  first | refine W_pickt rfl rfl rfl ?_ | refine W_pickf rfl rfl rfl ?_
  refine W_move rfl rfl ?_
  refine W_gyes rfl rfl ?_
  refine W_move rfl rfl ?_
  refine W_gyes rfl rfl ?_
  refine W_bin rfl rfl b_eql rfl ?_
  first | refine W_pickt rfl rfl rfl ?_ | refine W_pickf rfl rfl rfl ?_
  refine W_move rfl rfl ?_
  refine W_gyes rfl rfl ?_
  refine W_move rfl rfl ?_
  first | refine W_pickt rfl rfl rfl ?_ | refine W_pickf rfl rfl rfl ?_
  refine W_move rfl rfl ?_
  refine W_gyes rfl rfl ?_
  refine W_move rfl rfl ?_
  refine W_gyes rfl rfl ?_
  refine W_bin rfl rfl b_eql rfl ?_
  first | refine W_pickt rfl rfl rfl ?_ | refine W_pickf rfl rfl rfl ?_
  refine W_assign rfl rfl ?_
  refine W_nil ?_
  refine W_ret1m (H2 := H) Tryz.results12 rfl (.nil _) zH ?_
  exact ⟨rfl, rfl⟩
end Go.Proofs.YtcmfldfeakmdoaaGreatDoor
namespace Go.Proofs.YtcmfldfeakmdoaaGreatDoor
open Go Go.Sl Go.ChangeShapes Go.WideShapes Go.ChangeAt Go.RowKit
set_option maxRecDepth 100000
theorem own : ownKnob Tryz.prog.godebug = none := by kernel_rfl
theorem kids : Kids Tryz.prog (· < Tryz.prog.types.size) := kids_rows (by kernel_rfl) (by kernel_rfl)
theorem full : ∀ t e, t < Tryz.prog.types.size → Tryz.prog.underlying t = some (.slice e) → 0 < Tryz.prog.cellsOf e := slices_full_of Tryz.prog (by kernel_rfl)
theorem u4 : Tryz.prog.underlying 4 = some .bool := by kernel_rfl
theorem u22 : Tryz.prog.underlying 22 = some (.int .u64) := by kernel_rfl
theorem u235 : Tryz.prog.underlying 235 = some (.array 64 5) := by kernel_rfl
theorem u5 : Tryz.prog.underlying 5 = some (.int .u8) := by kernel_rfl
theorem gDz : Tryz.prog.globalNamed "math/bits.deBruijn64tab" = some 0 := by kernel_rfl
theorem tDz : (Tryz.prog.globals[0]?).map (·.type) = some 235 := by kernel_rfl
abbrev laidL : List (String × DataW Unit) := [("math/bits.deBruijn64tab", Rows.laid_math_bits_deBruijn64tab)]
theorem tab_laid {W : World} (h : laidMetH Tryz.prog laidL W) : Tab W := fun j hj => by
  have h1 : Lib.TabIs Tryz.prog W "math/bits.deBruijn64tab" .u8 (Lib.deBruijn64tab.map fun z : Nat => (z : Int)) := Lib.tabIs_of_head (rest := []) gDz tDz u235 u5 (by kernel_rfl) (by kernel_rfl) (show laidMet Tryz.prog laidL W from h)
  have h2 := h1.cell gDz j (by rw [List.length_map]; exact hj)
  rw [h2]
  rw [List.getD_eq_getElem?_getD, List.getD_eq_getElem?_getD, List.getElem?_map]
  cases Lib.deBruijn64tab[j]? <;> rfl
noncomputable def laidWorld (os : Os) : World :=
  let w0 := World.holding Tryz.prog os ⟨#[], #[], []⟩
  let put (h : Array Obj) (g : Nat) (cs : Array Value) : Array Obj := h.modify g fun
    | .cells _ t frozen => .cells cs t frozen
    | o => o
  { w0 with heap := put w0.heap 0 (Lib.deBruijn64tab.map fun z : Nat => Value.int .u8 (z : Int)).toArray }
theorem laid_met (os : Os) (args : Array Value) : laidMet Tryz.prog laidL ((laidWorld os).forCall (fun _ _ => 0) ⟨#[], args, []⟩).memory :=
  laidMet_of_run' 8 (by kernel_rfl) (by kernel_rfl)
end Go.Proofs.YtcmfldfeakmdoaaGreatDoor
namespace Go.Proofs.YtcmfldfeakmdoaaGreatDoor
open Go Go.Sl
attribute [local irreducible] W
set_option maxRecDepth 100000
theorem modW_is (y : Int) {N : Nat} (hN : 0 < N) : ∃ c : Nat, c < N ∧ (IntKind.u64.wrap y).tmod (N : Int) = (c : Int) := by
  have e : IntKind.u64.wrap y = y % 18446744073709551616 := by simp [IntKind.wrap, IntKind.signed, IntKind.bits]
  have h0 : 0 ≤ y % 18446744073709551616 := Int.emod_nonneg _ (by decide)
  have h1 : 0 ≤ (IntKind.u64.wrap y).tmod (N : Int) := Int.tmod_nonneg _ (by omega)
  have h2 : (IntKind.u64.wrap y).tmod (N : Int) < (N : Int) := Int.tmod_lt_of_pos _ (by omega)
  exact ⟨((IntKind.u64.wrap y).tmod (N : Int)).toNat, by omega, by omega⟩
def Only (id : Int) (Ws : List Wl) (Q : List (Int × Int)) : Prop := (∀ w ∈ Ws, ∀ t ∈ w.L, t.id = id) ∧ ∀ p ∈ Q, p.1 = id
theorem addQ_only {n : Nat} {Q : List (Int × Int)} {cpu id : Int} {l : List Int} (hl : ∀ x ∈ l, x = id) (hQ : ∀ p ∈ Q, p.1 = id) : ∀ p ∈ (addsQ n Q cpu l).1, p.1 = id := by
  unfold addsQ
  split
  · exact hQ
  · induction l generalizing Q with
    | nil => exact hQ
    | cons x l ih =>
      unfold addQ
      split
      · exact hQ
      · split
        · exact hQ
        · refine ih (fun y hy => hl y (List.mem_cons_of_mem _ hy)) (fun p hp => ?_)
          rcases List.mem_append.1 hp with hp | hp
          · exact hQ p hp
          · rw [List.mem_singleton.1 hp]; exact hl x List.mem_cons_self
theorem Only.catch {n : Nat} {Ws Ws' : List Wl} {Q : List (Int × Int)} {cpu id : Int} {a : Nat} {O : List Tm} (h : Only id Ws Q) (hc : CatchIs Ws cpu a Ws' O) : Only id Ws' (addsQ n Q cpu (O.map (·.id))).1 := by
  have key : (∀ w ∈ Ws', ∀ t ∈ w.L, t.id = id) ∧ ∀ t ∈ O, t.id = id := by
    rcases hc with ⟨_, rfl, rfl⟩ | ⟨k, w, Li, _, hk, hG, rfl⟩
    · exact ⟨h.1, fun t ht => by cases ht⟩
    · have hw := h.1 w (List.mem_of_getElem? hk)
      refine ⟨fun u hu t ht => ?_, fun t ht => hw t (List.mem_filter.1 (hG.perm.mem_iff.1 ht)).1⟩
      rcases List.mem_or_eq_of_mem_set hu with hu | rfl
      · exact h.1 u hu t ht
      · have ht2 : t ∈ Li := ht
        rw [hG.left] at ht2
        exact hw t (List.mem_filter.1 ht2).1
  exact ⟨key.1, addQ_only (fun x hx => by obtain ⟨t, ht, rfl⟩ := List.mem_map.1 hx; exact key.2 t ht) h.2⟩
theorem TimerH.len {tb n : Nat} {Ws : List Wl} {Q Rs : List (Int × Int)} {As : List Tone} {HB : Heap} (h : TimerH tb n Ws Q Rs As HB) : Ws.length = n ∧ n ≤ 64 := by cases h; assumption
end Go.Proofs.YtcmfldfeakmdoaaGreatDoor
namespace Go.Proofs.YtcmfldfeakmdoaaGreatDoor
open Go Go.Sl
attribute [local irreducible] W
set_option maxRecDepth 100000
structure OnS where
  i : Nat
  Ws : List Wl
  Q : List (Int × Int)
  Rs : List (Int × Int)
  As : List Tone
  HB : Heap
  wl : List Bool
  sl : List Spot
  cl : List Int
  ll : List Nat
def Live (As : List Tone) (j : Nat) : Prop := ∃ o, As[j]? = some o ∧ o.made = true ∧ o.shut = false ∧ ¬ o.prog = 0
structure OnI (x : OnS) : Prop where
  ok : TOk x.i x.Ws x.As
  lenW : x.Ws.length = 3
  l1 : x.wl.length = 16
  l2 : x.sl.length = 16
  l3 : x.cl.length = 16
  l4 : x.ll.length = 3
  last : ∀ (k : Nat) w, x.Ws[k]? = some w → x.ll[k]? = some w.now
  prog : ∀ (j : Nat) o, x.As[j]? = some o → o.prog = 0 ∨ o.prog = (j : Int) + 1
  armed : ∀ (k : Nat) w t, x.Ws[k]? = some w → t ∈ w.L → ∃ j : Nat, t.id = (j : Int) ∧ j < 16 ∧ x.wl[j]? = some true ∧ x.cl[j]? = some (k : Int) ∧ x.sl[j]? = some t.s ∧ t.s.at_ ≤ t.s.due ∧ Live x.As j ∧ whQ x.Q (j : Int) = none
  queued : ∀ z c, (z, c) ∈ x.Q → ∃ (j k : Nat) (w : Wl) (s : Spot), z = (j : Int) ∧ c = (k : Int) ∧ j < 16 ∧ x.wl[j]? = some true ∧ x.cl[j]? = some (k : Int) ∧ x.sl[j]? = some s ∧ x.Ws[k]? = some w ∧ s.due ≤ w.now ∧ s.at_ ≤ w.now ∧ Live x.As j
  waits : ∀ j : Nat, x.wl[j]? = some true → (findK x.Ws (j : Int)).isSome = true ∨ (whQ x.Q (j : Int)).isSome = true
theorem whQ_isSome {Q : List (Int × Int)} {z c : Int} (h : (z, c) ∈ Q) : (whQ Q z).isSome = true := by
  unfold whQ
  rw [Option.isSome_map, List.find?_isSome]
  exact ⟨_, h, by simp⟩
theorem whQ_mem {Q : List (Int × Int)} {z : Int} (h : (whQ Q z).isSome = true) : ∃ c, (z, c) ∈ Q := by
  unfold whQ at h
  rw [Option.isSome_map, List.find?_isSome] at h
  obtain ⟨⟨a, b⟩, hp, e⟩ := h
  obtain rfl : a = z := by simpa using e
  exact ⟨b, hp⟩
theorem whQ_del (Q : List (Int × Int)) (z : Int) : whQ (delQ Q z) z = none := by
  cases h : whQ (delQ Q z) z with
  | none => rfl
  | some c =>
    obtain ⟨c2, hm⟩ := whQ_mem (Q := delQ Q z) (z := z) (by rw [h]; rfl)
    have h2 := of_decide_eq_true (List.mem_filter.1 hm).2
    exact absurd rfl h2
theorem whQ_none_del {Q : List (Int × Int)} {z y : Int} (h : whQ Q z = none) : whQ (delQ Q y) z = none := by
  cases e : whQ (delQ Q y) z with
  | none => rfl
  | some c =>
    obtain ⟨c2, hm⟩ := whQ_mem (Q := delQ Q y) (z := z) (by rw [e]; rfl)
    have := whQ_isSome (List.mem_filter.1 hm).1
    rw [h] at this; cases this
theorem whQ_del_ne {Q : List (Int × Int)} {z y : Int} (hne : z ≠ y) (h : (whQ Q z).isSome = true) : (whQ (delQ Q y) z).isSome = true := by
  obtain ⟨c, hm⟩ := whQ_mem h
  exact whQ_isSome (List.mem_filter.2 ⟨hm, decide_eq_true hne⟩)
theorem findK_mem {Ws : List Wl} {z : Int} (h : (findK Ws z).isSome = true) : ∃ (k : Nat) (w : Wl) (t : Tm), Ws[k]? = some w ∧ t ∈ w.L ∧ t.id = z := by
  obtain ⟨k, hk⟩ := Option.isSome_iff_exists.1 h
  obtain ⟨w, hw, hh⟩ := findK_at hk
  obtain ⟨t, ht, e⟩ := List.mem_map.1 (heldB_iff.1 hh)
  exact ⟨k, w, t, hw, ht, e⟩
theorem findK_of {Ws : List Wl} {k : Nat} {w : Wl} {t : Tm} (hw : Ws[k]? = some w) (ht : t ∈ w.L) : (findK Ws t.id).isSome = true := findK_isSome hw (heldB_iff.2 (List.mem_map_of_mem ht))
theorem findK_del_ne {Ws : List Wl} {z y : Int} (hne : z ≠ y) (h : (findK Ws z).isSome = true) : (findK (Ws.map (delW [y])) z).isSome = true := by
  obtain ⟨k, w, t, hw, ht, rfl⟩ := findK_mem h
  exact findK_of (w := delW [y] w) (by rw [List.getElem?_map, hw]; rfl) (List.mem_filter.2 ⟨ht, decide_eq_true hne⟩)
theorem OnI.wtrue {x : OnS} (h : OnI x) {j : Nat} : x.wl[j]? = some true ↔ (findK x.Ws (j : Int)).isSome = true ∨ (whQ x.Q (j : Int)).isSome = true := by
  refine ⟨h.waits j, fun hh => ?_⟩
  rcases hh with hh | hh
  · obtain ⟨k, w, t, hw, ht, e⟩ := findK_mem hh
    obtain ⟨j2, e2, _, hwl, _⟩ := h.armed k w t hw ht
    obtain rfl : j = j2 := by omega
    exact hwl
  · obtain ⟨c, hm⟩ := whQ_mem hh
    obtain ⟨j2, k, w, s, e2, _, _, hwl, _⟩ := h.queued _ _ hm
    obtain rfl : j = j2 := by omega
    exact hwl
theorem OnI.live {x : OnS} (h : OnI x) {j : Nat} (hw : x.wl[j]? = some true) : Live x.As j := by
  rcases h.waits j hw with hh | hh
  · obtain ⟨k, w, t, hw, ht, e⟩ := findK_mem hh
    obtain ⟨j2, e2, _, _, _, _, _, hl, _⟩ := h.armed k w t hw ht
    obtain rfl : j = j2 := by omega
    exact hl
  · obtain ⟨c, hm⟩ := whQ_mem hh
    obtain ⟨j2, k, w, s, e2, _, _, _, _, _, _, _, _, hl⟩ := h.queued _ _ hm
    obtain rfl : j = j2 := by omega
    exact hl
theorem set_ne_some {α : Type} {l : List α} {i j : Nat} {v y : α} (hne : i ≠ j) (h : l[j]? = some y) : (l.set i v)[j]? = some y := by rw [List.getElem?_set_ne hne]; exact h
theorem OnI.as {x : OnS} (h : OnI x) {As' : List Tone} {i' : Nat} (hO : TOk i' x.Ws As') (hl : ∀ j, Live x.As j → Live As' j) (hp : ∀ (j : Nat) o, As'[j]? = some o → o.prog = 0 ∨ o.prog = (j : Int) + 1) {HB : Heap} {Rs : List (Int × Int)} : OnI ⟨i', x.Ws, x.Q, Rs, As', HB, x.wl, x.sl, x.cl, x.ll⟩ :=
  ⟨hO, h.lenW, h.l1, h.l2, h.l3, h.l4, h.last, hp, fun k w t hw ht => by
    obtain ⟨j, a1, a2, a3, a4, a5, a6, a7, a8⟩ := h.armed k w t hw ht
    exact ⟨j, a1, a2, a3, a4, a5, a6, hl j a7, a8⟩, fun z c hm => by
    obtain ⟨j, k, w, s, a1, a2, a3, a4, a5, a6, a7, a8, a9, a10⟩ := h.queued z c hm
    exact ⟨j, k, w, s, a1, a2, a3, a4, a5, a6, a7, a8, a9, hl j a10⟩, h.waits⟩
theorem OnI.del {x : OnS} (h : OnI x) {j : Nat} {As' : List Tone} {i' : Nat} (hO : TOk i' (x.Ws.map (delW [(j : Int)])) As') (hA : ∀ (m : Nat) o, m ≠ j → x.As[m]? = some o → As'[m]? = some o) (hp : ∀ (m : Nat) o, As'[m]? = some o → o.prog = 0 ∨ o.prog = (m : Int) + 1) {HB : Heap} : OnI ⟨i', x.Ws.map (delW [(j : Int)]), delQ x.Q (j : Int), x.Rs, As', HB, x.wl.set j false, x.sl, x.cl, x.ll⟩ := by
  have hl : ∀ m, m ≠ j → Live x.As m → Live As' m := fun m hm ⟨o, ho, r⟩ => ⟨o, hA m o hm ho, r⟩
  refine ⟨hO, by show (x.Ws.map _).length = 3; rw [List.length_map]; exact h.lenW, by show (x.wl.set j false).length = 16; rw [List.length_set]; exact h.l1, h.l2, h.l3, h.l4, fun k w hw => ?_, hp, fun k w t hw ht => ?_, fun z c hm => ?_, fun m hm => ?_⟩
  · have hw2 : (x.Ws.map (delW [(j : Int)]))[k]? = some w := hw
    rw [List.getElem?_map] at hw2
    obtain ⟨u, hu, rfl⟩ := Option.map_eq_some_iff.1 hw2
    exact h.last k u hu
  · have hw2 : (x.Ws.map (delW [(j : Int)]))[k]? = some w := hw
    rw [List.getElem?_map] at hw2
    obtain ⟨u, hu, rfl⟩ := Option.map_eq_some_iff.1 hw2
    have ht2 := List.mem_filter.1 (show t ∈ u.L.filter (fun t => decide (t.id ≠ (j : Int))) from ht)
    obtain ⟨m, a1, a2, a3, a4, a5, a6, a7, a8⟩ := h.armed k u t hu ht2.1
    have hne : j ≠ m := fun e => of_decide_eq_true ht2.2 (by rw [a1, e])
    exact ⟨m, a1, a2, set_ne_some hne a3, a4, a5, a6, hl m (Ne.symm hne) a7, whQ_none_del a8⟩
  · have hm2 := List.mem_filter.1 (show (z, c) ∈ x.Q.filter (fun p => decide (p.1 ≠ (j : Int))) from hm)
    obtain ⟨m, k, w, s, a1, a2, a3, a4, a5, a6, a7, a8, a9, a10⟩ := h.queued z c hm2.1
    have hne : j ≠ m := fun e => of_decide_eq_true hm2.2 (by show z = _; rw [a1, e])
    exact ⟨m, k, delW [(j : Int)] w, s, a1, a2, a3, set_ne_some hne a4, a5, a6, by show (x.Ws.map _)[k]? = _; rw [List.getElem?_map, a7]; rfl, a8, a9, hl m (Ne.symm hne) a10⟩
  · have hm2 : (x.wl.set j false)[m]? = some true := hm
    by_cases e : j = m
    · subst e
      have hlt : j < x.wl.length := by
        have := (List.getElem?_eq_some_iff.1 hm2).1
        rwa [List.length_set] at this
      rw [List.getElem?_set_self hlt] at hm2
      cases hm2
    · rw [List.getElem?_set_ne e] at hm2
      rcases h.waits m hm2 with hh | hh
      · exact .inl (findK_del_ne (fun e2 => e (by omega)) hh)
      · exact .inr (whQ_del_ne (fun e2 => e (by omega)) hh)
theorem OnI.put {x : OnS} (h : OnI x) {j k tn : Nat} {w : Wl} {s : Spot} {i' : Nat} (hj : j < 16) (hk : x.Ws[k]? = some w) (hl : Live x.As j) (hf : findK x.Ws (j : Int) = none) (hq : whQ x.Q (j : Int) = none) (hs : s.at_ ≤ s.due) (hO : TOk i' (x.Ws.set k ⟨w.bw, w.now, w.L ++ [⟨(j : Int), s, tn⟩], w.turn + 1⟩) x.As) {HB : Heap} : OnI ⟨i', x.Ws.set k ⟨w.bw, w.now, w.L ++ [⟨(j : Int), s, tn⟩], w.turn + 1⟩, x.Q, x.Rs, x.As, HB, x.wl.set j true, x.sl.set j s, x.cl.set j (k : Int), x.ll⟩ := by
  have hkl := (List.getElem?_eq_some_iff.1 hk).1
  have hj1 : (x.wl.set j true)[j]? = some true := List.getElem?_set_self (by rw [h.l1]; exact hj)
  have hj2 : (x.sl.set j s)[j]? = some s := List.getElem?_set_self (by rw [h.l2]; exact hj)
  have hj3 : (x.cl.set j (k : Int))[j]? = some (k : Int) := List.getElem?_set_self (by rw [h.l3]; exact hj)
  refine ⟨hO, by show (x.Ws.set _ _).length = 3; rw [List.length_set]; exact h.lenW, by show (x.wl.set _ _).length = 16; rw [List.length_set]; exact h.l1, by show (x.sl.set _ _).length = 16; rw [List.length_set]; exact h.l2, by show (x.cl.set _ _).length = 16; rw [List.length_set]; exact h.l3, h.l4, fun m u hu => ?_, h.prog, fun m u t hu ht => ?_, fun z c hm => ?_, fun m hm => ?_⟩
  · have hu2 : (x.Ws.set k _)[m]? = some u := hu
    by_cases e : k = m
    · subst e
      rw [List.getElem?_set_self hkl] at hu2
      obtain rfl := Option.some.inj hu2
      exact h.last k w hk
    · rw [List.getElem?_set_ne e] at hu2
      exact h.last m u hu2
  · have key : ∀ (m : Nat) u t, x.Ws[m]? = some u → t ∈ u.L → ∃ q : Nat, t.id = (q : Int) ∧ q < 16 ∧ (x.wl.set j true)[q]? = some true ∧ (x.cl.set j (k : Int))[q]? = some (m : Int) ∧ (x.sl.set j s)[q]? = some t.s ∧ t.s.at_ ≤ t.s.due ∧ Live x.As q ∧ whQ x.Q (q : Int) = none := fun m u t hu ht => by
      obtain ⟨q, a1, a2, a3, a4, a5, a6, a7, a8⟩ := h.armed m u t hu ht
      have hne : j ≠ q := fun e => by
        have := findK_of hu ht
        rw [a1, ← e, hf] at this; cases this
      exact ⟨q, a1, a2, set_ne_some hne a3, set_ne_some hne a4, set_ne_some hne a5, a6, a7, a8⟩
    have hu2 : (x.Ws.set k _)[m]? = some u := hu
    by_cases e : k = m
    · subst e
      rw [List.getElem?_set_self hkl] at hu2
      obtain rfl := Option.some.inj hu2
      rcases List.mem_append.1 ht with ht | ht
      · exact key k w t hk ht
      · rw [List.mem_singleton.1 ht]
        exact ⟨j, rfl, hj, hj1, hj3, hj2, hs, hl, hq⟩
    · rw [List.getElem?_set_ne e] at hu2
      exact key m u t hu2 ht
  · obtain ⟨q, m, u, s2, a1, a2, a3, a4, a5, a6, a7, a8, a9, a10⟩ := h.queued z c hm
    have hne : j ≠ q := fun e => by
      have := whQ_isSome hm
      rw [a1, ← e, hq] at this; cases this
    by_cases e : k = m
    · subst e
      obtain rfl := Option.some.inj (a7.symm.trans hk)
      exact ⟨q, k, _, s2, a1, a2, a3, set_ne_some hne a4, set_ne_some hne a5, set_ne_some hne a6, List.getElem?_set_self hkl, a8, a9, a10⟩
    · exact ⟨q, m, u, s2, a1, a2, a3, set_ne_some hne a4, set_ne_some hne a5, set_ne_some hne a6, by show (x.Ws.set k _)[m]? = _; rw [List.getElem?_set_ne e]; exact a7, a8, a9, a10⟩
  · have hm2 : (x.wl.set j true)[m]? = some true := hm
    by_cases e : j = m
    · subst e
      exact .inl (findK_isSome (List.getElem?_set_self hkl) (heldB_iff.2 (by simp)))
    · rw [List.getElem?_set_ne e] at hm2
      rcases h.waits m hm2 with hh | hh
      · refine .inl ?_
        obtain ⟨q, u, t, hu, ht, et⟩ := findK_mem hh
        rw [← et]
        by_cases e2 : k = q
        · subst e2
          obtain rfl := Option.some.inj (hu.symm.trans hk)
          exact findK_of (List.getElem?_set_self hkl) (List.mem_append_left _ ht)
        · exact findK_of (by rw [List.getElem?_set_ne e2]; exact hu) ht
      · exact .inr hh
end Go.Proofs.YtcmfldfeakmdoaaGreatDoor
namespace Go.Proofs.YtcmfldfeakmdoaaGreatDoor
open Go Go.Sl
attribute [local irreducible] W
set_option maxRecDepth 100000
theorem whQ_snoc_none {Q : List (Int × Int)} {x y c : Int} (h : whQ Q y = none) (hne : y ≠ x) : whQ (Q ++ [(x, c)]) y = none := by
  cases e : whQ (Q ++ [(x, c)]) y with
  | none => rfl
  | some d =>
    obtain ⟨c2, hm⟩ := whQ_mem (Q := Q ++ [(x, c)]) (z := y) (by rw [e]; rfl)
    rcases List.mem_append.1 hm with hm | hm
    · have := whQ_isSome hm
      rw [h] at this; cases this
    · have e2 := List.mem_singleton.1 hm
      exact absurd (Prod.mk.inj e2).1 hne
theorem addQ_all {cpu : Int} : ∀ {l : List Int} {Q : List (Int × Int)}, l.Nodup → (∀ x ∈ l, 0 ≤ x ∧ x < 256) → (∀ x ∈ l, whQ Q x = none) → addQ cpu l Q = (Q ++ l.map (fun x => (x, cpu)), 0)
  | [], Q, _, _, _ => by simp [addQ]
  | x :: l, Q, hn, hr, hq => by
    rw [List.nodup_cons] at hn
    unfold addQ
    rw [if_neg (fun c => c (hr x List.mem_cons_self)), if_neg (by rw [hq x List.mem_cons_self]; decide), addQ_all hn.2 (fun y hy => hr y (List.mem_cons_of_mem _ hy)) (fun y hy => whQ_snoc_none (hq y (List.mem_cons_of_mem _ hy)) (fun (e : y = x) => hn.1 (by rw [← e]; exact hy)))]
    simp
theorem tm_inj {L : List Tm} (hn : (L.map (·.id)).Nodup) {t u : Tm} (ht : t ∈ L) (hu : u ∈ L) (e : t.id = u.id) : t = u := by
  obtain ⟨i, hi, ei⟩ := List.getElem_of_mem ht
  obtain ⟨j, hj, ej⟩ := List.getElem_of_mem hu
  have : i = j := (List.getElem_inj (xs := L.map (·.id)) (h₀ := by simpa using hi) (h₁ := by simpa using hj) hn).1 (by simp only [List.getElem_map]; rw [ei, ej]; exact e)
  subst this
  rw [← ei, ej]
theorem OnI.catch {x : OnS} (h : OnI x) {k a i' : Nat} {Ws' : List Wl} {O : List Tm} {w : Wl} (hk : x.Ws[k]? = some w) (hc : CatchIs x.Ws (k : Int) a Ws' O) (hnd : ∀ w ∈ x.Ws, (w.L.map (·.id)).Nodup) (hO : TOk i' Ws' x.As) {HB : Heap} :
    OnI ⟨i', Ws', (addsQ 3 x.Q (k : Int) (O.map (·.id))).1, x.Rs, x.As, HB, x.wl, x.sl, x.cl, x.ll.set k (max w.now a)⟩ := by
  obtain ⟨Li, hG, rfl⟩ := catch_at hc hk
  have hkl := (List.getElem?_eq_some_iff.1 hk).1
  have hwm := List.mem_of_getElem? hk
  have hOm : ∀ t ∈ O, t ∈ w.L ∧ t.s.due ≤ max w.now a := fun t ht => by
    have h1 := List.mem_filter.1 (hG.perm.mem_iff.1 ht)
    exact ⟨h1.1, of_decide_eq_true h1.2⟩
  have hLm : ∀ t ∈ Li, t ∈ w.L ∧ max w.now a < t.s.due := fun t ht => by
    rw [hG.left] at ht
    have h1 := List.mem_filter.1 ht
    exact ⟨h1.1, of_decide_eq_true h1.2⟩
  have hOn : (O.map (·.id)).Nodup := (hG.perm.map (·.id)).nodup_iff.2 ((hnd w hwm).sublist (List.filter_sublist.map _))
  have hadd : addsQ 3 x.Q (k : Int) (O.map (·.id)) = (x.Q ++ (O.map (·.id)).map (fun z => (z, (k : Int))), 0) := by
    unfold addsQ
    rw [if_neg (by have := h.lenW; omega)]
    refine addQ_all hOn (fun z hz => ?_) (fun z hz => ?_)
    · obtain ⟨t, ht, rfl⟩ := List.mem_map.1 hz
      obtain ⟨j, a1, a2, _⟩ := h.armed k w t hk (hOm t ht).1
      omega
    · obtain ⟨t, ht, rfl⟩ := List.mem_map.1 hz
      obtain ⟨j, a1, _, _, _, _, _, _, a8⟩ := h.armed k w t hk (hOm t ht).1
      rw [a1]; exact a8
  rw [hadd]
  have hQn : ∀ y : Int, whQ x.Q y = none → y ∉ O.map (·.id) → whQ (x.Q ++ (O.map (·.id)).map (fun z => (z, (k : Int)))) y = none := fun y hy hn => by
    cases e : whQ (x.Q ++ (O.map (·.id)).map (fun z => (z, (k : Int)))) y with
    | none => rfl
    | some d =>
      obtain ⟨c2, hm⟩ := whQ_mem (Q := x.Q ++ (O.map (·.id)).map (fun z => (z, (k : Int)))) (z := y) (by rw [e]; rfl)
      rcases List.mem_append.1 hm with hm | hm
      · have := whQ_isSome hm
        rw [hy] at this; cases this
      · obtain ⟨z, hz, ez⟩ := List.mem_map.1 hm
        exact absurd ((Prod.mk.inj ez).1 ▸ hz) hn
  have hset : (x.Ws.set k ⟨w.bw, max w.now a, Li, w.turn⟩)[k]? = some ⟨w.bw, max w.now a, Li, w.turn⟩ := List.getElem?_set_self hkl
  refine ⟨hO, by show (x.Ws.set _ _).length = 3; rw [List.length_set]; exact h.lenW, h.l1, h.l2, h.l3, by show (x.ll.set _ _).length = 3; rw [List.length_set]; exact h.l4, fun m u hu => ?_, h.prog, fun m u t hu ht => ?_, fun z c hm => ?_, fun m hm => ?_⟩
  · have hu2 : (x.Ws.set k _)[m]? = some u := hu
    show (x.ll.set k _)[m]? = _
    by_cases e : k = m
    · subst e
      rw [hset] at hu2
      obtain rfl := Option.some.inj hu2
      exact List.getElem?_set_self (by rw [h.l4, ← h.lenW]; exact hkl)
    · rw [List.getElem?_set_ne e] at hu2 ⊢
      exact h.last m u hu2
  · have hu2 : (x.Ws.set k _)[m]? = some u := hu
    by_cases e : k = m
    · subst e
      rw [hset] at hu2
      obtain rfl := Option.some.inj hu2
      obtain ⟨htw, htd⟩ := hLm t ht
      obtain ⟨j, a1, a2, a3, a4, a5, a6, a7, a8⟩ := h.armed k w t hk htw
      refine ⟨j, a1, a2, a3, a4, a5, a6, a7, hQn _ a8 (fun hin => ?_)⟩
      obtain ⟨t', ht', et⟩ := List.mem_map.1 hin
      have := tm_inj (hnd w hwm) (hOm t' ht').1 htw (et.trans a1.symm)
      subst this
      have := (hOm t' ht').2
      omega
    · rw [List.getElem?_set_ne e] at hu2
      obtain ⟨j, a1, a2, a3, a4, a5, a6, a7, a8⟩ := h.armed m u t hu2 ht
      refine ⟨j, a1, a2, a3, a4, a5, a6, a7, hQn _ a8 (fun hin => ?_)⟩
      obtain ⟨t', ht', et⟩ := List.mem_map.1 hin
      obtain ⟨j', b1, _, _, b4, _⟩ := h.armed k w t' hk (hOm t' ht').1
      obtain rfl : j = j' := by have : t'.id = (j : Int) := et; omega
      rw [a4] at b4
      have := Option.some.inj b4
      exact e (by omega)
  · rcases List.mem_append.1 hm with hm | hm
    · obtain ⟨j, m, u, s, a1, a2, a3, a4, a5, a6, a7, a8, a9, a10⟩ := h.queued z c hm
      by_cases e : k = m
      · subst e
        obtain rfl := Option.some.inj (a7.symm.trans hk)
        exact ⟨j, k, _, s, a1, a2, a3, a4, a5, a6, hset, Nat.le_trans a8 (Nat.le_max_left _ _), Nat.le_trans a9 (Nat.le_max_left _ _), a10⟩
      · exact ⟨j, m, u, s, a1, a2, a3, a4, a5, a6, by show (x.Ws.set k _)[m]? = _; rw [List.getElem?_set_ne e]; exact a7, a8, a9, a10⟩
    · obtain ⟨z2, hz, ez⟩ := List.mem_map.1 hm
      obtain ⟨e1, e2⟩ := Prod.mk.inj ez
      subst e1 e2
      obtain ⟨t, ht, rfl⟩ := List.mem_map.1 hz
      obtain ⟨j, a1, a2, a3, a4, a5, a6, a7, a8⟩ := h.armed k w t hk (hOm t ht).1
      have hd := (hOm t ht).2
      exact ⟨j, k, _, t.s, a1, rfl, a2, a3, a4, a5, hset, hd, Nat.le_trans a6 hd, a7⟩
  · rcases h.waits m hm with hh | hh
    · obtain ⟨q, u, t, hu, ht, et⟩ := findK_mem hh
      by_cases e : k = q
      · subst e
        obtain rfl := Option.some.inj (hu.symm.trans hk)
        by_cases hd : max u.now a < t.s.due
        · refine .inl ?_
          rw [← et]
          exact findK_of hset (by show t ∈ Li; rw [hG.left]; exact List.mem_filter.2 ⟨ht, decide_eq_true hd⟩)
        · refine .inr ?_
          have htO : t ∈ O := hG.perm.mem_iff.2 (List.mem_filter.2 ⟨ht, decide_eq_true (by omega)⟩)
          rw [← et]
          exact whQ_isSome (c := (k : Int)) (List.mem_append_right _ (List.mem_map.2 ⟨t.id, List.mem_map_of_mem htO, rfl⟩))
      · refine .inl ?_
        rw [← et]
        exact findK_of (by show (x.Ws.set k _)[q]? = _; rw [List.getElem?_set_ne e]; exact hu) ht
    · obtain ⟨c, hc2⟩ := whQ_mem hh
      exact .inr (whQ_isSome (List.mem_append_left _ hc2))
theorem begQ_ways (n : Nat) (Q Rs : List (Int × Int)) (cpu c : Int) : (¬ (begQ n Q Rs cpu c).2.2.2 = 0 ∧ (begQ n Q Rs cpu c).1 = Q ∧ (begQ n Q Rs cpu c).2.1 = Rs) ∨ ∃ z l, quOf Q cpu = z :: l ∧ begQ n Q Rs cpu c = (delQ Q z, Rs ++ [(z, c)], z, 0) := by
  unfold begQ
  split
  · exact .inl ⟨(show ¬ (2 : Int) = 0 by decide), rfl, rfl⟩
  · split
    · exact .inl ⟨(show ¬ (5 : Int) = 0 by decide), rfl, rfl⟩
    · split
      · exact .inl ⟨(show ¬ (4 : Int) = 0 by decide), rfl, rfl⟩
      · rename_i z l hz
        split
        · exact .inl ⟨(show ¬ (21 : Int) = 0 by decide), rfl, rfl⟩
        · exact .inr ⟨z, l, hz, rfl⟩
theorem OnI.pop {x : OnS} (h : OnI x) {j i' : Nat} {c : Int} (hm : ((j : Int), c) ∈ x.Q) (hO : TOk i' x.Ws x.As) {HB : Heap} {Rs : List (Int × Int)} : OnI ⟨i', x.Ws, delQ x.Q (j : Int), Rs, x.As, HB, x.wl.set j false, x.sl, x.cl, x.ll⟩ := by
  refine ⟨hO, h.lenW, by show (x.wl.set j false).length = 16; rw [List.length_set]; exact h.l1, h.l2, h.l3, h.l4, h.last, h.prog, fun k w t hw ht => ?_, fun z c hm => ?_, fun m hm2 => ?_⟩
  · obtain ⟨m, a1, a2, a3, a4, a5, a6, a7, a8⟩ := h.armed k w t hw ht
    have hne : j ≠ m := fun e => by
      have := whQ_isSome hm
      rw [e, a8] at this; cases this
    exact ⟨m, a1, a2, set_ne_some hne a3, a4, a5, a6, a7, whQ_none_del a8⟩
  · have hm2 := List.mem_filter.1 (show (z, c) ∈ x.Q.filter (fun p => decide (p.1 ≠ (j : Int))) from hm)
    obtain ⟨m, k, w, s, a1, a2, a3, a4, a5, a6, a7, a8, a9, a10⟩ := h.queued z c hm2.1
    have hne : j ≠ m := fun e => of_decide_eq_true hm2.2 (by show z = _; rw [a1, e])
    exact ⟨m, k, w, s, a1, a2, a3, set_ne_some hne a4, a5, a6, a7, a8, a9, a10⟩
  · have hm3 : (x.wl.set j false)[m]? = some true := hm2
    by_cases e : j = m
    · subst e
      have hlt : j < x.wl.length := by
        have := (List.getElem?_eq_some_iff.1 hm3).1
        rwa [List.length_set] at this
      rw [List.getElem?_set_self hlt] at hm3
      cases hm3
    · rw [List.getElem?_set_ne e] at hm3
      rcases h.waits m hm3 with hh | hh
      · exact .inl hh
      · exact .inr (whQ_del_ne (fun e2 => e (by omega)) hh)
theorem start_ways {n i k a : Nat} {Ws Ws' : List Wl} {Q Q' : List (Int × Int)} {As As' : List Tone} {o : Tone} {w : Wl} {s : Spot} {e : Int} (h : StartIs n Ws Q As (i : Int) (k : Int) a Ws' Q' As' s e) (hl : Ws.length = n) (hi : i < 256) (hA : As[i]? = some o) (hw : Ws[k]? = some w) (hwn : w.now ≤ 18446744073709551615) :
    (¬ e = 0 ∧ Ws' = Ws ∧ Q' = Q ∧ As' = As) ∨ (e = 0 ∧ (o.shut = false ∧ o.made = true ∧ ¬ o.prog = 0 ∧ w.now < 18446744073709551615) ∧ s = (placeT w.now a).1 ∧ Ws' = (Ws.map (delW [(i : Int)])).set k ⟨w.bw, w.now, delT w.L (i : Int) ++ [tmOf w.now a w.turn (i : Int)], w.turn + 1⟩ ∧ Q' = delQ Q (i : Int) ∧ As' = As.set i { o with starts := o.starts + 1 }) := by
  have h0 := h
  have hkl := (List.getElem?_eq_some_iff.1 hw).1
  generalize hid : (i : Int) = id at h
  generalize hcp : (k : Int) = cpu at h
  cases h with
  | out h => exact absurd h (by omega)
  | @at_ i2 k2 o2 w2 _ _ _ _ _ hi2 ei ek hA2 hw2 hM =>
    subst hid hcp
    obtain rfl : i2 = i := by omega
    obtain rfl : k2 = k := by omega
    obtain rfl : o2 = o := Option.some.inj (hA2.symm.trans hA)
    obtain rfl : w2 = w := Option.some.inj (hw2.symm.trans hw)
    cases hM with
    | gone h => exact .inl ⟨by decide, rfl, rfl, rfl⟩
    | unset _ h => exact .inl ⟨by decide, rfl, rfl, rfl⟩
    | late _ _ h => exact .inl ⟨by decide, rfl, rfl, rfl⟩
    | put h1 h2 h3 hp =>
      have hmd : o2.made = true := by
        cases hm : o2.made with
        | true => rfl
        | false => exact absurd (.inl hm) h2
      have hpr : ¬ o2.prog = 0 := fun e => h2 (.inr e)
      have hnw : w2.now < 18446744073709551615 := by omega
      obtain ⟨e1, e2, e3, e4, e5⟩ := start_ok h0 hl hi hA hw h1 hmd hpr hnw
      exact .inr ⟨e1, ⟨h1, hmd, hpr, hnw⟩, e2, e3, e4, e5⟩
end Go.Proofs.YtcmfldfeakmdoaaGreatDoor
namespace Go.Proofs.YtcmfldfeakmdoaaGreatDoor
open Go Go.Sl
attribute [local irreducible] W
set_option maxRecDepth 100000
structure Tct where
  kind : Int
  id : Int
  cpu : Int
  n : Int
  at_ : Int
deriving DecidableEq
def tcC (v : Tct) : List Value := [.int .i64 v.kind, .int .i64 v.id, .int .i64 v.cpu, .int .i64 v.n, .int .u64 v.at_]
instance : Inhabited Tct := ⟨⟨0, 0, 0, 0, 0⟩⟩
def Tct.In (v : Tct) : Prop := (-9223372036854775808 ≤ v.kind ∧ v.kind ≤ 9223372036854775807) ∧ (-9223372036854775808 ≤ v.id ∧ v.id ≤ 9223372036854775807) ∧ (-9223372036854775808 ≤ v.cpu ∧ v.cpu ≤ 9223372036854775807) ∧ (-9223372036854775808 ≤ v.n ∧ v.n ≤ 9223372036854775807) ∧ (0 ≤ v.at_ ∧ v.at_ ≤ 18446744073709551615)
theorem tcC_len (v : Tct) : (tcC v).length = 5 := rfl
theorem tcC_of {cs : List Value} (h : Leafs [.int .i64, .int .i64, .int .i64, .int .i64, .int .u64] cs) : ∃ v : Tct, cs = tcC v ∧ v.In := by
  obtain ⟨a0, c0, rfl, ⟨m0, rfl, e0⟩, h0⟩ := leafs_cons h
  obtain ⟨a1, c1, rfl, ⟨m1, rfl, e1⟩, h1⟩ := leafs_cons h0
  obtain ⟨a2, c2, rfl, ⟨m2, rfl, e2⟩, h2⟩ := leafs_cons h1
  obtain ⟨a3, c3, rfl, ⟨m3, rfl, e3⟩, h3⟩ := leafs_cons h2
  obtain ⟨a4, c4, rfl, ⟨m4, rfl, e4⟩, h4⟩ := leafs_cons h3
  obtain rfl := leafs_nil h4
  exact ⟨⟨m0, m1, m2, m3, m4⟩, rfl, ⟨e0, e1, e2, e3, e4⟩⟩
theorem flat45 : Flat Tryz.prog 1 45 [.int .i64, .int .i64, .int .i64, .int .i64, .int .u64] := (Flat.struct ty45 (by kernel_rfl) (by kernel_rfl) (.cons (ks := [.int .i64]) (by decide) rfl (by kernel_rfl) (Flat.leaf (k := .int .i64) ty3) (.cons (ks := [.int .i64]) (by decide) rfl (by kernel_rfl) (Flat.leaf (k := .int .i64) ty3) (.cons (ks := [.int .i64]) (by decide) rfl (by kernel_rfl) (Flat.leaf (k := .int .i64) ty3) (.cons (ks := [.int .i64]) (by decide) rfl (by kernel_rfl) (Flat.leaf (k := .int .i64) ty3) (.cons (ks := [.int .u64]) (by decide) rfl (by kernel_rfl) (Flat.leaf (k := .int .u64) ty22) .nil))))))
theorem ce45 : Tryz.prog.cellsOf 45 = 5 := by kernel_rfl
abbrev tcRow (l : List Tct) : List Value := l.flatMap tcC
theorem spv_len (s : Spot) : (Spot.v s).length = 4 := rfl
theorem spot_get {sl : List Spot} {j q : Nat} {s : Spot} {v : Value} (h : sl[j]? = some s) (hv : (Spot.v s)[q]? = some v) : (sl.flatMap Spot.v)[0 + j * 4 + q]? = some v := by
  rw [Nat.zero_add]; exact flat_at spv_len h q v hv
theorem onA_cases (f : Tone → Tone × Int) (As : List Tone) (j : Nat) : (onA f As (j : Int)).1 = As ∨ ∃ o, As[j]? = some o ∧ (onA f As (j : Int)).1 = As.set j (f o).1 := by
  by_cases hj : j < 256
  · cases ho : As[j]? with
    | none => left; unfold onA; rw [if_pos (by omega), show ((j : Nat) : Int).toNat = j by omega, ho]
    | some o => right; exact ⟨o, rfl, by rw [onA_at hj ho]⟩
  · left; rw [onA_out (by omega)]
theorem live_on {f : Tone → Tone × Int} {As : List Tone} {j m : Nat} (hf : ∀ o, o.made = true → o.shut = false → ¬ o.prog = 0 → (f o).1.made = true ∧ (f o).1.shut = false ∧ ¬ (f o).1.prog = 0) (h : Live As m) : Live (onA f As (j : Int)).1 m := by
  obtain ⟨o, ho, h1, h2, h3⟩ := h
  rcases onA_cases f As j with e | ⟨o2, ho2, e⟩
  · rw [e]; exact ⟨o, ho, h1, h2, h3⟩
  · rw [e]
    by_cases hm : j = m
    · subst hm
      obtain rfl := Option.some.inj (ho.symm.trans ho2)
      exact ⟨_, List.getElem?_set_self (List.getElem?_eq_some_iff.1 ho).1, hf o h1 h2 h3⟩
    · exact ⟨o, by rw [List.getElem?_set_ne hm]; exact ho, h1, h2, h3⟩
def ProgOk (As : List Tone) : Prop := ∀ (j : Nat) o, As[j]? = some o → o.prog = 0 ∨ o.prog = (j : Int) + 1
theorem prog_on {f : Tone → Tone × Int} {As : List Tone} {j : Nat} (hf : ∀ o, (o.prog = 0 ∨ o.prog = (j : Int) + 1) → (f o).1.prog = 0 ∨ (f o).1.prog = (j : Int) + 1) (h : ProgOk As) : ProgOk (onA f As (j : Int)).1 := by
  rcases onA_cases f As j with e | ⟨o2, ho2, e⟩
  · rw [e]; exact h
  · rw [e]
    intro m o ho
    by_cases hm : j = m
    · subst hm
      rw [List.getElem?_set_self (List.getElem?_eq_some_iff.1 ho2).1] at ho
      obtain rfl := Option.some.inj ho
      exact hf o2 (h j o2 ho2)
    · rw [List.getElem?_set_ne hm] at ho
      exact h m o ho
theorem initO_live {o : Tone} (h1 : o.made = true) (h2 : o.shut = false) (h3 : ¬ o.prog = 0) : (initO o).1.made = true ∧ (initO o).1.shut = false ∧ ¬ (initO o).1.prog = 0 := by
  unfold initO; rw [if_neg (by rw [h2]; decide), if_pos h1]; exact ⟨h1, h2, h3⟩
theorem setO_live {o : Tone} {j : Nat} (h1 : o.made = true) (h2 : o.shut = false) (h3 : ¬ o.prog = 0) : (setO (j : Int) o).1.made = true ∧ (setO (j : Int) o).1.shut = false ∧ ¬ (setO (j : Int) o).1.prog = 0 := by
  unfold setO; rw [if_neg (by rw [h2]; decide), if_neg (by rw [h1]; decide)]; exact ⟨h1, h2, by show ¬ (j : Int) + 1 = 0; omega⟩
theorem OnI.initset {x : OnS} (h : OnI x) {j : Nat} (hj : j < 16) {HB : Heap} : OnI ⟨x.i + 1, x.Ws, x.Q, x.Rs, (setA (onA initO x.As (j : Int)).1 (j : Int) (j : Int)).1, HB, x.wl, x.sl, x.cl, x.ll⟩ := by
  have e : (setA (onA initO x.As (j : Int)).1 (j : Int) (j : Int)).1 = (onA (setO (j : Int)) (onA initO x.As (j : Int)).1 (j : Int)).1 := by unfold setA; rw [if_pos (by omega)]
  rw [e]
  refine h.as (((h.ok.onA initO_starts _).onA (setO_starts _) _).up (Nat.le_succ _)) (fun m hm => live_on (fun o => setO_live) (live_on (fun o => initO_live) hm)) (prog_on (fun o ho => ?_) (prog_on (fun o ho => ?_) h.prog))
  · unfold setO; split
    · exact ho
    · split
      · exact ho
      · exact .inr rfl
  · unfold initO; split
    · exact ho
    · split <;> exact ho
theorem place_ge {now a : Nat} (hn : now < 18446744073709551615) : now < (placeT now a).1.at_ ∧ (placeT now a).1.at_ ≤ (placeT now a).1.due := by
  have e : placeT now a = _ := if_neg (by omega)
  rw [e]
  dsimp only
  have ht1 : now < clampT now a 132120575 := by unfold clampT addT; split <;> split <;> omega
  have ht3 : clampT now a 132120575 ≤ 18446744073709551615 := clampT_le _ _ _
  generalize clampT now a 132120575 = t at *
  refine ⟨ht1, ?_⟩
  generalize (lvOf (t - now)).1 = n
  have hc := (ceilT_is (t := t) (n := n)).1
  show t ≤ tickT (ceilT t n) n
  unfold tickT
  split <;> omega
theorem OnI.start {x : OnS} (h : OnI x) {j k a : Nat} {w : Wl} {o : Tone} (hj : j < 16) (hw : x.Ws[k]? = some w) (ho : x.As[j]? = some o) (hl : o.shut = false ∧ o.made = true ∧ ¬ o.prog = 0 ∧ w.now < 18446744073709551615) {W5 : List Wl} (hW : W5 = (x.Ws.map (delW [(j : Int)])).set k ⟨w.bw, w.now, delT w.L (j : Int) ++ [tmOf w.now a w.turn (j : Int)], w.turn + 1⟩) (hO : TOk (x.i + 1) W5 (x.As.set j { o with starts := o.starts + 1 })) {HB : Heap} :
    OnI ⟨x.i + 1, W5, delQ x.Q (j : Int), x.Rs, x.As.set j { o with starts := o.starts + 1 }, HB, x.wl.set j true, x.sl.set j (placeT w.now a).1, x.cl.set j (k : Int), x.ll⟩ := by
  have hjl := (List.getElem?_eq_some_iff.1 ho).1
  have hself : (x.As.set j { o with starts := o.starts + 1 })[j]? = some { o with starts := o.starts + 1 } := List.getElem?_set_self hjl
  have hd := h.del (j := j) (As' := x.As.set j { o with starts := o.starts + 1 }) (i' := x.i + 1) (HB := HB) ⟨(h.ok.bank.up (Nat.le_succ _)).del _, hO.starts⟩ (fun m p hm hp => by rw [List.getElem?_set_ne (Ne.symm hm)]; exact hp) (fun m p hp => by
    by_cases e : j = m
    · subst e
      rw [hself] at hp
      obtain rfl := Option.some.inj hp
      exact h.prog j o ho
    · rw [List.getElem?_set_ne e] at hp
      exact h.prog m p hp)
  have hp := hd.put (j := j) (k := k) (w := delW [(j : Int)] w) (s := (placeT w.now a).1) (tn := w.turn + 1) (i' := x.i + 1) (HB := HB) hj (by show (x.Ws.map _)[k]? = _; rw [List.getElem?_map, hw]; rfl) ⟨_, hself, hl.2.1, hl.1, hl.2.2.1⟩ (findK_del _ _) (whQ_del _ _) (place_ge hl.2.2.2).2 (by
    rw [hW] at hO; exact hO)
  rw [hW]
  have e : (x.wl.set j false).set j true = x.wl.set j true := by rw [List.set_set]
  rw [← e]
  exact hp
theorem bool_at {l : List Bool} {j : Nat} {n : Nat} (hl : l.length = n) (hj : j < n) : ∃ b, l[j]? = some b := ⟨_, List.getElem?_eq_getElem (by omega)⟩
theorem OnI.stop {x : OnS} (h : OnI x) {j : Nat} (hj : j < 16) (hA : AsOk x.As) {b : Bool} (hb : x.wl[j]? = some b) {HB : Heap} : (stopA x.Ws x.Q x.As (j : Int)).2.2.1 = b ∧ OnI ⟨x.i + 1, (stopA x.Ws x.Q x.As (j : Int)).1, (stopA x.Ws x.Q x.As (j : Int)).2.1, x.Rs, x.As, HB, x.wl.set j false, x.sl, x.cl, x.ll⟩ := by
  obtain ⟨o, ho⟩ := hA.at (i := j) (by omega)
  rw [stopA_at (by omega) ho]
  unfold stopM
  by_cases hm : o.made = true
  · rw [if_pos hm]
    refine ⟨?_, h.del (TOk.up ⟨h.ok.bank.del _, h.ok.starts⟩ (Nat.le_succ _)) (fun m p _ hp => hp) h.prog⟩
    show wasT x.Ws x.Q (j : Int) = b
    rw [wasT_is h.ok.bank.uni]
    cases b with
    | true =>
      rcases h.wtrue.1 hb with e | e <;> rw [e]
      · rfl
      · rw [Bool.or_true]
    | false =>
      cases e1 : (findK x.Ws (j : Int)).isSome with
      | true => rw [h.wtrue.2 (.inl e1)] at hb; cases hb
      | false =>
        cases e2 : (whQ x.Q (j : Int)).isSome with
        | true => rw [h.wtrue.2 (.inr e2)] at hb; cases hb
        | false => rfl
  · rw [if_neg hm]
    have hbf : b = false := by
      cases b with
      | false => rfl
      | true =>
        obtain ⟨o2, ho2, h1, _⟩ := h.live hb
        obtain rfl := Option.some.inj (ho2.symm.trans ho)
        exact absurd h1 hm
    subst hbf
    refine ⟨rfl, ?_⟩
    have e : x.wl.set j false = x.wl := by
      apply List.ext_getElem?
      intro i
      by_cases e : j = i
      · subst e; rw [List.getElem?_set_self (List.getElem?_eq_some_iff.1 hb).1, hb]
      · rw [List.getElem?_set_ne e]
    rw [e]
    exact h.as (h.ok.up (Nat.le_succ _)) (fun _ hh => hh) h.prog
theorem OnI.shut {x : OnS} (h : OnI x) {j : Nat} (hj : j < 16) (hA : AsOk x.As) {HB : Heap} : OnI ⟨x.i + 1, (shutsA x.Ws x.Q x.As [(j : Int)]).1, (shutsA x.Ws x.Q x.As [(j : Int)]).2.1, x.Rs, (shutsA x.Ws x.Q x.As [(j : Int)]).2.2.1, HB, x.wl.set j false, x.sl, x.cl, x.ll⟩ := by
  obtain ⟨o, ho⟩ := hA.at (i := j) (by omega)
  have hO := (shutsA_tok (Q := x.Q) [(j : Int)] h.ok).up (Nat.le_succ _)
  have e0 : shutsA x.Ws x.Q x.As [(j : Int)] = if o.shut = true then (x.Ws, x.Q, x.As, 0) else (x.Ws.map (delW [(j : Int)]), delQ x.Q (j : Int), x.As.set j { o with shut := true }, 1) := by
    show shutA (x.Ws, x.Q, x.As, 0) (j : Int) = _
    rw [shutA_at (s := (x.Ws, x.Q, x.As, 0)) (by omega) ho]
  rw [e0] at hO ⊢
  by_cases hs : o.shut = true
  · rw [if_pos hs] at hO ⊢
    obtain ⟨b, hb⟩ := bool_at h.l1 hj
    have hbf : b = false := by
      cases b with
      | false => rfl
      | true =>
        obtain ⟨o2, ho2, _, h2, _⟩ := h.live hb
        obtain rfl := Option.some.inj (ho2.symm.trans ho)
        rw [hs] at h2; cases h2
    subst hbf
    have e : x.wl.set j false = x.wl := by
      apply List.ext_getElem?
      intro i
      by_cases e : j = i
      · subst e; rw [List.getElem?_set_self (List.getElem?_eq_some_iff.1 hb).1, hb]
      · rw [List.getElem?_set_ne e]
    rw [e]
    exact h.as hO (fun _ hh => hh) h.prog
  · rw [if_neg hs] at hO ⊢
    refine h.del hO (fun m p hm hp => by rw [List.getElem?_set_ne (Ne.symm hm)]; exact hp) (fun m p hp => ?_)
    by_cases e : j = m
    · subst e
      rw [List.getElem?_set_self (List.getElem?_eq_some_iff.1 ho).1] at hp
      obtain rfl := Option.some.inj hp
      exact h.prog j o ho
    · rw [List.getElem?_set_ne e] at hp
      exact h.prog m p hp
theorem TimerH.nd {tb n : Nat} {Ws : List Wl} {Q Rs : List (Int × Int)} {As : List Tone} {HB : Heap} (h : TimerH tb n Ws Q Rs As HB) : ∀ w ∈ Ws, (w.L.map (·.id)).Nodup := by
  cases h with
  | mk hP hB hA hn =>
    intro w hw
    obtain ⟨HU, hU⟩ := hB.wheelOf2 hw
    exact hU.ids.1
theorem on_start {now : Nat} {Ws : List Wl} {HB : Heap} (hn : now ≤ 18446744073709551615) (hl : Ws.length = 3) (hf : ∀ w ∈ Ws, FreshW now w) : OnI ⟨0, Ws, [], [], List.replicate 256 zTone, HB, List.replicate 16 false, List.replicate 16 zSpot, List.replicate 16 0, [now, now, now]⟩ := by
  refine ⟨tok0 hn hf, hl, rfl, rfl, rfl, rfl, fun k w hw => ?_, fun j o ho => ?_, fun k w t hw ht => ?_, fun z c hm => (by cases hm), fun j hj => ?_⟩
  · have hk := (List.getElem?_eq_some_iff.1 hw).1
    have hk2 : k < Ws.length := hk
    rw [(hf w (List.mem_of_getElem? hw)).1]
    show ([now, now, now] : List Nat)[k]? = some now
    have : k = 0 ∨ k = 1 ∨ k = 2 := by omega
    rcases this with rfl | rfl | rfl <;> rfl
  · rw [List.eq_of_mem_replicate (List.mem_of_getElem? ho)]; exact .inl rfl
  · rw [(hf w (List.mem_of_getElem? hw)).2.1] at ht; cases ht
  · have := List.eq_of_mem_replicate (List.mem_of_getElem? hj); cases this
end Go.Proofs.YtcmfldfeakmdoaaGreatDoor
