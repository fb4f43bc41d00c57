/-
  Own work: contracts of functions that the statement reaches, and plain facts on what they compute; each theorem says its conditions.
-/
import Derived.Test.YtphdlpmnidiliaaGreatDoorXpT4
import Derived.Test.YtphdlpmnidiliaaGreatDoorXpS1
import Derived.Test.YtphdlpmnidiliaaGreatDoorXpA
set_option linter.all false
set_option linter.unusedSimpArgs false
set_option linter.unusedVariables false
namespace Go.Proofs.YtphdlpmnidiliaaGreatDoor
open Go Go.Sl
attribute [local irreducible] W
theorem cel_at {c : Cel} {j : Nat} (h : j < 4) : (celC c)[0 + 1 + j * 1]? = some (.int .u64 (c.w.get j)) := by
  rw [Nat.mul_one, Nat.zero_add, Nat.add_comm]
  show (Value.int .u64 c.key :: c.w.vals)[j + 1]? = _
  rw [List.getElem?_cons_succ, W4.at h]
theorem cel_set {c : Cel} {j : Nat} {x : Int} (h : j < 4) : (celC c).set (0 + 1 + j * 1) (.int .u64 x) = celC ⟨c.key, c.w.put j x⟩ := by
  rw [Nat.mul_one, Nat.zero_add, Nat.add_comm]
  show (Value.int .u64 c.key :: c.w.vals).set (j + 1) _ = Value.int .u64 c.key :: (c.w.put j x).vals
  rw [List.set_cons_succ, W4.set h]
theorem word_ways (L : List Slt) (words : Nat) (h : Hd) (at_ : Int) : errA L h ≠ 0 ∨ (errA L h = 0 ∧ at_ < 0) ∨ (errA L h = 0 ∧ ¬ at_ < 0 ∧ (words : Int) ≤ at_) ∨ (errA L h = 0 ∧ ∃ j : Nat, at_ = (j : Int) ∧ j < words) := by
  by_cases he : errA L h = 0
  · by_cases h0 : at_ < 0
    · exact .inr (.inl ⟨he, h0⟩)
    · by_cases h1 : (words : Int) ≤ at_
      · exact .inr (.inr (.inl ⟨he, h0, h1⟩))
      · exact .inr (.inr (.inr ⟨he, at_.toNat, by omega, by omega⟩))
  · exact .inl he
set_option maxHeartbeats 1000000 in
theorem key1_L {w0 : World} {H : Heap} {c : Cel} {b6 : Nat} {z : Int}  : LCalls Tryz.prog w0 49 #[.agg (List.toArray (celC c)), .pointer (some ⟨b6, 0, none⟩)] ((b6, .cells 22 1 [.int .u64 z]) :: H) (fun v H' => v = .int .i64 0 ∧ H' = (b6, .cells 22 1 [.int .u64 c.key]) :: H) := by
  refine L_enter (l := [.agg (List.toArray (celC c)), .pointer (some ⟨b6, 0, none⟩)]) Tryz.func49 rfl Tryz.ntmps49 rfl rfl ?_
  refine W_sr ?_
  refine W_box (l := celC c) rfl rfl rfl (fun b2 => ?_)
  refine W_assign rfl rfl ?_
  refine W_nil ?_
  refine W_sr ?_
  refine W_fieldAddr rfl fld82_0 (by decide) rfl ?_
  refine W_load (v := .int .u64 c.key) rfl ty22 rfl (Cell.own (b := b2) zM rfl) rfl ?_
  refine W_store (l' := [.int .u64 c.key]) rfl rfl ty22 rfl rfl (b := b6) zM rfl rfl zU ?_
  refine W_nil ?_
  refine W_sr ?_
  refine W_assign rfl rfl ?_
  refine W_nil ?_
  refine W_ret1m (H2 := (b6, .cells 22 1 [.int .u64 c.key]) :: H) Tryz.results49 rfl (.nil _) zH ?_
  exact ⟨rfl, rfl⟩
set_option maxHeartbeats 1000000 in
theorem Key_q {w0 : World} {H : Heap} {mb ab tb bo kind entries words : Nat} {closed : Bool} {L : List Slt} {C : List (Int × Hd)} {HA HT HO : Heap} (hA : AreH ab L HA) (hB : TabH tb entries C HT) {h : Hd} (hm : ∀ p ∈ ((mb, .cells 78 7 [.int .i64 (kind : Int), .int .i64 (entries : Int), .int .i64 (words : Int), .pointer (some ⟨ab, 0, none⟩), .pointer (some ⟨tb, 0, none⟩), .pointer (some ⟨bo, 0, none⟩), .bool closed]) :: (HA ++ (HT ++ HO))), p ∈ H)  : PureAt Tryz.prog w0 H 18 [.pointer (some ⟨mb, 0, none⟩), .agg (List.toArray (hdC h))] (.tuple #[.int .u64 (celA L h).key, .int .i64 (errA L h)]) := by
  refine L_enter Tryz.func18 rfl Tryz.ntmps18 rfl rfl ?_
  by_cases he : errA L h = 0
  · skip
    refine W_sr ?_
    refine W_box (l := hdC h) rfl rfl rfl (fun b3 => ?_)
    refine W_assign rfl rfl ?_
    refine W_assign rfl rfl ?_
    refine W_nil ?_
    refine W_sr ?_
    refine W_alloc (l := [.int .u64 0]) ty22 rfl rfl (fun b6 => ?_)
    refine W_nil ?_
    refine W_sr ?_
    refine W_move rfl rfl ?_
    refine W_loadB (vs := hdC h) rfl ty29 rfl (b := b3) zM rfl rfl rfl ?_
    refine W_makeFunc .nil (.cons rfl .nil) rfl ?_
    refine W_call (.cons rfl (.cons rfl (.cons rfl .nil))) Tryz.call48 rfl (with_yes (ca := [.pointer (some ⟨b6, 0, none⟩)]) hA hB Tryz.call49 he (HO := HO) (closed := closed) (kind := kind) (words := words) (fun p hp => by repeat (first | exact hm p hp | apply List.mem_cons_of_mem)) (key1_L (c := celA L h) (z := 0))) ?_
    rintro v H' ⟨rfl, rfl⟩
    refine W_assign rfl rfl ?_
    refine W_nil ?_
    refine W_sr ?_
    refine W_load (v := .int .u64 (celA L h).key) rfl ty22 rfl (Cell.own (b := b6) zM rfl) rfl ?_
    refine W_move rfl rfl ?_
    refine W_assign rfl rfl ?_
    refine W_assign rfl rfl ?_
    refine W_nil ?_
    refine W_ret2m (H2 := H) Tryz.results18 rfl rfl (.nil _) zH ?_
    exact ⟨by rw [he], rfl⟩
  · skip
    refine W_sr ?_
    refine W_box (l := hdC h) rfl rfl rfl (fun b3 => ?_)
    refine W_assign rfl rfl ?_
    refine W_assign rfl rfl ?_
    refine W_nil ?_
    refine W_sr ?_
    refine W_alloc (l := [.int .u64 0]) ty22 rfl rfl (fun b6 => ?_)
    refine W_nil ?_
    refine W_sr ?_
    refine W_move rfl rfl ?_
    refine W_loadB (vs := hdC h) rfl ty29 rfl (b := b3) zM rfl rfl rfl ?_
    refine W_makeFunc .nil (.cons rfl .nil) rfl ?_
    refine W_callq (.cons rfl (.cons rfl (.cons rfl .nil))) Tryz.call48 rfl (with_no (ca := [.pointer (some ⟨b6, 0, none⟩)]) hA hB he (HO := HO) (closed := closed) (kind := kind) (words := words) (fun p hp => by repeat (first | exact hm p hp | apply List.mem_cons_of_mem))) ?_
    refine W_assign rfl rfl ?_
    refine W_nil ?_
    refine W_sr ?_
    refine W_load (v := .int .u64 0) rfl ty22 rfl (Cell.own (b := b6) zM rfl) rfl ?_
    refine W_move rfl rfl ?_
    refine W_assign rfl rfl ?_
    refine W_assign rfl rfl ?_
    refine W_nil ?_
    refine W_ret2m (H2 := H) Tryz.results18 rfl rfl (.nil _) zH ?_
    exact ⟨by rw [(errA_no he).1]; rfl, rfl⟩
set_option maxHeartbeats 1000000 in
theorem load1_L {w0 : World} {H : Heap} {c : Cel} {b5 b8 j : Nat} {z : Int} (hj : j < 4)  : LCalls Tryz.prog w0 47 #[.agg (List.toArray (celC c)), .pointer (some ⟨b5, 0, none⟩), .pointer (some ⟨b8, 0, none⟩)] ((b8, .cells 22 1 [.int .u64 z]) :: (b5, .cells 3 1 [.int .i64 (j : Int)]) :: H) (fun v H' => v = .int .i64 0 ∧ H' = (b8, .cells 22 1 [.int .u64 (c.w.get j)]) :: (b5, .cells 3 1 [.int .i64 (j : Int)]) :: H) := by
  refine L_enter (l := [.agg (List.toArray (celC c)), .pointer (some ⟨b5, 0, none⟩), .pointer (some ⟨b8, 0, none⟩)]) Tryz.func47 rfl Tryz.ntmps47 rfl rfl ?_
  refine W_sr ?_
  refine W_box (l := celC c) rfl rfl rfl (fun b3 => ?_)
  refine W_assign rfl rfl ?_
  refine W_nil ?_
  refine W_sr ?_
  refine W_load (v := .int .i64 (j : Int)) rfl ty3 rfl (Cell.own (b := b5) zM rfl) rfl ?_
  refine W_fieldAddr rfl fld82_1 (by decide) rfl ?_
  refine W_indexAddrA (j := j) rfl rfl ty69 ty22 rfl hj rfl rfl ?_
  refine W_load (v := .int .u64 (c.w.get j)) rfl ty22 rfl (Cell.own (b := b3) zM (cel_at hj)) rfl ?_
  refine W_store (l' := [.int .u64 (c.w.get j)]) rfl rfl ty22 rfl rfl (b := b8) zM rfl rfl zU ?_
  refine W_nil ?_
  refine W_sr ?_
  refine W_assign rfl rfl ?_
  refine W_nil ?_
  refine W_ret1m (H2 := (b8, .cells 22 1 [.int .u64 (c.w.get j)]) :: (b5, .cells 3 1 [.int .i64 (j : Int)]) :: H) Tryz.results47 rfl (.nil _) zH ?_
  exact ⟨rfl, rfl⟩
set_option maxHeartbeats 1000000 in
theorem Load_q {w0 : World} {H : Heap} {mb ab tb bo kind entries words : Nat} {closed : Bool} {L : List Slt} {C : List (Int × Hd)} {HA HT HO : Heap} (hA : AreH ab L HA) (hB : TabH tb entries C HT) {h : Hd} {at_ : Int} (used : List Int) (hw : words ≤ 4) (hm : ∀ p ∈ ((mb, .cells 78 7 [.int .i64 (kind : Int), .int .i64 (entries : Int), .int .i64 (words : Int), .pointer (some ⟨ab, 0, none⟩), .pointer (some ⟨tb, 0, none⟩), .pointer (some ⟨bo, 0, none⟩), .bool closed]) :: (HA ++ (HT ++ HO))), p ∈ H)  : PureAt Tryz.prog w0 H 14 [.pointer (some ⟨mb, 0, none⟩), .agg (List.toArray (hdC h)), .int .i64 at_] (.tuple #[.int .u64 (Xm.load (⟨kind, entries, words, closed, L, C, used⟩ : Xm) h at_).1, .int .i64 (Xm.load (⟨kind, entries, words, closed, L, C, used⟩ : Xm) h at_).2]) := by
  refine L_enter Tryz.func14 rfl Tryz.ntmps14 rfl rfl ?_
  rcases word_ways L words h at_ with he | ⟨he, hl⟩ | ⟨he, h0, hl⟩ | ⟨he, j, rfl, hjw⟩
  · skip
    refine W_sr ?_
    refine W_box (l := hdC h) rfl rfl rfl (fun b4 => ?_)
    refine W_box (l := [.int .i64 at_]) rfl rfl rfl (fun b5 => ?_)
    refine W_assign rfl rfl ?_
    refine W_assign rfl rfl ?_
    refine W_nil ?_
    refine W_sr ?_
    refine W_alloc (l := [.int .u64 0]) ty22 rfl rfl (fun b8 => ?_)
    refine W_nil ?_
    refine W_sr ?_
    refine W_move rfl rfl ?_
    refine W_loadB (vs := hdC h) rfl ty29 rfl (b := b4) zM rfl rfl rfl ?_
    refine W_load (v := .int .i64 at_) rfl ty3 rfl (Cell.own (b := b5) zM rfl) rfl ?_
    refine W_makeFunc .nil (.cons rfl (.cons rfl .nil)) rfl ?_
    refine W_callq (.cons rfl (.cons rfl (.cons rfl (.cons rfl .nil)))) Tryz.call46 rfl (word_no (ca := [.pointer (some ⟨b5, 0, none⟩), .pointer (some ⟨b8, 0, none⟩)]) hA hB he (HO := HO) (closed := closed) (kind := kind) (words := words) (fun p hp => by repeat (first | exact hm p hp | apply List.mem_cons_of_mem))) ?_
    refine W_assign rfl rfl ?_
    refine W_nil ?_
    refine W_sr ?_
    refine W_load (v := .int .u64 0) rfl ty22 rfl (Cell.own (b := b8) zM rfl) rfl ?_
    refine W_move rfl rfl ?_
    refine W_assign rfl rfl ?_
    refine W_assign rfl rfl ?_
    refine W_nil ?_
    refine W_ret2m (H2 := H) Tryz.results14 rfl rfl (.nil _) zH ?_
    exact ⟨by unfold Xm.load; rw [if_pos he], rfl⟩
  · skip
    refine W_sr ?_
    refine W_box (l := hdC h) rfl rfl rfl (fun b4 => ?_)
    refine W_box (l := [.int .i64 at_]) rfl rfl rfl (fun b5 => ?_)
    refine W_assign rfl rfl ?_
    refine W_assign rfl rfl ?_
    refine W_nil ?_
    refine W_sr ?_
    refine W_alloc (l := [.int .u64 0]) ty22 rfl rfl (fun b8 => ?_)
    refine W_nil ?_
    refine W_sr ?_
    refine W_move rfl rfl ?_
    refine W_loadB (vs := hdC h) rfl ty29 rfl (b := b4) zM rfl rfl rfl ?_
    refine W_load (v := .int .i64 at_) rfl ty3 rfl (Cell.own (b := b5) zM rfl) rfl ?_
    refine W_makeFunc .nil (.cons rfl (.cons rfl .nil)) rfl ?_
    refine W_call (.cons rfl (.cons rfl (.cons rfl (.cons rfl .nil)))) Tryz.call46 rfl (word_lo (ca := [.pointer (some ⟨b5, 0, none⟩), .pointer (some ⟨b8, 0, none⟩)]) hA hB (HO := HO) (closed := closed) (kind := kind) (words := words) he hl (fun p hp => by repeat (first | exact hm p hp | apply List.mem_cons_of_mem))) ?_
    rintro v H' ⟨rfl, hH⟩
    subst H'
    refine W_assign rfl rfl ?_
    refine W_nil ?_
    refine W_sr ?_
    refine W_load (v := .int .u64 0) rfl ty22 rfl (Cell.own (b := b8) zM rfl) rfl ?_
    refine W_move rfl rfl ?_
    refine W_assign rfl rfl ?_
    refine W_assign rfl rfl ?_
    refine W_nil ?_
    refine W_ret2m (H2 := H) Tryz.results14 rfl rfl (.nil _) zH ?_
    exact ⟨by unfold Xm.load; rw [if_neg (fun h => h he), if_pos (.inl hl)], rfl⟩
  · skip
    refine W_sr ?_
    refine W_box (l := hdC h) rfl rfl rfl (fun b4 => ?_)
    refine W_box (l := [.int .i64 at_]) rfl rfl rfl (fun b5 => ?_)
    refine W_assign rfl rfl ?_
    refine W_assign rfl rfl ?_
    refine W_nil ?_
    refine W_sr ?_
    refine W_alloc (l := [.int .u64 0]) ty22 rfl rfl (fun b8 => ?_)
    refine W_nil ?_
    refine W_sr ?_
    refine W_move rfl rfl ?_
    refine W_loadB (vs := hdC h) rfl ty29 rfl (b := b4) zM rfl rfl rfl ?_
    refine W_load (v := .int .i64 at_) rfl ty3 rfl (Cell.own (b := b5) zM rfl) rfl ?_
    refine W_makeFunc .nil (.cons rfl (.cons rfl .nil)) rfl ?_
    refine W_call (.cons rfl (.cons rfl (.cons rfl (.cons rfl .nil)))) Tryz.call46 rfl (word_hi (ca := [.pointer (some ⟨b5, 0, none⟩), .pointer (some ⟨b8, 0, none⟩)]) hA hB (HO := HO) (closed := closed) (kind := kind) (words := words) he h0 hl (fun p hp => by repeat (first | exact hm p hp | apply List.mem_cons_of_mem))) ?_
    rintro v H' ⟨rfl, hH⟩
    subst H'
    refine W_assign rfl rfl ?_
    refine W_nil ?_
    refine W_sr ?_
    refine W_load (v := .int .u64 0) rfl ty22 rfl (Cell.own (b := b8) zM rfl) rfl ?_
    refine W_move rfl rfl ?_
    refine W_assign rfl rfl ?_
    refine W_assign rfl rfl ?_
    refine W_nil ?_
    refine W_ret2m (H2 := H) Tryz.results14 rfl rfl (.nil _) zH ?_
    exact ⟨by unfold Xm.load; rw [if_neg (fun h => h he), if_pos (.inr hl)], rfl⟩
  · skip
    refine W_sr ?_
    refine W_box (l := hdC h) rfl rfl rfl (fun b4 => ?_)
    refine W_box (l := [.int .i64 (j : Int)]) rfl rfl rfl (fun b5 => ?_)
    refine W_assign rfl rfl ?_
    refine W_assign rfl rfl ?_
    refine W_nil ?_
    refine W_sr ?_
    refine W_alloc (l := [.int .u64 0]) ty22 rfl rfl (fun b8 => ?_)
    refine W_nil ?_
    refine W_sr ?_
    refine W_move rfl rfl ?_
    refine W_loadB (vs := hdC h) rfl ty29 rfl (b := b4) zM rfl rfl rfl ?_
    refine W_load (v := .int .i64 (j : Int)) rfl ty3 rfl (Cell.own (b := b5) zM rfl) rfl ?_
    refine W_makeFunc .nil (.cons rfl (.cons rfl .nil)) rfl ?_
    refine W_call (.cons rfl (.cons rfl (.cons rfl (.cons rfl .nil)))) Tryz.call46 rfl (word_in (ca := [.pointer (some ⟨b5, 0, none⟩), .pointer (some ⟨b8, 0, none⟩)]) hA hB (HO := HO) (closed := closed) (kind := kind) (words := words) Tryz.call47 he (by omega) (fun p hp => by repeat (first | exact hm p hp | apply List.mem_cons_of_mem)) (load1_L (c := celA L h) (z := 0) (H := (b4, .cells 29 2 (hdC h)) :: H) (by omega))) ?_
    rintro v H' ⟨rfl, rfl⟩
    refine W_assign rfl rfl ?_
    refine W_nil ?_
    refine W_sr ?_
    refine W_load (v := .int .u64 ((celA L h).w.get j)) rfl ty22 rfl (Cell.own (b := b8) zM rfl) rfl ?_
    refine W_move rfl rfl ?_
    refine W_assign rfl rfl ?_
    refine W_assign rfl rfl ?_
    refine W_nil ?_
    refine W_ret2m (H2 := H) Tryz.results14 rfl rfl (.nil _) zH ?_
    exact ⟨by unfold Xm.load; rw [if_neg (fun h => h he), if_neg (by dsimp only; omega)]; rfl, rfl⟩
set_option maxHeartbeats 1000000 in
theorem linked1_L {w0 : World} {H : Heap} {mb ab tb bo b2 b3 b5 kind entries words : Nat} {closed : Bool} {C : List (Int × Hd)} {HA HT HO : Heap} (hB : TabH tb entries C HT) {c : Cel} {h : Hd} (hm : ∀ p ∈ ((mb, .cells 78 7 [.int .i64 (kind : Int), .int .i64 (entries : Int), .int .i64 (words : Int), .pointer (some ⟨ab, 0, none⟩), .pointer (some ⟨tb, 0, none⟩), .pointer (some ⟨bo, 0, none⟩), .bool closed]) :: (HA ++ (HT ++ HO))), p ∈ H)  : LCalls Tryz.prog w0 52 #[.agg (List.toArray (celC c)), .pointer (some ⟨b2, 0, none⟩), .pointer (some ⟨b3, 0, none⟩), .pointer (some ⟨b5, 0, none⟩)] ((b5, .cells 4 1 [.bool false]) :: (b3, .cells 29 2 (hdC h)) :: (b2, .cells 23 1 [.pointer (some ⟨mb, 0, none⟩)]) :: H) (fun v H' => (∃ e, v = .int .i64 e) ∧ H' = (b5, .cells 4 1 [.bool (decide (fndC C c.key = some h))]) :: (b3, .cells 29 2 (hdC h)) :: (b2, .cells 23 1 [.pointer (some ⟨mb, 0, none⟩)]) :: H) := by
  refine L_enter (l := [.agg (List.toArray (celC c)), .pointer (some ⟨b2, 0, none⟩), .pointer (some ⟨b3, 0, none⟩), .pointer (some ⟨b5, 0, none⟩)]) Tryz.func52 rfl Tryz.ntmps52 rfl rfl ?_
  refine W_sr ?_
  refine W_box (l := celC c) rfl rfl rfl (fun b4 => ?_)
  refine W_assign rfl rfl ?_
  refine W_nil ?_
  refine W_sr ?_
  refine W_load (v := .pointer (some ⟨mb, 0, none⟩)) rfl ty23 rfl (Cell.own (b := b2) zM rfl) rfl ?_
  refine W_fieldAddr rfl fld82_0 (by decide) rfl ?_
  refine W_load (v := .int .u64 c.key) rfl ty22 rfl (Cell.own (b := b4) zM rfl) rfl ?_
  refine W_callq (.cons rfl (.cons rfl .nil)) Tryz.call13 rfl (Look_q hB (k := c.key) (HA := HA) (HO := HO) (closed := closed) (kind := kind) (words := words) (fun p hp => by repeat (first | exact hm p hp | apply List.mem_cons_of_mem))) ?_
  rcases hf : fndC C c.key with _ | g
  · skip
    simp only [Option.getD_none, Option.isSome_none, Bool.false_eq_true, if_false]
    refine W_move rfl rfl ?_
    refine W_extract rfl rfl rfl ?_
    refine W_extract rfl rfl rfl ?_
    refine W_alloc (l := hdC zHd) ty29 rfl rfl (fun b6 => ?_)
    refine W_storeA (l' := hdC zHd) rfl rfl ty29 rfl rfl (b := b6) zM (by exact Nat.le_refl 2) rfl zU ?_
    refine W_assign rfl rfl ?_
    refine W_nil ?_
    refine W_sr ?_
    refine W_move rfl rfl ?_
    refine W_bin rfl rfl b_eql rfl ?_
    rw [decide_eq_false (show ¬ (4 : Int) = 0 by decide)]
    refine W_move rfl rfl ?_
    refine W_gno rfl rfl rfl ?_
    refine W_gno rfl rfl rfl ?_
    refine W_gno rfl rfl rfl ?_
    first | refine W_pickt rfl rfl rfl ?_ | refine W_pickf rfl rfl rfl ?_
    refine W_store (l' := [.bool false]) rfl rfl ty4 rfl rfl (b := b5) zM rfl rfl zU ?_
    refine W_nil ?_
    refine W_sr ?_
    refine W_move rfl rfl ?_
    refine W_assign rfl rfl ?_
    refine W_nil ?_
    refine W_ret1m (H2 := (b5, .cells 4 1 [.bool false]) :: (b3, .cells 29 2 (hdC h)) :: (b2, .cells 23 1 [.pointer (some ⟨mb, 0, none⟩)]) :: H) Tryz.results52 rfl (.nil _) zH ?_
    exact ⟨⟨_, rfl⟩, by rw [decide_eq_false (show ¬ (none : Option Hd) = some h from nofun)]⟩
  · skip
    simp only [Option.getD_some, Option.isSome_some, if_true]
    refine W_move rfl rfl ?_
    refine W_extract rfl rfl rfl ?_
    refine W_extract rfl rfl rfl ?_
    refine W_alloc (l := hdC zHd) ty29 rfl rfl (fun b6 => ?_)
    refine W_storeA (l' := hdC g) rfl rfl ty29 rfl rfl (b := b6) zM (by exact Nat.le_refl 2) rfl zU ?_
    refine W_assign rfl rfl ?_
    refine W_nil ?_
    refine W_sr ?_
    refine W_move rfl rfl ?_
    refine W_bin rfl rfl b_eql rfl ?_
    rw [decide_eq_true (show (0 : Int) = 0 from rfl)]
    refine W_move rfl rfl ?_
    refine W_gyes rfl rfl ?_
    refine W_loadB (vs := hdC g) rfl ty29 rfl (b := b6) zM rfl rfl rfl ?_
    refine W_gyes rfl rfl ?_
    refine W_loadB (vs := hdC h) rfl ty29 rfl (b := b3) zM rfl rfl rfl ?_
    refine W_gyes rfl rfl ?_
    refine W_x (X_eqF (f := hdC) rfl rfl flat29 agg29 hdC_like hdC_inj gt29 (by decide)) (fun _ h => by cases h) rfl ?_
    first | refine W_pickt rfl rfl rfl ?_ | refine W_pickf rfl rfl rfl ?_
    refine W_store (l' := [.bool (decide (g = h))]) rfl rfl ty4 rfl rfl (b := b5) zM rfl rfl zU ?_
    refine W_nil ?_
    refine W_sr ?_
    refine W_move rfl rfl ?_
    refine W_assign rfl rfl ?_
    refine W_nil ?_
    refine W_ret1m (H2 := (b5, .cells 4 1 [.bool (decide (g = h))]) :: (b3, .cells 29 2 (hdC h)) :: (b2, .cells 23 1 [.pointer (some ⟨mb, 0, none⟩)]) :: H) Tryz.results52 rfl (.nil _) zH ?_
    exact ⟨⟨_, rfl⟩, by rw [show decide (some g = some h) = decide (g = h) from decide_eq_decide.2 (by simp)]⟩
set_option maxHeartbeats 1000000 in
theorem Linked_q {w0 : World} {H : Heap} {mb ab tb bo kind entries words : Nat} {closed : Bool} {L : List Slt} {C : List (Int × Hd)} {HA HT HO : Heap} (hA : AreH ab L HA) (hB : TabH tb entries C HT) {h : Hd} (used : List Int) (hm : ∀ p ∈ ((mb, .cells 78 7 [.int .i64 (kind : Int), .int .i64 (entries : Int), .int .i64 (words : Int), .pointer (some ⟨ab, 0, none⟩), .pointer (some ⟨tb, 0, none⟩), .pointer (some ⟨bo, 0, none⟩), .bool closed]) :: (HA ++ (HT ++ HO))), p ∈ H)  : PureAt Tryz.prog w0 H 20 [.pointer (some ⟨mb, 0, none⟩), .agg (List.toArray (hdC h))] (.bool (Xm.linked (⟨kind, entries, words, closed, L, C, used⟩ : Xm) h)) := by
  refine L_enter Tryz.func20 rfl Tryz.ntmps20 rfl rfl ?_
  by_cases he : errA L h = 0
  · skip
    refine W_sr ?_
    refine W_box (l := [.pointer (some ⟨mb, 0, none⟩)]) rfl rfl rfl (fun b2 => ?_)
    refine W_box (l := hdC h) rfl rfl rfl (fun b3 => ?_)
    refine W_assign rfl rfl ?_
    refine W_nil ?_
    refine W_sr ?_
    refine W_alloc (l := [.bool false]) ty4 rfl rfl (fun b5 => ?_)
    refine W_store (l' := [.bool false]) rfl rfl ty4 rfl rfl (b := b5) zM rfl rfl zU ?_
    refine W_nil ?_
    refine W_sr ?_
    refine W_load (v := .pointer (some ⟨mb, 0, none⟩)) rfl ty23 rfl (Cell.own (b := b2) zM rfl) rfl ?_
    refine W_loadB (vs := hdC h) rfl ty29 rfl (b := b3) zM rfl rfl rfl ?_
    refine W_makeFunc .nil (.cons rfl (.cons rfl (.cons rfl .nil))) rfl ?_
    refine W_call (.cons rfl (.cons rfl (.cons rfl .nil))) Tryz.call48 rfl (with_yes (ca := [.pointer (some ⟨b2, 0, none⟩), .pointer (some ⟨b3, 0, none⟩), .pointer (some ⟨b5, 0, none⟩)]) hA hB (HO := HO) (closed := closed) (kind := kind) (words := words) Tryz.call52 he (fun p hp => by repeat (first | exact hm p hp | apply List.mem_cons_of_mem)) (linked1_L hB (c := celA L h) (h := h) hm)) ?_
    rintro v H' ⟨⟨e1, rfl⟩, rfl⟩
    refine W_nil ?_
    refine W_sr ?_
    refine W_load (v := .bool (decide (fndC C (celA L h).key = some h))) rfl ty4 rfl (Cell.own (b := b5) zM rfl) rfl ?_
    refine W_assign rfl rfl ?_
    refine W_nil ?_
    refine W_ret1m (H2 := H) Tryz.results20 rfl (.nil _) zH ?_
    exact ⟨by unfold Xm.linked; rw [decide_eq_true he, Bool.true_and], rfl⟩
  · skip
    refine W_sr ?_
    refine W_box (l := [.pointer (some ⟨mb, 0, none⟩)]) rfl rfl rfl (fun b2 => ?_)
    refine W_box (l := hdC h) rfl rfl rfl (fun b3 => ?_)
    refine W_assign rfl rfl ?_
    refine W_nil ?_
    refine W_sr ?_
    refine W_alloc (l := [.bool false]) ty4 rfl rfl (fun b5 => ?_)
    refine W_store (l' := [.bool false]) rfl rfl ty4 rfl rfl (b := b5) zM rfl rfl zU ?_
    refine W_nil ?_
    refine W_sr ?_
    refine W_load (v := .pointer (some ⟨mb, 0, none⟩)) rfl ty23 rfl (Cell.own (b := b2) zM rfl) rfl ?_
    refine W_loadB (vs := hdC h) rfl ty29 rfl (b := b3) zM rfl rfl rfl ?_
    refine W_makeFunc .nil (.cons rfl (.cons rfl (.cons rfl .nil))) rfl ?_
    refine W_callq (.cons rfl (.cons rfl (.cons rfl .nil))) Tryz.call48 rfl (with_no (ca := [.pointer (some ⟨b2, 0, none⟩), .pointer (some ⟨b3, 0, none⟩), .pointer (some ⟨b5, 0, none⟩)]) hA hB he (HO := HO) (closed := closed) (kind := kind) (words := words) (fun p hp => by repeat (first | exact hm p hp | apply List.mem_cons_of_mem))) ?_
    refine W_nil ?_
    refine W_sr ?_
    refine W_load (v := .bool false) rfl ty4 rfl (Cell.own (b := b5) zM rfl) rfl ?_
    refine W_assign rfl rfl ?_
    refine W_nil ?_
    refine W_ret1m (H2 := H) Tryz.results20 rfl (.nil _) zH ?_
    exact ⟨by unfold Xm.linked; rw [decide_eq_false he, Bool.false_and], rfl⟩
end Go.Proofs.YtphdlpmnidiliaaGreatDoor
namespace Go.Proofs.YtphdlpmnidiliaaGreatDoor
open Go Go.Sl
attribute [local irreducible] W
def SortedTo (d : List Int) (k : Nat) : Prop := ∀ (p q : Nat) x y, p < q → q < k → d[p]? = some x → d[q]? = some y → x ≤ y
def InsAt (d : List Int) (i j : Nat) : Prop := (∀ (p q : Nat) x y, p < q → q ≤ i → p ≠ j → q ≠ j → d[p]? = some x → d[q]? = some y → x ≤ y) ∧ ∀ (q : Nat) x y, j < q → q ≤ i → d[j]? = some x → d[q]? = some y → x ≤ y
theorem InsAt.start {d : List Int} {i : Nat} (h : SortedTo d i) : InsAt d i i := ⟨fun p q x y h1 h2 h3 h4 a b => h p q x y h1 (by omega) a b, fun q x y h1 h2 => by omega⟩
theorem InsAt.over {d : List Int} {i j : Nat} (h : InsAt d i j) (hj : j ≤ i) (hx : j = 0 ∨ ∃ x y, d[j]? = some x ∧ d[j - 1]? = some y ∧ y ≤ x) : SortedTo d (i + 1) := fun p q x y h1 h2 a b => by
  by_cases e1 : p = j
  · subst e1; exact h.2 q x y h1 (by omega) a b
  · by_cases e2 : q = j
    · subst e2
      rcases hx with h0 | ⟨u, v, hu, hv, huv⟩
      · omega
      · obtain rfl : u = y := Option.some.inj (hu.symm.trans b)
        by_cases e3 : p = q - 1
        · subst e3
          obtain rfl : v = x := Option.some.inj (hv.symm.trans a)
          exact huv
        · have := h.1 p (q - 1) x v (by omega) (by omega) e1 (by omega) a hv
          omega
    · exact h.1 p q x y h1 (by omega) e1 e2 a b
theorem InsAt.swap {d : List Int} {i j : Nat} {x y : Int} (h : InsAt d i j) (hj : 0 < j) (hi : j ≤ i) (hl : i < d.length) (hx : d[j]? = some x) (hy : d[j - 1]? = some y) (hxy : x < y) : InsAt ((d.set j y).set (j - 1) x) i (j - 1) := by
  have g1 : ((d.set j y).set (j - 1) x)[j]? = some y := by rw [List.getElem?_set_ne (by omega), List.getElem?_set_self (by omega)]
  have g2 : ((d.set j y).set (j - 1) x)[j - 1]? = some x := List.getElem?_set_self (by rw [List.length_set]; omega)
  have g3 : ∀ p, p ≠ j → p ≠ j - 1 → ((d.set j y).set (j - 1) x)[p]? = d[p]? := fun p h1 h2 => by rw [List.getElem?_set_ne (fun e => h2 e.symm), List.getElem?_set_ne (fun e => h1 e.symm)]
  refine ⟨fun p q u v h1 h2 h3 h4 a b => ?_, fun q u v h1 h2 a b => ?_⟩
  · by_cases e1 : q = j
    · subst e1
      obtain rfl : y = v := Option.some.inj (g1.symm.trans b)
      rw [g3 p (by omega) h3] at a
      exact h.1 p (q - 1) u y (by omega) (by omega) (by omega) (by omega) a hy
    · rw [g3 q e1 h4] at b
      by_cases e2 : p = j
      · subst e2
        obtain rfl : y = u := Option.some.inj (g1.symm.trans a)
        exact h.1 (p - 1) q y v (by omega) h2 (by omega) e1 hy b
      · rw [g3 p e2 h3] at a
        exact h.1 p q u v h1 h2 e2 e1 a b
  · obtain rfl : x = u := Option.some.inj (g2.symm.trans a)
    by_cases e1 : q = j
    · subst e1
      obtain rfl : y = v := Option.some.inj (g1.symm.trans b)
      omega
    · rw [g3 q e1 (by omega)] at b
      exact h.2 q x v (by omega) h2 hx b
theorem swap_perm {d : List Int} {j : Nat} {x y : Int} (hj : 0 < j) (hx : d[j]? = some x) (hy : d[j - 1]? = some y) : ((d.set j y).set (j - 1) x).Perm d := by
  obtain ⟨k, rfl⟩ : ∃ k, j = k + 1 := ⟨j - 1, by omega⟩
  rw [Nat.add_sub_cancel] at hy ⊢
  induction d generalizing k with
  | nil => simp at hx
  | cons a d ih =>
    cases k with
    | zero =>
      obtain rfl : a = y := by simpa using hy
      cases d with
      | nil => simp at hx
      | cons b d =>
        obtain rfl : b = x := by simpa using hx
        exact List.Perm.swap _ _ _
    | succ k => exact (ih k (by omega) (by simpa using hx) (by simpa using hy)).cons a
theorem SortedTo.pairwise {d : List Int} (h : SortedTo d d.length) : d.Pairwise (fun a b => a ≤ b) := List.pairwise_iff_getElem.2 fun i j hi hj hij => h i j _ _ hij hj (List.getElem?_eq_getElem hi) (List.getElem?_eq_getElem hj)
theorem sorted_unique : ∀ {a b : List Int}, a.Perm b → a.Pairwise (fun x y => x ≤ y) → b.Pairwise (fun x y => x ≤ y) → a = b
  | [], b, hp, _, _ => (List.Perm.nil_eq hp)
  | x :: a, b, hp, ha, hb => by
    cases b with
    | nil => exact absurd hp.length_eq (by simp)
    | cons y b =>
      have ha' := List.pairwise_cons.1 ha
      have hb' := List.pairwise_cons.1 hb
      have hxy : x = y := by
        rcases List.mem_cons.1 (hp.mem_iff.1 List.mem_cons_self) with h | h
        · exact h
        · rcases List.mem_cons.1 (hp.mem_iff.2 List.mem_cons_self) with h' | h'
          · exact h'.symm
          · have := hb'.1 x h; have := ha'.1 y h'; omega
      subst hxy
      rw [sorted_unique (List.Perm.cons_inv hp) ha'.2 hb'.2]
def sortU (l : List Int) : List Int := l.mergeSort (fun a b => decide (a ≤ b))
theorem sortU_perm (l : List Int) : (sortU l).Perm l := List.mergeSort_perm l _
theorem sortU_le (l : List Int) : (sortU l).Pairwise (fun a b => a ≤ b) := by
  have := List.pairwise_mergeSort (le := fun a b : Int => decide (a ≤ b)) (fun a b c h1 h2 => by simp at *; omega) (fun a b => by simp; omega) l
  exact this.imp (fun h => of_decide_eq_true h)
theorem sortU_is {d l : List Int} (hp : d.Perm l) (hs : SortedTo d d.length) : d = sortU l := sorted_unique (hp.trans (sortU_perm l).symm) hs.pairwise (sortU_le l)
set_option maxHeartbeats 1000000 in
theorem isNaN_pure (x : Int) : Pure Tryz.prog (fun _ => True) 134 [.int .u64 x] (.bool false) := by
  intro w0 H hT
  refine L_enter Tryz.func134 rfl Tryz.ntmps134 rfl rfl ?_
  refine W_sr ?_
  refine W_assign rfl rfl ?_
  refine W_nil ?_
  refine W_sr ?_
  refine W_move rfl rfl ?_
  refine W_move rfl rfl ?_
  refine W_bin rfl rfl b_neq rfl ?_
  rw [decide_eq_false (fun h => h rfl)]
  refine W_assign rfl rfl ?_
  refine W_nil ?_
  refine W_ret1m (H2 := H) Tryz.results134 rfl (.nil _) zH ?_
  exact ⟨rfl, rfl⟩
set_option maxHeartbeats 1000000 in
theorem less_pure (x y : Int) : Pure Tryz.prog (fun _ => True) 117 [.int .u64 x, .int .u64 y] (.bool (decide (x < y))) := by
  intro w0 H hT
  refine L_enter Tryz.func117 rfl Tryz.ntmps117 rfl rfl ?_
  refine W_sr ?_
  refine W_assign rfl rfl ?_
  refine W_nil ?_
  refine W_sr ?_
  refine W_move rfl rfl ?_
  refine W_callp (.cons rfl .nil) Tryz.call134 rfl (T := fun _ => True) trivial (isNaN_pure _) ?_
  refine W_move rfl rfl ?_
  refine W_gno rfl rfl rfl ?_
  refine W_gno rfl rfl rfl ?_
  refine W_gno rfl rfl rfl ?_
  first | refine W_pickt rfl rfl rfl ?_ | refine W_pickf rfl rfl rfl ?_
  refine W_move rfl rfl ?_
  refine W_gyes rfl rfl ?_
  refine W_move rfl rfl ?_
  refine W_gyes rfl rfl ?_
  refine W_move rfl rfl ?_
  refine W_gyes rfl rfl ?_
  refine W_bin rfl rfl b_lss rfl ?_
  first | refine W_pickt rfl rfl rfl ?_ | refine W_pickf rfl rfl rfl ?_
  refine W_assign rfl rfl ?_
  refine W_nil ?_
  refine W_ret1m (H2 := H) Tryz.results117 rfl (.nil _) zH ?_
  exact ⟨rfl, rfl⟩
set_option maxHeartbeats 4000000 in
theorem insU_L {w0 : World} {H : Heap} {l : List Int} {b tot cap : Nat} (hl : l.length ≤ 12)  : LCalls Tryz.prog w0 111 #[.slice (some ⟨b, 0, none⟩) l.length cap, .int .i64 0, .int .i64 (l.length : Int)] ((b, .cells 22 tot ((l).map (Value.int .u64))) :: H) (fun v H' => v = .tuple #[] ∧ ∃ d : List Int, d.Perm l ∧ SortedTo d d.length ∧ H' = (b, .cells 22 tot ((d).map (Value.int .u64))) :: H) := by
  refine L_enter (l := [.slice (some ⟨b, 0, none⟩) l.length cap, .int .i64 0, .int .i64 (l.length : Int)]) Tryz.func111 rfl Tryz.ntmps111 rfl rfl ?_
  refine W_sr ?_
  refine W_move rfl rfl ?_
  refine W_bin rfl rfl (b_add (m := 1) (by decide)) rfl ?_
  refine W_assign rfl rfl ?_
  refine W_nil ?_
  refine W_block ?_
  refine W_loopC (X := (Nat × List Int)) [(0, _), (1, _), (2, _)] (fun (x : (Nat × List Int)) => [(6, .int .i64 (x.1 : Int))]) (fun _ => _) (fun (x : (Nat × List Int)) => (b, .cells 22 tot ((x.2).map (Value.int .u64))) :: H) (fun (x : (Nat × List Int)) => 1 ≤ x.1 ∧ x.2.Perm l ∧ SortedTo x.2 (min x.1 l.length) ∧ (x.1 ≤ l.length ∨ x.1 = 1)) (fun (x : (Nat × List Int)) => l.length - x.1) (1, l) ⟨Nat.le_refl _, .refl _, fun p q x y h1 h2 => by omega, .inr rfl⟩ (sub_cons rfl (sub_cons rfl (sub_cons rfl (sub_nil _)))) (sub_cons rfl (sub_nil _)) rfl zH ?_
  rintro ⟨i, d⟩ ⟨hi, hp, hs, hil⟩
  dsimp only at hi hp hs hil ⊢
  have hdl := hp.length_eq
  simp only [List.cons_append, List.nil_append]
  refine W_seq ?_
  refine W_sr ?_
  refine W_move rfl rfl ?_
  refine W_move rfl rfl ?_
  refine W_bin rfl rfl b_lss rfl ?_
  refine W_nil ?_
  refine W_condPS (p := (i : Int) < (l.length : Int)) rfl (by simp) (fun q0 => ?_) (fun q0 => ?_)
  · skip
    refine W_skip ?_
    refine W_seq ?_
    refine W_block ?_
    refine W_sr ?_
    refine W_move rfl rfl ?_
    refine W_assign rfl rfl ?_
    refine W_nil ?_
    refine W_block ?_
    refine W_loopC (X := (Nat × List Int)) [(0, _), (1, _), (2, _), (6, _)] (fun (x : (Nat × List Int)) => [(6, .int .i64 (i : Int)), (7, .int .i64 (x.1 : Int))]) (fun _ => _) (fun (x : (Nat × List Int)) => (b, .cells 22 tot ((x.2).map (Value.int .u64))) :: H) (fun (x : (Nat × List Int)) => x.1 ≤ i ∧ x.2.Perm l ∧ InsAt x.2 i x.1) (fun (x : (Nat × List Int)) => x.1) (i, d) ⟨Nat.le_refl _, hp, InsAt.start (by rwa [Nat.min_eq_left (by omega)] at hs)⟩ (sub_cons rfl (sub_cons rfl (sub_cons rfl (sub_cons rfl (sub_nil _))))) (sub_cons rfl (sub_cons rfl (sub_nil _))) rfl zH ?_
    rintro ⟨j, d⟩ ⟨hji, hp, hI⟩
    dsimp only at hji hp hI ⊢
    have hdl := hp.length_eq
    simp only [List.cons_append, List.nil_append]
    refine W_seq ?_
    refine W_seq ?_
    rcases (show j = 0 ∨ 0 < j by omega) with hj0 | hj0
    · skip
      refine W_quiet (by kernel_rfl) (by decide +kernel) ?_
      refine WQ_x (X_move rfl) rfl ?_
      refine WQ_x (X_move rfl) rfl ?_
      refine WQ_x (X_bin rfl rfl b_gtr) rfl ?_
      rw [decide_eq_false (by omega)]
      refine WQ_x (X_move rfl) rfl ?_
      refine WQ_gno rfl rfl rfl rfl ?_
      refine WQ_gno rfl rfl rfl rfl ?_
      refine WQ_gno rfl rfl rfl rfl ?_
      refine WQ_gno rfl rfl rfl rfl ?_
      refine WQ_gno rfl rfl rfl rfl ?_
      refine WQ_gno rfl rfl rfl rfl ?_
      refine WQ_gno rfl rfl rfl rfl ?_
      refine WQ_gno rfl rfl rfl rfl ?_
      refine WQ_gno rfl rfl rfl rfl ?_
      refine WQ_gno rfl rfl rfl rfl ?_
      first | refine WQ_x (X_pickt rfl rfl) rfl ?_ | refine WQ_x (X_pickf rfl rfl) rfl ?_
      refine WQ_nil ?_
      refine W_condF rfl rfl ?_
      refine W_exit rfl ?_
      refine W_blk ?_
      refine W_region ?_
      refine W_move rfl rfl ?_
      refine W_bin rfl rfl (b_add (m := ((i + 1 : Nat) : Int)) ((i64w (by omega)).trans (by omega))) rfl ?_
      refine W_assign rfl rfl ?_
      refine W_nil ?_
      refine W_again (i + 1, d) ⟨Nat.le_add_left _ _, hp, by show SortedTo d (min (i + 1) l.length); rw [Nat.min_eq_left (by omega)]; exact hI.over hji (.inl hj0), .inl (by show i + 1 ≤ l.length; omega)⟩ (by show l.length - (i + 1) < l.length - i; omega) (sub_cons rfl (sub_cons rfl (sub_cons rfl (sub_cons rfl (sub_nil _))))) rfl zH
    · skip
      obtain ⟨x, hx⟩ : ∃ x, d[j]? = some x := ⟨_, List.getElem?_eq_getElem (by omega)⟩
      obtain ⟨y, hy⟩ : ∃ y, d[j - 1]? = some y := ⟨_, List.getElem?_eq_getElem (by omega)⟩
      refine W_quiet (by kernel_rfl) (by decide +kernel) ?_
      refine WQ_x (X_move rfl) rfl ?_
      refine WQ_x (X_move rfl) rfl ?_
      refine WQ_x (X_bin rfl rfl b_gtr) rfl ?_
      rw [decide_eq_true (by omega)]
      refine WQ_x (X_move rfl) rfl ?_
      refine WQ_gyes rfl rfl ?_
      refine WQ_x (X_move rfl) rfl ?_
      refine WQ_gyes rfl rfl ?_
      refine WQ_x (X_move rfl) rfl ?_
      refine WQ_gyes rfl rfl ?_
      refine WQ_x (X_indexAddr (j := j) rfl rfl ty42 ty22 (by first | rfl | omega) (by omega) (Nat.zero_add _)) rfl ?_
      refine WQ_gyes rfl rfl ?_
      refine WQ_x (X_load (v := .int .u64 x) rfl ty22 rfl (Cell.own (b := b) zM (by rw [Nat.mul_one, List.getElem?_map, hx]; rfl))) rfl ?_
      refine WQ_gyes rfl rfl ?_
      refine WQ_x (X_move rfl) rfl ?_
      refine WQ_gyes rfl rfl ?_
      refine WQ_x (X_move rfl) rfl ?_
      refine WQ_gyes rfl rfl ?_
      refine WQ_x (X_bin rfl rfl (b_sub (m := ((j - 1 : Nat) : Int)) (by rw [i64w (by omega)]; omega))) rfl ?_
      refine WQ_gyes rfl rfl ?_
      refine WQ_x (X_indexAddr (j := j - 1) rfl rfl ty42 ty22 (by first | rfl | omega) (by omega) (Nat.zero_add _)) rfl ?_
      refine WQ_gyes rfl rfl ?_
      refine WQ_x (X_load (v := .int .u64 y) rfl ty22 rfl (Cell.own (b := b) zM (by rw [Nat.mul_one, List.getElem?_map, hy]; rfl))) rfl ?_
      refine WQ_gyes rfl rfl ?_
      refine WQ_callp (.cons rfl (.cons rfl .nil)) Tryz.call117 rfl (T := fun _ => True) trivial (less_pure _ _) ?_
      first | refine WQ_x (X_pickt rfl rfl) rfl ?_ | refine WQ_x (X_pickf rfl rfl) rfl ?_
      refine WQ_nil ?_
      refine W_condPS (p := x < y) rfl (by simp) (fun q1 => ?_) (fun q1 => ?_)
      · skip
        refine W_skip ?_
        refine W_seq ?_
        refine W_block ?_
        refine W_anyS [(b, .cells 22 tot ((d).map (Value.int .u64)))] 15 (by kernel_rfl) ?_
        refine WS_take 0 (l' := #[true, false, false, false, false, false, false, false, false, false, false, false, false, false, false, false, false, false]) rfl rfl (by decide +kernel) (by decide +kernel) (by decide +kernel) (by decide +kernel) rfl (by decide +kernel) (X_move rfl) rfl ?_
        refine WS_take 1 (l' := #[true, true, false, false, false, false, false, false, false, false, false, false, false, false, false, false, false, false]) rfl rfl (by decide +kernel) (by decide +kernel) (by decide +kernel) (by decide +kernel) rfl (by decide +kernel) (X_move rfl) rfl ?_
        refine WS_takeP 2 (l' := #[true, true, true, false, false, false, false, false, false, false, false, false, false, false, false, false, false, false]) rfl rfl (by decide +kernel) (by decide +kernel) (by decide +kernel) rfl (by decide +kernel) (X_move rfl) rfl ?_
        refine WS_takeP 3 (l' := #[true, true, true, true, false, false, false, false, false, false, false, false, false, false, false, false, false, false]) rfl rfl (by decide +kernel) (by decide +kernel) (by decide +kernel) rfl (by decide +kernel) (X_move rfl) rfl ?_
        refine WS_takeP 4 (l' := #[true, true, true, true, true, false, false, false, false, false, false, false, false, false, false, false, false, false]) rfl rfl (by decide +kernel) (by decide +kernel) (by decide +kernel) rfl (by decide +kernel) (X_bin rfl rfl (b_sub (m := ((j - 1 : Nat) : Int)) (by rw [i64w (by omega)]; omega))) rfl ?_
        refine WS_take 5 (l' := #[true, true, true, true, true, true, false, false, false, false, false, false, false, false, false, false, false, false]) rfl rfl (by decide +kernel) (by decide +kernel) (by decide +kernel) (by decide +kernel) rfl (by decide +kernel) (X_move rfl) rfl ?_
        refine WS_take 6 (l' := #[true, true, true, true, true, true, true, false, false, false, false, false, false, false, false, false, false, false]) rfl rfl (by decide +kernel) (by decide +kernel) (by decide +kernel) (by decide +kernel) rfl (by decide +kernel) (X_move rfl) rfl ?_
        refine WS_take 7 (l' := #[true, true, true, true, true, true, true, true, false, false, false, false, false, false, false, false, false, false]) rfl rfl (by decide +kernel) (by decide +kernel) (by decide +kernel) (by decide +kernel) rfl (by decide +kernel) (X_bin rfl rfl (b_sub (m := ((j - 1 : Nat) : Int)) (by rw [i64w (by omega)]; omega))) rfl ?_
        refine WS_take 8 (l' := #[true, true, true, true, true, true, true, true, true, false, false, false, false, false, false, false, false, false]) rfl rfl (by decide +kernel) (by decide +kernel) (by decide +kernel) (by decide +kernel) rfl (by decide +kernel) (X_indexAddr (j := j - 1) rfl rfl ty42 ty22 (by first | rfl | omega) (by omega) (Nat.zero_add _)) rfl ?_
        refine WS_take 9 (l' := #[true, true, true, true, true, true, true, true, true, true, false, false, false, false, false, false, false, false]) rfl rfl (by decide +kernel) (by decide +kernel) (by decide +kernel) (by decide +kernel) rfl (by decide +kernel) (X_load (v := .int .u64 y) rfl ty22 rfl (Cell.own (b := b) zM (by rw [Nat.mul_one, List.getElem?_map, hy]; rfl))) rfl ?_
        refine WS_takeP 10 (l' := #[true, true, true, true, true, true, true, true, true, true, true, false, false, false, false, false, false, false]) rfl rfl (by decide +kernel) (by decide +kernel) (by decide +kernel) rfl (by decide +kernel) (X_move rfl) rfl ?_
        refine WS_takeP 11 (l' := #[true, true, true, true, true, true, true, true, true, true, true, true, false, false, false, false, false, false]) rfl rfl (by decide +kernel) (by decide +kernel) (by decide +kernel) rfl (by decide +kernel) (X_move rfl) rfl ?_
        refine WS_takeP 12 (l' := #[true, true, true, true, true, true, true, true, true, true, true, true, true, false, false, false, false, false]) rfl rfl (by decide +kernel) (by decide +kernel) (by decide +kernel) rfl (by decide +kernel) (X_indexAddr (j := j) rfl rfl ty42 ty22 (by first | rfl | omega) (by omega) (Nat.zero_add _)) rfl ?_
        refine WS_take 13 (l' := #[true, true, true, true, true, true, true, true, true, true, true, true, true, true, false, false, false, false]) rfl rfl (by decide +kernel) (by decide +kernel) (by decide +kernel) (by decide +kernel) rfl (by decide +kernel) (X_load (v := .int .u64 x) rfl ty22 rfl (Cell.own (b := b) zM (by rw [Nat.mul_one, List.getElem?_map, hx]; rfl))) rfl ?_
        refine WS_take 14 (l' := #[true, true, true, true, true, true, true, true, true, true, true, true, true, true, true, false, false, false]) rfl rfl (by decide +kernel) (by decide +kernel) (by decide +kernel) (by decide +kernel) rfl (by decide +kernel) (X_indexAddr (j := j) rfl rfl ty42 ty22 (by first | rfl | omega) (by omega) (Nat.zero_add _)) rfl ?_
        refine WS_last (l' := #[true, true, true, true, true, true, true, true, true, true, true, true, true, true, true, true, false, false]) zH (by decide +kernel) rfl (by decide +kernel) ?_
        refine W_store (l := (d).map (Value.int .u64)) (l' := ((d).set j y).map (Value.int .u64)) rfl rfl ty22 rfl rfl (b := b) zM (by rw [Nat.mul_one, List.length_map]; simp; omega) (by rw [Nat.mul_one]; simp only [List.map_set]) zU ?_
        refine W_nil ?_
        refine WC_goal ?_
        refine WC_take 16 (l' := #[true, true, true, true, true, true, true, true, true, true, true, true, true, true, true, true, true, false]) rfl (by decide +kernel) (by decide +kernel) (by decide +kernel) rfl (by decide +kernel) (X_indexAddr (j := j - 1) rfl rfl ty42 ty22 (by first | rfl | omega) (by omega) (Nat.zero_add _)) rfl ?_
        refine WC_one 17 (l' := #[true, true, true, true, true, true, true, true, true, true, true, true, true, true, true, true, true, true]) (.nil _) (by decide +kernel) rfl (by decide +kernel) ?_
        refine W_store (l := (d.set j y).map (Value.int .u64)) (l' := ((d.set j y).set (j - 1) x).map (Value.int .u64)) rfl rfl ty22 rfl rfl (b := b) zM (by rw [Nat.mul_one, List.length_map]; simp; omega) (by rw [Nat.mul_one]; simp only [List.map_set]) zU ?_
        refine W_nil ?_
        refine WC_goal ?_
        refine WC_done (.nil _) (by decide +kernel) ?_
        refine W_blk ?_
        refine W_region ?_
        refine W_move rfl rfl ?_
        refine W_bin rfl rfl (b_sub (m := ((j - 1 : Nat) : Int)) (by rw [i64w (by omega)]; omega)) rfl ?_
        refine W_assign rfl rfl ?_
        refine W_nil ?_
        refine W_again (j - 1, (d.set j y).set (j - 1) x) ⟨by show j - 1 ≤ i; omega, (swap_perm (by omega) hx hy).trans hp, hI.swap (by omega) hji (by omega) hx hy q1⟩ (by show j - 1 < j; omega) (sub_cons rfl (sub_cons rfl (sub_cons rfl (sub_cons rfl (sub_cons rfl (sub_cons rfl (sub_nil _))))))) rfl zH
      · skip
        refine W_exit rfl ?_
        refine W_blk ?_
        refine W_region ?_
        refine W_move rfl rfl ?_
        refine W_bin rfl rfl (b_add (m := ((i + 1 : Nat) : Int)) ((i64w (by omega)).trans (by omega))) rfl ?_
        refine W_assign rfl rfl ?_
        refine W_nil ?_
        refine W_again (i + 1, d) ⟨Nat.le_add_left _ _, hp, by show SortedTo d (min (i + 1) l.length); rw [Nat.min_eq_left (by omega)]; exact hI.over hji (.inr ⟨x, y, hx, hy, by omega⟩), .inl (by show i + 1 ≤ l.length; omega)⟩ (by show l.length - (i + 1) < l.length - i; omega) (sub_cons rfl (sub_cons rfl (sub_cons rfl (sub_cons rfl (sub_nil _))))) rfl zH
  · skip
    refine W_exit rfl ?_
    refine W_end0m Tryz.results111 (.nil _) (.refl _) ?_
    exact ⟨rfl, d, hp, by rw [hdl]; rcases hil with h | h; rwa [Nat.min_eq_right (by omega)] at hs; (intro p q x y h1 h2; omega), rfl⟩
end Go.Proofs.YtphdlpmnidiliaaGreatDoor
namespace Go.Proofs.YtphdlpmnidiliaaGreatDoor
open Go Go.Sl
attribute [local irreducible] W
theorem bitsLenN {n : Nat} (h : n ≤ 12) : Pure Tryz.prog (fun _ => True) 94 [.int .u64 (n : Int)] (.int .i64 (Lib.bitLen (n : Int).toNat : Nat)) := fun _ _ _ =>
  L_of_below (T := fun _ => True) (fun w _ => (Tryz.bits_Len (n : Int) w (by omega) (by omega)).mono fun _ _ ⟨h1, h2⟩ => ⟨h1, h2 ▸ Go.RowKit.Below.refl _ _⟩) (fun _ _ => trivial)
set_option maxHeartbeats 1000000 in
theorem insOU_nil  : Pure Tryz.prog (fun _ => True) 111 [.slice none 0 0, .int .i64 0, .int .i64 0] (.tuple #[]) := by
  intro w0 H hT
  refine L_enter Tryz.func111 rfl Tryz.ntmps111 rfl rfl ?_
  refine W_sr ?_
  refine W_move rfl rfl ?_
  refine W_bin rfl rfl (b_add (m := 1) (by decide)) rfl ?_
  refine W_assign rfl rfl ?_
  refine W_nil ?_
  refine W_block ?_
  refine W_loopC (X := Unit) [(0, _), (1, _), (2, _)] (fun (u : Unit) => [(6, .int .i64 1)]) (fun _ => _) (fun _ => _) (fun (u : Unit) => True) (fun (u : Unit) => 0) () trivial (sub_cons rfl (sub_cons rfl (sub_cons rfl (sub_nil _)))) (sub_cons rfl (sub_nil _)) rfl zH ?_
  intro u hI
  simp only [List.cons_append, List.nil_append]
  refine W_seq ?_
  refine W_sr ?_
  refine W_move rfl rfl ?_
  refine W_move rfl rfl ?_
  refine W_bin rfl rfl b_lss rfl ?_
  refine W_nil ?_
  refine W_condF rfl (by decide) ?_
  refine W_exit rfl ?_
  refine W_end0m (H2 := H) Tryz.results111 (.nil _) zH ?_
  exact ⟨rfl, rfl⟩
set_option maxHeartbeats 1000000 in
theorem pdqOU_nil (lim : Int) : Pure Tryz.prog (fun _ => True) 93 [.slice none 0 0, .int .i64 0, .int .i64 0, .int .i64 lim] (.tuple #[]) := by
  intro w0 H hT
  refine L_enter Tryz.func93 rfl Tryz.ntmps93 rfl rfl ?_
  refine W_sr ?_
  refine W_assign rfl rfl ?_
  refine W_nil ?_
  refine W_sr ?_
  refine W_assign rfl rfl ?_
  refine W_nil ?_
  refine W_block ?_
  refine W_loopC (X := Unit) [(0, _)] (fun (u : Unit) => [(1, .int .i64 0), (2, .int .i64 0)]) (fun _ => _) (fun _ => _) (fun (u : Unit) => True) (fun (u : Unit) => 0) () trivial (sub_cons rfl (sub_nil _)) (sub_cons rfl (sub_cons rfl (sub_nil _))) rfl zH ?_
  intro u hI
  simp only [List.cons_append, List.nil_append]
  refine W_block ?_
  refine W_sr ?_
  refine W_move rfl rfl ?_
  refine W_move rfl rfl ?_
  refine W_bin rfl rfl (b_sub (m := 0) (by decide)) rfl ?_
  refine W_assign rfl rfl ?_
  refine W_nil ?_
  refine W_seq ?_
  refine W_sr ?_
  refine W_move rfl rfl ?_
  refine W_bin rfl rfl b_leq rfl ?_
  refine W_nil ?_
  refine W_condT rfl (by decide) ?_
  refine W_sr ?_
  refine W_move rfl rfl ?_
  refine W_move rfl rfl ?_
  refine W_move rfl rfl ?_
  refine W_callp (.cons rfl (.cons rfl (.cons rfl .nil))) Tryz.call111 rfl (T := fun _ => True) trivial (insOU_nil ) ?_
  refine W_nil ?_
  refine W_ret0m (H2 := H) Tryz.results93 (.nil _) zH ?_
  exact ⟨rfl, rfl⟩
set_option maxHeartbeats 1000000 in
theorem pdqU_L {w0 : World} {H : Heap} {l : List Int} {b tot cap : Nat} {lim : Int} (hl : l.length ≤ 12)  : LCalls Tryz.prog w0 93 #[.slice (some ⟨b, 0, none⟩) l.length cap, .int .i64 0, .int .i64 (l.length : Int), .int .i64 lim] ((b, .cells 22 tot ((l).map (Value.int .u64))) :: H) (fun v H' => v = .tuple #[] ∧ ∃ d : List Int, d.Perm l ∧ SortedTo d d.length ∧ H' = (b, .cells 22 tot ((d).map (Value.int .u64))) :: H) := by
  refine L_enter (l := [.slice (some ⟨b, 0, none⟩) l.length cap, .int .i64 0, .int .i64 (l.length : Int), .int .i64 lim]) Tryz.func93 rfl Tryz.ntmps93 rfl rfl ?_
  refine W_sr ?_
  refine W_assign rfl rfl ?_
  refine W_nil ?_
  refine W_sr ?_
  refine W_assign rfl rfl ?_
  refine W_nil ?_
  refine W_block ?_
  refine W_loopC (X := Unit) [(0, _)] (fun (u : Unit) => [(1, .int .i64 0), (2, .int .i64 (l.length : Int))]) (fun _ => _) (fun _ => _) (fun (u : Unit) => True) (fun (u : Unit) => 0) () trivial (sub_cons rfl (sub_nil _)) (sub_cons rfl (sub_cons rfl (sub_nil _))) rfl zH ?_
  intro u hI
  simp only [List.cons_append, List.nil_append]
  refine W_block ?_
  refine W_sr ?_
  refine W_move rfl rfl ?_
  refine W_move rfl rfl ?_
  refine W_bin rfl rfl (b_sub (m := (l.length : Int)) (by rw [i64w (by omega)]; omega)) rfl ?_
  refine W_assign rfl rfl ?_
  refine W_nil ?_
  refine W_seq ?_
  refine W_sr ?_
  refine W_move rfl rfl ?_
  refine W_bin rfl rfl b_leq rfl ?_
  refine W_nil ?_
  refine W_condT rfl (decide_eq_true (by omega)) ?_
  refine W_sr ?_
  refine W_move rfl rfl ?_
  refine W_move rfl rfl ?_
  refine W_move rfl rfl ?_
  refine W_call (.cons rfl (.cons rfl (.cons rfl .nil))) Tryz.call111 rfl (insU_L (l := l) (b := b) (tot := tot) (cap := cap) (H := H) hl) ?_
  rintro v H' ⟨rfl, d, hp, hs, rfl⟩
  refine W_nil ?_
  refine W_ret0m Tryz.results93 (.nil _) (.refl _) ?_
  exact ⟨rfl, d, hp, hs, rfl⟩
set_option maxHeartbeats 1000000 in
theorem SortU_nil  : Pure Tryz.prog (fun _ => True) 67 [.slice none 0 0] (.tuple #[]) := by
  intro w0 H hT
  refine L_enter Tryz.func67 rfl Tryz.ntmps67 rfl rfl ?_
  refine W_sr ?_
  refine W_move rfl rfl ?_
  refine W_len rfl ty42 rfl rfl ?_
  refine W_assign rfl rfl ?_
  refine W_nil ?_
  refine W_region ?_
  refine W_move rfl rfl ?_
  refine W_move rfl rfl ?_
  refine W_move rfl rfl ?_
  refine W_conv (m := 0) rfl ty3 ty163 (by decide) rfl ?_
  refine W_callp (.cons rfl .nil) Tryz.call94 rfl (T := fun _ => True) trivial ((bitsLenN (n := 0) (by decide)) ) ?_
  refine W_callp (.cons rfl (.cons rfl (.cons rfl (.cons rfl .nil)))) Tryz.call93 rfl (T := fun _ => True) trivial ((pdqOU_nil _) ) ?_
  refine W_nil ?_
  refine W_end0m (H2 := H) Tryz.results67 (.nil _) zH ?_
  exact ⟨rfl, rfl⟩
set_option maxHeartbeats 1000000 in
theorem SortU_own {w0 : World} {H : Heap} {l : List Int} {b tot cap : Nat} (hl : l.length ≤ 12)  : LCalls Tryz.prog w0 67 #[.slice (some ⟨b, 0, none⟩) l.length cap] ((b, .cells 22 tot ((l).map (Value.int .u64))) :: H) (fun v H' => v = .tuple #[] ∧ ∃ d : List Int, d.Perm l ∧ SortedTo d d.length ∧ H' = (b, .cells 22 tot ((d).map (Value.int .u64))) :: H) := by
  refine L_enter (l := [.slice (some ⟨b, 0, none⟩) l.length cap]) Tryz.func67 rfl Tryz.ntmps67 rfl rfl ?_
  refine W_sr ?_
  refine W_move rfl rfl ?_
  refine W_len rfl ty42 rfl rfl ?_
  refine W_assign rfl rfl ?_
  refine W_nil ?_
  refine W_region ?_
  refine W_move rfl rfl ?_
  refine W_move rfl rfl ?_
  refine W_move rfl rfl ?_
  refine W_conv (m := (l.length : Int)) rfl ty3 ty163 (u64w (by omega)) rfl ?_
  refine W_callp (.cons rfl .nil) Tryz.call94 rfl (T := fun _ => True) trivial ((bitsLenN hl) ) ?_
  refine W_call (.cons rfl (.cons rfl (.cons rfl (.cons rfl .nil)))) Tryz.call93 rfl (pdqU_L (l := l) (b := b) (tot := tot) (cap := cap) (H := H) hl) ?_
  rintro v H' ⟨rfl, d, hp, hs, rfl⟩
  refine W_nil ?_
  refine W_end0m Tryz.results67 (.nil _) (.refl _) ?_
  exact ⟨rfl, d, hp, hs, rfl⟩
theorem SortU_L {w0 : World} {H X : Heap} {l : List Int} {v : Value} (hl : l.length ≤ 12) (hO : OwnS 22 1 v (l).length ((l).map (Value.int .u64)) X) : LCalls Tryz.prog w0 67 #[v] (X ++ H) (fun v' H' => ∃ X', v' = .tuple #[] ∧ OwnS 22 1 v ((sortU l)).length (((sortU l)).map (Value.int .u64)) X' ∧ H' = X' ++ H) := by
  rcases own_orO hO with ⟨rfl, hn, -, rfl⟩ | ⟨b, cap, rfl, rfl, hcap, hmx⟩
  · obtain rfl : l = [] := List.eq_nil_of_length_eq_zero hn
    refine (SortU_nil w0 _ trivial).mono ?_
    rintro v H' ⟨rfl, rfl⟩
    have e0 : sortU [] = [] := (sortU_perm []).eq_nil
    exact ⟨[], rfl, by rw [e0]; exact .nil, rfl⟩
  · refine (SortU_own (H := H) (l := l) (b := b) (tot := cap * 1) (cap := cap) hl).mono ?_
    rintro v H' ⟨rfl, d, hp, hs, rfl⟩
    obtain rfl := sortU_is hp hs
    refine ⟨[(b, .cells 22 (cap * 1) ((sortU l).map (Value.int .u64)))], rfl, ?_, rfl⟩
    have hln : (sortU l).length = l.length := hp.length_eq
    rw [← hln]
    exact .own (by rw [List.length_map, Nat.mul_one]) (by omega) hmx
noncomputable def Xm.keys (x : Xm) : List Int := if x.kind = 2 then x.used else if x.kind = 0 then sortU (keysC x.C) else keysC x.C
theorem keysC_len {C : List (Int × Hd)} (hn : (keyL C).Nodup) : (keysC C).length = C.length := by
  have := (keysC_perm hn).length_eq
  rwa [List.length_map] at this
theorem Xm.Ok.keysPerm {x : Xm} (h : x.Ok) : x.keys.Perm (keyL x.C) := by
  unfold Xm.keys
  split
  · exact h.perm
  · split
    · exact (sortU_perm _).trans (keysC_perm h.nd)
    · exact keysC_perm h.nd
theorem Xm.Ok.keysLen {x : Xm} (h : x.Ok) : x.keys.length = x.C.length := by
  have := h.keysPerm.length_eq
  rwa [List.length_map] at this
set_option maxHeartbeats 2000000 in
theorem Keys_at {w0 : World} {H : Heap} {mb ab tb bo T kind entries words : Nat} {closed : Bool} {L : List Slt} {C : List (Int × Hd)} {used : List Int} {HA HT HO : Heap} (hA : AreH ab L HA) (hB : TabH tb entries C HT) (hO : OrdH bo entries T used HO) (hx : (⟨kind, entries, words, closed, L, C, used⟩ : Xm).Ok)  : LCalls Tryz.prog w0 26 #[.pointer (some ⟨mb, 0, none⟩)] ((mb, .cells 78 7 [.int .i64 (kind : Int), .int .i64 (entries : Int), .int .i64 (words : Int), .pointer (some ⟨ab, 0, none⟩), .pointer (some ⟨tb, 0, none⟩), .pointer (some ⟨bo, 0, none⟩), .bool closed]) :: (HA ++ (HT ++ (HO ++ H)))) (fun v H' => ∃ X, OwnS 22 1 v ((Xm.keys (⟨kind, entries, words, closed, L, C, used⟩ : Xm))).length (((Xm.keys (⟨kind, entries, words, closed, L, C, used⟩ : Xm))).map (Value.int .u64)) X ∧ H' = X ++ ((mb, .cells 78 7 [.int .i64 (kind : Int), .int .i64 (entries : Int), .int .i64 (words : Int), .pointer (some ⟨ab, 0, none⟩), .pointer (some ⟨tb, 0, none⟩), .pointer (some ⟨bo, 0, none⟩), .bool closed]) :: (HA ++ (HT ++ (HO ++ H))))) := by
  refine L_enter (l := [.pointer (some ⟨mb, 0, none⟩)]) Tryz.func26 rfl Tryz.ntmps26 rfl rfl ?_
  refine W_sr ?_
  refine W_assign rfl rfl ?_
  refine W_nil ?_
  refine W_seq ?_
  refine W_block ?_
  refine W_sr ?_
  refine W_move rfl rfl ?_
  refine W_x (X_ptrNil rfl rfl ty23) (fun _ h => by cases h) rfl ?_
  refine W_assign rfl rfl ?_
  refine W_nil ?_
  refine W_condF rfl rfl ?_
  refine W_sr ?_
  refine W_move rfl rfl ?_
  refine W_nilCheck rfl rfl ?_
  refine W_fieldAddr rfl fld78_0 (by decide) rfl ?_
  refine W_load (v := .int .i64 (kind : Int)) rfl ty3 rfl (Cell.own (b := mb) zM rfl) rfl ?_
  refine W_bin rfl rfl b_eql rfl ?_
  refine W_assign rfl rfl ?_
  refine W_nil ?_
  refine W_condPS (p := kind = 2) rfl (by simp; omega) (fun c0 => ?_) (fun c0 => ?_)
  · skip
    refine W_sr ?_
    refine W_move rfl rfl ?_
    refine W_nilCheck rfl rfl ?_
    refine W_fieldAddr rfl fld78_5 (by decide) rfl ?_
    refine W_load (v := .pointer (some ⟨bo, 0, none⟩)) rfl ty76 rfl (Cell.own (b := mb) zM rfl) rfl ?_
    refine W_call (.cons rfl .nil) Tryz.call65 rfl ((hO.list (by have := hx.ent; dsimp only at this; omega) (H := (mb, .cells 78 7 [.int .i64 (kind : Int), .int .i64 (entries : Int), .int .i64 (words : Int), .pointer (some ⟨ab, 0, none⟩), .pointer (some ⟨tb, 0, none⟩), .pointer (some ⟨bo, 0, none⟩), .bool closed]) :: (HA ++ (HT ++ H)))).hsub zH) ?_
    rintro v H' ⟨X, hX, rfl⟩
    refine W_assign rfl rfl ?_
    refine W_nil ?_
    refine W_ret1m (H2 := X ++ ((mb, .cells 78 7 [.int .i64 (kind : Int), .int .i64 (entries : Int), .int .i64 (words : Int), .pointer (some ⟨ab, 0, none⟩), .pointer (some ⟨tb, 0, none⟩), .pointer (some ⟨bo, 0, none⟩), .bool closed]) :: (HA ++ (HT ++ (HO ++ H))))) Tryz.results26 rfl (.nil _) zH ?_
    refine ⟨X, ?_, rfl⟩
    rw [show (Xm.keys (⟨kind, entries, words, closed, L, C, used⟩ : Xm)) = used from by unfold Xm.keys; dsimp only; rw [if_pos c0]]
    exact hX
  · skip
    refine W_skip ?_
    refine W_blk ?_
    refine W_sr ?_
    refine W_move rfl rfl ?_
    refine W_nilCheck rfl rfl ?_
    refine W_fieldAddr rfl fld78_4 (by decide) rfl ?_
    refine W_load (v := .pointer (some ⟨tb, 0, none⟩)) rfl ty75 rfl (Cell.own (b := mb) zM rfl) rfl ?_
    refine W_call (.cons rfl .nil) Tryz.call66 rfl (hB.keys (H := (mb, .cells 78 7 [.int .i64 (kind : Int), .int .i64 (entries : Int), .int .i64 (words : Int), .pointer (some ⟨ab, 0, none⟩), .pointer (some ⟨tb, 0, none⟩), .pointer (some ⟨bo, 0, none⟩), .bool closed]) :: (HA ++ (HT ++ (HO ++ H)))) (fun p hp => mem3 p (List.mem_cons_of_mem _ (List.mem_append_right _ (List.mem_append_left _ hp))))) ?_
    rintro v H' ⟨X, hX, rfl⟩
    have hkl := keysC_len hB.nd.1
    have hle := hx.le
    have hen := hx.ent
    dsimp only at hle hen
    refine W_assign rfl rfl ?_
    refine W_nil ?_
    refine W_seq ?_
    refine W_sr ?_
    refine W_move rfl rfl ?_
    refine W_nilCheck rfl rfl ?_
    refine W_fieldAddr rfl fld78_0 (by decide) rfl ?_
    refine W_load (v := .int .i64 (kind : Int)) rfl ty3 rfl (Cell.own (b := mb) zM rfl) rfl ?_
    refine W_bin rfl rfl b_eql rfl ?_
    refine W_nil ?_
    refine W_condPS (p := kind = 0) rfl (by simp) (fun c1 => ?_) (fun c1 => ?_)
    · skip
      refine W_region ?_
      refine W_move rfl rfl ?_
      refine W_call (.cons rfl .nil) Tryz.call67 rfl (SortU_L (l := keysC C) (by omega) hX) ?_
      rintro v H' ⟨X2, rfl, hX2, rfl⟩
      refine W_nil ?_
      refine W_sr ?_
      refine W_move rfl rfl ?_
      refine W_assign rfl rfl ?_
      refine W_nil ?_
      refine W_ret1m (H2 := X2 ++ ((mb, .cells 78 7 [.int .i64 (kind : Int), .int .i64 (entries : Int), .int .i64 (words : Int), .pointer (some ⟨ab, 0, none⟩), .pointer (some ⟨tb, 0, none⟩), .pointer (some ⟨bo, 0, none⟩), .bool closed]) :: (HA ++ (HT ++ (HO ++ H))))) Tryz.results26 rfl (.nil _) zH ?_
      refine ⟨X2, ?_, rfl⟩
      rw [show (Xm.keys (⟨kind, entries, words, closed, L, C, used⟩ : Xm)) = sortU (keysC C) from by unfold Xm.keys; dsimp only; rw [if_neg c0, if_pos c1]]
      have e : (sortU (keysC C)).length = (keysC C).length := (sortU_perm _).length_eq
      rw [e]
      rwa [e] at hX2
    · skip
      refine W_skip ?_
      refine W_sr ?_
      refine W_move rfl rfl ?_
      refine W_assign rfl rfl ?_
      refine W_nil ?_
      refine W_ret1m (H2 := X ++ ((mb, .cells 78 7 [.int .i64 (kind : Int), .int .i64 (entries : Int), .int .i64 (words : Int), .pointer (some ⟨ab, 0, none⟩), .pointer (some ⟨tb, 0, none⟩), .pointer (some ⟨bo, 0, none⟩), .bool closed]) :: (HA ++ (HT ++ (HO ++ H))))) Tryz.results26 rfl (.nil _) zH ?_
      refine ⟨X, ?_, rfl⟩
      rw [show (Xm.keys (⟨kind, entries, words, closed, L, C, used⟩ : Xm)) = keysC C from by unfold Xm.keys; dsimp only; rw [if_neg c0, if_neg c1]]
      exact hX
set_option maxHeartbeats 1000000 in
theorem Len_qm {w0 : World} {H : Heap} {mb ab tb bo kind entries words : Nat} {closed : Bool} {L : List Slt} {C : List (Int × Hd)} {HA HT HO : Heap} (hA : AreH ab L HA) (hB : TabH tb entries C HT) (hm : ∀ p ∈ ((mb, .cells 78 7 [.int .i64 (kind : Int), .int .i64 (entries : Int), .int .i64 (words : Int), .pointer (some ⟨ab, 0, none⟩), .pointer (some ⟨tb, 0, none⟩), .pointer (some ⟨bo, 0, none⟩), .bool closed]) :: (HA ++ (HT ++ HO))), p ∈ H)  : PureAt Tryz.prog w0 H 9 [.pointer (some ⟨mb, 0, none⟩)] (.int .i64 (C.length : Int)) := by
  refine L_enter Tryz.func9 rfl Tryz.ntmps9 rfl rfl ?_
  refine W_sr ?_
  refine W_assign rfl rfl ?_
  refine W_nil ?_
  refine W_seq ?_
  refine W_sr ?_
  refine W_move rfl rfl ?_
  refine W_x (X_ptrNil rfl rfl ty23) (fun _ h => by cases h) rfl ?_
  refine W_nil ?_
  refine W_condF rfl rfl ?_
  refine W_skip ?_
  refine W_sr ?_
  refine W_move rfl rfl ?_
  refine W_nilCheck rfl rfl ?_
  refine W_fieldAddr rfl fld78_4 (by decide) rfl ?_
  refine W_load (v := .pointer (some ⟨tb, 0, none⟩)) rfl ty75 rfl (Cell.own (b := mb) (by repeat (first | exact hm _ List.mem_cons_self | apply List.mem_cons_of_mem)) rfl) rfl ?_
  refine W_callq (.cons rfl .nil) Tryz.call37 rfl (hB.lenq (fun p hp => by repeat (first | exact hm p (List.mem_cons_of_mem _ (List.mem_append_right _ (List.mem_append_left _ hp))) | apply List.mem_cons_of_mem))) ?_
  refine W_assign rfl rfl ?_
  refine W_nil ?_
  refine W_ret1m (H2 := H) Tryz.results9 rfl (.nil _) zH ?_
  exact ⟨rfl, rfl⟩
set_option maxHeartbeats 1000000 in
theorem Held_qm {w0 : World} {H : Heap} {mb ab tb bo kind entries words : Nat} {closed : Bool} {L : List Slt} {C : List (Int × Hd)} {HA HT HO : Heap} (hA : AreH ab L HA) (hB : TabH tb entries C HT) (hm : ∀ p ∈ ((mb, .cells 78 7 [.int .i64 (kind : Int), .int .i64 (entries : Int), .int .i64 (words : Int), .pointer (some ⟨ab, 0, none⟩), .pointer (some ⟨tb, 0, none⟩), .pointer (some ⟨bo, 0, none⟩), .bool closed]) :: (HA ++ (HT ++ HO))), p ∈ H)  : PureAt Tryz.prog w0 H 10 [.pointer (some ⟨mb, 0, none⟩)] (.int .i64 ((cntA 1 L : Nat) : Int)) := by
  refine L_enter Tryz.func10 rfl Tryz.ntmps10 rfl rfl ?_
  refine W_sr ?_
  refine W_assign rfl rfl ?_
  refine W_nil ?_
  refine W_seq ?_
  refine W_sr ?_
  refine W_move rfl rfl ?_
  refine W_x (X_ptrNil rfl rfl ty23) (fun _ h => by cases h) rfl ?_
  refine W_nil ?_
  refine W_condF rfl rfl ?_
  refine W_skip ?_
  refine W_sr ?_
  refine W_move rfl rfl ?_
  refine W_nilCheck rfl rfl ?_
  refine W_fieldAddr rfl fld78_3 (by decide) rfl ?_
  refine W_load (v := .pointer (some ⟨ab, 0, none⟩)) rfl ty74 rfl (Cell.own (b := mb) (by repeat (first | exact hm _ List.mem_cons_self | apply List.mem_cons_of_mem)) rfl) rfl ?_
  refine W_callq (.cons rfl .nil) Tryz.call38 rfl (hA.lenq (fun p hp => by repeat (first | exact hm p (List.mem_cons_of_mem _ (List.mem_append_left _ hp)) | apply List.mem_cons_of_mem))) ?_
  refine W_assign rfl rfl ?_
  refine W_nil ?_
  refine W_ret1m (H2 := H) Tryz.results10 rfl (.nil _) zH ?_
  exact ⟨rfl, rfl⟩
set_option maxHeartbeats 1000000 in
theorem Kind_qm {w0 : World} {H : Heap} {mb ab tb bo kind entries words : Nat} {closed : Bool} {L : List Slt} {C : List (Int × Hd)} {HA HT HO : Heap} (hA : AreH ab L HA) (hB : TabH tb entries C HT) (hm : ∀ p ∈ ((mb, .cells 78 7 [.int .i64 (kind : Int), .int .i64 (entries : Int), .int .i64 (words : Int), .pointer (some ⟨ab, 0, none⟩), .pointer (some ⟨tb, 0, none⟩), .pointer (some ⟨bo, 0, none⟩), .bool closed]) :: (HA ++ (HT ++ HO))), p ∈ H)  : PureAt Tryz.prog w0 H 29 [.pointer (some ⟨mb, 0, none⟩)] (.int .i64 (kind : Int)) := by
  refine L_enter Tryz.func29 rfl Tryz.ntmps29 rfl rfl ?_
  refine W_sr ?_
  refine W_assign rfl rfl ?_
  refine W_nil ?_
  refine W_seq ?_
  refine W_sr ?_
  refine W_move rfl rfl ?_
  refine W_x (X_ptrNil rfl rfl ty23) (fun _ h => by cases h) rfl ?_
  refine W_nil ?_
  refine W_condF rfl rfl ?_
  refine W_skip ?_
  refine W_sr ?_
  refine W_move rfl rfl ?_
  refine W_nilCheck rfl rfl ?_
  refine W_fieldAddr rfl fld78_0 (by decide) rfl ?_
  refine W_load (v := .int .i64 (kind : Int)) rfl ty3 rfl (Cell.own (b := mb) (by repeat (first | exact hm _ List.mem_cons_self | apply List.mem_cons_of_mem)) rfl) rfl ?_
  refine W_assign rfl rfl ?_
  refine W_nil ?_
  refine W_ret1m (H2 := H) Tryz.results29 rfl (.nil _) zH ?_
  exact ⟨rfl, rfl⟩
set_option maxHeartbeats 1000000 in
theorem Words_qm {w0 : World} {H : Heap} {mb ab tb bo kind entries words : Nat} {closed : Bool} {L : List Slt} {C : List (Int × Hd)} {HA HT HO : Heap} (hA : AreH ab L HA) (hB : TabH tb entries C HT) (hm : ∀ p ∈ ((mb, .cells 78 7 [.int .i64 (kind : Int), .int .i64 (entries : Int), .int .i64 (words : Int), .pointer (some ⟨ab, 0, none⟩), .pointer (some ⟨tb, 0, none⟩), .pointer (some ⟨bo, 0, none⟩), .bool closed]) :: (HA ++ (HT ++ HO))), p ∈ H)  : PureAt Tryz.prog w0 H 30 [.pointer (some ⟨mb, 0, none⟩)] (.int .i64 (words : Int)) := by
  refine L_enter Tryz.func30 rfl Tryz.ntmps30 rfl rfl ?_
  refine W_sr ?_
  refine W_assign rfl rfl ?_
  refine W_nil ?_
  refine W_seq ?_
  refine W_sr ?_
  refine W_move rfl rfl ?_
  refine W_x (X_ptrNil rfl rfl ty23) (fun _ h => by cases h) rfl ?_
  refine W_nil ?_
  refine W_condF rfl rfl ?_
  refine W_skip ?_
  refine W_sr ?_
  refine W_move rfl rfl ?_
  refine W_nilCheck rfl rfl ?_
  refine W_fieldAddr rfl fld78_2 (by decide) rfl ?_
  refine W_load (v := .int .i64 (words : Int)) rfl ty3 rfl (Cell.own (b := mb) (by repeat (first | exact hm _ List.mem_cons_self | apply List.mem_cons_of_mem)) rfl) rfl ?_
  refine W_assign rfl rfl ?_
  refine W_nil ?_
  refine W_ret1m (H2 := H) Tryz.results30 rfl (.nil _) zH ?_
  exact ⟨rfl, rfl⟩
end Go.Proofs.YtphdlpmnidiliaaGreatDoor
namespace Go.Proofs.YtphdlpmnidiliaaGreatDoor
open Go Go.Sl
attribute [local irreducible] W
def unlinkL : List (Int × Hd) → List Int → List Int → List (Int × Hd) × List Int × List Hd
  | C, used, [] => (C, used, [])
  | C, used, k :: ks => ((unlinkL (delC C k) (drop1O used k) ks).1, (unlinkL (delC C k) (drop1O used k) ks).2.1, (fndC C k).getD zHd :: (unlinkL (delC C k) (drop1O used k) ks).2.2)
noncomputable def Xm.close (x : Xm) : Xm × List Hd := if x.closed = true then (x, []) else
  ({ x with closed := true, C := (unlinkL x.C x.used x.keys).1, used := (unlinkL x.C x.used x.keys).2.1 }, (unlinkL x.C x.used x.keys).2.2)
theorem unlinkL_step {C : List (Int × Hd)} {used ks : List Int} {i : Nat} {k : Int} (h : ks[i]? = some k) : unlinkL C used (ks.drop i) = ((unlinkL (delC C k) (drop1O used k) (ks.drop (i + 1))).1, (unlinkL (delC C k) (drop1O used k) (ks.drop (i + 1))).2.1, (fndC C k).getD zHd :: (unlinkL (delC C k) (drop1O used k) (ks.drop (i + 1))).2.2) := by
  have hi := (List.getElem?_eq_some_iff.1 h).1
  have e : ks.drop i = k :: ks.drop (i + 1) := by
    rw [List.drop_eq_getElem_cons hi]
    congr 1
    exact (List.getElem?_eq_some_iff.1 h).2
  rw [e]; rfl
theorem Xm.Ok.shut {x : Xm} (h : x.Ok) (b : Bool) : (Xm.mk x.kind x.entries x.words b x.L x.C x.used).Ok := ⟨h.knd, h.ent, h.wrd, h.len, h.are, h.nd, h.perm, h.le, h.lk, h.rng⟩
structure CloS where
  i : Nat
  C : List (Int × Hd)
  used : List Int
  out : List Hd
  HT : Heap
  HO : Heap
  ov : Value
  OX : Heap
set_option maxHeartbeats 4000000 in
theorem Close_go {w0 : World} {H : Heap} {mb ab tb bo T kind entries words : Nat} {L : List Slt} {C : List (Int × Hd)} {used : List Int} {HA HT HO : Heap} (hA : AreH ab L HA) (hB : TabH tb entries C HT) (hO : OrdH bo entries T used HO) (hx : (⟨kind, entries, words, false, L, C, used⟩ : Xm).Ok)  : LCalls Tryz.prog w0 15 #[.pointer (some ⟨mb, 0, none⟩)] ((mb, .cells 78 7 [.int .i64 (kind : Int), .int .i64 (entries : Int), .int .i64 (words : Int), .pointer (some ⟨ab, 0, none⟩), .pointer (some ⟨tb, 0, none⟩), .pointer (some ⟨bo, 0, none⟩), .bool false]) :: (HA ++ (HT ++ (HO ++ H)))) (fun v H' => ∃ HT' HO' OX, TabH tb entries (Xm.close (⟨kind, entries, words, false, L, C, used⟩ : Xm)).1.C HT' ∧ OrdH bo entries T (Xm.close (⟨kind, entries, words, false, L, C, used⟩ : Xm)).1.used HO' ∧ OwnS 29 2 v ((Xm.close (⟨kind, entries, words, false, L, C, used⟩ : Xm)).2).length (((Xm.close (⟨kind, entries, words, false, L, C, used⟩ : Xm)).2).flatMap hdC) OX ∧ H' = OX ++ ((mb, .cells 78 7 [.int .i64 (kind : Int), .int .i64 (entries : Int), .int .i64 (words : Int), .pointer (some ⟨ab, 0, none⟩), .pointer (some ⟨tb, 0, none⟩), .pointer (some ⟨bo, 0, none⟩), .bool true]) :: (HA ++ (HT' ++ (HO' ++ H))))) := by
  refine L_enter (l := [.pointer (some ⟨mb, 0, none⟩)]) Tryz.func15 rfl Tryz.ntmps15 rfl rfl ?_
  refine W_sr ?_
  refine W_assign rfl rfl ?_
  refine W_nil ?_
  refine W_seq ?_
  refine W_sr ?_
  refine W_move rfl rfl ?_
  refine W_x (X_ptrNil rfl rfl ty23) (fun _ h => by cases h) rfl ?_
  refine W_move rfl rfl ?_
  apply W_or
  iterate 4 exact rfl
  case h1 =>
    intro hg2
    refine W_gyes rfl rfl ?_
    refine W_move rfl rfl ?_
    refine W_gyes rfl rfl ?_
    refine W_nilCheck rfl rfl ?_
    refine W_gyes rfl rfl ?_
    refine W_fieldAddr rfl fld78_6 (by decide) rfl ?_
    refine W_gyes rfl rfl ?_
    refine W_load (v := .bool false) rfl ty4 rfl (Cell.own (b := mb) zM rfl) rfl ?_
    exact W_met rfl zR
  refine W_nil ?_
  refine W_condF rfl rfl ?_
  refine W_skip ?_
  refine W_sr ?_
  refine W_move rfl rfl ?_
  refine W_nilCheck rfl rfl ?_
  refine W_fieldAddr rfl fld78_6 (by decide) rfl ?_
  refine W_store (l' := [.int .i64 (kind : Int), .int .i64 (entries : Int), .int .i64 (words : Int), .pointer (some ⟨ab, 0, none⟩), .pointer (some ⟨tb, 0, none⟩), .pointer (some ⟨bo, 0, none⟩), .bool true]) rfl rfl ty4 rfl rfl (b := mb) zM rfl rfl zU ?_
  refine W_nil ?_
  refine W_sr ?_
  refine W_assign rfl rfl ?_
  refine W_nil ?_
  refine W_seq ?_
  refine W_sr ?_
  refine W_move rfl rfl ?_
  refine W_call (.cons rfl .nil) Tryz.call26 rfl (Keys_at (closed := true) hA hB hO (words := words) (H := H) (hx.shut true)) ?_
  rintro v H' ⟨X, hX, rfl⟩
  obtain ⟨ks, hks⟩ : ∃ ks, ks = (Xm.keys (⟨kind, entries, words, false, L, C, used⟩ : Xm)) := ⟨_, rfl⟩
  have hkl : ks.length ≤ 8 := by rw [hks, hx.keysLen]; have := hx.le; have := hx.ent; dsimp only at *; omega
  replace hX : OwnS 22 1 v (ks).length ((ks).map (Value.int .u64)) X := by rw [hks]; exact hX
  obtain ⟨adk, capk, rfl, hck, _, hrk⟩ := Holds.of_own (w0 := w0) (H := X ++ []) hX (fun p hp => List.mem_append_left _ hp)
  refine W_len rfl ty42 rfl rfl ?_
  refine W_move rfl rfl ?_
  refine W_nil ?_
  refine W_block ?_
  refine W_loopC (X := CloS) [(0, _), (18, _), (19, _)] (fun (x : CloS) => [(3, x.ov), (20, .int .i64 (x.i : Int))]) (fun _ => _) (fun (x : CloS) => x.OX ++ (X ++ ((mb, .cells 78 7 [.int .i64 (kind : Int), .int .i64 (entries : Int), .int .i64 (words : Int), .pointer (some ⟨ab, 0, none⟩), .pointer (some ⟨tb, 0, none⟩), .pointer (some ⟨bo, 0, none⟩), .bool true]) :: (HA ++ (x.HT ++ (x.HO ++ H)))))) (fun (x : CloS) => x.i ≤ ks.length ∧ TabH tb entries x.C x.HT ∧ OrdH bo entries T x.used x.HO ∧ OwnS 29 2 x.ov (x.out).length ((x.out).flatMap hdC) x.OX ∧ x.out.length = x.i ∧ unlinkL C used ks = ((unlinkL x.C x.used (ks.drop x.i)).1, (unlinkL x.C x.used (ks.drop x.i)).2.1, x.out ++ (unlinkL x.C x.used (ks.drop x.i)).2.2)) (fun (x : CloS) => ks.length - x.i) ⟨0, C, used, [], HT, HO, .slice none 0 0, []⟩ ⟨Nat.zero_le _, hB, hO, .nil, rfl, rfl⟩ (sub_cons rfl (sub_cons rfl (sub_cons rfl (sub_nil _)))) (sub_cons rfl (sub_cons rfl (sub_nil _))) rfl (.refl _) ?_
  rintro ⟨i, C1, used1, out, HT1, HO1, ov, OX⟩ ⟨hi, hB1, hO1, hX1, hol, hun⟩
  dsimp only at hi hB1 hO1 hX1 hol hun ⊢
  simp only [List.cons_append, List.nil_append]
  refine W_sr ?_
  refine W_bin rfl rfl b_lss rfl ?_
  refine W_nil ?_
  refine W_seq ?_
  refine W_condPS (p := (i : Int) < (ks.length : Int)) rfl (by simp) (fun q0 => ?_) (fun q0 => ?_)
  · skip
    refine W_skip ?_
    refine W_seq ?_
    refine W_block ?_
    refine W_sr ?_
    obtain ⟨k, hk⟩ : ∃ k, ks[i]? = some k := ⟨_, List.getElem?_eq_getElem (by omega)⟩
    obtain ⟨qk, pk, ek, hcc⟩ := hrk.at (i := i) (v := .int .u64 k) (by rw [List.getElem?_map, hk]; rfl)
    cases ek
    refine W_indexAddr (j := i) rfl rfl ty42 ty22 rfl (by omega) rfl rfl ?_
    refine W_load (v := .int .u64 k) rfl ty22 rfl (by rw [Nat.mul_one]; exact hcc.up zH) rfl ?_
    refine W_assign rfl rfl ?_
    refine W_nil ?_
    refine W_region ?_
    refine W_move rfl rfl ?_
    refine W_move rfl rfl ?_
    refine W_move rfl rfl ?_
    refine W_call (.cons rfl (.cons rfl .nil)) Tryz.call44 rfl ((unlink_at (closed := true) (kind := kind) (words := words) (HA := HA) hB1 hO1 (k := k) (H := OX ++ (X ++ H))).hsub zH) ?_
    rintro v H' ⟨HT2, HO2, hB2, hO2, rfl, rfl⟩
    obtain ⟨g, hg⟩ : ∃ g, g = (fndC C1 k).getD zHd := ⟨_, rfl⟩
    rw [← hg]
    refine W_buildSlice (l := hdC g) ty38 ty29 (.cons rfl rfl rfl rfl rfl .nil) rfl rfl rfl rfl rfl rfl rfl (fun b28 => ?_)
    refine W_append (news := hdC g) (m := 1) (HB := OX) (H0 := (b28, .cells 29 (1 * 2) (hdC g)) :: (X ++ ((mb, .cells 78 7 [.int .i64 (kind : Int), .int .i64 (entries : Int), .int .i64 (words : Int), .pointer (some ⟨ab, 0, none⟩), .pointer (some ⟨tb, 0, none⟩), .pointer (some ⟨bo, 0, none⟩), .bool true]) :: (HA ++ (HT2 ++ (HO2 ++ H)))))) rfl rfl ty38 ty29 rfl (by decide) hX1 rfl (Holds.own List.mem_cons_self) rfl (by simp only [maxLen]; omega) (by omega) zH rfl (fun v' X' hX' => ?_)
    refine W_assign rfl rfl ?_
    refine W_nil ?_
    refine W_blk ?_
    refine W_region ?_
    refine W_bin rfl rfl (b_add (m := ((i + 1 : Nat) : Int)) ((i64w (by omega)).trans (by omega))) rfl ?_
    refine W_move rfl rfl ?_
    refine W_nil ?_
    refine W_again ⟨i + 1, delC C1 k, drop1O used1 k, out ++ [g], HT2, HO2, v', X'⟩ ⟨by show i + 1 ≤ ks.length; omega, hB2, hO2, by show OwnS 29 2 v' ((out ++ [g])).length (((out ++ [g])).flatMap hdC) X'; rw [List.length_append, List.flatMap_append, List.flatMap_singleton]; exact hX', by show (out ++ [g]).length = i + 1; rw [List.length_append, hol]; rfl, by rw [hun, unlinkL_step hk, ← hg]; show (_, _, out ++ (g :: _)) = (_, _, (out ++ [g]) ++ _); rw [List.append_assoc]; rfl⟩ (by show ks.length - (i + 1) < ks.length - i; omega) (sub_cons rfl (sub_cons rfl (sub_cons rfl (sub_cons rfl (sub_cons rfl (sub_nil _)))))) rfl zH
  · skip
    refine W_exit rfl ?_
    refine W_sr ?_
    refine W_move rfl rfl ?_
    refine W_assign rfl rfl ?_
    refine W_nil ?_
    refine W_ret1m (H2 := OX ++ ((mb, .cells 78 7 [.int .i64 (kind : Int), .int .i64 (entries : Int), .int .i64 (words : Int), .pointer (some ⟨ab, 0, none⟩), .pointer (some ⟨tb, 0, none⟩), .pointer (some ⟨bo, 0, none⟩), .bool true]) :: (HA ++ (HT1 ++ (HO1 ++ H))))) Tryz.results15 rfl (.nil _) zH ?_
    obtain rfl : i = ks.length := by omega
    rw [List.drop_length] at hun
    refine ⟨HT1, HO1, OX, ?_, ?_, ?_, rfl⟩
    · show TabH tb entries (unlinkL C used (Xm.keys (⟨kind, entries, words, false, L, C, used⟩ : Xm))).1 HT1
      rw [← hks, hun]; exact hB1
    · show OrdH bo entries T (unlinkL C used (Xm.keys (⟨kind, entries, words, false, L, C, used⟩ : Xm))).2.1 HO1
      rw [← hks, hun]; exact hO1
    · show OwnS _ _ _ (unlinkL C used (Xm.keys (⟨kind, entries, words, false, L, C, used⟩ : Xm))).2.2.length ((unlinkL C used (Xm.keys (⟨kind, entries, words, false, L, C, used⟩ : Xm))).2.2.flatMap hdC) OX
      rw [← hks, hun]
      show OwnS _ _ _ (out ++ []).length ((out ++ []).flatMap hdC) OX
      rw [List.append_nil]; exact hX1
set_option maxHeartbeats 1000000 in
theorem Close_done {w0 : World} {H : Heap} {mb ab tb bo kind entries words : Nat} {HA HT HO : Heap} (hm : ∀ p ∈ ((mb, .cells 78 7 [.int .i64 (kind : Int), .int .i64 (entries : Int), .int .i64 (words : Int), .pointer (some ⟨ab, 0, none⟩), .pointer (some ⟨tb, 0, none⟩), .pointer (some ⟨bo, 0, none⟩), .bool true]) :: (HA ++ (HT ++ HO))), p ∈ H)  : PureAt Tryz.prog w0 H 15 [.pointer (some ⟨mb, 0, none⟩)] (.slice none 0 0) := by
  refine L_enter Tryz.func15 rfl Tryz.ntmps15 rfl rfl ?_
  refine W_sr ?_
  refine W_assign rfl rfl ?_
  refine W_nil ?_
  refine W_seq ?_
  refine W_sr ?_
  refine W_move rfl rfl ?_
  refine W_x (X_ptrNil rfl rfl ty23) (fun _ h => by cases h) rfl ?_
  refine W_move rfl rfl ?_
  apply W_or
  iterate 4 exact rfl
  case h1 =>
    intro hg2
    refine W_gyes rfl rfl ?_
    refine W_move rfl rfl ?_
    refine W_gyes rfl rfl ?_
    refine W_nilCheck rfl rfl ?_
    refine W_gyes rfl rfl ?_
    refine W_fieldAddr rfl fld78_6 (by decide) rfl ?_
    refine W_gyes rfl rfl ?_
    refine W_load (v := .bool true) rfl ty4 rfl (Cell.own (b := mb) (by repeat (first | exact hm _ List.mem_cons_self | apply List.mem_cons_of_mem)) rfl) rfl ?_
    exact W_met rfl zR
  refine W_nil ?_
  refine W_condT rfl rfl ?_
  refine W_sr ?_
  refine W_assign rfl rfl ?_
  refine W_nil ?_
  refine W_ret1m (H2 := H) Tryz.results15 rfl (.nil _) zH ?_
  exact ⟨rfl, rfl⟩
def arrS (i : Nat) : Slt := ⟨⟨(i : Int), 1⟩, 1, ⟨(i : Int), zW⟩⟩
def arrL (n k : Nat) : List Slt := (List.range n).map fun i => if i < k then arrS i else newS i
def arrC (k : Nat) : List (Int × Hd) := ((List.range k).map fun i : Nat => (((i : Int), ⟨(i : Int), 1⟩) : Int × Hd)).reverse
def arrU (k : Nat) : List Int := (List.range k).map fun i : Nat => (i : Int)
theorem arrL_len (n k : Nat) : (arrL n k).length = n := by unfold arrL; rw [List.length_map, List.length_range]
theorem arrL_at {n k i : Nat} (h : i < n) : (arrL n k)[i]? = some (if i < k then arrS i else newS i) := by
  unfold arrL; rw [List.getElem?_map, List.getElem?_range h]; rfl
theorem arrL_zero (n : Nat) : arrL n 0 = newL n n := by
  apply List.ext_getElem?
  intro i
  by_cases h : i < n
  · rw [arrL_at h, newL_at h, if_neg (by omega), if_pos h]
  · rw [List.getElem?_eq_none (by rw [arrL_len]; omega), List.getElem?_eq_none (by rw [newL_len]; omega)]
theorem arrL_set {n k : Nat} : (arrL n k).set k (arrS k) = arrL n (k + 1) := by
  apply List.ext_getElem?
  intro j
  by_cases hj : j < n
  · by_cases e : k = j
    · subst e
      rw [List.getElem?_set_self (by rw [arrL_len]; exact hj), arrL_at hj, if_pos (by omega)]
    · rw [List.getElem?_set_ne e, arrL_at hj, arrL_at hj]
      by_cases c : j < k
      · rw [if_pos c, if_pos (by omega)]
      · rw [if_neg c, if_neg (by omega)]
  · rw [List.getElem?_eq_none (by rw [List.length_set, arrL_len]; omega), List.getElem?_eq_none (by rw [arrL_len]; omega)]
theorem arrL_first {n k : Nat} (h : k < n) : firstF (arrL n k) = some k := by
  unfold firstF
  rw [List.findIdx?_eq_some_iff_getElem]
  refine ⟨by rw [arrL_len]; exact h, ?_, fun j hj => ?_⟩
  · have := arrL_at (k := k) h
    rw [if_neg (Nat.lt_irrefl _)] at this
    obtain ⟨h1, h2⟩ := List.getElem?_eq_some_iff.1 this
    rw [h2]; rfl
  · have := arrL_at (n := n) (k := k) (i := j) (by omega)
    rw [if_pos hj] at this
    obtain ⟨h1, h2⟩ := List.getElem?_eq_some_iff.1 this
    rw [h2]
    show ¬ decide ((1 : Nat) = 0) = true
    decide
theorem arrC_succ (k : Nat) : arrC (k + 1) = ((k : Int), ⟨(k : Int), 1⟩) :: arrC k := by
  unfold arrC; rw [List.range_succ, List.map_append, List.reverse_append]; rfl
theorem arrC_len (k : Nat) : (arrC k).length = k := by unfold arrC; rw [List.length_reverse, List.length_map, List.length_range]
theorem arrU_len (k : Nat) : (arrU k).length = k := by unfold arrU; rw [List.length_map, List.length_range]
theorem arrU_mem {k : Nat} {x : Int} : x ∈ arrU k ↔ 0 ≤ x ∧ x < (k : Int) := by
  unfold arrU
  rw [List.mem_map]
  constructor
  · rintro ⟨i, hi, rfl⟩
    have := List.mem_range.1 hi
    omega
  · intro h
    exact ⟨x.toNat, List.mem_range.2 (by omega), by omega⟩
theorem arrU_nodup (k : Nat) : (arrU k).Nodup := by
  unfold arrU
  exact List.Pairwise.map _ (fun a b (h : a ≠ b) => by show (a : Int) ≠ (b : Int); omega) List.nodup_range
theorem arrU_succ (k : Nat) : drop1O (arrU k) (k : Int) ++ [(k : Int)] = arrU (k + 1) := by
  rw [drop1O_not (fun h => by have := (arrU_mem.1 h).2; omega)]
  unfold arrU; rw [List.range_succ, List.map_append]; rfl
theorem arrC_keys (k : Nat) : keyL (arrC k) = (arrU k).reverse := by
  unfold arrC arrU
  show List.map _ (List.reverse _) = _
  rw [List.map_reverse, List.map_map]; rfl
theorem arrC_mem {k : Nat} {p : Int × Hd} (h : p ∈ arrC k) : ∃ i : Nat, i < k ∧ p = ((i : Int), ⟨(i : Int), 1⟩) := by
  unfold arrC at h
  obtain ⟨i, hi, rfl⟩ := List.mem_map.1 (List.mem_reverse.1 h)
  exact ⟨i, List.mem_range.1 hi, rfl⟩
theorem arr_ok {kind entries words kk : Nat} {b : Bool} (h1 : kind ≤ 2) (h2 : 1 ≤ entries ∧ entries ≤ 8) (h3 : 1 ≤ words ∧ words ≤ 4) (hk : kk ≤ entries) : (Xm.mk kind entries words b (arrL (2 * entries) kk) (arrC kk) (arrU kk)).Ok where
  knd := h1
  ent := h2
  wrd := h3
  len := arrL_len _ _
  are := ⟨by rw [arrL_len]; omega, fun i s hs => by
    have hi : i < 2 * entries := by have := (List.getElem?_eq_some_iff.1 hs).1; rwa [arrL_len] at this
    rw [arrL_at hi] at hs
    obtain rfl := Option.some.inj hs
    split
    · exact ⟨rfl, by show (1 : Int) ≤ 1; decide, by show (1 : Int) ≤ 255; decide⟩
    · exact ⟨rfl, by show (1 : Int) ≤ 1; decide, by show (1 : Int) ≤ 255; decide⟩⟩
  nd := by show (keyL (arrC kk)).Nodup; rw [arrC_keys]; exact (List.reverse_perm _).nodup_iff.2 (arrU_nodup kk)
  perm := by show (arrU kk).Perm (keyL (arrC kk)); rw [arrC_keys]; exact (List.reverse_perm _).symm
  le := by show (arrC kk).length ≤ entries; rw [arrC_len]; exact hk
  lk := fun p hp => by
    obtain ⟨i, hi, rfl⟩ := arrC_mem hp
    exact ⟨i, arrS i, rfl, by show (arrL _ _)[i]? = _; rw [arrL_at (by omega), if_pos hi], rfl, rfl, rfl⟩
  rng := fun k hk2 => by
    have hk3 : k ∈ keyL (arrC kk) := hk2
    rw [arrC_keys] at hk3
    have := arrU_mem.1 (List.mem_reverse.1 hk3)
    omega
def Xm.new (kind entries words : Nat) : Xm := ⟨kind, entries, words, false, arrL (2 * entries) (if kind = 0 then entries else 0), arrC (if kind = 0 then entries else 0), arrU (if kind = 0 then entries else 0)⟩
set_option maxHeartbeats 1000000 in
theorem New_kind {kind entries words : Int} (h : kind < 0 ∨ 2 < kind) : Pure Tryz.prog (fun _ => True) 8 [.int .i64 kind, .int .i64 entries, .int .i64 words] (.tuple #[.pointer none, .int .i64 11]) := by
  intro w0 H hT
  refine L_enter Tryz.func8 rfl Tryz.ntmps8 rfl rfl ?_
  refine W_sr ?_
  refine W_assign rfl rfl ?_
  refine W_assign rfl rfl ?_
  refine W_nil ?_
  refine W_seq ?_
  refine W_block ?_
  refine W_sr ?_
  refine W_move rfl rfl ?_
  refine W_bin rfl rfl b_lss rfl ?_
  refine W_move rfl rfl ?_
  apply W_or
  iterate 4 exact rfl
  case h1 =>
    intro hg2
    refine W_gyes rfl rfl ?_
    refine W_move rfl rfl ?_
    refine W_gyes rfl rfl ?_
    refine W_bin rfl rfl b_gtr rfl ?_
    exact W_met rfl zR
  refine W_assign rfl rfl ?_
  refine W_nil ?_
  refine W_condT rfl (by simp; omega) ?_
  refine W_sr ?_
  refine W_assign rfl rfl ?_
  refine W_assign rfl rfl ?_
  refine W_nil ?_
  refine W_ret2m (H2 := H) Tryz.results8 rfl rfl (.nil _) zH ?_
  exact ⟨rfl, rfl⟩
set_option maxHeartbeats 1000000 in
theorem New_range {kind entries words : Int} (h : 0 ≤ kind ∧ kind ≤ 2) (hr : ((entries < 1 ∨ 8 < entries) ∨ words < 1) ∨ 4 < words) : Pure Tryz.prog (fun _ => True) 8 [.int .i64 kind, .int .i64 entries, .int .i64 words] (.tuple #[.pointer none, .int .i64 2]) := by
  intro w0 H hT
  refine L_enter Tryz.func8 rfl Tryz.ntmps8 rfl rfl ?_
  refine W_sr ?_
  refine W_assign rfl rfl ?_
  refine W_assign rfl rfl ?_
  refine W_nil ?_
  refine W_seq ?_
  refine W_block ?_
  refine W_sr ?_
  refine W_move rfl rfl ?_
  refine W_bin rfl rfl b_lss rfl ?_
  refine W_move rfl rfl ?_
  apply W_or
  iterate 4 exact rfl
  case h1 =>
    intro hg2
    refine W_gyes rfl rfl ?_
    refine W_move rfl rfl ?_
    refine W_gyes rfl rfl ?_
    refine W_bin rfl rfl b_gtr rfl ?_
    exact W_met rfl zR
  refine W_assign rfl rfl ?_
  refine W_nil ?_
  refine W_condF rfl (by simp; omega) ?_
  refine W_sr ?_
  refine W_move rfl rfl ?_
  refine W_bin rfl rfl b_lss rfl ?_
  refine W_move rfl rfl ?_
  apply W_or
  iterate 4 exact rfl
  case h1 =>
    intro hg2
    refine W_gyes rfl rfl ?_
    refine W_move rfl rfl ?_
    refine W_gyes rfl rfl ?_
    refine W_bin rfl rfl b_gtr rfl ?_
    exact W_met rfl zR
  refine W_move rfl rfl ?_
  apply W_or
  iterate 4 exact rfl
  case h1 =>
    intro hg6
    refine W_gyes rfl rfl ?_
    refine W_move rfl rfl ?_
    refine W_gyes rfl rfl ?_
    refine W_bin rfl rfl b_lss rfl ?_
    exact W_met rfl zR
  refine W_move rfl rfl ?_
  apply W_or
  iterate 4 exact rfl
  case h1 =>
    intro hg10
    refine W_gyes rfl rfl ?_
    refine W_move rfl rfl ?_
    refine W_gyes rfl rfl ?_
    refine W_bin rfl rfl b_gtr rfl ?_
    exact W_met rfl zR
  refine W_assign rfl rfl ?_
  refine W_nil ?_
  refine W_condT rfl (by simp; omega) ?_
  refine W_sr ?_
  refine W_assign rfl rfl ?_
  refine W_assign rfl rfl ?_
  refine W_nil ?_
  refine W_ret2m (H2 := H) Tryz.results8 rfl rfl (.nil _) zH ?_
  exact ⟨rfl, rfl⟩
set_option maxHeartbeats 4000000 in
theorem New_go {w0 : World} {H : Heap} {kind entries words : Nat} (h1 : kind ≤ 2) (h2 : 1 ≤ entries ∧ entries ≤ 8) (h3 : 1 ≤ words ∧ words ≤ 4) (hTab : Tab w0) : LCalls Tryz.prog w0 8 #[.int .i64 (kind : Int), .int .i64 (entries : Int), .int .i64 (words : Int)] (H) (fun v H' => ∃ mb ab tb bo HA HT HO, AreH ab (Xm.new kind entries words).L HA ∧ TabH tb entries (Xm.new kind entries words).C HT ∧ OrdH bo entries 8 (Xm.new kind entries words).used HO ∧ v = .tuple #[.pointer (some ⟨mb, 0, none⟩), .int .i64 0] ∧ H' = (mb, .cells 78 7 [.int .i64 (kind : Int), .int .i64 (entries : Int), .int .i64 (words : Int), .pointer (some ⟨ab, 0, none⟩), .pointer (some ⟨tb, 0, none⟩), .pointer (some ⟨bo, 0, none⟩), .bool false]) :: (HA ++ (HT ++ (HO ++ H)))) := by
  refine L_enter (l := [.int .i64 (kind : Int), .int .i64 (entries : Int), .int .i64 (words : Int)]) Tryz.func8 rfl Tryz.ntmps8 rfl rfl ?_
  refine W_sr ?_
  refine W_assign rfl rfl ?_
  refine W_assign rfl rfl ?_
  refine W_nil ?_
  refine W_seq ?_
  refine W_block ?_
  refine W_sr ?_
  refine W_move rfl rfl ?_
  refine W_bin rfl rfl b_lss rfl ?_
  refine W_move rfl rfl ?_
  apply W_or
  iterate 4 exact rfl
  case h1 =>
    intro hg2
    refine W_gyes rfl rfl ?_
    refine W_move rfl rfl ?_
    refine W_gyes rfl rfl ?_
    refine W_bin rfl rfl b_gtr rfl ?_
    exact W_met rfl zR
  refine W_assign rfl rfl ?_
  refine W_nil ?_
  refine W_condF rfl (by simp; omega) ?_
  refine W_sr ?_
  refine W_move rfl rfl ?_
  refine W_bin rfl rfl b_lss rfl ?_
  refine W_move rfl rfl ?_
  apply W_or
  iterate 4 exact rfl
  case h1 =>
    intro hg2
    refine W_gyes rfl rfl ?_
    refine W_move rfl rfl ?_
    refine W_gyes rfl rfl ?_
    refine W_bin rfl rfl b_gtr rfl ?_
    exact W_met rfl zR
  refine W_move rfl rfl ?_
  apply W_or
  iterate 4 exact rfl
  case h1 =>
    intro hg6
    refine W_gyes rfl rfl ?_
    refine W_move rfl rfl ?_
    refine W_gyes rfl rfl ?_
    refine W_bin rfl rfl b_lss rfl ?_
    exact W_met rfl zR
  refine W_move rfl rfl ?_
  apply W_or
  iterate 4 exact rfl
  case h1 =>
    intro hg10
    refine W_gyes rfl rfl ?_
    refine W_move rfl rfl ?_
    refine W_gyes rfl rfl ?_
    refine W_bin rfl rfl b_gtr rfl ?_
    exact W_met rfl zR
  refine W_assign rfl rfl ?_
  refine W_nil ?_
  refine W_condF rfl (by simp; omega) ?_
  refine W_skip ?_
  refine W_blk ?_
  refine W_sr ?_
  refine W_move rfl rfl ?_
  refine W_move rfl rfl ?_
  refine W_move rfl rfl ?_
  refine W_build (l := [.int .i64 (kind : Int), .int .i64 (entries : Int), .int .i64 (words : Int), .pointer none, .pointer none, .pointer none, .bool false]) ty78 pl78 (.cons rfl rfl rfl rfl rfl (.cons rfl rfl rfl rfl rfl (.cons rfl rfl rfl rfl rfl .nil))) rfl rfl rfl ?_
  refine W_box (l := [.int .i64 (kind : Int), .int .i64 (entries : Int), .int .i64 (words : Int), .pointer none, .pointer none, .pointer none, .bool false]) rfl rfl rfl (fun b36 => ?_)
  refine W_assign rfl rfl ?_
  refine W_nil ?_
  refine W_sr ?_
  refine W_move rfl rfl ?_
  refine W_move rfl rfl ?_
  refine W_bin rfl rfl (b_mul (m := ((2 * entries : Nat) : Int)) (by rw [i64w (by omega)]; omega)) rfl ?_
  refine W_call (.cons rfl .nil) Tryz.call33 rfl (AreH.new (n := 2 * entries) (by omega) (by omega)) ?_
  rintro v H' ⟨ab, HA, hA, rfl, rfl⟩
  refine W_move rfl rfl ?_
  refine W_extract rfl rfl rfl ?_
  refine W_extract rfl rfl rfl ?_
  refine W_nilCheck rfl rfl ?_
  refine W_fieldAddr rfl fld78_3 (by decide) rfl ?_
  refine W_store (l' := [.int .i64 (kind : Int), .int .i64 (entries : Int), .int .i64 (words : Int), .pointer (some ⟨ab, 0, none⟩), .pointer none, .pointer none, .bool false]) rfl rfl ty74 rfl rfl (b := b36) zM rfl rfl zU ?_
  refine W_nil ?_
  refine W_sr ?_
  refine W_move rfl rfl ?_
  refine W_move rfl rfl ?_
  refine W_call (.cons rfl (.cons rfl .nil)) Tryz.call34 rfl (TabH.new (room := entries) (by omega) (by omega)) ?_
  rintro v H' ⟨tb, HT, hB, rfl, rfl⟩
  refine W_move rfl rfl ?_
  refine W_extract rfl rfl rfl ?_
  refine W_extract rfl rfl rfl ?_
  refine W_nilCheck rfl rfl ?_
  refine W_fieldAddr rfl fld78_4 (by decide) rfl ?_
  refine W_store (l' := [.int .i64 (kind : Int), .int .i64 (entries : Int), .int .i64 (words : Int), .pointer (some ⟨ab, 0, none⟩), .pointer (some ⟨tb, 0, none⟩), .pointer none, .bool false]) rfl rfl ty75 rfl rfl (b := b36) zM rfl rfl zU ?_
  refine W_nil ?_
  refine W_sr ?_
  refine W_move rfl rfl ?_
  refine W_move rfl rfl ?_
  refine W_call (.cons rfl .nil) Tryz.call35 rfl (OrdH.new (room := entries) (by omega)) ?_
  rintro v H' ⟨bo, HO, hO, rfl, rfl⟩
  refine W_move rfl rfl ?_
  refine W_extract rfl rfl rfl ?_
  refine W_extract rfl rfl rfl ?_
  refine W_nilCheck rfl rfl ?_
  refine W_fieldAddr rfl fld78_5 (by decide) rfl ?_
  refine W_store (l' := [.int .i64 (kind : Int), .int .i64 (entries : Int), .int .i64 (words : Int), .pointer (some ⟨ab, 0, none⟩), .pointer (some ⟨tb, 0, none⟩), .pointer (some ⟨bo, 0, none⟩), .bool false]) rfl rfl ty76 rfl rfl (b := b36) zM rfl rfl zU ?_
  refine W_nil ?_
  refine W_seq ?_
  refine W_sr ?_
  refine W_move rfl rfl ?_
  refine W_move rfl rfl ?_
  refine W_nil ?_
  refine W_block ?_
  refine W_loopC (X := (Nat × Heap × Heap × Heap)) [(0, _), (8, _), (62, _)] (fun (x : (Nat × Heap × Heap × Heap)) => [(63, .int .i64 (x.1 : Int))]) (fun _ => _) (fun (x : (Nat × Heap × Heap × Heap)) => (b36, .cells 78 7 [.int .i64 (kind : Int), .int .i64 (entries : Int), .int .i64 (words : Int), .pointer (some ⟨ab, 0, none⟩), .pointer (some ⟨tb, 0, none⟩), .pointer (some ⟨bo, 0, none⟩), .bool false]) :: (x.2.1 ++ (x.2.2.1 ++ (x.2.2.2 ++ H)))) (fun (x : (Nat × Heap × Heap × Heap)) => x.1 ≤ entries ∧ AreH ab (arrL (2 * entries) (if kind = 0 then x.1 else 0)) x.2.1 ∧ TabH tb entries (arrC (if kind = 0 then x.1 else 0)) x.2.2.1 ∧ OrdH bo entries x.1 (arrU (if kind = 0 then x.1 else 0)) x.2.2.2) (fun (x : (Nat × Heap × Heap × Heap)) => entries - x.1) (0, HA, HT, HO) ⟨Nat.zero_le _, by rw [ite_self, arrL_zero]; exact hA, by rw [ite_self]; exact hB, by rw [ite_self]; exact hO⟩ (sub_cons rfl (sub_cons rfl (sub_cons rfl (sub_nil _)))) (sub_cons rfl (sub_nil _)) rfl zH ?_
  rintro ⟨k, HA1, HT1, HO1⟩ ⟨hk, hA1, hB1, hO1⟩
  dsimp only at hk hA1 hB1 hO1 ⊢
  simp only [List.cons_append, List.nil_append]
  refine W_sr ?_
  refine W_bin rfl rfl b_lss rfl ?_
  refine W_nil ?_
  refine W_seq ?_
  refine W_condPS (p := (k : Int) < (entries : Int)) rfl (by simp) (fun q0 => ?_) (fun q0 => ?_)
  · skip
    refine W_skip ?_
    refine W_seq ?_
    refine W_block ?_
    refine W_sr ?_
    refine W_move rfl rfl ?_
    refine W_assign rfl rfl ?_
    refine W_nil ?_
    refine W_sr ?_
    refine W_move rfl rfl ?_
    refine W_bin rfl rfl b_eql rfl ?_
    refine W_nil ?_
    refine W_condPS (p := kind = 0) rfl (by simp) (fun q1 => ?_) (fun q1 => ?_)
    · skip
      refine W_region ?_
      refine W_move rfl rfl ?_
      refine W_move rfl rfl ?_
      refine W_conv rfl ty3 ty22 (u64w (by omega)) rfl ?_
      refine W_build (l := celC ⟨(k : Int), zW⟩) ty82 pl82 (.cons rfl rfl rfl rfl rfl .nil) rfl rfl rfl ?_
      subst q1
      rw [if_pos rfl] at hA1 hB1 hO1
      refine W_call (.cons rfl (.cons rfl .nil)) Tryz.call36 rfl ((link_at (mb := b36) (closed := false) (kind := 0) (words := words) hA1 hB1 hO1 (by omega) (by omega) (i := k) (s := newS k) (c := ⟨(k : Int), zW⟩) (arrL_first (by omega)) (by rw [arrL_at (by omega), if_neg (Nat.lt_irrefl _)]) (by rw [arrC_keys]; exact fun hm => by have h9 : (k : Int) < (k : Int) := (arrU_mem.1 (List.mem_reverse.1 hm)).2; omega) (by rw [arrC_len]; omega) (by rw [arrU_len]; omega) hTab (H := H)).hsub zH) ?_
      rintro v H' ⟨HA2, HT2, HO2, hA2, hB2, hO2, rfl, rfl⟩
      refine W_nil ?_
      refine W_blk ?_
      refine W_region ?_
      refine W_bin rfl rfl (b_add (m := ((k + 1 : Nat) : Int)) ((i64w (by omega)).trans (by omega))) rfl ?_
      refine W_move rfl rfl ?_
      refine W_nil ?_
      refine W_again (k + 1, HA2, HT2, HO2) ⟨by show k + 1 ≤ entries; omega, by show AreH _ _ _; rw [if_pos rfl]; rw [← arrL_set]; exact hA2, by show TabH _ _ _ _; rw [if_pos rfl, arrC_succ]; exact hB2, by show OrdH _ _ _ _ _; rw [if_pos rfl, ← arrU_succ]; exact hO2⟩ (by show entries - (k + 1) < entries - k; omega) (sub_cons rfl (sub_cons rfl (sub_cons rfl (sub_cons rfl (sub_nil _))))) rfl zH
    · skip
      refine W_skip ?_
      refine W_blk ?_
      refine W_region ?_
      refine W_bin rfl rfl (b_add (m := ((k + 1 : Nat) : Int)) ((i64w (by omega)).trans (by omega))) rfl ?_
      refine W_move rfl rfl ?_
      refine W_nil ?_
      refine W_again (k + 1, HA1, HT1, HO1) ⟨by show k + 1 ≤ entries; omega, by rw [if_neg q1] at hA1 ⊢; exact hA1, by rw [if_neg q1] at hB1 ⊢; exact hB1, by rw [if_neg q1] at hO1 ⊢; exact hO1.up (Nat.le_succ _)⟩ (by show entries - (k + 1) < entries - k; omega) (sub_cons rfl (sub_cons rfl (sub_cons rfl (sub_cons rfl (sub_nil _))))) rfl zH
  · skip
    refine W_exit rfl ?_
    refine W_sr ?_
    refine W_move rfl rfl ?_
    refine W_assign rfl rfl ?_
    refine W_assign rfl rfl ?_
    refine W_nil ?_
    refine W_ret2m (H2 := (b36, .cells 78 7 [.int .i64 (kind : Int), .int .i64 (entries : Int), .int .i64 (words : Int), .pointer (some ⟨ab, 0, none⟩), .pointer (some ⟨tb, 0, none⟩), .pointer (some ⟨bo, 0, none⟩), .bool false]) :: (HA1 ++ (HT1 ++ (HO1 ++ H)))) Tryz.results8 rfl rfl (.nil _) zH ?_
    obtain rfl : k = entries := by omega
    exact ⟨b36, ab, tb, bo, HA1, HT1, HO1, hA1, hB1, hO1.up (by omega), rfl, rfl⟩
end Go.Proofs.YtphdlpmnidiliaaGreatDoor
namespace Go.Proofs.YtphdlpmnidiliaaGreatDoor
open Go Go.Sl
attribute [local irreducible] W
set_option maxHeartbeats 2000000 in
theorem store1_L {w0 : World} {H : Heap} {mb ab tb bo kind entries words : Nat} {closed : Bool} {L : List Slt} {HA HT HO : Heap} (hA : AreH ab L HA) {b4 b5 b6 b7 j : Nat} {c : Cel} {h : Hd} {v : Int} (hj : j < 4)  : LCalls Tryz.prog w0 53 #[.agg (List.toArray (celC c)), .pointer (some ⟨b7, 0, none⟩), .pointer (some ⟨b6, 0, none⟩), .pointer (some ⟨b4, 0, none⟩), .pointer (some ⟨b5, 0, none⟩)] ((b7, .cells 22 1 [.int .u64 v]) :: (b6, .cells 3 1 [.int .i64 (j : Int)]) :: (b5, .cells 29 2 (hdC h)) :: (b4, .cells 23 1 [.pointer (some ⟨mb, 0, none⟩)]) :: (mb, .cells 78 7 [.int .i64 (kind : Int), .int .i64 (entries : Int), .int .i64 (words : Int), .pointer (some ⟨ab, 0, none⟩), .pointer (some ⟨tb, 0, none⟩), .pointer (some ⟨bo, 0, none⟩), .bool closed]) :: (HA ++ (HT ++ (HO ++ H)))) (fun v' H' => ∃ HA', AreH ab (setA L h (fun s => { s with cel := ⟨c.key, c.w.put j v⟩ })) HA' ∧ v' = .int .i64 (errA L h) ∧ H' = (b7, .cells 22 1 [.int .u64 v]) :: (b6, .cells 3 1 [.int .i64 (j : Int)]) :: (b5, .cells 29 2 (hdC h)) :: (b4, .cells 23 1 [.pointer (some ⟨mb, 0, none⟩)]) :: (mb, .cells 78 7 [.int .i64 (kind : Int), .int .i64 (entries : Int), .int .i64 (words : Int), .pointer (some ⟨ab, 0, none⟩), .pointer (some ⟨tb, 0, none⟩), .pointer (some ⟨bo, 0, none⟩), .bool closed]) :: (HA' ++ (HT ++ (HO ++ H)))) := by
  refine L_enter (l := [.agg (List.toArray (celC c)), .pointer (some ⟨b7, 0, none⟩), .pointer (some ⟨b6, 0, none⟩), .pointer (some ⟨b4, 0, none⟩), .pointer (some ⟨b5, 0, none⟩)]) Tryz.func53 rfl Tryz.ntmps53 rfl rfl ?_
  refine W_sr ?_
  refine W_box (l := celC c) rfl rfl rfl (fun b0 => ?_)
  refine W_assign rfl rfl ?_
  refine W_nil ?_
  refine W_sr ?_
  refine W_load (v := .int .i64 (j : Int)) rfl ty3 rfl (Cell.own (b := b6) zM rfl) rfl ?_
  refine W_load (v := .int .u64 v) rfl ty22 rfl (Cell.own (b := b7) zM rfl) rfl ?_
  refine W_fieldAddr rfl fld82_1 (by decide) rfl ?_
  refine W_indexAddrA (j := j) rfl rfl ty69 ty22 rfl hj rfl rfl ?_
  refine W_store (l' := celC ⟨c.key, c.w.put j v⟩) rfl rfl ty22 rfl rfl (b := b0) zM (by show Nat.blt (0 + 1 + j * 1) 5 = true; rw [Nat.blt_eq]; omega) (cel_set hj) zU ?_
  refine W_nil ?_
  refine W_seq ?_
  refine W_anyC [(b0, .cells 82 5 (celC ⟨c.key, c.w.put j v⟩)), (b5, .cells 29 2 (hdC h)), (b4, .cells 23 1 [.pointer (some ⟨mb, 0, none⟩)]), (mb, .cells 78 7 [.int .i64 (kind : Int), .int .i64 (entries : Int), .int .i64 (words : Int), .pointer (some ⟨ab, 0, none⟩), .pointer (some ⟨tb, 0, none⟩), .pointer (some ⟨bo, 0, none⟩), .bool closed])] (by kernel_rfl) ?_
  refine WC_take 0 (l' := #[true, false, false, false, false, false, false, false]) rfl (by decide +kernel) (by decide +kernel) (by decide +kernel) rfl (by decide +kernel) (X_load (v := .pointer (some ⟨mb, 0, none⟩)) rfl ty23 rfl (Cell.own (b := b4) zM rfl)) rfl ?_
  refine WC_take 1 (l' := #[true, true, false, false, false, false, false, false]) rfl (by decide +kernel) (by decide +kernel) (by decide +kernel) rfl (by decide +kernel) (X_nilCheck rfl) rfl ?_
  refine WC_take 2 (l' := #[true, true, true, false, false, false, false, false]) rfl (by decide +kernel) (by decide +kernel) (by decide +kernel) rfl (by decide +kernel) (X_fieldAddr rfl fld78_3 (by decide)) rfl ?_
  refine WC_take 3 (l' := #[true, true, true, true, false, false, false, false]) rfl (by decide +kernel) (by decide +kernel) (by decide +kernel) rfl (by decide +kernel) (X_load (v := .pointer (some ⟨ab, 0, none⟩)) rfl ty74 rfl (Cell.own (b := mb) zM rfl)) rfl ?_
  refine WC_take 4 (l' := #[true, true, true, true, true, false, false, false]) rfl (by decide +kernel) (by decide +kernel) (by decide +kernel) rfl (by decide +kernel) (X_loadB (vs := hdC h) rfl ty29 rfl (b := b5) zM rfl rfl) rfl ?_
  refine WC_take 5 (l' := #[true, true, true, true, true, true, false, false]) rfl (by decide +kernel) (by decide +kernel) (by decide +kernel) rfl (by decide +kernel) (X_loadB (vs := celC (⟨c.key, c.w.put j v⟩)) rfl ty82 rfl (b := b0) zM rfl rfl) rfl ?_
  refine WC_one 6 (l' := #[true, true, true, true, true, true, true, false]) zH (by decide +kernel) rfl (by decide +kernel) ?_
  refine W_call (.cons rfl (.cons rfl (.cons rfl .nil))) Tryz.call40 rfl ((hA.set (h := h) (c := ⟨c.key, c.w.put j v⟩) (H := (b0, .cells 82 5 (celC ⟨c.key, c.w.put j v⟩)) :: (b7, .cells 22 1 [.int .u64 v]) :: (b6, .cells 3 1 [.int .i64 (j : Int)]) :: (b5, .cells 29 2 (hdC h)) :: (b4, .cells 23 1 [.pointer (some ⟨mb, 0, none⟩)]) :: (mb, .cells 78 7 [.int .i64 (kind : Int), .int .i64 (entries : Int), .int .i64 (words : Int), .pointer (some ⟨ab, 0, none⟩), .pointer (some ⟨tb, 0, none⟩), .pointer (some ⟨bo, 0, none⟩), .bool closed]) :: (HT ++ (HO ++ H)))).hsub zH) ?_
  rintro v' H' ⟨HA2, hA2, rfl, rfl⟩
  refine W_nil ?_
  refine WC_goal ?_
  refine WC_take 7 (l' := #[true, true, true, true, true, true, true, true]) rfl (by decide +kernel) (by decide +kernel) (by decide +kernel) rfl (by decide +kernel) (X_assign rfl) rfl ?_
  refine WC_done zH (by decide +kernel) ?_
  refine W_ret1m (H2 := (b7, .cells 22 1 [.int .u64 v]) :: (b6, .cells 3 1 [.int .i64 (j : Int)]) :: (b5, .cells 29 2 (hdC h)) :: (b4, .cells 23 1 [.pointer (some ⟨mb, 0, none⟩)]) :: (mb, .cells 78 7 [.int .i64 (kind : Int), .int .i64 (entries : Int), .int .i64 (words : Int), .pointer (some ⟨ab, 0, none⟩), .pointer (some ⟨tb, 0, none⟩), .pointer (some ⟨bo, 0, none⟩), .bool closed]) :: (HA2 ++ (HT ++ (HO ++ H)))) Tryz.results53 rfl (.nil _) zH ?_
  exact ⟨HA2, hA2, rfl, rfl⟩
set_option maxHeartbeats 2000000 in
theorem Store_at {w0 : World} {H : Heap} {mb ab tb bo kind entries words : Nat} {closed : Bool} {L : List Slt} {C : List (Int × Hd)} {HA HT HO : Heap} (hA : AreH ab L HA) (hB : TabH tb entries C HT) {h : Hd} {at_ v : Int} (used : List Int) (hw : words ≤ 4)  : LCalls Tryz.prog w0 21 #[.pointer (some ⟨mb, 0, none⟩), .agg (List.toArray (hdC h)), .int .i64 at_, .int .u64 v] ((mb, .cells 78 7 [.int .i64 (kind : Int), .int .i64 (entries : Int), .int .i64 (words : Int), .pointer (some ⟨ab, 0, none⟩), .pointer (some ⟨tb, 0, none⟩), .pointer (some ⟨bo, 0, none⟩), .bool closed]) :: (HA ++ (HT ++ (HO ++ H)))) (fun v' H' => ∃ HA', AreH ab (Xm.store (⟨kind, entries, words, closed, L, C, used⟩ : Xm) h at_ v).1.L HA' ∧ v' = .int .i64 (Xm.store (⟨kind, entries, words, closed, L, C, used⟩ : Xm) h at_ v).2 ∧ H' = (mb, .cells 78 7 [.int .i64 (kind : Int), .int .i64 (entries : Int), .int .i64 (words : Int), .pointer (some ⟨ab, 0, none⟩), .pointer (some ⟨tb, 0, none⟩), .pointer (some ⟨bo, 0, none⟩), .bool closed]) :: (HA' ++ (HT ++ (HO ++ H)))) := by
  refine L_enter (l := [.pointer (some ⟨mb, 0, none⟩), .agg (List.toArray (hdC h)), .int .i64 at_, .int .u64 v]) Tryz.func21 rfl Tryz.ntmps21 rfl rfl ?_
  rcases word_ways L words h at_ with he | ⟨he, hl⟩ | ⟨he, h0, hl⟩ | ⟨he, j, rfl, hjw⟩
  · skip
    refine W_sr ?_
    refine W_box (l := [.pointer (some ⟨mb, 0, none⟩)]) rfl rfl rfl (fun b4 => ?_)
    refine W_box (l := hdC h) rfl rfl rfl (fun b5 => ?_)
    refine W_box (l := [.int .i64 at_]) rfl rfl rfl (fun b6 => ?_)
    refine W_box (l := [.int .u64 v]) rfl rfl rfl (fun b7 => ?_)
    refine W_assign rfl rfl ?_
    refine W_nil ?_
    refine W_sr ?_
    refine W_load (v := .pointer (some ⟨mb, 0, none⟩)) rfl ty23 rfl (Cell.own (b := b4) zM rfl) rfl ?_
    refine W_loadB (vs := hdC h) rfl ty29 rfl (b := b5) zM rfl rfl rfl ?_
    refine W_load (v := .int .i64 at_) rfl ty3 rfl (Cell.own (b := b6) zM rfl) rfl ?_
    refine W_makeFunc .nil (.cons rfl (.cons rfl (.cons rfl (.cons rfl .nil)))) rfl ?_
    refine W_callq (.cons rfl (.cons rfl (.cons rfl (.cons rfl .nil)))) Tryz.call46 rfl (word_no (ca := [.pointer (some ⟨b7, 0, none⟩), .pointer (some ⟨b6, 0, none⟩), .pointer (some ⟨b4, 0, none⟩), .pointer (some ⟨b5, 0, none⟩)]) hA hB he (HO := HO) (closed := closed) (kind := kind) (words := words) (fun p hp => by repeat (first | exact mem3 p hp | apply List.mem_cons_of_mem))) ?_
    refine W_assign rfl rfl ?_
    refine W_nil ?_
    refine W_ret1m (H2 := (mb, .cells 78 7 [.int .i64 (kind : Int), .int .i64 (entries : Int), .int .i64 (words : Int), .pointer (some ⟨ab, 0, none⟩), .pointer (some ⟨tb, 0, none⟩), .pointer (some ⟨bo, 0, none⟩), .bool closed]) :: (HA ++ (HT ++ (HO ++ H)))) Tryz.results21 rfl (.nil _) zH ?_
    exact ⟨HA, by unfold Xm.store; rw [if_pos he]; exact hA, by unfold Xm.store; rw [if_pos he], rfl⟩
  · skip
    refine W_sr ?_
    refine W_box (l := [.pointer (some ⟨mb, 0, none⟩)]) rfl rfl rfl (fun b4 => ?_)
    refine W_box (l := hdC h) rfl rfl rfl (fun b5 => ?_)
    refine W_box (l := [.int .i64 at_]) rfl rfl rfl (fun b6 => ?_)
    refine W_box (l := [.int .u64 v]) rfl rfl rfl (fun b7 => ?_)
    refine W_assign rfl rfl ?_
    refine W_nil ?_
    refine W_sr ?_
    refine W_load (v := .pointer (some ⟨mb, 0, none⟩)) rfl ty23 rfl (Cell.own (b := b4) zM rfl) rfl ?_
    refine W_loadB (vs := hdC h) rfl ty29 rfl (b := b5) zM rfl rfl rfl ?_
    refine W_load (v := .int .i64 at_) rfl ty3 rfl (Cell.own (b := b6) zM rfl) rfl ?_
    refine W_makeFunc .nil (.cons rfl (.cons rfl (.cons rfl (.cons rfl .nil)))) rfl ?_
    refine W_call (.cons rfl (.cons rfl (.cons rfl (.cons rfl .nil)))) Tryz.call46 rfl (word_lo (ca := [.pointer (some ⟨b7, 0, none⟩), .pointer (some ⟨b6, 0, none⟩), .pointer (some ⟨b4, 0, none⟩), .pointer (some ⟨b5, 0, none⟩)]) hA hB (HO := HO) (closed := closed) (kind := kind) (words := words) he hl (fun p hp => by repeat (first | exact mem3 p hp | apply List.mem_cons_of_mem))) ?_
    rintro v' H' ⟨rfl, hH⟩
    subst H'
    refine W_assign rfl rfl ?_
    refine W_nil ?_
    refine W_ret1m (H2 := (mb, .cells 78 7 [.int .i64 (kind : Int), .int .i64 (entries : Int), .int .i64 (words : Int), .pointer (some ⟨ab, 0, none⟩), .pointer (some ⟨tb, 0, none⟩), .pointer (some ⟨bo, 0, none⟩), .bool closed]) :: (HA ++ (HT ++ (HO ++ H)))) Tryz.results21 rfl (.nil _) zH ?_
    exact ⟨HA, by unfold Xm.store; rw [if_neg (fun h => h he), if_pos (.inl hl)]; exact hA, by unfold Xm.store; rw [if_neg (fun h => h he), if_pos (.inl hl)], rfl⟩
  · skip
    refine W_sr ?_
    refine W_box (l := [.pointer (some ⟨mb, 0, none⟩)]) rfl rfl rfl (fun b4 => ?_)
    refine W_box (l := hdC h) rfl rfl rfl (fun b5 => ?_)
    refine W_box (l := [.int .i64 at_]) rfl rfl rfl (fun b6 => ?_)
    refine W_box (l := [.int .u64 v]) rfl rfl rfl (fun b7 => ?_)
    refine W_assign rfl rfl ?_
    refine W_nil ?_
    refine W_sr ?_
    refine W_load (v := .pointer (some ⟨mb, 0, none⟩)) rfl ty23 rfl (Cell.own (b := b4) zM rfl) rfl ?_
    refine W_loadB (vs := hdC h) rfl ty29 rfl (b := b5) zM rfl rfl rfl ?_
    refine W_load (v := .int .i64 at_) rfl ty3 rfl (Cell.own (b := b6) zM rfl) rfl ?_
    refine W_makeFunc .nil (.cons rfl (.cons rfl (.cons rfl (.cons rfl .nil)))) rfl ?_
    refine W_call (.cons rfl (.cons rfl (.cons rfl (.cons rfl .nil)))) Tryz.call46 rfl (word_hi (ca := [.pointer (some ⟨b7, 0, none⟩), .pointer (some ⟨b6, 0, none⟩), .pointer (some ⟨b4, 0, none⟩), .pointer (some ⟨b5, 0, none⟩)]) hA hB (HO := HO) (closed := closed) (kind := kind) (words := words) he h0 hl (fun p hp => by repeat (first | exact mem3 p hp | apply List.mem_cons_of_mem))) ?_
    rintro v' H' ⟨rfl, hH⟩
    subst H'
    refine W_assign rfl rfl ?_
    refine W_nil ?_
    refine W_ret1m (H2 := (mb, .cells 78 7 [.int .i64 (kind : Int), .int .i64 (entries : Int), .int .i64 (words : Int), .pointer (some ⟨ab, 0, none⟩), .pointer (some ⟨tb, 0, none⟩), .pointer (some ⟨bo, 0, none⟩), .bool closed]) :: (HA ++ (HT ++ (HO ++ H)))) Tryz.results21 rfl (.nil _) zH ?_
    exact ⟨HA, by unfold Xm.store; rw [if_neg (fun h => h he), if_pos (.inr hl)]; exact hA, by unfold Xm.store; rw [if_neg (fun h => h he), if_pos (.inr hl)], rfl⟩
  · skip
    refine W_sr ?_
    refine W_box (l := [.pointer (some ⟨mb, 0, none⟩)]) rfl rfl rfl (fun b4 => ?_)
    refine W_box (l := hdC h) rfl rfl rfl (fun b5 => ?_)
    refine W_box (l := [.int .i64 (j : Int)]) rfl rfl rfl (fun b6 => ?_)
    refine W_box (l := [.int .u64 v]) rfl rfl rfl (fun b7 => ?_)
    refine W_assign rfl rfl ?_
    refine W_nil ?_
    refine W_sr ?_
    refine W_load (v := .pointer (some ⟨mb, 0, none⟩)) rfl ty23 rfl (Cell.own (b := b4) zM rfl) rfl ?_
    refine W_loadB (vs := hdC h) rfl ty29 rfl (b := b5) zM rfl rfl rfl ?_
    refine W_load (v := .int .i64 (j : Int)) rfl ty3 rfl (Cell.own (b := b6) zM rfl) rfl ?_
    refine W_makeFunc .nil (.cons rfl (.cons rfl (.cons rfl (.cons rfl .nil)))) rfl ?_
    refine W_call (.cons rfl (.cons rfl (.cons rfl (.cons rfl .nil)))) Tryz.call46 rfl (word_in (ca := [.pointer (some ⟨b7, 0, none⟩), .pointer (some ⟨b6, 0, none⟩), .pointer (some ⟨b4, 0, none⟩), .pointer (some ⟨b5, 0, none⟩)]) hA hB (HO := HO) (closed := closed) (kind := kind) (words := words) Tryz.call53 he (by omega) (fun p hp => by repeat (first | exact mem3 p hp | apply List.mem_cons_of_mem)) (store1_L (c := celA L h) (h := h) (v := v) (j := j) hA (by omega) (H := H))) ?_
    rintro v' H' ⟨HA2, hA2, rfl, rfl⟩
    refine W_assign rfl rfl ?_
    refine W_nil ?_
    refine W_ret1m (H2 := (mb, .cells 78 7 [.int .i64 (kind : Int), .int .i64 (entries : Int), .int .i64 (words : Int), .pointer (some ⟨ab, 0, none⟩), .pointer (some ⟨tb, 0, none⟩), .pointer (some ⟨bo, 0, none⟩), .bool closed]) :: (HA2 ++ (HT ++ (HO ++ H)))) Tryz.results21 rfl (.nil _) zH ?_
    have e : Xm.store (⟨kind, entries, words, closed, L, C, used⟩ : Xm) h (j : Int) v = ({ (⟨kind, entries, words, closed, L, C, used⟩ : Xm) with L := setA L h (fun s => { s with cel := ⟨s.cel.key, s.cel.w.put j v⟩ }) }, 0) := by unfold Xm.store; rw [if_neg (fun h => h he), if_neg (by dsimp only; omega)]; rfl
    rw [e]
    obtain ⟨i, s, a1, a2, a3, a4, a5, a6⟩ := errA_ok he
    exact ⟨HA2, by show AreH ab (setA L h _) HA2; rw [a6] at hA2 ⊢; rw [a5] at hA2; exact hA2, by rw [he], rfl⟩
set_option maxHeartbeats 2000000 in
theorem free1_L {w0 : World} {H : Heap} {mb ab tb bo kind entries words : Nat} {closed : Bool} {L : List Slt} {C : List (Int × Hd)} {HA HT HO : Heap} (hA : AreH ab L HA) (hB : TabH tb entries C HT) {b2 b3 : Nat} {c : Cel} {h : Hd} (used : List Int)  : LCalls Tryz.prog w0 50 #[.agg (List.toArray (celC c)), .pointer (some ⟨b2, 0, none⟩), .pointer (some ⟨b3, 0, none⟩)] ((b3, .cells 29 2 (hdC h)) :: (b2, .cells 23 1 [.pointer (some ⟨mb, 0, none⟩)]) :: (mb, .cells 78 7 [.int .i64 (kind : Int), .int .i64 (entries : Int), .int .i64 (words : Int), .pointer (some ⟨ab, 0, none⟩), .pointer (some ⟨tb, 0, none⟩), .pointer (some ⟨bo, 0, none⟩), .bool closed]) :: (HA ++ (HT ++ (HO ++ H)))) (fun v' H' => ∃ HA', AreH ab (if (Xm.linked (⟨kind, entries, words, closed, L, C, used⟩ : Xm) h) = true then L else setA L h relS) HA' ∧ v' = .int .i64 (if (Xm.linked (⟨kind, entries, words, closed, L, C, used⟩ : Xm) h) = true then 21 else errA L h) ∧ H' = (b3, .cells 29 2 (hdC h)) :: (b2, .cells 23 1 [.pointer (some ⟨mb, 0, none⟩)]) :: (mb, .cells 78 7 [.int .i64 (kind : Int), .int .i64 (entries : Int), .int .i64 (words : Int), .pointer (some ⟨ab, 0, none⟩), .pointer (some ⟨tb, 0, none⟩), .pointer (some ⟨bo, 0, none⟩), .bool closed]) :: (HA' ++ (HT ++ (HO ++ H)))) := by
  refine L_enter (l := [.agg (List.toArray (celC c)), .pointer (some ⟨b2, 0, none⟩), .pointer (some ⟨b3, 0, none⟩)]) Tryz.func50 rfl Tryz.ntmps50 rfl rfl ?_
  refine W_sr ?_
  refine W_box (l := celC c) rfl rfl rfl (fun b0 => ?_)
  refine W_assign rfl rfl ?_
  refine W_nil ?_
  refine W_seq ?_
  refine W_sr ?_
  refine W_load (v := .pointer (some ⟨mb, 0, none⟩)) rfl ty23 rfl (Cell.own (b := b2) zM rfl) rfl ?_
  refine W_loadB (vs := hdC h) rfl ty29 rfl (b := b3) zM rfl rfl rfl ?_
  refine W_callq (.cons rfl (.cons rfl .nil)) Tryz.call20 rfl (Linked_q hA hB (h := h) used (HO := HO) (closed := closed) (kind := kind) (words := words) (fun p hp => by repeat (first | exact mem3 p hp | apply List.mem_cons_of_mem))) ?_
  refine W_nil ?_
  refine W_condPS (p := (Xm.linked (⟨kind, entries, words, closed, L, C, used⟩ : Xm) h) = true) rfl (by simp) (fun c0 => ?_) (fun c0 => ?_)
  · skip
    refine W_sr ?_
    refine W_assign rfl rfl ?_
    refine W_nil ?_
    refine W_ret1m (H2 := (b3, .cells 29 2 (hdC h)) :: (b2, .cells 23 1 [.pointer (some ⟨mb, 0, none⟩)]) :: (mb, .cells 78 7 [.int .i64 (kind : Int), .int .i64 (entries : Int), .int .i64 (words : Int), .pointer (some ⟨ab, 0, none⟩), .pointer (some ⟨tb, 0, none⟩), .pointer (some ⟨bo, 0, none⟩), .bool closed]) :: (HA ++ (HT ++ (HO ++ H)))) Tryz.results50 rfl (.nil _) zH ?_
    exact ⟨HA, by rw [if_pos c0]; exact hA, by rw [if_pos c0], rfl⟩
  · skip
    refine W_skip ?_
    refine W_seq ?_
    refine W_anyC [(b3, .cells 29 2 (hdC h)), (b2, .cells 23 1 [.pointer (some ⟨mb, 0, none⟩)]), (mb, .cells 78 7 [.int .i64 (kind : Int), .int .i64 (entries : Int), .int .i64 (words : Int), .pointer (some ⟨ab, 0, none⟩), .pointer (some ⟨tb, 0, none⟩), .pointer (some ⟨bo, 0, none⟩), .bool closed])] (by kernel_rfl) ?_
    refine WC_take 0 (l' := #[true, false, false, false, false, false, false, false]) rfl (by decide +kernel) (by decide +kernel) (by decide +kernel) rfl (by decide +kernel) (X_load (v := .pointer (some ⟨mb, 0, none⟩)) rfl ty23 rfl (Cell.own (b := b2) zM rfl)) rfl ?_
    refine WC_take 1 (l' := #[true, true, false, false, false, false, false, false]) rfl (by decide +kernel) (by decide +kernel) (by decide +kernel) rfl (by decide +kernel) (X_nilCheck rfl) rfl ?_
    refine WC_take 2 (l' := #[true, true, true, false, false, false, false, false]) rfl (by decide +kernel) (by decide +kernel) (by decide +kernel) rfl (by decide +kernel) (X_fieldAddr rfl fld78_3 (by decide)) rfl ?_
    refine WC_take 3 (l' := #[true, true, true, true, false, false, false, false]) rfl (by decide +kernel) (by decide +kernel) (by decide +kernel) rfl (by decide +kernel) (X_load (v := .pointer (some ⟨ab, 0, none⟩)) rfl ty74 rfl (Cell.own (b := mb) zM rfl)) rfl ?_
    refine WC_take 4 (l' := #[true, true, true, true, true, false, false, false]) rfl (by decide +kernel) (by decide +kernel) (by decide +kernel) rfl (by decide +kernel) (X_loadB (vs := hdC h) rfl ty29 rfl (b := b3) zM rfl rfl) rfl ?_
    refine WC_one 5 (l' := #[true, true, true, true, true, true, false, false]) zH (by decide +kernel) rfl (by decide +kernel) ?_
    refine W_buildSlice (l := hdC h) ty38 ty29 (.cons rfl rfl rfl rfl rfl .nil) rfl rfl rfl rfl rfl rfl rfl (fun b13 => ?_)
    refine W_nil ?_
    refine WC_goal ?_
    refine WC_one 6 (l' := #[true, true, true, true, true, true, true, false]) zH (by decide +kernel) rfl (by decide +kernel) ?_
    refine W_call (.cons rfl (.cons rfl .nil)) Tryz.call51 rfl ((hA.free (h := h) (cap := 1) (Holds.own (b := b13) zM) (H := (b13, .cells 29 (1 * 2) (hdC h)) :: (b0, .cells 82 5 (celC c)) :: (b3, .cells 29 2 (hdC h)) :: (b2, .cells 23 1 [.pointer (some ⟨mb, 0, none⟩)]) :: (mb, .cells 78 7 [.int .i64 (kind : Int), .int .i64 (entries : Int), .int .i64 (words : Int), .pointer (some ⟨ab, 0, none⟩), .pointer (some ⟨tb, 0, none⟩), .pointer (some ⟨bo, 0, none⟩), .bool closed]) :: (HT ++ (HO ++ H)))).hsub zH) ?_
    rintro v' H' ⟨HA2, hA2, rfl, rfl⟩
    refine W_nil ?_
    refine WC_goal ?_
    refine WC_take 7 (l' := #[true, true, true, true, true, true, true, true]) rfl (by decide +kernel) (by decide +kernel) (by decide +kernel) rfl (by decide +kernel) (X_assign rfl) rfl ?_
    refine WC_done zH (by decide +kernel) ?_
    refine W_ret1m (H2 := (b3, .cells 29 2 (hdC h)) :: (b2, .cells 23 1 [.pointer (some ⟨mb, 0, none⟩)]) :: (mb, .cells 78 7 [.int .i64 (kind : Int), .int .i64 (entries : Int), .int .i64 (words : Int), .pointer (some ⟨ab, 0, none⟩), .pointer (some ⟨tb, 0, none⟩), .pointer (some ⟨bo, 0, none⟩), .bool closed]) :: (HA2 ++ (HT ++ (HO ++ H)))) Tryz.results50 rfl (.nil _) zH ?_
    exact ⟨HA2, by rw [if_neg c0]; exact hA2, by rw [if_neg c0], rfl⟩
set_option maxHeartbeats 2000000 in
theorem Free_at {w0 : World} {H : Heap} {mb ab tb bo kind entries words : Nat} {closed : Bool} {L : List Slt} {C : List (Int × Hd)} {HA HT HO : Heap} (hA : AreH ab L HA) (hB : TabH tb entries C HT) {h : Hd} (used : List Int)  : LCalls Tryz.prog w0 19 #[.pointer (some ⟨mb, 0, none⟩), .agg (List.toArray (hdC h))] ((mb, .cells 78 7 [.int .i64 (kind : Int), .int .i64 (entries : Int), .int .i64 (words : Int), .pointer (some ⟨ab, 0, none⟩), .pointer (some ⟨tb, 0, none⟩), .pointer (some ⟨bo, 0, none⟩), .bool closed]) :: (HA ++ (HT ++ (HO ++ H)))) (fun v' H' => ∃ HA', AreH ab (Xm.free (⟨kind, entries, words, closed, L, C, used⟩ : Xm) h).1.L HA' ∧ v' = .int .i64 (Xm.free (⟨kind, entries, words, closed, L, C, used⟩ : Xm) h).2 ∧ H' = (mb, .cells 78 7 [.int .i64 (kind : Int), .int .i64 (entries : Int), .int .i64 (words : Int), .pointer (some ⟨ab, 0, none⟩), .pointer (some ⟨tb, 0, none⟩), .pointer (some ⟨bo, 0, none⟩), .bool closed]) :: (HA' ++ (HT ++ (HO ++ H)))) := by
  refine L_enter (l := [.pointer (some ⟨mb, 0, none⟩), .agg (List.toArray (hdC h))]) Tryz.func19 rfl Tryz.ntmps19 rfl rfl ?_
  by_cases he : errA L h = 0
  · skip
    refine W_sr ?_
    refine W_box (l := [.pointer (some ⟨mb, 0, none⟩)]) rfl rfl rfl (fun b2 => ?_)
    refine W_box (l := hdC h) rfl rfl rfl (fun b3 => ?_)
    refine W_assign rfl rfl ?_
    refine W_nil ?_
    refine W_sr ?_
    refine W_load (v := .pointer (some ⟨mb, 0, none⟩)) rfl ty23 rfl (Cell.own (b := b2) zM rfl) rfl ?_
    refine W_loadB (vs := hdC h) rfl ty29 rfl (b := b3) zM rfl rfl rfl ?_
    refine W_makeFunc .nil (.cons rfl (.cons rfl .nil)) rfl ?_
    refine W_call (.cons rfl (.cons rfl (.cons rfl .nil))) Tryz.call48 rfl (with_yes (ca := [.pointer (some ⟨b2, 0, none⟩), .pointer (some ⟨b3, 0, none⟩)]) hA hB (HO := HO) (closed := closed) (kind := kind) (words := words) Tryz.call50 he (fun p hp => by repeat (first | exact mem3 p hp | apply List.mem_cons_of_mem)) (free1_L (c := celA L h) (h := h) hA hB used (H := H))) ?_
    rintro v' H' ⟨HA2, hA2, rfl, rfl⟩
    refine W_assign rfl rfl ?_
    refine W_nil ?_
    refine W_ret1m (H2 := (mb, .cells 78 7 [.int .i64 (kind : Int), .int .i64 (entries : Int), .int .i64 (words : Int), .pointer (some ⟨ab, 0, none⟩), .pointer (some ⟨tb, 0, none⟩), .pointer (some ⟨bo, 0, none⟩), .bool closed]) :: (HA2 ++ (HT ++ (HO ++ H)))) Tryz.results19 rfl (.nil _) zH ?_
    have hn : ¬ (errA L h ≠ 0) := fun h => h he
    by_cases hl : (Xm.linked (⟨kind, entries, words, closed, L, C, used⟩ : Xm) h) = true
    · have e : (Xm.free (⟨kind, entries, words, closed, L, C, used⟩ : Xm) h) = ((⟨kind, entries, words, closed, L, C, used⟩ : Xm), 21) := by unfold Xm.free; dsimp only; rw [if_neg hn, if_pos hl]
      rw [e]
      rw [if_pos hl] at hA2
      exact ⟨HA2, hA2, by rw [if_pos hl], rfl⟩
    · have e : (Xm.free (⟨kind, entries, words, closed, L, C, used⟩ : Xm) h) = ({ (⟨kind, entries, words, closed, L, C, used⟩ : Xm) with L := setA L h relS }, 0) := by unfold Xm.free; dsimp only; rw [if_neg hn, if_neg hl]
      rw [e]
      rw [if_neg hl] at hA2
      exact ⟨HA2, hA2, by rw [if_neg hl, he], rfl⟩
  · skip
    refine W_sr ?_
    refine W_box (l := [.pointer (some ⟨mb, 0, none⟩)]) rfl rfl rfl (fun b2 => ?_)
    refine W_box (l := hdC h) rfl rfl rfl (fun b3 => ?_)
    refine W_assign rfl rfl ?_
    refine W_nil ?_
    refine W_sr ?_
    refine W_load (v := .pointer (some ⟨mb, 0, none⟩)) rfl ty23 rfl (Cell.own (b := b2) zM rfl) rfl ?_
    refine W_loadB (vs := hdC h) rfl ty29 rfl (b := b3) zM rfl rfl rfl ?_
    refine W_makeFunc .nil (.cons rfl (.cons rfl .nil)) rfl ?_
    refine W_callq (.cons rfl (.cons rfl (.cons rfl .nil))) Tryz.call48 rfl (with_no (ca := [.pointer (some ⟨b2, 0, none⟩), .pointer (some ⟨b3, 0, none⟩)]) hA hB he (HO := HO) (closed := closed) (kind := kind) (words := words) (fun p hp => by repeat (first | exact mem3 p hp | apply List.mem_cons_of_mem))) ?_
    refine W_assign rfl rfl ?_
    refine W_nil ?_
    refine W_ret1m (H2 := (mb, .cells 78 7 [.int .i64 (kind : Int), .int .i64 (entries : Int), .int .i64 (words : Int), .pointer (some ⟨ab, 0, none⟩), .pointer (some ⟨tb, 0, none⟩), .pointer (some ⟨bo, 0, none⟩), .bool closed]) :: (HA ++ (HT ++ (HO ++ H)))) Tryz.results19 rfl (.nil _) zH ?_
    exact ⟨HA, by unfold Xm.free; rw [if_pos he]; exact hA, by unfold Xm.free; rw [if_pos he], rfl⟩
end Go.Proofs.YtphdlpmnidiliaaGreatDoor
