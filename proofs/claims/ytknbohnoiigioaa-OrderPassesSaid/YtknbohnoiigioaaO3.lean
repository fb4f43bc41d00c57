/-
  Own work: contracts of functions that the statement reaches, and plain facts on what they compute; each theorem says its conditions.
-/
import Derived.Test.YtknbohnoiigioaaO2
set_option linter.all false
set_option linter.unusedSimpArgs false
set_option linter.unusedVariables false
namespace Go.Proofs.Ytknbohnoiigioaa
open Go Go.Sl
attribute [local irreducible] W

structure TS (K : Type) where
  i : Nat
  m : List K
  last : Nat
  l : Ents K
  c : Nat
  τ : K → Nat
theorem touch_step {K : Type} [DecidableEq K] {m : List K} {room i : Nat} {ks : List K} {k : K} (hk : ks[i]? = some k) (hr : k ∈ m ∨ m.length < room) (hle : m.length ≤ room) : touchL m room (ks.drop i) = touchL (drop1 m k ++ [k]) room (ks.drop (i + 1)) := by
  have hlt := (List.getElem?_eq_some_iff.1 hk).1
  have e : ks.drop i = k :: ks.drop (i + 1) := by
    rw [List.drop_eq_getElem_cons hlt]
    congr 1
    exact (List.getElem?_eq_some_iff.1 hk).2
  have e2 : touch1 m room k = (drop1 m k ++ [k], 0) := if_neg (fun h => by rcases hr with hr | hr; exact h.1 hr; omega)
  rw [e]
  show (if (touch1 m room k).2 = 0 then _ else _) = _
  rw [e2]; rfl
theorem touch_full {K : Type} [DecidableEq K] {m : List K} {room i : Nat} {ks : List K} {k : K} (hk : ks[i]? = some k) (hn : k ∉ m) (hr : m.length = room) : touchL m room (ks.drop i) = (m, 3) := by
  have hlt := (List.getElem?_eq_some_iff.1 hk).1
  have e : ks.drop i = k :: ks.drop (i + 1) := by
    rw [List.drop_eq_getElem_cons hlt]
    congr 1
    exact (List.getElem?_eq_some_iff.1 hk).2
  have e2 : touch1 m room k = (m, 3) := if_pos ⟨hn, hr⟩
  rw [e]
  show (if (touch1 m room k).2 = 0 then _ else _) = _
  rw [e2]; rfl
set_option maxHeartbeats 1000000 in
theorem touchI_L {w0 : World} {H : Heap} {room last c bo bm : Nat} {m : List Int} {l : Ents Int} {τ : Int → Nat} (hO : OrdIs room m last l c τ) {ks : List Int} {ad : Option Addr} {cap : Nat} (hbig : last + ks.length ≤ 4611686018427387904) (hrow : Holds w0 H ad (ks.map (Value.int .i64)))  : LCalls Try.prog w0 10 #[.pointer (some ⟨bo, 0, none⟩), .slice ad ks.length cap] ((bo, .cells 57 3 [.int .i64 (room : Int), .int .i64 ((last : Nat) : Int), .map (some bm)]) :: (bm, .obj (mapO (Value.int .i64) l c)) :: H) (fun v H' => ∃ last' l' c' τ', v = .int .i64 (touchL m room ks).2 ∧ OrdIs room (touchL m room ks).1 last' l' c' τ' ∧ last' ≤ last + ks.length ∧ H' = (bo, .cells 57 3 [.int .i64 (room : Int), .int .i64 ((last' : Nat) : Int), .map (some bm)]) :: (bm, .obj (mapO (Value.int .i64) l' c')) :: H) := by
  refine L_enter (l := [.pointer (some ⟨bo, 0, none⟩), .slice ad ks.length cap]) Try.func10 rfl Try.ntmps10 rfl rfl ?_
  refine W_sr ?_
  refine W_assign rfl rfl ?_
  refine W_nil ?_
  refine W_seq ?_
  refine W_sr ?_
  refine W_move rfl rfl ?_
  refine W_x (X_ptrNil rfl rfl ty24) (fun _ h => by cases h) rfl ?_
  refine W_nil ?_
  refine W_condF rfl rfl ?_
  refine W_skip ?_
  refine W_seq ?_
  refine W_sr ?_
  refine W_move rfl rfl ?_
  refine W_len rfl ty22 rfl rfl ?_
  refine W_move rfl rfl ?_
  refine W_nil ?_
  refine W_block ?_
  refine W_loopC (X := (TS Int)) [(0, _), (9, _), (10, _)] (fun (x : (TS Int)) => [(11, .int .i64 (x.i : Int))]) (fun _ => _) (fun (x : (TS Int)) => (bo, .cells 57 3 [.int .i64 (room : Int), .int .i64 ((x.last : Nat) : Int), .map (some bm)]) :: (bm, .obj (mapO (Value.int .i64) x.l x.c)) :: H) (fun (x : (TS Int)) => x.i ≤ ks.length ∧ OrdIs room x.m x.last x.l x.c x.τ ∧ x.last ≤ last + x.i ∧ touchL m room ks = touchL x.m room (ks.drop x.i)) (fun (x : (TS Int)) => ks.length - x.i) ⟨0, m, last, l, c, τ⟩ ⟨Nat.zero_le _, hO, Nat.le_refl _, rfl⟩ (sub_cons rfl (sub_cons rfl (sub_cons rfl (sub_nil _)))) (sub_cons rfl (sub_nil _)) rfl (by repeat (first | with_reducible exact HSub.refl _ | refine HSub.cons (by repeat (first | exact Take.here _ | apply Take.next | apply Take.app)) ?_ | refine HSub.app (by repeat (first | with_reducible exact TakeS.here _ | apply TakeS.next | apply TakeS.app)) ?_ | exact HSub.nil _ | exact HSub.refl _ | refine HSub.drop ?_ | refine HSub.dropS ?_)) ?_
  rintro ⟨i, m1, last1, l1, c1, τ1⟩ ⟨hi, hO1, hl1, ht1⟩
  dsimp only at hi hO1 hl1 ht1 ⊢
  simp only [List.cons_append, List.nil_append]
  refine W_sr ?_
  refine W_bin rfl rfl b_lss rfl ?_
  refine W_nil ?_
  refine W_seq ?_
  refine W_condPS (p := (i : Int) < (ks.length : Int)) rfl (by simp) (fun q0 => ?_) (fun q0 => ?_)
  · skip
    refine W_skip ?_
    refine W_seq ?_
    refine W_block ?_
    refine W_sr ?_
    obtain ⟨k, hk⟩ : ∃ k, ks[i]? = some k := ⟨_, List.getElem?_eq_getElem (by omega)⟩
    obtain ⟨q0, p0, rfl, hck⟩ := hrow.at (i := i) (v := (Value.int .i64) k) (by rw [List.getElem?_map, hk]; rfl)
    refine W_indexAddr (j := i) rfl rfl ty22 ty3 rfl (by omega) rfl rfl ?_
    refine W_load (v := (Value.int .i64) k) rfl ty3 rfl (by rw [Nat.mul_one]; exact hck.up (by repeat (first | with_reducible exact HSub.refl _ | refine HSub.cons (by repeat (first | exact Take.here _ | apply Take.next | apply Take.app)) ?_ | refine HSub.app (by repeat (first | with_reducible exact TakeS.here _ | apply TakeS.next | apply TakeS.app)) ?_ | exact HSub.nil _ | exact HSub.refl _ | refine HSub.drop ?_ | refine HSub.dropS ?_))) rfl ?_
    refine W_assign rfl rfl ?_
    refine W_nil ?_
    refine W_seq ?_
    refine W_seq ?_
    rcases hin : inO m1 k with _ | _
    · skip
      refine W_quiet (by kernel_rfl) (by decide +kernel) ?_
      refine WQ_x (X_move rfl) rfl ?_
      refine WQ_x (X_move rfl) rfl ?_
      refine WQ_callq (.cons rfl (.cons rfl .nil)) Try.call24 rfl (hasI_q (bm := bm) hO1 (by repeat (first | exact List.mem_cons_self | apply List.mem_cons_of_mem | apply List.mem_append_right)) (by repeat (first | exact List.mem_cons_self | apply List.mem_cons_of_mem | apply List.mem_append_right)) k) ?_
      rw [hin]
      refine WQ_x (X_not rfl) rfl ?_
      refine WQ_x (X_move rfl) rfl ?_
      refine WQ_gyes rfl rfl ?_
      refine WQ_x (X_move rfl) rfl ?_
      refine WQ_gyes rfl rfl ?_
      refine WQ_x (X_nilCheck rfl) rfl ?_
      refine WQ_gyes rfl rfl ?_
      refine WQ_x (X_fieldAddr rfl fld57_2 (by decide)) rfl ?_
      refine WQ_gyes rfl rfl ?_
      refine WQ_x (X_load rfl ty55 rfl (Cell.own (b := bo) (by repeat (first | exact List.mem_cons_self | apply List.mem_cons_of_mem | apply List.mem_append_right)) rfl)) rfl ?_
      refine WQ_gyes rfl rfl ?_
      refine WQ_x (X_lenMap rfl ty55 (kf := (Value.int .i64)) (l := l1) (cl := c1) (b := bm) (by repeat (first | exact List.mem_cons_self | apply List.mem_cons_of_mem | apply List.mem_append_right))) rfl ?_
      rw [hO1.len]
      refine WQ_gyes rfl rfl ?_
      refine WQ_x (X_move rfl) rfl ?_
      refine WQ_gyes rfl rfl ?_
      refine WQ_x (X_nilCheck rfl) rfl ?_
      refine WQ_gyes rfl rfl ?_
      refine WQ_x (X_fieldAddr rfl fld57_0 (by decide)) rfl ?_
      refine WQ_gyes rfl rfl ?_
      refine WQ_x (X_load rfl ty3 rfl (Cell.own (b := bo) (by repeat (first | exact List.mem_cons_self | apply List.mem_cons_of_mem | apply List.mem_append_right)) rfl)) rfl ?_
      refine WQ_gyes rfl rfl ?_
      refine WQ_x (X_bin rfl rfl b_eql) rfl ?_
      first | refine WQ_x (X_pickt rfl rfl) rfl ?_ | refine WQ_x (X_pickf rfl rfl) rfl ?_
      refine WQ_nil ?_
      refine W_condPS (p := m1.length = room) rfl (by simp; omega) (fun q1 => ?_) (fun q1 => ?_)
      · skip
        refine W_sr ?_
        refine W_assign rfl rfl ?_
        refine W_nil ?_
        refine W_ret1m Try.results10 rfl (.nil _) (.refl _) ?_
        exact ⟨last1, l1, c1, τ1, by rw [ht1, touch_full hk (inO_not.1 hin) q1], by rw [ht1, touch_full hk (inO_not.1 hin) q1]; exact hO1, by omega, rfl⟩
      · skip
        refine W_skip ?_
        refine W_sr ?_
        have hroom : k ∈ m1 ∨ m1.length < room := by
          right
          have := hO1.le
          omega
        refine W_move rfl rfl ?_
        refine W_nilCheck rfl rfl ?_
        refine W_fieldAddr rfl fld57_1 (by decide) rfl ?_
        refine W_load rfl ty3 rfl (Cell.own (b := bo) (by repeat (first | exact List.mem_cons_self | apply List.mem_cons_of_mem | apply List.mem_append_right)) rfl) rfl ?_
        refine W_bin rfl rfl (b_add (m := ((last1 + 1 : Nat) : Int)) ((i64w (by omega)).trans (by omega))) rfl ?_
        refine W_nilCheck rfl rfl ?_
        refine W_fieldAddr rfl fld57_1 (by decide) rfl ?_
        refine W_store (l' := [.int .i64 (room : Int), .int .i64 ((last1 + 1 : Nat) : Int), .map (some bm)]) rfl rfl ty3 rfl rfl (b := bo) (by repeat (first | exact List.mem_cons_self | apply List.mem_cons_of_mem | apply List.mem_append_right)) rfl rfl (by repeat (first | exact Upd.head _ | apply Upd.tail | apply Upd.app)) ?_
        refine W_nil ?_
        refine W_anyC ((bo, .cells 57 3 [.int .i64 (room : Int), .int .i64 ((last1 + 1 : Nat) : Int), .map (some bm)]) :: H) (by kernel_rfl) ?_
        refine WC_take 0 (l' := #[true, false, false, false, false, false, false, false, false, false]) rfl (by decide +kernel) (by decide +kernel) (by decide +kernel) rfl (by decide +kernel) (X_move rfl) rfl ?_
        refine WC_take 1 (l' := #[true, true, false, false, false, false, false, false, false, false]) rfl (by decide +kernel) (by decide +kernel) (by decide +kernel) rfl (by decide +kernel) (X_nilCheck rfl) rfl ?_
        refine WC_take 2 (l' := #[true, true, true, false, false, false, false, false, false, false]) rfl (by decide +kernel) (by decide +kernel) (by decide +kernel) rfl (by decide +kernel) (X_fieldAddr rfl fld57_2 (by decide)) rfl ?_
        refine WC_take 3 (l' := #[true, true, true, true, false, false, false, false, false, false]) rfl (by decide +kernel) (by decide +kernel) (by decide +kernel) rfl (by decide +kernel) (X_load rfl ty55 rfl (Cell.own (b := bo) (by repeat (first | exact List.mem_cons_self | apply List.mem_cons_of_mem | apply List.mem_append_right)) rfl)) rfl ?_
        refine WC_take 4 (l' := #[true, true, true, true, true, false, false, false, false, false]) rfl (by decide +kernel) (by decide +kernel) (by decide +kernel) rfl (by decide +kernel) (X_move rfl) rfl ?_
        refine WC_take 5 (l' := #[true, true, true, true, true, true, false, false, false, false]) rfl (by decide +kernel) (by decide +kernel) (by decide +kernel) rfl (by decide +kernel) (X_move rfl) rfl ?_
        refine WC_take 6 (l' := #[true, true, true, true, true, true, true, false, false, false]) rfl (by decide +kernel) (by decide +kernel) (by decide +kernel) rfl (by decide +kernel) (X_nilCheck rfl) rfl ?_
        refine WC_take 7 (l' := #[true, true, true, true, true, true, true, true, false, false]) rfl (by decide +kernel) (by decide +kernel) (by decide +kernel) rfl (by decide +kernel) (X_fieldAddr rfl fld57_1 (by decide)) rfl ?_
        refine WC_take 8 (l' := #[true, true, true, true, true, true, true, true, true, false]) rfl (by decide +kernel) (by decide +kernel) (by decide +kernel) rfl (by decide +kernel) (X_load rfl ty3 rfl (Cell.own (b := bo) (by repeat (first | exact List.mem_cons_self | apply List.mem_cons_of_mem | apply List.mem_append_right)) rfl)) rfl ?_
        refine WC_one 9 (l' := #[true, true, true, true, true, true, true, true, true, true]) (by repeat (first | with_reducible exact HSub.refl _ | refine HSub.cons (by repeat (first | exact Take.here _ | apply Take.next | apply Take.app)) ?_ | refine HSub.app (by repeat (first | with_reducible exact TakeS.here _ | apply TakeS.next | apply TakeS.app)) ?_ | exact HSub.nil _ | exact HSub.refl _ | refine HSub.drop ?_ | refine HSub.dropS ?_)) (by decide +kernel) rfl (by decide +kernel) ?_
        refine W_mapUpdate (a := k) rfl rfl rfl keyI ty55 hO1.ok (by repeat (first | exact Upd.head _ | apply Upd.tail | apply Upd.app)) ?_
        refine W_nil ?_
        refine WC_goal ?_
        refine WC_done (by repeat (first | with_reducible exact HSub.refl _ | refine HSub.cons (by repeat (first | exact Take.here _ | apply Take.next | apply Take.app)) ?_ | refine HSub.app (by repeat (first | with_reducible exact TakeS.here _ | apply TakeS.next | apply TakeS.app)) ?_ | exact HSub.nil _ | exact HSub.refl _ | refine HSub.drop ?_ | refine HSub.dropS ?_)) (by decide +kernel) ?_
        refine W_blk ?_
        refine W_region ?_
        refine W_bin rfl rfl (b_add (m := ((i + 1 : Nat) : Int)) ((i64w (by omega)).trans (by omega))) rfl ?_
        refine W_move rfl rfl ?_
        refine W_nil ?_
        refine W_again ⟨i + 1, drop1 m1 k ++ [k], last1 + 1, mPut l1 c1 k (.int .i64 ((last1 + 1 : Nat) : Int)), mClk l1 c1 k, fun x => if x = k then last1 + 1 else τ1 x⟩ ⟨by show i + 1 ≤ ks.length; omega, hO1.put k hroom, by show last1 + 1 ≤ last + (i + 1); omega, ht1.trans (touch_step hk hroom hO1.le)⟩ (by show ks.length - (i + 1) < ks.length - i; omega) (sub_cons rfl (sub_cons rfl (sub_cons rfl (sub_cons rfl (sub_nil _))))) rfl (by repeat (first | with_reducible exact HSub.refl _ | refine HSub.cons (by repeat (first | exact Take.here _ | apply Take.next | apply Take.app)) ?_ | refine HSub.app (by repeat (first | with_reducible exact TakeS.here _ | apply TakeS.next | apply TakeS.app)) ?_ | exact HSub.nil _ | exact HSub.refl _ | refine HSub.drop ?_ | refine HSub.dropS ?_))
    · skip
      refine W_quiet (by kernel_rfl) (by decide +kernel) ?_
      refine WQ_x (X_move rfl) rfl ?_
      refine WQ_x (X_move rfl) rfl ?_
      refine WQ_callq (.cons rfl (.cons rfl .nil)) Try.call24 rfl (hasI_q (bm := bm) hO1 (by repeat (first | exact List.mem_cons_self | apply List.mem_cons_of_mem | apply List.mem_append_right)) (by repeat (first | exact List.mem_cons_self | apply List.mem_cons_of_mem | apply List.mem_append_right)) k) ?_
      rw [hin]
      refine WQ_x (X_not rfl) rfl ?_
      refine WQ_x (X_move rfl) rfl ?_
      refine WQ_gno rfl rfl rfl rfl ?_
      refine WQ_gno rfl rfl rfl rfl ?_
      refine WQ_gno rfl rfl rfl rfl ?_
      refine WQ_gno rfl rfl rfl rfl ?_
      refine WQ_gno rfl rfl rfl rfl ?_
      refine WQ_gno rfl rfl rfl rfl ?_
      refine WQ_gno rfl rfl rfl rfl ?_
      refine WQ_gno rfl rfl rfl rfl ?_
      refine WQ_gno rfl rfl rfl rfl ?_
      refine WQ_gno rfl rfl rfl rfl ?_
      first | refine WQ_x (X_pickt rfl rfl) rfl ?_ | refine WQ_x (X_pickf rfl rfl) rfl ?_
      refine WQ_nil ?_
      refine W_condF rfl rfl ?_
      refine W_skip ?_
      refine W_sr ?_
      have hroom : k ∈ m1 ∨ m1.length < room := .inl (inO_iff.1 hin)
      refine W_move rfl rfl ?_
      refine W_nilCheck rfl rfl ?_
      refine W_fieldAddr rfl fld57_1 (by decide) rfl ?_
      refine W_load rfl ty3 rfl (Cell.own (b := bo) (by repeat (first | exact List.mem_cons_self | apply List.mem_cons_of_mem | apply List.mem_append_right)) rfl) rfl ?_
      refine W_bin rfl rfl (b_add (m := ((last1 + 1 : Nat) : Int)) ((i64w (by omega)).trans (by omega))) rfl ?_
      refine W_nilCheck rfl rfl ?_
      refine W_fieldAddr rfl fld57_1 (by decide) rfl ?_
      refine W_store (l' := [.int .i64 (room : Int), .int .i64 ((last1 + 1 : Nat) : Int), .map (some bm)]) rfl rfl ty3 rfl rfl (b := bo) (by repeat (first | exact List.mem_cons_self | apply List.mem_cons_of_mem | apply List.mem_append_right)) rfl rfl (by repeat (first | exact Upd.head _ | apply Upd.tail | apply Upd.app)) ?_
      refine W_nil ?_
      refine W_anyC ((bo, .cells 57 3 [.int .i64 (room : Int), .int .i64 ((last1 + 1 : Nat) : Int), .map (some bm)]) :: H) (by kernel_rfl) ?_
      refine WC_take 0 (l' := #[true, false, false, false, false, false, false, false, false, false]) rfl (by decide +kernel) (by decide +kernel) (by decide +kernel) rfl (by decide +kernel) (X_move rfl) rfl ?_
      refine WC_take 1 (l' := #[true, true, false, false, false, false, false, false, false, false]) rfl (by decide +kernel) (by decide +kernel) (by decide +kernel) rfl (by decide +kernel) (X_nilCheck rfl) rfl ?_
      refine WC_take 2 (l' := #[true, true, true, false, false, false, false, false, false, false]) rfl (by decide +kernel) (by decide +kernel) (by decide +kernel) rfl (by decide +kernel) (X_fieldAddr rfl fld57_2 (by decide)) rfl ?_
      refine WC_take 3 (l' := #[true, true, true, true, false, false, false, false, false, false]) rfl (by decide +kernel) (by decide +kernel) (by decide +kernel) rfl (by decide +kernel) (X_load rfl ty55 rfl (Cell.own (b := bo) (by repeat (first | exact List.mem_cons_self | apply List.mem_cons_of_mem | apply List.mem_append_right)) rfl)) rfl ?_
      refine WC_take 4 (l' := #[true, true, true, true, true, false, false, false, false, false]) rfl (by decide +kernel) (by decide +kernel) (by decide +kernel) rfl (by decide +kernel) (X_move rfl) rfl ?_
      refine WC_take 5 (l' := #[true, true, true, true, true, true, false, false, false, false]) rfl (by decide +kernel) (by decide +kernel) (by decide +kernel) rfl (by decide +kernel) (X_move rfl) rfl ?_
      refine WC_take 6 (l' := #[true, true, true, true, true, true, true, false, false, false]) rfl (by decide +kernel) (by decide +kernel) (by decide +kernel) rfl (by decide +kernel) (X_nilCheck rfl) rfl ?_
      refine WC_take 7 (l' := #[true, true, true, true, true, true, true, true, false, false]) rfl (by decide +kernel) (by decide +kernel) (by decide +kernel) rfl (by decide +kernel) (X_fieldAddr rfl fld57_1 (by decide)) rfl ?_
      refine WC_take 8 (l' := #[true, true, true, true, true, true, true, true, true, false]) rfl (by decide +kernel) (by decide +kernel) (by decide +kernel) rfl (by decide +kernel) (X_load rfl ty3 rfl (Cell.own (b := bo) (by repeat (first | exact List.mem_cons_self | apply List.mem_cons_of_mem | apply List.mem_append_right)) rfl)) rfl ?_
      refine WC_one 9 (l' := #[true, true, true, true, true, true, true, true, true, true]) (by repeat (first | with_reducible exact HSub.refl _ | refine HSub.cons (by repeat (first | exact Take.here _ | apply Take.next | apply Take.app)) ?_ | refine HSub.app (by repeat (first | with_reducible exact TakeS.here _ | apply TakeS.next | apply TakeS.app)) ?_ | exact HSub.nil _ | exact HSub.refl _ | refine HSub.drop ?_ | refine HSub.dropS ?_)) (by decide +kernel) rfl (by decide +kernel) ?_
      refine W_mapUpdate (a := k) rfl rfl rfl keyI ty55 hO1.ok (by repeat (first | exact Upd.head _ | apply Upd.tail | apply Upd.app)) ?_
      refine W_nil ?_
      refine WC_goal ?_
      refine WC_done (by repeat (first | with_reducible exact HSub.refl _ | refine HSub.cons (by repeat (first | exact Take.here _ | apply Take.next | apply Take.app)) ?_ | refine HSub.app (by repeat (first | with_reducible exact TakeS.here _ | apply TakeS.next | apply TakeS.app)) ?_ | exact HSub.nil _ | exact HSub.refl _ | refine HSub.drop ?_ | refine HSub.dropS ?_)) (by decide +kernel) ?_
      refine W_blk ?_
      refine W_region ?_
      refine W_bin rfl rfl (b_add (m := ((i + 1 : Nat) : Int)) ((i64w (by omega)).trans (by omega))) rfl ?_
      refine W_move rfl rfl ?_
      refine W_nil ?_
      refine W_again ⟨i + 1, drop1 m1 k ++ [k], last1 + 1, mPut l1 c1 k (.int .i64 ((last1 + 1 : Nat) : Int)), mClk l1 c1 k, fun x => if x = k then last1 + 1 else τ1 x⟩ ⟨by show i + 1 ≤ ks.length; omega, hO1.put k hroom, by show last1 + 1 ≤ last + (i + 1); omega, ht1.trans (touch_step hk hroom hO1.le)⟩ (by show ks.length - (i + 1) < ks.length - i; omega) (sub_cons rfl (sub_cons rfl (sub_cons rfl (sub_cons rfl (sub_nil _))))) rfl (by repeat (first | with_reducible exact HSub.refl _ | refine HSub.cons (by repeat (first | exact Take.here _ | apply Take.next | apply Take.app)) ?_ | refine HSub.app (by repeat (first | with_reducible exact TakeS.here _ | apply TakeS.next | apply TakeS.app)) ?_ | exact HSub.nil _ | exact HSub.refl _ | refine HSub.drop ?_ | refine HSub.dropS ?_))
  · skip
    refine W_exit rfl ?_
    refine W_sr ?_
    refine W_assign rfl rfl ?_
    refine W_nil ?_
    refine W_ret1m Try.results10 rfl (.nil _) (.refl _) ?_
    obtain rfl : i = ks.length := by omega
    rw [List.drop_length] at ht1
    exact ⟨last1, l1, c1, τ1, by rw [ht1]; rfl, by rw [ht1]; exact hO1, by omega, rfl⟩
set_option maxHeartbeats 1000000 in
theorem touchI_nil (ad : Option Addr) (n cap : Nat) : Pure Try.prog (fun _ => True) 10 [.pointer none, .slice ad n cap] (.int .i64 6) := by
  intro w0 H hT
  refine L_enter Try.func10 rfl Try.ntmps10 rfl rfl ?_
  refine W_sr ?_
  refine W_assign rfl rfl ?_
  refine W_nil ?_
  refine W_seq ?_
  refine W_sr ?_
  refine W_move rfl rfl ?_
  refine W_x (X_ptrNil rfl rfl ty24) (fun _ h => by cases h) rfl ?_
  refine W_nil ?_
  refine W_condT rfl rfl ?_
  refine W_sr ?_
  refine W_assign rfl rfl ?_
  refine W_nil ?_
  refine W_ret1m (H2 := H) Try.results10 rfl (.nil _) (by repeat (first | with_reducible exact HSub.refl _ | refine HSub.cons (by repeat (first | exact Take.here _ | apply Take.next | apply Take.app)) ?_ | refine HSub.app (by repeat (first | with_reducible exact TakeS.here _ | apply TakeS.next | apply TakeS.app)) ?_ | exact HSub.nil _ | exact HSub.refl _ | refine HSub.drop ?_ | refine HSub.dropS ?_)) ?_
  exact ⟨rfl, rfl⟩
set_option maxHeartbeats 1000000 in
theorem touchS_L {w0 : World} {H : Heap} {room last c bo bm : Nat} {m : List ByteArray} {l : Ents ByteArray} {τ : ByteArray → Nat} (hO : OrdIs room m last l c τ) {ks : List ByteArray} {ad : Option Addr} {cap : Nat} (hbig : last + ks.length ≤ 4611686018427387904) (hrow : Holds w0 H ad (ks.map Value.string))  : LCalls Try.prog w0 14 #[.pointer (some ⟨bo, 0, none⟩), .slice ad ks.length cap] ((bo, .cells 63 3 [.int .i64 (room : Int), .int .i64 ((last : Nat) : Int), .map (some bm)]) :: (bm, .obj (mapO Value.string l c)) :: H) (fun v H' => ∃ last' l' c' τ', v = .int .i64 (touchL m room ks).2 ∧ OrdIs room (touchL m room ks).1 last' l' c' τ' ∧ last' ≤ last + ks.length ∧ H' = (bo, .cells 63 3 [.int .i64 (room : Int), .int .i64 ((last' : Nat) : Int), .map (some bm)]) :: (bm, .obj (mapO Value.string l' c')) :: H) := by
  refine L_enter (l := [.pointer (some ⟨bo, 0, none⟩), .slice ad ks.length cap]) Try.func14 rfl Try.ntmps14 rfl rfl ?_
  refine W_sr ?_
  refine W_assign rfl rfl ?_
  refine W_nil ?_
  refine W_seq ?_
  refine W_sr ?_
  refine W_move rfl rfl ?_
  refine W_x (X_ptrNil rfl rfl ty37) (fun _ h => by cases h) rfl ?_
  refine W_nil ?_
  refine W_condF rfl rfl ?_
  refine W_skip ?_
  refine W_seq ?_
  refine W_sr ?_
  refine W_move rfl rfl ?_
  refine W_len rfl ty35 rfl rfl ?_
  refine W_move rfl rfl ?_
  refine W_nil ?_
  refine W_block ?_
  refine W_loopC (X := (TS ByteArray)) [(0, _), (9, _), (10, _)] (fun (x : (TS ByteArray)) => [(11, .int .i64 (x.i : Int))]) (fun _ => _) (fun (x : (TS ByteArray)) => (bo, .cells 63 3 [.int .i64 (room : Int), .int .i64 ((x.last : Nat) : Int), .map (some bm)]) :: (bm, .obj (mapO Value.string x.l x.c)) :: H) (fun (x : (TS ByteArray)) => x.i ≤ ks.length ∧ OrdIs room x.m x.last x.l x.c x.τ ∧ x.last ≤ last + x.i ∧ touchL m room ks = touchL x.m room (ks.drop x.i)) (fun (x : (TS ByteArray)) => ks.length - x.i) ⟨0, m, last, l, c, τ⟩ ⟨Nat.zero_le _, hO, Nat.le_refl _, rfl⟩ (sub_cons rfl (sub_cons rfl (sub_cons rfl (sub_nil _)))) (sub_cons rfl (sub_nil _)) rfl (by repeat (first | with_reducible exact HSub.refl _ | refine HSub.cons (by repeat (first | exact Take.here _ | apply Take.next | apply Take.app)) ?_ | refine HSub.app (by repeat (first | with_reducible exact TakeS.here _ | apply TakeS.next | apply TakeS.app)) ?_ | exact HSub.nil _ | exact HSub.refl _ | refine HSub.drop ?_ | refine HSub.dropS ?_)) ?_
  rintro ⟨i, m1, last1, l1, c1, τ1⟩ ⟨hi, hO1, hl1, ht1⟩
  dsimp only at hi hO1 hl1 ht1 ⊢
  simp only [List.cons_append, List.nil_append]
  refine W_sr ?_
  refine W_bin rfl rfl b_lss rfl ?_
  refine W_nil ?_
  refine W_seq ?_
  refine W_condPS (p := (i : Int) < (ks.length : Int)) rfl (by simp) (fun q0 => ?_) (fun q0 => ?_)
  · skip
    refine W_skip ?_
    refine W_seq ?_
    refine W_block ?_
    refine W_sr ?_
    obtain ⟨k, hk⟩ : ∃ k, ks[i]? = some k := ⟨_, List.getElem?_eq_getElem (by omega)⟩
    obtain ⟨q0, p0, rfl, hck⟩ := hrow.at (i := i) (v := Value.string k) (by rw [List.getElem?_map, hk]; rfl)
    refine W_indexAddr (j := i) rfl rfl ty35 ty9 rfl (by omega) rfl rfl ?_
    refine W_load (v := Value.string k) rfl ty9 rfl (by rw [Nat.mul_one]; exact hck.up (by repeat (first | with_reducible exact HSub.refl _ | refine HSub.cons (by repeat (first | exact Take.here _ | apply Take.next | apply Take.app)) ?_ | refine HSub.app (by repeat (first | with_reducible exact TakeS.here _ | apply TakeS.next | apply TakeS.app)) ?_ | exact HSub.nil _ | exact HSub.refl _ | refine HSub.drop ?_ | refine HSub.dropS ?_))) rfl ?_
    refine W_assign rfl rfl ?_
    refine W_nil ?_
    refine W_seq ?_
    refine W_seq ?_
    rcases hin : inO m1 k with _ | _
    · skip
      refine W_quiet (by kernel_rfl) (by decide +kernel) ?_
      refine WQ_x (X_move rfl) rfl ?_
      refine WQ_x (X_move rfl) rfl ?_
      refine WQ_callq (.cons rfl (.cons rfl .nil)) Try.call17 rfl (hasS_q (bm := bm) hO1 (by repeat (first | exact List.mem_cons_self | apply List.mem_cons_of_mem | apply List.mem_append_right)) (by repeat (first | exact List.mem_cons_self | apply List.mem_cons_of_mem | apply List.mem_append_right)) k) ?_
      rw [hin]
      refine WQ_x (X_not rfl) rfl ?_
      refine WQ_x (X_move rfl) rfl ?_
      refine WQ_gyes rfl rfl ?_
      refine WQ_x (X_move rfl) rfl ?_
      refine WQ_gyes rfl rfl ?_
      refine WQ_x (X_nilCheck rfl) rfl ?_
      refine WQ_gyes rfl rfl ?_
      refine WQ_x (X_fieldAddr rfl fld63_2 (by decide)) rfl ?_
      refine WQ_gyes rfl rfl ?_
      refine WQ_x (X_load rfl ty61 rfl (Cell.own (b := bo) (by repeat (first | exact List.mem_cons_self | apply List.mem_cons_of_mem | apply List.mem_append_right)) rfl)) rfl ?_
      refine WQ_gyes rfl rfl ?_
      refine WQ_x (X_lenMap rfl ty61 (kf := Value.string) (l := l1) (cl := c1) (b := bm) (by repeat (first | exact List.mem_cons_self | apply List.mem_cons_of_mem | apply List.mem_append_right))) rfl ?_
      rw [hO1.len]
      refine WQ_gyes rfl rfl ?_
      refine WQ_x (X_move rfl) rfl ?_
      refine WQ_gyes rfl rfl ?_
      refine WQ_x (X_nilCheck rfl) rfl ?_
      refine WQ_gyes rfl rfl ?_
      refine WQ_x (X_fieldAddr rfl fld63_0 (by decide)) rfl ?_
      refine WQ_gyes rfl rfl ?_
      refine WQ_x (X_load rfl ty3 rfl (Cell.own (b := bo) (by repeat (first | exact List.mem_cons_self | apply List.mem_cons_of_mem | apply List.mem_append_right)) rfl)) rfl ?_
      refine WQ_gyes rfl rfl ?_
      refine WQ_x (X_bin rfl rfl b_eql) rfl ?_
      first | refine WQ_x (X_pickt rfl rfl) rfl ?_ | refine WQ_x (X_pickf rfl rfl) rfl ?_
      refine WQ_nil ?_
      refine W_condPS (p := m1.length = room) rfl (by simp; omega) (fun q1 => ?_) (fun q1 => ?_)
      · skip
        refine W_sr ?_
        refine W_assign rfl rfl ?_
        refine W_nil ?_
        refine W_ret1m Try.results14 rfl (.nil _) (.refl _) ?_
        exact ⟨last1, l1, c1, τ1, by rw [ht1, touch_full hk (inO_not.1 hin) q1], by rw [ht1, touch_full hk (inO_not.1 hin) q1]; exact hO1, by omega, rfl⟩
      · skip
        refine W_skip ?_
        refine W_sr ?_
        have hroom : k ∈ m1 ∨ m1.length < room := by
          right
          have := hO1.le
          omega
        refine W_move rfl rfl ?_
        refine W_nilCheck rfl rfl ?_
        refine W_fieldAddr rfl fld63_1 (by decide) rfl ?_
        refine W_load rfl ty3 rfl (Cell.own (b := bo) (by repeat (first | exact List.mem_cons_self | apply List.mem_cons_of_mem | apply List.mem_append_right)) rfl) rfl ?_
        refine W_bin rfl rfl (b_add (m := ((last1 + 1 : Nat) : Int)) ((i64w (by omega)).trans (by omega))) rfl ?_
        refine W_nilCheck rfl rfl ?_
        refine W_fieldAddr rfl fld63_1 (by decide) rfl ?_
        refine W_store (l' := [.int .i64 (room : Int), .int .i64 ((last1 + 1 : Nat) : Int), .map (some bm)]) rfl rfl ty3 rfl rfl (b := bo) (by repeat (first | exact List.mem_cons_self | apply List.mem_cons_of_mem | apply List.mem_append_right)) rfl rfl (by repeat (first | exact Upd.head _ | apply Upd.tail | apply Upd.app)) ?_
        refine W_nil ?_
        refine W_anyC ((bo, .cells 63 3 [.int .i64 (room : Int), .int .i64 ((last1 + 1 : Nat) : Int), .map (some bm)]) :: H) (by kernel_rfl) ?_
        refine WC_take 0 (l' := #[true, false, false, false, false, false, false, false, false, false]) rfl (by decide +kernel) (by decide +kernel) (by decide +kernel) rfl (by decide +kernel) (X_move rfl) rfl ?_
        refine WC_take 1 (l' := #[true, true, false, false, false, false, false, false, false, false]) rfl (by decide +kernel) (by decide +kernel) (by decide +kernel) rfl (by decide +kernel) (X_nilCheck rfl) rfl ?_
        refine WC_take 2 (l' := #[true, true, true, false, false, false, false, false, false, false]) rfl (by decide +kernel) (by decide +kernel) (by decide +kernel) rfl (by decide +kernel) (X_fieldAddr rfl fld63_2 (by decide)) rfl ?_
        refine WC_take 3 (l' := #[true, true, true, true, false, false, false, false, false, false]) rfl (by decide +kernel) (by decide +kernel) (by decide +kernel) rfl (by decide +kernel) (X_load rfl ty61 rfl (Cell.own (b := bo) (by repeat (first | exact List.mem_cons_self | apply List.mem_cons_of_mem | apply List.mem_append_right)) rfl)) rfl ?_
        refine WC_take 4 (l' := #[true, true, true, true, true, false, false, false, false, false]) rfl (by decide +kernel) (by decide +kernel) (by decide +kernel) rfl (by decide +kernel) (X_move rfl) rfl ?_
        refine WC_take 5 (l' := #[true, true, true, true, true, true, false, false, false, false]) rfl (by decide +kernel) (by decide +kernel) (by decide +kernel) rfl (by decide +kernel) (X_move rfl) rfl ?_
        refine WC_take 6 (l' := #[true, true, true, true, true, true, true, false, false, false]) rfl (by decide +kernel) (by decide +kernel) (by decide +kernel) rfl (by decide +kernel) (X_nilCheck rfl) rfl ?_
        refine WC_take 7 (l' := #[true, true, true, true, true, true, true, true, false, false]) rfl (by decide +kernel) (by decide +kernel) (by decide +kernel) rfl (by decide +kernel) (X_fieldAddr rfl fld63_1 (by decide)) rfl ?_
        refine WC_take 8 (l' := #[true, true, true, true, true, true, true, true, true, false]) rfl (by decide +kernel) (by decide +kernel) (by decide +kernel) rfl (by decide +kernel) (X_load rfl ty3 rfl (Cell.own (b := bo) (by repeat (first | exact List.mem_cons_self | apply List.mem_cons_of_mem | apply List.mem_append_right)) rfl)) rfl ?_
        refine WC_one 9 (l' := #[true, true, true, true, true, true, true, true, true, true]) (by repeat (first | with_reducible exact HSub.refl _ | refine HSub.cons (by repeat (first | exact Take.here _ | apply Take.next | apply Take.app)) ?_ | refine HSub.app (by repeat (first | with_reducible exact TakeS.here _ | apply TakeS.next | apply TakeS.app)) ?_ | exact HSub.nil _ | exact HSub.refl _ | refine HSub.drop ?_ | refine HSub.dropS ?_)) (by decide +kernel) rfl (by decide +kernel) ?_
        refine W_mapUpdate (a := k) rfl rfl rfl keyS ty61 hO1.ok (by repeat (first | exact Upd.head _ | apply Upd.tail | apply Upd.app)) ?_
        refine W_nil ?_
        refine WC_goal ?_
        refine WC_done (by repeat (first | with_reducible exact HSub.refl _ | refine HSub.cons (by repeat (first | exact Take.here _ | apply Take.next | apply Take.app)) ?_ | refine HSub.app (by repeat (first | with_reducible exact TakeS.here _ | apply TakeS.next | apply TakeS.app)) ?_ | exact HSub.nil _ | exact HSub.refl _ | refine HSub.drop ?_ | refine HSub.dropS ?_)) (by decide +kernel) ?_
        refine W_blk ?_
        refine W_region ?_
        refine W_bin rfl rfl (b_add (m := ((i + 1 : Nat) : Int)) ((i64w (by omega)).trans (by omega))) rfl ?_
        refine W_move rfl rfl ?_
        refine W_nil ?_
        refine W_again ⟨i + 1, drop1 m1 k ++ [k], last1 + 1, mPut l1 c1 k (.int .i64 ((last1 + 1 : Nat) : Int)), mClk l1 c1 k, fun x => if x = k then last1 + 1 else τ1 x⟩ ⟨by show i + 1 ≤ ks.length; omega, hO1.put k hroom, by show last1 + 1 ≤ last + (i + 1); omega, ht1.trans (touch_step hk hroom hO1.le)⟩ (by show ks.length - (i + 1) < ks.length - i; omega) (sub_cons rfl (sub_cons rfl (sub_cons rfl (sub_cons rfl (sub_nil _))))) rfl (by repeat (first | with_reducible exact HSub.refl _ | refine HSub.cons (by repeat (first | exact Take.here _ | apply Take.next | apply Take.app)) ?_ | refine HSub.app (by repeat (first | with_reducible exact TakeS.here _ | apply TakeS.next | apply TakeS.app)) ?_ | exact HSub.nil _ | exact HSub.refl _ | refine HSub.drop ?_ | refine HSub.dropS ?_))
    · skip
      refine W_quiet (by kernel_rfl) (by decide +kernel) ?_
      refine WQ_x (X_move rfl) rfl ?_
      refine WQ_x (X_move rfl) rfl ?_
      refine WQ_callq (.cons rfl (.cons rfl .nil)) Try.call17 rfl (hasS_q (bm := bm) hO1 (by repeat (first | exact List.mem_cons_self | apply List.mem_cons_of_mem | apply List.mem_append_right)) (by repeat (first | exact List.mem_cons_self | apply List.mem_cons_of_mem | apply List.mem_append_right)) k) ?_
      rw [hin]
      refine WQ_x (X_not rfl) rfl ?_
      refine WQ_x (X_move rfl) rfl ?_
      refine WQ_gno rfl rfl rfl rfl ?_
      refine WQ_gno rfl rfl rfl rfl ?_
      refine WQ_gno rfl rfl rfl rfl ?_
      refine WQ_gno rfl rfl rfl rfl ?_
      refine WQ_gno rfl rfl rfl rfl ?_
      refine WQ_gno rfl rfl rfl rfl ?_
      refine WQ_gno rfl rfl rfl rfl ?_
      refine WQ_gno rfl rfl rfl rfl ?_
      refine WQ_gno rfl rfl rfl rfl ?_
      refine WQ_gno rfl rfl rfl rfl ?_
      first | refine WQ_x (X_pickt rfl rfl) rfl ?_ | refine WQ_x (X_pickf rfl rfl) rfl ?_
      refine WQ_nil ?_
      refine W_condF rfl rfl ?_
      refine W_skip ?_
      refine W_sr ?_
      have hroom : k ∈ m1 ∨ m1.length < room := .inl (inO_iff.1 hin)
      refine W_move rfl rfl ?_
      refine W_nilCheck rfl rfl ?_
      refine W_fieldAddr rfl fld63_1 (by decide) rfl ?_
      refine W_load rfl ty3 rfl (Cell.own (b := bo) (by repeat (first | exact List.mem_cons_self | apply List.mem_cons_of_mem | apply List.mem_append_right)) rfl) rfl ?_
      refine W_bin rfl rfl (b_add (m := ((last1 + 1 : Nat) : Int)) ((i64w (by omega)).trans (by omega))) rfl ?_
      refine W_nilCheck rfl rfl ?_
      refine W_fieldAddr rfl fld63_1 (by decide) rfl ?_
      refine W_store (l' := [.int .i64 (room : Int), .int .i64 ((last1 + 1 : Nat) : Int), .map (some bm)]) rfl rfl ty3 rfl rfl (b := bo) (by repeat (first | exact List.mem_cons_self | apply List.mem_cons_of_mem | apply List.mem_append_right)) rfl rfl (by repeat (first | exact Upd.head _ | apply Upd.tail | apply Upd.app)) ?_
      refine W_nil ?_
      refine W_anyC ((bo, .cells 63 3 [.int .i64 (room : Int), .int .i64 ((last1 + 1 : Nat) : Int), .map (some bm)]) :: H) (by kernel_rfl) ?_
      refine WC_take 0 (l' := #[true, false, false, false, false, false, false, false, false, false]) rfl (by decide +kernel) (by decide +kernel) (by decide +kernel) rfl (by decide +kernel) (X_move rfl) rfl ?_
      refine WC_take 1 (l' := #[true, true, false, false, false, false, false, false, false, false]) rfl (by decide +kernel) (by decide +kernel) (by decide +kernel) rfl (by decide +kernel) (X_nilCheck rfl) rfl ?_
      refine WC_take 2 (l' := #[true, true, true, false, false, false, false, false, false, false]) rfl (by decide +kernel) (by decide +kernel) (by decide +kernel) rfl (by decide +kernel) (X_fieldAddr rfl fld63_2 (by decide)) rfl ?_
      refine WC_take 3 (l' := #[true, true, true, true, false, false, false, false, false, false]) rfl (by decide +kernel) (by decide +kernel) (by decide +kernel) rfl (by decide +kernel) (X_load rfl ty61 rfl (Cell.own (b := bo) (by repeat (first | exact List.mem_cons_self | apply List.mem_cons_of_mem | apply List.mem_append_right)) rfl)) rfl ?_
      refine WC_take 4 (l' := #[true, true, true, true, true, false, false, false, false, false]) rfl (by decide +kernel) (by decide +kernel) (by decide +kernel) rfl (by decide +kernel) (X_move rfl) rfl ?_
      refine WC_take 5 (l' := #[true, true, true, true, true, true, false, false, false, false]) rfl (by decide +kernel) (by decide +kernel) (by decide +kernel) rfl (by decide +kernel) (X_move rfl) rfl ?_
      refine WC_take 6 (l' := #[true, true, true, true, true, true, true, false, false, false]) rfl (by decide +kernel) (by decide +kernel) (by decide +kernel) rfl (by decide +kernel) (X_nilCheck rfl) rfl ?_
      refine WC_take 7 (l' := #[true, true, true, true, true, true, true, true, false, false]) rfl (by decide +kernel) (by decide +kernel) (by decide +kernel) rfl (by decide +kernel) (X_fieldAddr rfl fld63_1 (by decide)) rfl ?_
      refine WC_take 8 (l' := #[true, true, true, true, true, true, true, true, true, false]) rfl (by decide +kernel) (by decide +kernel) (by decide +kernel) rfl (by decide +kernel) (X_load rfl ty3 rfl (Cell.own (b := bo) (by repeat (first | exact List.mem_cons_self | apply List.mem_cons_of_mem | apply List.mem_append_right)) rfl)) rfl ?_
      refine WC_one 9 (l' := #[true, true, true, true, true, true, true, true, true, true]) (by repeat (first | with_reducible exact HSub.refl _ | refine HSub.cons (by repeat (first | exact Take.here _ | apply Take.next | apply Take.app)) ?_ | refine HSub.app (by repeat (first | with_reducible exact TakeS.here _ | apply TakeS.next | apply TakeS.app)) ?_ | exact HSub.nil _ | exact HSub.refl _ | refine HSub.drop ?_ | refine HSub.dropS ?_)) (by decide +kernel) rfl (by decide +kernel) ?_
      refine W_mapUpdate (a := k) rfl rfl rfl keyS ty61 hO1.ok (by repeat (first | exact Upd.head _ | apply Upd.tail | apply Upd.app)) ?_
      refine W_nil ?_
      refine WC_goal ?_
      refine WC_done (by repeat (first | with_reducible exact HSub.refl _ | refine HSub.cons (by repeat (first | exact Take.here _ | apply Take.next | apply Take.app)) ?_ | refine HSub.app (by repeat (first | with_reducible exact TakeS.here _ | apply TakeS.next | apply TakeS.app)) ?_ | exact HSub.nil _ | exact HSub.refl _ | refine HSub.drop ?_ | refine HSub.dropS ?_)) (by decide +kernel) ?_
      refine W_blk ?_
      refine W_region ?_
      refine W_bin rfl rfl (b_add (m := ((i + 1 : Nat) : Int)) ((i64w (by omega)).trans (by omega))) rfl ?_
      refine W_move rfl rfl ?_
      refine W_nil ?_
      refine W_again ⟨i + 1, drop1 m1 k ++ [k], last1 + 1, mPut l1 c1 k (.int .i64 ((last1 + 1 : Nat) : Int)), mClk l1 c1 k, fun x => if x = k then last1 + 1 else τ1 x⟩ ⟨by show i + 1 ≤ ks.length; omega, hO1.put k hroom, by show last1 + 1 ≤ last + (i + 1); omega, ht1.trans (touch_step hk hroom hO1.le)⟩ (by show ks.length - (i + 1) < ks.length - i; omega) (sub_cons rfl (sub_cons rfl (sub_cons rfl (sub_cons rfl (sub_nil _))))) rfl (by repeat (first | with_reducible exact HSub.refl _ | refine HSub.cons (by repeat (first | exact Take.here _ | apply Take.next | apply Take.app)) ?_ | refine HSub.app (by repeat (first | with_reducible exact TakeS.here _ | apply TakeS.next | apply TakeS.app)) ?_ | exact HSub.nil _ | exact HSub.refl _ | refine HSub.drop ?_ | refine HSub.dropS ?_))
  · skip
    refine W_exit rfl ?_
    refine W_sr ?_
    refine W_assign rfl rfl ?_
    refine W_nil ?_
    refine W_ret1m Try.results14 rfl (.nil _) (.refl _) ?_
    obtain rfl : i = ks.length := by omega
    rw [List.drop_length] at ht1
    exact ⟨last1, l1, c1, τ1, by rw [ht1]; rfl, by rw [ht1]; exact hO1, by omega, rfl⟩
set_option maxHeartbeats 1000000 in
theorem touchS_nil (ad : Option Addr) (n cap : Nat) : Pure Try.prog (fun _ => True) 14 [.pointer none, .slice ad n cap] (.int .i64 6) := by
  intro w0 H hT
  refine L_enter Try.func14 rfl Try.ntmps14 rfl rfl ?_
  refine W_sr ?_
  refine W_assign rfl rfl ?_
  refine W_nil ?_
  refine W_seq ?_
  refine W_sr ?_
  refine W_move rfl rfl ?_
  refine W_x (X_ptrNil rfl rfl ty37) (fun _ h => by cases h) rfl ?_
  refine W_nil ?_
  refine W_condT rfl rfl ?_
  refine W_sr ?_
  refine W_assign rfl rfl ?_
  refine W_nil ?_
  refine W_ret1m (H2 := H) Try.results14 rfl (.nil _) (by repeat (first | with_reducible exact HSub.refl _ | refine HSub.cons (by repeat (first | exact Take.here _ | apply Take.next | apply Take.app)) ?_ | refine HSub.app (by repeat (first | with_reducible exact TakeS.here _ | apply TakeS.next | apply TakeS.app)) ?_ | exact HSub.nil _ | exact HSub.refl _ | refine HSub.drop ?_ | refine HSub.dropS ?_)) ?_
  exact ⟨rfl, rfl⟩
end Go.Proofs.Ytknbohnoiigioaa
