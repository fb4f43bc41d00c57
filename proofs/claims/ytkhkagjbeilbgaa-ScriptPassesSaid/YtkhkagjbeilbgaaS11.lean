/-
  Own work: contracts of functions that the statement reaches, and plain facts on what they compute; each theorem says its conditions.
-/
import Derived.Test.YtkhkagjbeilbgaaS10
import Derived.Test.YtkhkagjbeilbgaaSlCut
set_option linter.all false
set_option linter.unusedSimpArgs false
set_option linter.unusedVariables false
namespace Go.Proofs.Ytkhkagjbeilbgaa
open Go Go.Sl
attribute [local irreducible] W
open Go.Script

theorem sumL_cons (a : Nat) (w : List Nat) : sumL (a :: w) = a + sumL w := by
  unfold sumL
  rw [List.foldl_cons]
  have : ∀ (w : List Nat) (x y : Nat), w.foldl (· + ·) (x + y) = x + w.foldl (· + ·) y := fun w => by
    induction w with
    | nil => intro x y; rfl
    | cons z w ih => intro x y; simp only [List.foldl_cons]; rw [Nat.add_assoc, ih]
  have h := this w a 0
  rw [Nat.zero_add]; simpa using h
theorem takeN_get : ∀ (w : List Nat) (l : List Int) (i : Nat), i < w.length → (takeN w l).getD i 0 = numL ((l.drop (sumL (w.take i))).take (w.getD i 0))
  | [], _, _, h => by simp at h
  | a :: w, l, 0, _ => by simp [takeN, sumL]
  | a :: w, l, i + 1, h => by
    have ih := takeN_get w (l.drop a) i (by simpa using h)
    rw [List.drop_drop] at ih
    rw [List.take_succ_cons, sumL_cons]
    simpa [takeN] using ih
theorem takeN_len : ∀ (w : List Nat) (l : List Int), (takeN w l).length = w.length
  | [], _ => rfl
  | a :: w, l => by simp [takeN, takeN_len w]
def nsAt (w : List Nat) (l : List Int) (i : Nat) : List Int := [if 0 < i then (takeN w l).getD 0 0 else 0, if 1 < i then (takeN w l).getD 1 0 else 0, if 2 < i then (takeN w l).getD 2 0 else 0, if 3 < i then (takeN w l).getD 3 0 else 0, if 4 < i then (takeN w l).getD 4 0 else 0]
theorem nsAt_set (w : List Nat) (l : List Int) {i : Nat} (hi : i < 5) : (words (nsAt w l i)).set i (.int .u64 ((takeN w l).getD i 0)) = words (nsAt w l (i + 1)) := by
  match i, hi with
  | 0, _ => simp [nsAt, words]
  | 1, _ => simp [nsAt, words]
  | 2, _ => simp [nsAt, words]
  | 3, _ => simp [nsAt, words]
  | 4, _ => simp [nsAt, words]
theorem i64_conv {z : Int} : IntKind.i64.wrap z = i64 z := by simp [IntKind.wrap, IntKind.signed, IntKind.bits, IntKind.max, i64]; split <;> omega
theorem i64_I (z : Int) : I64 (i64 z) := by unfold I64 i64; omega
theorem takeN_wd {w : List Nat} {l : List Int} (hb : Go.Script.Bytes l) (hw : ∀ i, w.getD i 0 ≤ 8) (i : Nat) : Wd ((takeN w l).getD i 0) := by
  by_cases h : i < w.length
  · rw [takeN_get w l i h]
    have h8 := numL_lt8 (l := (l.drop (sumL (w.take i))).take (w.getD i 0)) ((hb.drop _).take _) (k := 8) (by rw [List.length_take]; have := hw i; omega)
    exact ⟨h8.1, h8.2⟩
  · rw [List.getD, List.getElem?_eq_none (by rw [takeN_len]; omega)]; exact ⟨by decide, by decide⟩
theorem shW_8 (k : Int) (i : Nat) : (shW k).getD i 0 ≤ 8 := by
  unfold shW
  cases h : isK k with
  | false => rw [if_neg (by decide)]; match i with
    | 0 | 1 | 2 | 3 | 4 => decide
    | i + 5 => exact Nat.zero_le _
  | true =>
    obtain ⟨n, rfl⟩ := isK_nat h
    rw [if_pos rfl]
    have h1 : ∀ n : Fin 18, ∀ i : Fin 5, (tabW.getD ((n.val : Int)).toNat []).getD i.val 0 ≤ 8 := by decide +kernel
    have h2 : ∀ n : Fin 18, (tabW.getD ((n.val : Int)).toNat []).length = 5 := by decide +kernel
    by_cases hi : i < 5
    · exact h1 n ⟨i, hi⟩
    · rw [List.getD, List.getElem?_eq_none (by rw [h2 n]; omega)]; exact Nat.zero_le _
theorem shW_20 {k : Int} (hk : isK k = true) : sumL (shW k) ≤ 20 := by
  obtain ⟨n, rfl⟩ := isK_nat hk
  have : ∀ n : Fin 18, sumL (shW (n.val : Int)) ≤ 20 := by decide +kernel
  exact this n
theorem shW_1000 (k : Int) : sumL (shW k) ≤ 1000 := by
  cases h : isK k with
  | true => exact Nat.le_trans (shW_20 h) (by decide)
  | false => unfold shW; rw [h, if_neg (by decide)]; decide
theorem rawOk_600 {k n : Int} (h : rawOk k n = true) : n ≤ 600 := by
  unfold rawOk at h
  split at h
  · simp at h; omega
  · split at h
    · simp at h; omega
    · simp at h; omega

theorem bytesV_drop (l : List Int) (m : Nat) : bytesV (l.drop m) = (bytesV l).drop m := by simp [bytesV]
theorem bytesV_take (l : List Int) (m : Nat) : bytesV (l.take m) = (bytesV l).take m := by simp [bytesV]

theorem number_q' {w0 : World} {H : Heap} {l : List Int} {ad : Option Addr} {cap m : Nat} (hm : l.length = m) (hl : l.length ≤ 8) (hb : Go.Script.Bytes l) (hrow : Holds w0 H ad (bytesV l)) : PureAt Try.prog w0 H 37 [.slice ad m cap] (.int .u64 (numL l)) := by
  subst hm; exact number_q hl hb hrow
theorem clone_L' {w0 : World} {H : Heap} {l : List Int} {ad : Option Addr} {cap m : Nat} (hm : l.length = m) (hl : l.length ≤ 100000) (hrow : Holds w0 H ad (bytesV l)) : LCalls Try.prog w0 40 #[.slice ad m cap] H (fun v H' => ∃ HB, OwnS 5 1 v l.length (bytesV l) HB ∧ H' = HB ++ H) := by
  subst hm; exact clone_L hl hrow
theorem ofN_ok {k : Int} {w : List Nat} {l : List Int} (hk : I64 k) (hb : Go.Script.Bytes l) (hw : ∀ i, w.getD i 0 ≤ 8) (m : Nat) : StOk (ofN k (takeN w l) (l.drop m)) :=
  ⟨hk, i64_I _, i64_I _, i64_I _, takeN_wd hb hw 3, takeN_wd hb hw 4, hb.drop m⟩
theorem zero_ok : StOk zeroS := ⟨⟨by decide, by decide⟩, ⟨by decide, by decide⟩, ⟨by decide, by decide⟩, ⟨by decide, by decide⟩, ⟨by decide, by decide⟩, ⟨by decide, by decide⟩, fun _ h => by cases h⟩
set_option maxHeartbeats 4000000 in
theorem one_L {w0 : World} {H : Heap} {k : Int} {l : List Int} {b0 o0 cap : Nat} (hk64 : I64 k) (hl : l.length ≤ 100000) (hlc : l.length ≤ cap) (hb : Go.Script.Bytes l) (hrow : Holds w0 H (some ⟨b0, o0, none⟩) (bytesV l))  : LCalls Try.prog w0 38 #[.int .i64 k, .slice (some ⟨b0, o0, none⟩) l.length cap] (H) (fun v H' => ∃ HB r, r.st = (one k l).1 ∧ SrOk w0 HB r ∧ v = .tuple #[.agg r.cells.toArray, .int .i64 (one k l).2] ∧ H' = HB ++ H) := by
  refine L_enter (l := [.int .i64 k, .slice (some ⟨b0, o0, none⟩) l.length cap]) Try.func38 rfl Try.ntmps38 rfl rfl ?_
  refine W_sr ?_
  refine W_alloc ty29 rfl rfl (fun b4 => ?_)
  refine W_assign rfl rfl ?_
  refine W_nil ?_
  refine W_sr ?_
  refine W_move rfl rfl ?_
  refine W_callp (.cons rfl .nil) Try.call29 rfl (T := fun _ => True) trivial (shape_pure _) ?_
  obtain ⟨a0, a1, a2, a3, a4, hw⟩ := len5 (shW_len k)
  obtain ⟨e0, e1, e2, e3, e4, e5, he⟩ := len6 (shB_len k)
  have hw8 : ∀ i, ([a0, a1, a2, a3, a4] : List Nat).getD i 0 ≤ 8 := fun i => by rw [← hw]; exact shW_8 k i
  have hs1 := shW_1000 k
  rw [hw] at hs1
  rw [hw, he]
  simp only [nats, ints, List.map_cons, List.map_nil]
  refine W_move rfl rfl ?_
  refine W_extract rfl rfl rfl ?_
  refine W_extract rfl rfl rfl ?_
  refine W_alloc ty67 rfl rfl (fun b6 => ?_)
  refine W_alloc ty70 rfl rfl (fun b7 => ?_)
  refine W_storeA rfl rfl ty67 rfl rfl (by repeat (first | exact List.mem_cons_self | apply List.mem_cons_of_mem | apply List.mem_append_right)) (Nat.le_of_ble_eq_true rfl) (by simp only [fillL, spliceL, Value.cells, List.take_zero, List.take_succ_cons, List.take_nil, List.drop_zero, List.drop_succ_cons, List.drop_nil, List.nil_append, List.cons_append, List.append_nil, List.length_cons, List.length_nil, Nat.zero_add, Nat.reduceAdd, List.toList_toArray]; rfl) (by repeat (first | exact Upd.head _ | apply Upd.tail | apply Upd.app)) ?_
  refine W_storeA rfl rfl ty70 rfl rfl (by repeat (first | exact List.mem_cons_self | apply List.mem_cons_of_mem | apply List.mem_append_right)) (Nat.le_of_ble_eq_true rfl) (by simp only [fillL, spliceL, Value.cells, List.take_zero, List.take_succ_cons, List.take_nil, List.drop_zero, List.drop_succ_cons, List.drop_nil, List.nil_append, List.cons_append, List.append_nil, List.length_cons, List.length_nil, Nat.zero_add, Nat.reduceAdd, List.toList_toArray]; rfl) (by repeat (first | exact Upd.head _ | apply Upd.tail | apply Upd.app)) ?_
  refine W_nil ?_
  refine W_seq ?_
  refine W_block ?_
  refine W_sr ?_
  refine W_move rfl rfl ?_
  refine W_callp (.cons rfl .nil) Try.call34 rfl (T := fun _ => True) trivial (is_pure _) ?_
  refine W_not rfl rfl ?_
  refine W_assign rfl rfl ?_
  refine W_nil ?_
  refine W_condS rfl (fun c0 => ?_) (fun c0 => ?_)
  · simp only [cond_true, cond_false, Bool.and_eq_true, Bool.or_eq_true, Bool.and_eq_false_iff, Bool.or_eq_false_iff, decide_eq_true_eq, decide_eq_false_iff_not, Bool.not_eq_true', Bool.not_eq_false', ne_eq, Decidable.not_not] at c0
    refine W_sr ?_
    refine W_build (l := stV zeroS (.slice none 0 0)) ty29 pl29 .nil rfl rfl rfl ?_
    refine W_storeA rfl rfl ty29 rfl rfl (by repeat (first | exact List.mem_cons_self | apply List.mem_cons_of_mem | apply List.mem_append_right)) (Nat.le_of_ble_eq_true rfl) (by simp only [fillL, spliceL, Value.cells, List.take_zero, List.take_succ_cons, List.take_nil, List.drop_zero, List.drop_succ_cons, List.drop_nil, List.nil_append, List.cons_append, List.append_nil, List.length_cons, List.length_nil, Nat.zero_add, Nat.reduceAdd, List.toList_toArray]; rfl) (by repeat (first | exact Upd.head _ | apply Upd.tail | apply Upd.app)) ?_
    refine W_assign rfl rfl ?_
    refine W_nil ?_
    refine W_ret2G (H2 := H) Try.results38 (.nil _) (.own rfl ty29 rfl (by repeat (first | exact List.mem_cons_self | apply List.mem_cons_of_mem | apply List.mem_append_right)) rfl) (.tmp rfl) (by repeat (first | exact HSub.refl _ | refine HSub.cons (by repeat (first | exact Take.here _ | apply Take.next | apply Take.app)) ?_ | refine HSub.app (by repeat (first | exact TakeS.here _ | apply TakeS.next | apply TakeS.app)) ?_ | refine HSub.drop ?_ | refine HSub.dropS ?_ | exact HSub.nil _)) ?_
    have e : one k l = (zeroS, 11) := by unfold one; rw [if_pos (by simpa using c0)]
    exact ⟨[], ⟨zeroS, none, 0⟩, by rw [e], ⟨zero_ok, Holds.nil⟩, by rw [e]; rfl, rfl⟩
  · simp only [cond_true, cond_false, Bool.and_eq_true, Bool.or_eq_true, Bool.and_eq_false_iff, Bool.or_eq_false_iff, decide_eq_true_eq, decide_eq_false_iff_not, Bool.not_eq_true', Bool.not_eq_false', ne_eq, Decidable.not_not] at c0
    refine W_sr ?_
    refine W_move rfl rfl ?_
    refine W_len rfl ty22 rfl rfl ?_
    refine W_loadB rfl ty67 rfl (by repeat (first | exact List.mem_cons_self | apply List.mem_cons_of_mem | apply List.mem_append_right)) rfl (by simp only [fillL, spliceL, Value.cells, List.take_zero, List.take_succ_cons, List.take_nil, List.drop_zero, List.drop_succ_cons, List.drop_nil, List.nil_append, List.cons_append, List.append_nil, List.length_cons, List.length_nil, Nat.zero_add, Nat.reduceAdd, List.toList_toArray]; rfl) rfl ?_
    refine W_callp (.cons rfl .nil) Try.call31 rfl (T := fun _ => True) trivial (sum_pure _ _ _ _ _ (by omega)) ?_
    refine W_bin rfl rfl b_lss rfl ?_
    refine W_move rfl rfl ?_
    apply W_or
    iterate 4 exact rfl
    case h1 =>
      intro hg5
      have hg5 := of_decide_eq_false hg5
      refine W_gyes rfl rfl ?_
      refine W_move rfl rfl ?_
      refine W_gyes rfl rfl ?_
      refine W_move rfl rfl ?_
      refine W_gyes rfl rfl ?_
      refine W_len rfl ty22 rfl rfl ?_
      refine W_gyes rfl rfl ?_
      refine W_loadB rfl ty67 rfl (by repeat (first | exact List.mem_cons_self | apply List.mem_cons_of_mem | apply List.mem_append_right)) rfl (by simp only [fillL, spliceL, Value.cells, List.take_zero, List.take_succ_cons, List.take_nil, List.drop_zero, List.drop_succ_cons, List.drop_nil, List.nil_append, List.cons_append, List.append_nil, List.length_cons, List.length_nil, Nat.zero_add, Nat.reduceAdd, List.toList_toArray]; rfl) rfl ?_
      refine W_gyes rfl rfl ?_
      refine W_callp (.cons rfl .nil) Try.call31 rfl (T := fun _ => True) trivial (sum_pure _ _ _ _ _ (by omega)) ?_
      refine W_gyes rfl rfl ?_
      refine W_bin rfl rfl (b_sub (m := ((l.length - sumL [a0, a1, a2, a3, a4] : Nat) : Int)) ((i64w (by omega)).trans (by omega))) rfl ?_
      refine W_gyes rfl rfl ?_
      refine W_callp (.cons rfl (.cons rfl .nil)) Try.call35 rfl (T := fun _ => True) trivial (raw_pure _ _ (by omega)) ?_
      refine W_gyes rfl rfl ?_
      refine W_not rfl rfl ?_
      exact W_met rfl (by repeat (first | exact .refl | refine .cons rfl ?_))
    refine W_assign rfl rfl ?_
    refine W_nil ?_
    refine W_condPS (p := l.length < sumL [a0, a1, a2, a3, a4] ∨ rawOk k (l.length - sumL [a0, a1, a2, a3, a4] : Nat) = false) rfl (by simp) (fun c1 => ?_) (fun c1 => ?_)
    · skip
      refine W_sr ?_
      refine W_build (l := stV zeroS (.slice none 0 0)) ty29 pl29 .nil rfl rfl rfl ?_
      refine W_storeA rfl rfl ty29 rfl rfl (by repeat (first | exact List.mem_cons_self | apply List.mem_cons_of_mem | apply List.mem_append_right)) (Nat.le_of_ble_eq_true rfl) (by simp only [fillL, spliceL, Value.cells, List.take_zero, List.take_succ_cons, List.take_nil, List.drop_zero, List.drop_succ_cons, List.drop_nil, List.nil_append, List.cons_append, List.append_nil, List.length_cons, List.length_nil, Nat.zero_add, Nat.reduceAdd, List.toList_toArray]; rfl) (by repeat (first | exact Upd.head _ | apply Upd.tail | apply Upd.app)) ?_
      refine W_assign rfl rfl ?_
      refine W_nil ?_
      refine W_ret2G (H2 := H) Try.results38 (.nil _) (.own rfl ty29 rfl (by repeat (first | exact List.mem_cons_self | apply List.mem_cons_of_mem | apply List.mem_append_right)) rfl) (.tmp rfl) (by repeat (first | exact HSub.refl _ | refine HSub.cons (by repeat (first | exact Take.here _ | apply Take.next | apply Take.app)) ?_ | refine HSub.app (by repeat (first | exact TakeS.here _ | apply TakeS.next | apply TakeS.app)) ?_ | refine HSub.drop ?_ | refine HSub.dropS ?_ | exact HSub.nil _)) ?_
      have e : one k l = (zeroS, 9) := by unfold one; rw [if_neg (by simpa using c0), if_pos (by rw [hw]; exact c1)]
      exact ⟨[], ⟨zeroS, none, 0⟩, by rw [e], ⟨zero_ok, Holds.nil⟩, by rw [e]; rfl, rfl⟩
    · skip
      refine W_skip ?_
      refine W_blk ?_
      refine W_sr ?_
      refine W_alloc ty74 rfl rfl (fun b8 => ?_)
      refine W_nil ?_
      refine W_seq ?_
      refine W_sr ?_
      refine W_move rfl rfl ?_
      refine W_nil ?_
      refine W_block ?_
      have hlen : sumL [a0, a1, a2, a3, a4] ≤ l.length := by omega
      have hraw : rawOk k (l.length - sumL [a0, a1, a2, a3, a4] : Nat) = true := by rw [← Bool.not_eq_false]; exact fun hh => c1 (.inr hh)
      have hraw6 := rawOk_600 hraw
      refine W_loopC (X := (Nat × Nat)) [(0, _), (4, _), (6, _), (8, _)] (fun (x : (Nat × Nat)) => [(1, .slice (some ⟨b0, x.2, none⟩) (l.length - sumL ([a0, a1, a2, a3, a4].take x.1)) (cap - sumL ([a0, a1, a2, a3, a4].take x.1))), (39, .int .i64 (x.1 : Int))]) (fun _ => _) (fun (x : (Nat × Nat)) => (b8, .cells 74 5 (words (nsAt [a0, a1, a2, a3, a4] l x.1))) :: (b6, .cells 67 5 (nats [a0, a1, a2, a3, a4])) :: (b4, .cells 29 7 (stV zeroS (.slice none 0 0))) :: H) (fun (x : (Nat × Nat)) => x.1 ≤ 5 ∧ Holds w0 H (some ⟨b0, x.2, none⟩) (bytesV (l.drop (sumL ([a0, a1, a2, a3, a4].take x.1))))) (fun (x : (Nat × Nat)) => 5 - x.1) (0, o0) ⟨by simp, by simpa [sumL] using hrow⟩ (sub_cons rfl (sub_cons rfl (sub_cons rfl (sub_cons rfl (sub_nil _))))) (sub_cons rfl (sub_cons rfl (sub_nil _))) rfl (by repeat (first | exact HSub.refl _ | refine HSub.cons (by repeat (first | exact Take.here _ | apply Take.next | apply Take.app)) ?_ | refine HSub.app (by repeat (first | exact TakeS.here _ | apply TakeS.next | apply TakeS.app)) ?_ | refine HSub.drop ?_ | refine HSub.dropS ?_ | exact HSub.nil _)) ?_
      rintro ⟨i, o⟩ ⟨hi, hro⟩
      dsimp only at hi hro ⊢
      have hsl := sum_le [a0, a1, a2, a3, a4] i
      have hsl1 := sum_le [a0, a1, a2, a3, a4] (i + 1)
      simp only [List.cons_append, List.nil_append]
      refine W_sr ?_
      refine W_bin rfl rfl b_lss rfl ?_
      refine W_nil ?_
      refine W_seq ?_
      refine W_condPS (p := (i : Int) < 5) rfl (by simp) (fun c2 => ?_) (fun c2 => ?_)
      · skip
        refine W_skip ?_
        refine W_seq ?_
        refine W_block ?_
        refine W_sr ?_
        refine W_move rfl rfl ?_
        refine W_assign rfl rfl ?_
        refine W_nil ?_
        refine W_sr ?_
        refine W_move rfl rfl ?_
        refine W_move rfl rfl ?_
        have hst := sum_take (w := [a0, a1, a2, a3, a4]) (i := i) (by show i < 5; omega)
        have hwi := hw8 i
        refine W_move rfl rfl ?_
        refine W_indexAddrA (j := i) rfl rfl ty67 ty3 (by first | rfl | omega) (by first | decide | omega) rfl rfl ?_
        refine W_load rfl ty3 rfl (v := .int .i64 (([a0, a1, a2, a3, a4].getD i 0 : Nat) : Int)) (Cell.own (by repeat (first | exact List.mem_cons_self | apply List.mem_cons_of_mem | apply List.mem_append_right)) (by rw [Nat.zero_add, Nat.mul_one]; exact nats_get (l := [a0, a1, a2, a3, a4]) (i := i) (by show i < 5; omega))) rfl ?_
        refine W_slice0 (hh := [a0, a1, a2, a3, a4].getD i 0) rfl ty22 ty5 rfl ⟨_, rfl⟩ (by omega) rfl ?_
        refine W_callq (.cons rfl .nil) Try.call37 rfl (number_q' (l := (l.drop (sumL ([a0, a1, a2, a3, a4].take i))).take ([a0, a1, a2, a3, a4].getD i 0)) (by rw [List.length_take, List.length_drop]; omega) (by rw [List.length_take]; omega) ((hb.drop _).take _) (by rw [bytesV_take]; exact (hro.take _).up (by repeat (first | exact HSub.refl _ | refine HSub.cons (by repeat (first | exact Take.here _ | apply Take.next | apply Take.app)) ?_ | refine HSub.app (by repeat (first | exact TakeS.here _ | apply TakeS.next | apply TakeS.app)) ?_ | refine HSub.drop ?_ | refine HSub.dropS ?_ | exact HSub.nil _)))) ?_
        rw [← takeN_get [a0, a1, a2, a3, a4] l i (by show i < 5; omega)]
        refine W_indexAddrA (j := i) rfl rfl ty74 ty27 (by first | rfl | omega) (by first | decide | omega) rfl rfl ?_
        refine W_store rfl rfl ty27 rfl rfl (by repeat (first | exact List.mem_cons_self | apply List.mem_cons_of_mem | apply List.mem_append_right)) (by rw [Nat.blt_eq, Nat.zero_add, Nat.mul_one]; show i < 5; omega) (by rw [Nat.zero_add, Nat.mul_one]) (by repeat (first | exact Upd.head _ | apply Upd.tail | apply Upd.app)) ?_
        refine W_nil ?_
        refine W_region ?_
        refine W_move rfl rfl ?_
        refine W_move rfl rfl ?_
        refine W_indexAddrA (j := i) rfl rfl ty67 ty3 (by first | rfl | omega) (by first | decide | omega) rfl rfl ?_
        refine W_load rfl ty3 rfl (v := .int .i64 (([a0, a1, a2, a3, a4].getD i 0 : Nat) : Int)) (Cell.own (by repeat (first | exact List.mem_cons_self | apply List.mem_cons_of_mem | apply List.mem_append_right)) (by rw [Nat.zero_add, Nat.mul_one]; exact nats_get (l := [a0, a1, a2, a3, a4]) (i := i) (by show i < 5; omega))) rfl ?_
        refine W_slice (l := [a0, a1, a2, a3, a4].getD i 0) (hh := l.length - sumL ([a0, a1, a2, a3, a4].take i)) rfl ty22 ty5 ⟨_, rfl⟩ rfl (by omega) (by omega) rfl (fun o2 ho2 => ?_)
        rw [Nat.mul_one] at ho2
        refine W_assign rfl rfl ?_
        refine W_nil ?_
        refine W_blk ?_
        refine W_region ?_
        refine W_bin rfl rfl (b_add (m := ((i + 1 : Nat) : Int)) ((i64w (by omega)).trans (by omega))) rfl ?_
        refine W_move rfl rfl ?_
        refine W_nil ?_
        refine W_again (i + 1, o2) ⟨by show i + 1 ≤ 5; omega, by show Holds w0 H (some ⟨b0, o2, none⟩) (bytesV (l.drop (sumL ([a0, a1, a2, a3, a4].take (i + 1))))); rw [hst, ← List.drop_drop, bytesV_drop]; exact Holds.drop hro (by rw [bytesV_len, List.length_drop]; omega) ho2⟩ (by show 5 - (i + 1) < 5 - i; omega) (sub_cons (by rw [hst, ← Nat.sub_sub, ← Nat.sub_sub]; rfl) (sub_cons rfl (sub_cons rfl (sub_cons rfl (sub_cons rfl (sub_cons rfl (sub_nil _))))))) rfl (by rw [← nsAt_set _ _ (show i < 5 by omega)]; repeat (first | exact HSub.refl _ | refine HSub.cons (by repeat (first | exact Take.here _ | apply Take.next | apply Take.app)) ?_ | refine HSub.app (by repeat (first | exact TakeS.here _ | apply TakeS.next | apply TakeS.app)) ?_ | refine HSub.drop ?_ | refine HSub.dropS ?_ | exact HSub.nil _))
      · skip
        refine W_exit rfl ?_
        refine W_seq ?_
        obtain rfl : i = 5 := by omega
        refine W_cutX (X := (Nat × Value × Heap)) (fun x => [(4, .pointer (some ⟨b4, 0, none⟩)), (10, .pointer (some ⟨x.1, 0, none⟩))]) (fun x => (x.1, .cells 29 7 (stV (ofN k (takeN [a0, a1, a2, a3, a4] l) (l.drop (sumL [a0, a1, a2, a3, a4]))) x.2.1)) :: (x.2.2 ++ ((b4, .cells 29 7 (stV zeroS (.slice none 0 0))) :: H))) (fun x => OwnS 5 1 x.2.1 (l.drop (sumL [a0, a1, a2, a3, a4])).length (bytesV (l.drop (sumL [a0, a1, a2, a3, a4]))) x.2.2) ?_ ?_
        · skip
          refine W_anyC ((b8, .cells 74 5 (words (nsAt [a0, a1, a2, a3, a4] l 5))) :: (b4, .cells 29 7 (stV zeroS (.slice none 0 0))) :: H) (by kernel_rfl) ?_
          refine WC_take 0 (l' := #[true, false, false, false, false, false, false, false, false, false, false, false, false, false, false, false, false, false, false]) rfl (by decide +kernel) (by decide +kernel) (by decide +kernel) rfl (by decide +kernel) (X_move rfl) rfl ?_
          refine WC_take 1 (l' := #[true, true, false, false, false, false, false, false, false, false, false, false, false, false, false, false, false, false, false]) rfl (by decide +kernel) (by decide +kernel) (by decide +kernel) rfl (by decide +kernel) (X_indexAddrA (j := 0) rfl rfl ty74 ty27 (by first | rfl | omega) (by first | decide | omega) rfl) rfl ?_
          refine WC_take 2 (l' := #[true, true, true, false, false, false, false, false, false, false, false, false, false, false, false, false, false, false, false]) rfl (by decide +kernel) (by decide +kernel) (by decide +kernel) rfl (by decide +kernel) (X_load rfl ty27 rfl (v := .int .u64 ((takeN [a0, a1, a2, a3, a4] l).getD 0 0)) (Cell.own (by repeat (first | exact List.mem_cons_self | apply List.mem_cons_of_mem | apply List.mem_append_right)) rfl)) rfl ?_
          refine WC_take 3 (l' := #[true, true, true, true, false, false, false, false, false, false, false, false, false, false, false, false, false, false, false]) rfl (by decide +kernel) (by decide +kernel) (by decide +kernel) rfl (by decide +kernel) (X_conv rfl ty27 ty3 i64_conv) rfl ?_
          refine WC_take 4 (l' := #[true, true, true, true, true, false, false, false, false, false, false, false, false, false, false, false, false, false, false]) rfl (by decide +kernel) (by decide +kernel) (by decide +kernel) rfl (by decide +kernel) (X_indexAddrA (j := 1) rfl rfl ty74 ty27 (by first | rfl | omega) (by first | decide | omega) rfl) rfl ?_
          refine WC_take 5 (l' := #[true, true, true, true, true, true, false, false, false, false, false, false, false, false, false, false, false, false, false]) rfl (by decide +kernel) (by decide +kernel) (by decide +kernel) rfl (by decide +kernel) (X_load rfl ty27 rfl (v := .int .u64 ((takeN [a0, a1, a2, a3, a4] l).getD 1 0)) (Cell.own (by repeat (first | exact List.mem_cons_self | apply List.mem_cons_of_mem | apply List.mem_append_right)) rfl)) rfl ?_
          refine WC_take 6 (l' := #[true, true, true, true, true, true, true, false, false, false, false, false, false, false, false, false, false, false, false]) rfl (by decide +kernel) (by decide +kernel) (by decide +kernel) rfl (by decide +kernel) (X_conv rfl ty27 ty3 i64_conv) rfl ?_
          refine WC_take 7 (l' := #[true, true, true, true, true, true, true, true, false, false, false, false, false, false, false, false, false, false, false]) rfl (by decide +kernel) (by decide +kernel) (by decide +kernel) rfl (by decide +kernel) (X_indexAddrA (j := 2) rfl rfl ty74 ty27 (by first | rfl | omega) (by first | decide | omega) rfl) rfl ?_
          refine WC_take 8 (l' := #[true, true, true, true, true, true, true, true, true, false, false, false, false, false, false, false, false, false, false]) rfl (by decide +kernel) (by decide +kernel) (by decide +kernel) rfl (by decide +kernel) (X_load rfl ty27 rfl (v := .int .u64 ((takeN [a0, a1, a2, a3, a4] l).getD 2 0)) (Cell.own (by repeat (first | exact List.mem_cons_self | apply List.mem_cons_of_mem | apply List.mem_append_right)) rfl)) rfl ?_
          refine WC_take 9 (l' := #[true, true, true, true, true, true, true, true, true, true, false, false, false, false, false, false, false, false, false]) rfl (by decide +kernel) (by decide +kernel) (by decide +kernel) rfl (by decide +kernel) (X_conv rfl ty27 ty3 i64_conv) rfl ?_
          refine WC_take 10 (l' := #[true, true, true, true, true, true, true, true, true, true, true, false, false, false, false, false, false, false, false]) rfl (by decide +kernel) (by decide +kernel) (by decide +kernel) rfl (by decide +kernel) (X_indexAddrA (j := 3) rfl rfl ty74 ty27 (by first | rfl | omega) (by first | decide | omega) rfl) rfl ?_
          refine WC_take 11 (l' := #[true, true, true, true, true, true, true, true, true, true, true, true, false, false, false, false, false, false, false]) rfl (by decide +kernel) (by decide +kernel) (by decide +kernel) rfl (by decide +kernel) (X_load rfl ty27 rfl (v := .int .u64 ((takeN [a0, a1, a2, a3, a4] l).getD 3 0)) (Cell.own (by repeat (first | exact List.mem_cons_self | apply List.mem_cons_of_mem | apply List.mem_append_right)) rfl)) rfl ?_
          refine WC_take 12 (l' := #[true, true, true, true, true, true, true, true, true, true, true, true, true, false, false, false, false, false, false]) rfl (by decide +kernel) (by decide +kernel) (by decide +kernel) rfl (by decide +kernel) (X_indexAddrA (j := 4) rfl rfl ty74 ty27 (by first | rfl | omega) (by first | decide | omega) rfl) rfl ?_
          refine WC_take 13 (l' := #[true, true, true, true, true, true, true, true, true, true, true, true, true, true, false, false, false, false, false]) rfl (by decide +kernel) (by decide +kernel) (by decide +kernel) rfl (by decide +kernel) (X_load rfl ty27 rfl (v := .int .u64 ((takeN [a0, a1, a2, a3, a4] l).getD 4 0)) (Cell.own (by repeat (first | exact List.mem_cons_self | apply List.mem_cons_of_mem | apply List.mem_append_right)) rfl)) rfl ?_
          refine WC_take 14 (l' := #[true, true, true, true, true, true, true, true, true, true, true, true, true, true, true, false, false, false, false]) rfl (by decide +kernel) (by decide +kernel) (by decide +kernel) rfl (by decide +kernel) (X_move rfl) rfl ?_
          refine WC_two 15 17 (l' := #[true, true, true, true, true, true, true, true, true, true, true, true, true, true, true, true, false, false, false]) (l'' := #[true, true, true, true, true, true, true, true, true, true, true, true, true, true, true, false, false, true, false]) (by repeat (first | exact HSub.refl _ | refine HSub.cons (by repeat (first | exact Take.here _ | apply Take.next | apply Take.app)) ?_ | refine HSub.app (by repeat (first | exact TakeS.here _ | apply TakeS.next | apply TakeS.app)) ?_ | refine HSub.drop ?_ | refine HSub.dropS ?_ | exact HSub.nil _)) (by decide +kernel) rfl rfl (by decide +kernel) (by decide +kernel) ?_ ?_
          · skip
            refine W_call (.cons rfl .nil) Try.call40 rfl (clone_L' (l := l.drop (sumL [a0, a1, a2, a3, a4])) (by rw [List.length_drop]; rfl) (by rw [List.length_drop]; omega) (by exact hro.up (by repeat (first | exact HSub.refl _ | refine HSub.cons (by repeat (first | exact Take.here _ | apply Take.next | apply Take.app)) ?_ | refine HSub.app (by repeat (first | exact TakeS.here _ | apply TakeS.next | apply TakeS.app)) ?_ | refine HSub.drop ?_ | refine HSub.dropS ?_ | exact HSub.nil _)))) ?_
            rintro vc H' ⟨HC, hOc, rfl⟩
            obtain ⟨ac0, cc0, rfl, _, _⟩ := hOc.shape
            refine W_nil ?_
            refine WC_goal ?_
            refine WC_take 16 (l' := #[true, true, true, true, true, true, true, true, true, true, true, true, true, true, true, true, true, false, false]) rfl (by decide +kernel) (by decide +kernel) (by decide +kernel) rfl (by decide +kernel) (X_build (l := stV (ofN k (takeN [a0, a1, a2, a3, a4] l) (l.drop (sumL [a0, a1, a2, a3, a4]))) (.slice ac0 (l.drop (sumL [a0, a1, a2, a3, a4])).length cc0)) ty29 pl29 (.cons rfl rfl rfl rfl rfl (.cons rfl rfl rfl rfl rfl (.cons rfl rfl rfl rfl rfl (.cons rfl rfl rfl rfl rfl (.cons rfl rfl rfl rfl rfl (.cons rfl rfl rfl rfl rfl (.cons rfl rfl rfl rfl rfl .nil))))))) rfl rfl) rfl ?_
            refine WC_one 17 (l' := #[true, true, true, true, true, true, true, true, true, true, true, true, true, true, true, true, true, true, false]) (by repeat (first | exact HSub.refl _ | refine HSub.cons (by repeat (first | exact Take.here _ | apply Take.next | apply Take.app)) ?_ | refine HSub.app (by repeat (first | exact TakeS.here _ | apply TakeS.next | apply TakeS.app)) ?_ | refine HSub.drop ?_ | refine HSub.dropS ?_ | exact HSub.nil _)) (by decide +kernel) rfl (by decide +kernel) ?_
            refine W_alloc ty29 rfl rfl (fun b10 => ?_)
            refine W_nil ?_
            refine WC_goal ?_
            refine WC_one 18 (l' := #[true, true, true, true, true, true, true, true, true, true, true, true, true, true, true, true, true, true, true]) (by repeat (first | exact HSub.refl _ | refine HSub.cons (by repeat (first | exact Take.here _ | apply Take.next | apply Take.app)) ?_ | refine HSub.app (by repeat (first | exact TakeS.here _ | apply TakeS.next | apply TakeS.app)) ?_ | refine HSub.drop ?_ | refine HSub.dropS ?_ | exact HSub.nil _)) (by decide +kernel) rfl (by decide +kernel) ?_
            refine W_storeA rfl rfl ty29 rfl rfl (by repeat (first | exact List.mem_cons_self | apply List.mem_cons_of_mem | apply List.mem_append_right)) (Nat.le_of_ble_eq_true rfl) (by simp only [fillL, spliceL, Value.cells, List.take_zero, List.take_succ_cons, List.take_nil, List.drop_zero, List.drop_succ_cons, List.drop_nil, List.nil_append, List.cons_append, List.append_nil, List.length_cons, List.length_nil, Nat.zero_add, Nat.reduceAdd, List.toList_toArray]; rfl) (by repeat (first | exact Upd.head _ | apply Upd.tail | apply Upd.app)) ?_
            refine W_nil ?_
            refine WC_goal ?_
            refine WC_done (by repeat (first | exact HSub.refl _ | refine HSub.cons (by repeat (first | exact Take.here _ | apply Take.next | apply Take.app)) ?_ | refine HSub.app (by repeat (first | exact TakeS.here _ | apply TakeS.next | apply TakeS.app)) ?_ | refine HSub.drop ?_ | refine HSub.dropS ?_ | exact HSub.nil _)) (by decide +kernel) ?_
            refine W_joinX (b10, _, HC) hOc (sub_cons rfl (sub_cons rfl (sub_nil _))) (by repeat (first | exact HSub.refl _ | refine HSub.cons (by repeat (first | exact Take.here _ | apply Take.next | apply Take.app)) ?_ | refine HSub.app (by repeat (first | exact TakeS.here _ | apply TakeS.next | apply TakeS.app)) ?_ | refine HSub.drop ?_ | refine HSub.dropS ?_ | exact HSub.nil _))
          · skip
            refine W_alloc ty29 rfl rfl (fun b10 => ?_)
            refine W_nil ?_
            refine WC_goal ?_
            refine WC_one 15 (l' := #[true, true, true, true, true, true, true, true, true, true, true, true, true, true, true, true, false, true, false]) (by repeat (first | exact HSub.refl _ | refine HSub.cons (by repeat (first | exact Take.here _ | apply Take.next | apply Take.app)) ?_ | refine HSub.app (by repeat (first | exact TakeS.here _ | apply TakeS.next | apply TakeS.app)) ?_ | refine HSub.drop ?_ | refine HSub.dropS ?_ | exact HSub.nil _)) (by decide +kernel) rfl (by decide +kernel) ?_
            refine W_call (.cons rfl .nil) Try.call40 rfl (clone_L' (l := l.drop (sumL [a0, a1, a2, a3, a4])) (by rw [List.length_drop]; rfl) (by rw [List.length_drop]; omega) (by exact hro.up (by repeat (first | exact HSub.refl _ | refine HSub.cons (by repeat (first | exact Take.here _ | apply Take.next | apply Take.app)) ?_ | refine HSub.app (by repeat (first | exact TakeS.here _ | apply TakeS.next | apply TakeS.app)) ?_ | refine HSub.drop ?_ | refine HSub.dropS ?_ | exact HSub.nil _)))) ?_
            rintro vc H' ⟨HC, hOc, rfl⟩
            obtain ⟨ac0, cc0, rfl, _, _⟩ := hOc.shape
            refine W_nil ?_
            refine WC_goal ?_
            refine WC_take 16 (l' := #[true, true, true, true, true, true, true, true, true, true, true, true, true, true, true, true, true, true, false]) rfl (by decide +kernel) (by decide +kernel) (by decide +kernel) rfl (by decide +kernel) (X_build (l := stV (ofN k (takeN [a0, a1, a2, a3, a4] l) (l.drop (sumL [a0, a1, a2, a3, a4]))) (.slice ac0 (l.drop (sumL [a0, a1, a2, a3, a4])).length cc0)) ty29 pl29 (.cons rfl rfl rfl rfl rfl (.cons rfl rfl rfl rfl rfl (.cons rfl rfl rfl rfl rfl (.cons rfl rfl rfl rfl rfl (.cons rfl rfl rfl rfl rfl (.cons rfl rfl rfl rfl rfl (.cons rfl rfl rfl rfl rfl .nil))))))) rfl rfl) rfl ?_
            refine WC_one 18 (l' := #[true, true, true, true, true, true, true, true, true, true, true, true, true, true, true, true, true, true, true]) (by repeat (first | exact HSub.refl _ | refine HSub.cons (by repeat (first | exact Take.here _ | apply Take.next | apply Take.app)) ?_ | refine HSub.app (by repeat (first | exact TakeS.here _ | apply TakeS.next | apply TakeS.app)) ?_ | refine HSub.drop ?_ | refine HSub.dropS ?_ | exact HSub.nil _)) (by decide +kernel) rfl (by decide +kernel) ?_
            refine W_storeA rfl rfl ty29 rfl rfl (by repeat (first | exact List.mem_cons_self | apply List.mem_cons_of_mem | apply List.mem_append_right)) (Nat.le_of_ble_eq_true rfl) (by simp only [fillL, spliceL, Value.cells, List.take_zero, List.take_succ_cons, List.take_nil, List.drop_zero, List.drop_succ_cons, List.drop_nil, List.nil_append, List.cons_append, List.append_nil, List.length_cons, List.length_nil, Nat.zero_add, Nat.reduceAdd, List.toList_toArray]; rfl) (by repeat (first | exact Upd.head _ | apply Upd.tail | apply Upd.app)) ?_
            refine W_nil ?_
            refine WC_goal ?_
            refine WC_done (by repeat (first | exact HSub.refl _ | refine HSub.cons (by repeat (first | exact Take.here _ | apply Take.next | apply Take.app)) ?_ | refine HSub.app (by repeat (first | exact TakeS.here _ | apply TakeS.next | apply TakeS.app)) ?_ | refine HSub.drop ?_ | refine HSub.dropS ?_ | exact HSub.nil _)) (by decide +kernel) ?_
            refine W_joinX (b10, _, HC) hOc (sub_cons rfl (sub_cons rfl (sub_nil _))) (by repeat (first | exact HSub.refl _ | refine HSub.cons (by repeat (first | exact Take.here _ | apply Take.next | apply Take.app)) ?_ | refine HSub.app (by repeat (first | exact TakeS.here _ | apply TakeS.next | apply TakeS.app)) ?_ | refine HSub.drop ?_ | refine HSub.dropS ?_ | exact HSub.nil _))
        rintro ⟨b10, vc, HC⟩ hOc
        dsimp only at hOc ⊢
        obtain ⟨ac, cc, rfl, _, _, hhc⟩ := Holds.of_own (w0 := w0) (H := HC ++ []) hOc (fun p hp => List.mem_append_left _ hp)
        refine W_seq ?_
        refine W_sr ?_
        refine W_loadB rfl ty29 rfl (by repeat (first | exact List.mem_cons_self | apply List.mem_cons_of_mem | apply List.mem_append_right)) rfl (by simp only [fillL, spliceL, Value.cells, List.take_zero, List.take_succ_cons, List.take_nil, List.drop_zero, List.drop_succ_cons, List.drop_nil, List.nil_append, List.cons_append, List.append_nil, List.length_cons, List.length_nil, Nat.zero_add, Nat.reduceAdd, List.toList_toArray]; rfl) rfl ?_
        refine W_callp (.cons rfl .nil) Try.call19 rfl (T := fun _ => True) trivial (check_pure (ofN k (takeN [a0, a1, a2, a3, a4] l) (l.drop (sumL [a0, a1, a2, a3, a4]))) ac cc) ?_
        refine W_assign rfl rfl ?_
        refine W_nil ?_
        refine W_sr ?_
        refine W_move rfl rfl ?_
        refine W_bin rfl rfl b_neq rfl ?_
        refine W_nil ?_
        refine W_condS rfl (fun c3 => ?_) (fun c3 => ?_)
        · simp only [cond_true, cond_false, Bool.and_eq_true, Bool.or_eq_true, Bool.and_eq_false_iff, Bool.or_eq_false_iff, decide_eq_true_eq, decide_eq_false_iff_not, Bool.not_eq_true', Bool.not_eq_false', ne_eq, Decidable.not_not] at c3
          refine W_sr ?_
          refine W_build (l := stV zeroS (.slice none 0 0)) ty29 pl29 .nil rfl rfl rfl ?_
          refine W_move rfl rfl ?_
          refine W_storeA rfl rfl ty29 rfl rfl (by repeat (first | exact List.mem_cons_self | apply List.mem_cons_of_mem | apply List.mem_append_right)) (Nat.le_of_ble_eq_true rfl) (by simp only [fillL, spliceL, Value.cells, List.take_zero, List.take_succ_cons, List.take_nil, List.drop_zero, List.drop_succ_cons, List.drop_nil, List.nil_append, List.cons_append, List.append_nil, List.length_cons, List.length_nil, Nat.zero_add, Nat.reduceAdd, List.toList_toArray]; rfl) (by repeat (first | exact Upd.head _ | apply Upd.tail | apply Upd.app)) ?_
          refine W_assign rfl rfl ?_
          refine W_nil ?_
          refine W_ret2G (H2 := H) Try.results38 (.nil _) (.own rfl ty29 rfl (by repeat (first | exact List.mem_cons_self | apply List.mem_cons_of_mem | apply List.mem_append_right)) rfl) (.tmp rfl) (by repeat (first | exact HSub.refl _ | refine HSub.cons (by repeat (first | exact Take.here _ | apply Take.next | apply Take.app)) ?_ | refine HSub.app (by repeat (first | exact TakeS.here _ | apply TakeS.next | apply TakeS.app)) ?_ | refine HSub.drop ?_ | refine HSub.dropS ?_ | exact HSub.nil _)) ?_
          have e : one k l = (if chk (ofN k (takeN [a0, a1, a2, a3, a4] l) (l.drop (sumL [a0, a1, a2, a3, a4]))) = 0 then ((ofN k (takeN [a0, a1, a2, a3, a4] l) (l.drop (sumL [a0, a1, a2, a3, a4]))), 0) else (zeroS, chk (ofN k (takeN [a0, a1, a2, a3, a4] l) (l.drop (sumL [a0, a1, a2, a3, a4]))))) := by unfold one; rw [if_neg (by simpa using c0), if_neg (by rw [hw]; rintro (h | h); omega; (rw [h] at hraw; cases hraw))]; rw [hw]
          rw [if_neg (by simpa using c3)] at e
          exact ⟨[], ⟨zeroS, none, 0⟩, by rw [e], ⟨zero_ok, Holds.nil⟩, by rw [e]; rfl, rfl⟩
        · simp only [cond_true, cond_false, Bool.and_eq_true, Bool.or_eq_true, Bool.and_eq_false_iff, Bool.or_eq_false_iff, decide_eq_true_eq, decide_eq_false_iff_not, Bool.not_eq_true', Bool.not_eq_false', ne_eq, Decidable.not_not] at c3
          refine W_skip ?_
          refine W_sr ?_
          refine W_loadB rfl ty29 rfl (by repeat (first | exact List.mem_cons_self | apply List.mem_cons_of_mem | apply List.mem_append_right)) rfl (by simp only [fillL, spliceL, Value.cells, List.take_zero, List.take_succ_cons, List.take_nil, List.drop_zero, List.drop_succ_cons, List.drop_nil, List.nil_append, List.cons_append, List.append_nil, List.length_cons, List.length_nil, Nat.zero_add, Nat.reduceAdd, List.toList_toArray]; rfl) rfl ?_
          refine W_storeA rfl rfl ty29 rfl rfl (by repeat (first | exact List.mem_cons_self | apply List.mem_cons_of_mem | apply List.mem_append_right)) (Nat.le_of_ble_eq_true rfl) (by simp only [fillL, spliceL, Value.cells, List.take_zero, List.take_succ_cons, List.take_nil, List.drop_zero, List.drop_succ_cons, List.drop_nil, List.nil_append, List.cons_append, List.append_nil, List.length_cons, List.length_nil, Nat.zero_add, Nat.reduceAdd, List.toList_toArray]; rfl) (by repeat (first | exact Upd.head _ | apply Upd.tail | apply Upd.app)) ?_
          refine W_assign rfl rfl ?_
          refine W_nil ?_
          refine W_ret2G (H2 := HC ++ H) Try.results38 (.nil _) (.own rfl ty29 rfl (by repeat (first | exact List.mem_cons_self | apply List.mem_cons_of_mem | apply List.mem_append_right)) rfl) (.tmp rfl) (by repeat (first | exact HSub.refl _ | refine HSub.cons (by repeat (first | exact Take.here _ | apply Take.next | apply Take.app)) ?_ | refine HSub.app (by repeat (first | exact TakeS.here _ | apply TakeS.next | apply TakeS.app)) ?_ | refine HSub.drop ?_ | refine HSub.dropS ?_ | exact HSub.nil _)) ?_
          have e : one k l = (if chk (ofN k (takeN [a0, a1, a2, a3, a4] l) (l.drop (sumL [a0, a1, a2, a3, a4]))) = 0 then ((ofN k (takeN [a0, a1, a2, a3, a4] l) (l.drop (sumL [a0, a1, a2, a3, a4]))), 0) else (zeroS, chk (ofN k (takeN [a0, a1, a2, a3, a4] l) (l.drop (sumL [a0, a1, a2, a3, a4]))))) := by unfold one; rw [if_neg (by simpa using c0), if_neg (by rw [hw]; rintro (h | h); omega; (rw [h] at hraw; cases hraw))]; rw [hw]
          rw [if_pos (by simpa using c3)] at e
          exact ⟨HC, ⟨(ofN k (takeN [a0, a1, a2, a3, a4] l) (l.drop (sumL [a0, a1, a2, a3, a4]))), ac, cc⟩, by rw [e], ⟨ofN_ok hk64 hb hw8 _, by have h := hhc; rw [List.append_nil] at h; exact h⟩, by rw [e]; rfl, rfl⟩
end Go.Proofs.Ytkhkagjbeilbgaa
