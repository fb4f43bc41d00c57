/-
  Own work: contracts of functions that the statement reaches, and plain facts on what they compute; each theorem says its conditions.
-/
import Derived.Test.YtkcaakkaioingaaDoorBpT2
import Derived.Test.YtkcaakkaioingaaDoorBpS2
import Derived.Test.YtkcaakkaioingaaDoorBpA
set_option linter.all false
set_option linter.unusedSimpArgs false
set_option linter.unusedVariables false
namespace Go.Proofs.YtkcaakkaioingaaDoor
open Go Go.Sl
attribute [local irreducible] W
def leastT : List Tm → Option Nat
  | [] => none
  | t :: L => match leastT L with
    | none => some t.s.due
    | some a => some (min t.s.due a)
theorem leastT_none : ∀ {L : List Tm}, leastT L = none ↔ L = []
  | [] => ⟨fun _ => rfl, fun _ => rfl⟩
  | t :: L => by
    unfold leastT
    cases leastT L <;> simp
theorem leastT_is : ∀ {L : List Tm} {a : Nat}, leastT L = some a → (∃ t ∈ L, t.s.due = a) ∧ ∀ t ∈ L, a ≤ t.s.due
  | [], a, h => by cases h
  | t :: L, a, h => by
    unfold leastT at h
    cases hl : leastT L with
    | none =>
      rw [hl] at h
      obtain rfl : t.s.due = a := Option.some.inj h
      obtain rfl := leastT_none.1 hl
      exact ⟨⟨t, List.mem_cons_self, rfl⟩, fun u hu => by rw [List.mem_singleton.1 hu]; exact Nat.le_refl _⟩
    | some b =>
      rw [hl] at h
      obtain rfl : min t.s.due b = a := Option.some.inj h
      obtain ⟨⟨u, hu, e⟩, h2⟩ := leastT_is hl
      refine ⟨?_, fun x hx => ?_⟩
      · by_cases c : t.s.due ≤ b
        · exact ⟨t, List.mem_cons_self, (Nat.min_eq_left c).symm⟩
        · exact ⟨u, List.mem_cons_of_mem _ hu, by omega⟩
      · rcases List.mem_cons.1 hx with rfl | hx
        · omega
        · have := h2 x hx; omega
theorem leastT_of {L : List Tm} {a : Nat} (h1 : ∃ t ∈ L, t.s.due = a) (h2 : ∀ t ∈ L, a ≤ t.s.due) : leastT L = some a := by
  obtain ⟨t, ht, rfl⟩ := h1
  cases hl : leastT L with
  | none => rw [leastT_none.1 hl] at ht; cases ht
  | some b =>
    obtain ⟨⟨u, hu, e⟩, h3⟩ := leastT_is hl
    have := h3 t ht
    have := h2 u hu
    rw [show b = t.s.due by omega]
section
variable {now turn c : Nat} {L : List Tm} {sl : List Value} {XS : List Heap} {bs : List Nat} {l : Ents Int}
theorem WhIs.bsOk (h : WhIs now L sl XS bs l c turn) : ∀ z ∈ bs, z < 18446744073709551616 := fun z hz => by
  obtain ⟨n, hn, e⟩ := List.getElem_of_mem hz
  obtain ⟨z', h1, h2, _⟩ := h.busy n (by rw [h.row.bs] at hn; exact hn)
  rw [List.getElem?_eq_getElem hn, e] at h1
  obtain rfl := Option.some.inj h1
  exact h2
theorem WhIs.nxIs (h : WhIs now L sl XS bs l c turn) (hnow : now ≤ 18446744073709551615) : nx now bs 8 = leastT L := by
  rcases nx_least h hnow 8 (Nat.le_refl _) with ⟨h1, h2⟩ | ⟨a, h1, ⟨t, h2, h3, h4⟩, h5⟩
  · rw [h1]
    cases L with
    | nil => rfl
    | cons t L => have := h2 t List.mem_cons_self; have := (h.spot t List.mem_cons_self).1; omega
  · rw [h1, leastT_of ⟨t, h2, h4⟩ (fun u hu => h5 u hu (h.spot u hu).1)]
end
theorem WheelH.ids {bw now turn : Nat} {L : List Tm} {HW : Heap} (h : WheelH bw now L turn HW) : (L.map (·.id)).Nodup ∧ (∀ t ∈ L, 0 ≤ t.id ∧ t.id < 256) ∧ L.Pairwise (fun a b => a.turn < b.turn) ∧ L.length ≤ 256 := by
  cases h with
  | mk h => exact ⟨h.nodup, h.range, h.turns, h.len⟩
theorem WheelH.later {bw now turn : Nat} {L : List Tm} {HW : Heap} (h : WheelH bw now L turn HW) (hnow : now < 18446744073709551615) : ∀ t ∈ L, now < t.s.due := by
  cases h with
  | mk h =>
    intro t ht
    obtain ⟨num, _, e, h1, _⟩ := h.time t ht
    rw [e]; exact due_later hnow h1
theorem WheelH.now {bw now turn : Nat} {L : List Tm} {HW : Heap} (h : WheelH bw now L turn HW) : ∃ row HT, HW = (bw, .cells 186 523 row) :: HT ∧ row.length = 523 ∧ row[0]? = some (.int .u64 (now : Int)) ∧
    ∀ n2, now ≤ n2 → (∀ t ∈ L, n2 < t.s.due) → WheelH bw n2 L turn ((bw, .cells 186 523 (row.set 0 (.int .u64 (n2 : Int)))) :: HT) := by
  cases h with
  | mk h => exact ⟨_, _, rfl, wh_len h.row, wh_now, fun n2 h1 h2 => by rw [wh_setNow]; exact .mk (h.later h1 h2)⟩
theorem Next_W {w0 : World} {H HW : Heap} {bw now turn : Nat} {L : List Tm} (hT : Tab w0) (hW : WheelH bw now L turn HW) (hnow : now ≤ 18446744073709551615) :
    LCalls Tryd.prog w0 80 #[.pointer (some ⟨bw, 0, none⟩)] (HW ++ H) (fun v H' => v = .tuple #[.int .u64 (((leastT L).getD 0 : Nat) : Int), .bool (leastT L).isSome] ∧ H' = HW ++ H) := by
  cases hW with
  | @mk bm c sl XS bs l h =>
    have := Next_L (bm := bm) (turn := turn) (H := (bm, .obj (mapO (Value.int .i64) l c)) :: (XS.flatten ++ H)) h.row hnow h.bsOk hT (bw := bw)
    rw [h.nxIs hnow] at this
    exact this
def spotOf (L : List Tm) (id : Int) : Spot := match L.find? (fun t => decide (t.id = id)) with
  | some t => t.s
  | none => zSpot
theorem spotOf_in {L : List Tm} (h : (L.map (·.id)).Nodup) {t : Tm} (ht : t ∈ L) : spotOf L t.id = t.s := by
  unfold spotOf
  cases hf : L.find? (fun u => decide (u.id = t.id)) with
  | none => exact absurd (decide_eq_true rfl) (List.find?_eq_none.1 hf t ht)
  | some u =>
    have h1 := List.find?_some hf
    obtain rfl : u = t := tm_uniq h (List.mem_of_find?_eq_some hf) ht (of_decide_eq_true h1)
    rfl
theorem spotOf_out {L : List Tm} {id : Int} (h : id ∉ L.map (·.id)) : spotOf L id = zSpot := by
  unfold spotOf
  cases hf : L.find? (fun u => decide (u.id = id)) with
  | none => rfl
  | some u =>
    have h1 := List.find?_some hf
    have h2 : u.id = id := of_decide_eq_true h1
    exact absurd (h2 ▸ List.mem_map_of_mem (List.mem_of_find?_eq_some hf)) h
theorem due_W {w0 : World} {H HW : Heap} {bw now turn at_ : Nat} {L : List Tm} (hT : Tab w0) (hW : WheelH bw now L turn HW) (hnow : now ≤ 18446744073709551615) (hat : leastT L = some at_) :
    LCalls Tryd.prog w0 110 #[.pointer (some ⟨bw, 0, none⟩), .int .u64 ((at_ : Nat) : Int)] (HW ++ H) (fun v H' => ∃ XB, OwnS 3 1 v ((dueAt L at_).map (·.id)).length (((dueAt L at_).map (·.id)).map (Value.int .i64)) XB ∧ H' = XB ++ (HW ++ H)) := by
  cases hW with
  | @mk bm c sl XS bs l h =>
    obtain ⟨⟨t, ht, e⟩, h2⟩ := leastT_is hat
    have hperm := du_all h hnow h2
    have hpos : 0 < (duL now at_ bs L 8).length := by
      rw [hperm.length_eq]
      exact List.length_pos_of_mem (List.mem_map_of_mem (List.mem_filter.2 ⟨ht, decide_eq_true e⟩))
    refine (due_at (bm := bm) (H := H) h hnow h.bsOk hpos hT).mono ?_
    rintro v H' ⟨b, cap, d', rfl, hcap, hmax, hp, hs, rfl⟩
    obtain ⟨n1, n2⟩ := h.dueAsc at_
    obtain rfl := sorted_is (hp.trans hperm) n1 n2 hs
    exact ⟨_, .own (by rw [List.length_map, Nat.mul_one]) hcap hmax, rfl⟩
end Go.Proofs.YtkcaakkaioingaaDoor
namespace Go.Proofs.YtkcaakkaioingaaDoor
open Go Go.Sl
attribute [local irreducible] W
def ahead (a b : Tm) : Prop := a.s.due < b.s.due ∨ (a.s.due = b.s.due ∧ a.turn < b.turn)
structure ToS where
  nw : Nat
  Li : List Tm
  O : List Tm
  v : Value
  XO : Heap
  HW : Heap
structure Gone (now nw : Nat) (L Li O : List Tm) : Prop where
  le : now ≤ nw
  left : Li = L.filter (fun t => decide (nw < t.s.due))
  perm : O.Perm (L.filter (fun t => decide (t.s.due ≤ nw)))
  asc : O.Pairwise ahead
theorem Gone.start {now : Nat} {L : List Tm} (h : ∀ t ∈ L, now < t.s.due) : Gone now now L L [] where
  le := Nat.le_refl _
  left := (List.filter_eq_self.2 fun t ht => decide_eq_true (h t ht)).symm
  perm := by
    rw [List.filter_eq_nil_iff.2 (fun t ht => by have := h t ht; simp; omega)]
  asc := .nil
theorem Gone.len {now nw : Nat} {L Li O : List Tm} (h : Gone now nw L Li O) : O.length ≤ L.length := by
  rw [h.perm.length_eq]; exact List.length_filter_le _ _
theorem Gone.wait {now nw n2 : Nat} {L Li O : List Tm} (h : Gone now nw L Li O) (hn : nw ≤ n2) (hl : ∀ t ∈ Li, n2 < t.s.due) : Gone now n2 L Li O := by
  have hd : ∀ t ∈ L, nw < t.s.due → n2 < t.s.due := fun t ht h1 => hl t (by rw [h.left]; exact List.mem_filter.2 ⟨ht, decide_eq_true h1⟩)
  refine ⟨Nat.le_trans h.le hn, ?_, ?_, h.asc⟩
  · rw [h.left]
    exact List.filter_congr fun t ht => decide_eq_decide.2 ⟨hd t ht, fun h1 => by omega⟩
  · refine h.perm.trans ?_
    rw [List.filter_congr fun t ht => (decide_eq_decide.2 ⟨fun h1 => by omega, fun h1 => by
      by_cases c : nw < t.s.due
      · have := hd t ht c; omega
      · omega⟩ : decide (t.s.due ≤ nw) = decide (t.s.due ≤ n2))]
theorem dueAt_pairwise {Li : List Tm} {at_ : Nat} (h : Li.Pairwise (fun a b => a.turn < b.turn)) : (dueAt Li at_).Pairwise ahead := by
  have h1 : (dueAt Li at_).Pairwise (fun a b => a.turn < b.turn) := h.sublist List.filter_sublist
  refine List.Pairwise.imp_of_mem ?_ h1
  intro a b ha hb hab
  exact .inr ⟨by rw [of_decide_eq_true (List.mem_filter.1 ha).2, of_decide_eq_true (List.mem_filter.1 hb).2], hab⟩
theorem Gone.step {now nw at_ : Nat} {L Li O : List Tm} (h : Gone now nw L Li O) (hat : leastT Li = some at_) (hturn : Li.Pairwise (fun a b => a.turn < b.turn)) :
    Gone now at_ L (Li.filter (fun t => decide (t.s.due ≠ at_))) (O ++ dueAt Li at_) := by
  obtain ⟨⟨t0, ht0, e0⟩, hl⟩ := leastT_is hat
  have hnw : nw < at_ := by
    rw [h.left] at ht0
    have := of_decide_eq_true (List.mem_filter.1 ht0).2
    omega
  have hd : ∀ t ∈ L, nw < t.s.due → at_ ≤ t.s.due := fun t ht h1 => hl t (by rw [h.left]; exact List.mem_filter.2 ⟨ht, decide_eq_true h1⟩)
  refine ⟨Nat.le_trans h.le (Nat.le_of_lt hnw), ?_, ?_, ?_⟩
  · rw [h.left, List.filter_filter]
    refine List.filter_congr fun t ht => ?_
    rw [← Bool.decide_and]
    refine decide_eq_decide.2 ⟨fun ⟨h1, h2⟩ => ?_, fun h1 => ⟨by omega, by omega⟩⟩
    have := hd t ht h2; omega
  · refine (h.perm.append_right _).trans ?_
    have e : dueAt Li at_ = L.filter (fun t => decide (t.s.due = at_)) := by
      unfold dueAt
      rw [h.left, List.filter_filter]
      refine List.filter_congr fun t ht => ?_
      rw [← Bool.decide_and]
      exact decide_eq_decide.2 ⟨fun h1 => h1.1, fun h1 => ⟨h1, by omega⟩⟩
    rw [e]
    refine filter_or L fun t ht => ⟨?_, ?_⟩
    · simp only [decide_eq_true_eq]
      refine ⟨fun h1 => ?_, fun h1 => by omega⟩
      by_cases c : nw < t.s.due
      · have := hd t ht c; omega
      · omega
    · simp only [decide_eq_true_eq]; omega
  · rw [List.pairwise_append]
    refine ⟨h.asc, dueAt_pairwise hturn, fun a ha b hb => .inl ?_⟩
    have h1 := of_decide_eq_true (List.mem_filter.1 (h.perm.mem_iff.1 ha)).2
    have h2 := of_decide_eq_true (List.mem_filter.1 hb).2
    omega
theorem delsT_is (L : List Tm) : ∀ (l : List Int) (n : Nat), (l.foldl (fun (s : List Tm × Nat) id => (delT s.1 id, s.2 + if heldB s.1 id = true then 1 else 0)) (L, n)).1 = L.filter (fun t => decide (t.id ∉ l)) := by
  intro l
  induction l generalizing L with
  | nil => intro n; exact (List.filter_eq_self.2 fun t _ => by simp).symm
  | cons x l ih =>
    intro n
    rw [List.foldl_cons, ih]
    unfold delT
    rw [List.filter_filter]
    refine List.filter_congr fun t _ => ?_
    rw [← Bool.decide_and]
    exact decide_eq_decide.2 ⟨fun h h2 => (List.mem_cons.1 h2).elim h.2 h.1, fun h => ⟨fun h2 => h (List.mem_cons_of_mem _ h2), fun h2 => h (h2 ▸ List.mem_cons_self)⟩⟩
theorem dels_due {L : List Tm} {at_ : Nat} (hn : (L.map (·.id)).Nodup) : (delsT L ((dueAt L at_).map (·.id))).1 = L.filter (fun t => decide (t.s.due ≠ at_)) := by
  unfold delsT
  rw [delsT_is]
  refine List.filter_congr fun t ht => decide_eq_decide.2 ⟨fun h e => h (List.mem_map_of_mem (List.mem_filter.2 ⟨ht, decide_eq_true e⟩)), fun h e => ?_⟩
  obtain ⟨u, hu, e2⟩ := List.mem_map.1 e
  obtain rfl := tm_uniq hn (List.mem_filter.1 hu).1 ht e2
  exact h (of_decide_eq_true (List.mem_filter.1 hu).2)
theorem filter_lt {L : List Tm} {at_ : Nat} (h : leastT L = some at_) : (L.filter (fun t => decide (t.s.due ≠ at_))).length < L.length := by
  obtain ⟨⟨t, ht, e⟩, _⟩ := leastT_is h
  refine List.length_filter_lt_length_iff_exists.2 ⟨t, ht, ?_⟩
  simp [e]
set_option maxHeartbeats 1000000 in
theorem To_stay {w0 : World} {H : Heap} {bw now a : Nat} {row : List Value} {tot : Nat} (hw : (bw, .cells 186 tot row) ∈ H) (hr : row[0]? = some (.int .u64 (now : Int))) (hle : a ≤ now)  : PureAt Tryd.prog w0 H 73 [.pointer (some ⟨bw, 0, none⟩), .int .u64 ((a : Nat) : Int)] (.slice none 0 0) := by
  refine L_enter Tryd.func73 rfl Tryd.ntmps73 rfl rfl ?_
  refine W_sr ?_
  refine W_assign rfl rfl ?_
  refine W_nil ?_
  refine W_scope (fun _ _ _ h => h) ?_
  refine W_seq ?_
  refine W_sr ?_
  refine W_move rfl rfl ?_
  refine W_x (X_ptrNil rfl rfl ty140) (fun _ h => by cases h) rfl ?_
  refine W_move rfl rfl ?_
  refine W_gyes rfl rfl ?_
  refine W_move rfl rfl ?_
  refine W_gyes rfl rfl ?_
  refine W_move rfl rfl ?_
  refine W_gyes rfl rfl ?_
  refine W_nilCheck rfl rfl ?_
  refine W_gyes rfl rfl ?_
  refine W_fieldAddr rfl fld186_0 (by decide) rfl ?_
  refine W_gyes rfl rfl ?_
  refine W_load (v := .int .u64 (now : Int)) rfl ty28 rfl (Cell.own hw hr) rfl ?_
  refine W_gyes rfl rfl ?_
  refine W_bin rfl rfl b_leq rfl ?_
  first | refine W_pickt rfl rfl rfl ?_ | refine W_pickf rfl rfl rfl ?_
  refine W_nil ?_
  refine W_condT rfl (decide_eq_true (by omega)) ?_
  refine W_sr ?_
  refine W_assign rfl rfl ?_
  refine W_nil ?_
  refine W_ret1m (H2 := H) Tryd.results73 rfl (.nil _) zH ?_
  exact ⟨rfl, rfl⟩
set_option maxHeartbeats 1000000 in
theorem To_nilp {z : Int} : Pure Tryd.prog (fun _ => True) 73 [.pointer none, .int .u64 z] (.slice none 0 0) := by
  intro w0 H hT
  refine L_enter Tryd.func73 rfl Tryd.ntmps73 rfl rfl ?_
  refine W_sr ?_
  refine W_assign rfl rfl ?_
  refine W_nil ?_
  refine W_scope (fun _ _ _ h => h) ?_
  refine W_seq ?_
  refine W_sr ?_
  refine W_move rfl rfl ?_
  refine W_x (X_ptrNil rfl rfl ty140) (fun _ h => by cases h) rfl ?_
  refine W_move rfl rfl ?_
  refine W_gno rfl rfl rfl ?_
  refine W_gno rfl rfl rfl ?_
  refine W_gno rfl rfl rfl ?_
  refine W_gno rfl rfl rfl ?_
  refine W_gno rfl rfl rfl ?_
  refine W_gno rfl rfl rfl ?_
  first | refine W_pickt rfl rfl rfl ?_ | refine W_pickf rfl rfl rfl ?_
  refine W_nil ?_
  refine W_condT rfl rfl ?_
  refine W_sr ?_
  refine W_assign rfl rfl ?_
  refine W_nil ?_
  refine W_ret1m (H2 := H) Tryd.results73 rfl (.nil _) zH ?_
  exact ⟨rfl, rfl⟩
set_option maxHeartbeats 4000000 in
theorem To_L {w0 : World} {H : Heap} {HW : Heap} {bw now turn a : Nat} {L : List Tm} (hW : WheelH bw now L turn HW) (hlt : now < a) (ha : a ≤ 18446744073709551615) (hT : Tab w0) : LCalls Tryd.prog w0 73 #[.pointer (some ⟨bw, 0, none⟩), .int .u64 ((a : Nat) : Int)] (HW ++ H) (fun v H' => ∃ O Li HW' XO, WheelH bw a Li turn HW' ∧ Gone now a L Li O ∧ OwnS 3 1 v O.length ((O.map (·.id)).map (Value.int .i64)) XO ∧ H' = XO ++ (HW' ++ H)) := by
  obtain ⟨row0, HT0, rfl, hrl0, hr0, _⟩ := hW.now
  refine L_enter (l := [.pointer (some ⟨bw, 0, none⟩), .int .u64 ((a : Nat) : Int)]) Tryd.func73 rfl Tryd.ntmps73 rfl rfl ?_
  refine W_sr ?_
  refine W_assign rfl rfl ?_
  refine W_nil ?_
  refine W_scope (fun _ _ _ h => h) ?_
  refine W_seq ?_
  refine W_sr ?_
  refine W_move rfl rfl ?_
  refine W_x (X_ptrNil rfl rfl ty140) (fun _ h => by cases h) rfl ?_
  refine W_move rfl rfl ?_
  refine W_gyes rfl rfl ?_
  refine W_move rfl rfl ?_
  refine W_gyes rfl rfl ?_
  refine W_move rfl rfl ?_
  refine W_gyes rfl rfl ?_
  refine W_nilCheck rfl rfl ?_
  refine W_gyes rfl rfl ?_
  refine W_fieldAddr rfl fld186_0 (by decide) rfl ?_
  refine W_gyes rfl rfl ?_
  refine W_load (v := .int .u64 (now : Int)) rfl ty28 rfl (Cell.own (b := bw) zM hr0) rfl ?_
  refine W_gyes rfl rfl ?_
  refine W_bin rfl rfl b_leq rfl ?_
  first | refine W_pickt rfl rfl rfl ?_ | refine W_pickf rfl rfl rfl ?_
  refine W_nil ?_
  refine W_condF rfl (decide_eq_false (by omega)) ?_
  refine W_skip ?_
  refine W_sr ?_
  refine W_assign rfl rfl ?_
  refine W_nil ?_
  refine W_seq ?_
  refine W_label ?_
  refine W_seq ?_
  refine W_block ?_
  refine W_loopC (X := ToS) [(0, _), (1, _)] (fun (x : ToS) => [(5, x.v)]) (fun _ => _) (fun (x : ToS) => x.XO ++ (x.HW ++ H)) (fun (x : ToS) => (WheelH bw x.nw x.Li turn x.HW ∧ Gone now x.nw L x.Li x.O) ∧ x.nw ≤ a ∧ OwnS 3 1 x.v x.O.length ((x.O.map (·.id)).map (Value.int .i64)) x.XO) (fun (x : ToS) => x.Li.length) ⟨now, L, [], .slice none 0 0, [], (bw, .cells 186 523 row0) :: HT0⟩ ⟨⟨hW, Gone.start (hW.later (by omega))⟩, by show now ≤ a; omega, OwnS.nil⟩ (sub_cons rfl (sub_cons rfl (sub_nil _))) (sub_cons rfl (sub_nil _)) rfl (.refl _) ?_
  rintro ⟨nw, Li, O, v, XO, HWi⟩ ⟨hI, hna, hO⟩
  dsimp only at hI hna hO ⊢
  have hOl := hI.2.len
  have hLl : L.length ≤ 256 := hW.ids.2.2.2
  simp only [List.cons_append, List.nil_append]
  refine W_block ?_
  refine W_sr ?_
  refine W_move rfl rfl ?_
  obtain ⟨hW0, hG⟩ := hI
  have hids := hW0.ids
  have hnw : nw ≤ 18446744073709551615 := by omega
  refine W_call (.cons rfl .nil) Tryd.call80 rfl ((Next_W hT hW0 hnw (H := XO ++ H)).hsub zH) ?_
  rintro v' H' ⟨rfl, rfl⟩
  rcases hat : leastT Li with _ | at_
  · skip
    refine W_move rfl rfl ?_
    refine W_extract rfl rfl rfl ?_
    refine W_extract rfl rfl rfl ?_
    refine W_assign rfl rfl ?_
    refine W_assign rfl rfl ?_
    refine W_nil ?_
    refine W_seq ?_
    refine W_sr ?_
    refine W_move rfl rfl ?_
    refine W_not rfl rfl ?_
    refine W_move rfl rfl ?_
    refine W_gno rfl rfl rfl ?_
    refine W_gno rfl rfl rfl ?_
    refine W_gno rfl rfl rfl ?_
    first | refine W_pickt rfl rfl rfl ?_ | refine W_pickf rfl rfl rfl ?_
    refine W_nil ?_
    refine W_condT rfl rfl ?_
    refine W_exit rfl ?_
    refine W_sr ?_
    have hfin : ∀ t ∈ Li, a < t.s.due := by rw [leastT_none.1 hat]; intro t ht; cases ht
    obtain ⟨row, HT, rfl, hrl, hr0, hlat⟩ := hW0.now
    have hW2 := hlat a hna hfin
    have hG2 := hG.wait hna hfin
    refine W_hsub (H' := XO ++ ((bw, .cells 186 523 row) :: (HT ++ H))) (show HSub (((bw, .cells 186 523 row) :: HT) ++ (XO ++ H)) _ from (show HSub ((bw, .cells 186 523 row) :: (HT ++ (XO ++ H))) _ from zH)) ?_
    refine W_move rfl rfl ?_
    refine W_move rfl rfl ?_
    refine W_nilCheck rfl rfl ?_
    refine W_fieldAddr rfl fld186_0 (by decide) rfl ?_
    refine W_store (l' := (row.set 0 (.int .u64 (a : Int)))) rfl rfl ty28 rfl rfl (b := bw) zM (by rw [hrl]; rfl) rfl zU ?_
    refine W_nil ?_
    refine W_sr ?_
    refine W_move rfl rfl ?_
    refine W_assign rfl rfl ?_
    refine W_nil ?_
    refine W_ret1m (H2 := XO ++ ((bw, .cells 186 523 (row.set 0 (.int .u64 (a : Int)))) :: (HT ++ H))) Tryd.results73 rfl (.nil _) zH ?_
    exact ⟨O, Li, _, XO, hW2, hG2, hO, rfl⟩
  · skip
    refine W_move rfl rfl ?_
    refine W_extract rfl rfl rfl ?_
    refine W_extract rfl rfl rfl ?_
    refine W_assign rfl rfl ?_
    refine W_assign rfl rfl ?_
    refine W_nil ?_
    refine W_seq ?_
    refine W_sr ?_
    refine W_move rfl rfl ?_
    refine W_not rfl rfl ?_
    refine W_move rfl rfl ?_
    refine W_gyes rfl rfl ?_
    refine W_move rfl rfl ?_
    refine W_gyes rfl rfl ?_
    refine W_move rfl rfl ?_
    refine W_gyes rfl rfl ?_
    refine W_bin rfl rfl b_gtr rfl ?_
    first | refine W_pickt rfl rfl rfl ?_ | refine W_pickf rfl rfl rfl ?_
    refine W_nil ?_
    refine W_condPS (p := a < at_) rfl (by simp) (fun q0 => ?_) (fun q0 => ?_)
    · skip
      refine W_exit rfl ?_
      refine W_sr ?_
      have hfin : ∀ t ∈ Li, a < t.s.due := fun t ht => by have := (leastT_is hat).2 t ht; omega
      obtain ⟨row, HT, rfl, hrl, hr0, hlat⟩ := hW0.now
      have hW2 := hlat a hna hfin
      have hG2 := hG.wait hna hfin
      refine W_hsub (H' := XO ++ ((bw, .cells 186 523 row) :: (HT ++ H))) (show HSub (((bw, .cells 186 523 row) :: HT) ++ (XO ++ H)) _ from (show HSub ((bw, .cells 186 523 row) :: (HT ++ (XO ++ H))) _ from zH)) ?_
      refine W_move rfl rfl ?_
      refine W_move rfl rfl ?_
      refine W_nilCheck rfl rfl ?_
      refine W_fieldAddr rfl fld186_0 (by decide) rfl ?_
      refine W_store (l' := (row.set 0 (.int .u64 (a : Int)))) rfl rfl ty28 rfl rfl (b := bw) zM (by rw [hrl]; rfl) rfl zU ?_
      refine W_nil ?_
      refine W_sr ?_
      refine W_move rfl rfl ?_
      refine W_assign rfl rfl ?_
      refine W_nil ?_
      refine W_ret1m (H2 := XO ++ ((bw, .cells 186 523 (row.set 0 (.int .u64 (a : Int)))) :: (HT ++ H))) Tryd.results73 rfl (.nil _) zH ?_
      exact ⟨O, Li, _, XO, hW2, hG2, hO, rfl⟩
    · skip
      refine W_skip ?_
      refine W_sr ?_
      refine W_move rfl rfl ?_
      refine W_move rfl rfl ?_
      refine W_call (.cons rfl (.cons rfl .nil)) Tryd.call110 rfl (due_W hT hW0 hnw hat) ?_
      rintro vd H' ⟨XB, hB, rfl⟩
      obtain ⟨ads, caps, rfl, _, _⟩ := hB.shape
      have hdl : (dueAt Li at_).length ≤ Li.length := List.length_filter_le _ _
      refine W_assign rfl rfl ?_
      refine W_nil ?_
      refine W_sr ?_
      refine W_move rfl rfl ?_
      refine W_move rfl rfl ?_
      have hrow : Holds w0 (XB ++ (XO ++ H)) ads (((dueAt Li at_).map (·.id)).map (Value.int .i64)) := OwnS.holds hB (fun p hp => List.mem_append_left _ hp)
      have hdn : ((dueAt Li at_).map (·.id)).length ≤ 4611686018427387904 := by rw [List.length_map]; omega
      have hDL := Del_L (cap := caps) hW0 hdn hrow
      have hDL2 := hDL.hsub (show HSub (XB ++ (HWi ++ (XO ++ H))) _ from zH)
      refine W_call (.cons rfl (.cons rfl .nil)) Tryd.call71 rfl hDL2 ?_
      rintro v' H' ⟨HW1, hW1, rfl, rfl⟩
      rw [dels_due hids.1] at hW1
      obtain ⟨row, HT, rfl, hrl, hr0, hlat⟩ := hW1.now
      have hG2 := hG.step hat hids.2.2.1
      have hnat : nw ≤ at_ := by
        obtain ⟨⟨t0, ht0, e0⟩, _⟩ := leastT_is hat
        rw [hG.left] at ht0
        have := of_decide_eq_true (List.mem_filter.1 ht0).2
        omega
      have hat2 : ∀ t ∈ Li.filter (fun t => decide (t.s.due ≠ at_)), at_ < t.s.due := fun t ht => by
        rw [hG2.left] at ht
        exact of_decide_eq_true (List.mem_filter.1 ht).2
      have hW2 := hlat at_ hnat hat2
      refine W_hsub (H' := (bw, .cells 186 523 row) :: (HT ++ (XB ++ (XO ++ H)))) (.refl _) ?_
      refine W_nil ?_
      refine W_sr ?_
      refine W_move rfl rfl ?_
      refine W_move rfl rfl ?_
      refine W_nilCheck rfl rfl ?_
      refine W_fieldAddr rfl fld186_0 (by decide) rfl ?_
      refine W_store (l' := (row.set 0 (.int .u64 (at_ : Int)))) rfl rfl ty28 rfl rfl (b := bw) zM (by rw [hrl]; rfl) rfl zU ?_
      refine W_nil ?_
      refine W_region ?_
      refine W_move rfl rfl ?_
      refine W_move rfl rfl ?_
      refine W_append (news := ((dueAt Li at_).map (·.id)).map (Value.int .i64)) (m := ((dueAt Li at_).map (·.id)).length) (HB := XO) (H0 := (bw, .cells 186 523 (row.set 0 (.int .u64 (at_ : Int)))) :: (HT ++ (XB ++ H))) rfl rfl ty58 ty3 rfl (by decide) hO (by rw [List.length_map, Nat.mul_one]) (OwnS.holds hB (fun p hp => List.mem_cons_of_mem _ (List.mem_append_right _ (List.mem_append_left _ hp)))) (by rw [List.all_eq_true]; intro u hu; obtain ⟨q, _, rfl⟩ := List.mem_map.1 hu; rfl) (by rw [List.length_map]; simp only [maxLen]; omega) (by rw [List.length_map]; omega) zH rfl (fun v' X' hO' => ?_)
      refine W_assign rfl rfl ?_
      refine W_nil ?_
      refine W_blk ?_
      refine W_again ⟨at_, Li.filter (fun t => decide (t.s.due ≠ at_)), O ++ dueAt Li at_, v', X', (bw, .cells 186 523 (row.set 0 (.int .u64 (at_ : Int)))) :: HT⟩ ⟨⟨hW2, hG2⟩, by show at_ ≤ a; omega, by show OwnS 3 1 v' (O ++ dueAt Li at_).length (((O ++ dueAt Li at_).map (·.id)).map (Value.int .i64)) X'; rw [List.map_append, List.map_append, List.length_append]; rw [List.length_map] at hO'; exact hO'⟩ (filter_lt hat) (sub_cons rfl (sub_cons rfl (sub_cons rfl (sub_nil _)))) rfl (show HSub _ (X' ++ ((bw, .cells 186 523 (row.set 0 (.int .u64 (at_ : Int)))) :: (HT ++ H))) from zH)
end Go.Proofs.YtkcaakkaioingaaDoor
namespace Go.Proofs.YtkcaakkaioingaaDoor
open Go Go.Sl
attribute [local irreducible] W
instance : DecidableEq Tm := fun a b => by
  cases a; cases b
  rename_i i s t i2 s2 t2
  exact if h : i = i2 ∧ s = s2 ∧ t = t2 then isTrue (by obtain ⟨rfl, rfl, rfl⟩ := h; rfl) else isFalse (fun e => h (by cases e; exact ⟨rfl, rfl, rfl⟩))
instance (a b : Tm) : Decidable (ahead a b) := inferInstanceAs (Decidable (_ ∨ _))
theorem ahead_unique : ∀ {a b : List Tm}, a.Perm b → a.Pairwise ahead → b.Pairwise ahead → a = b
  | [], b, hp, _, _ => (List.Perm.nil_eq hp)
  | x :: a, b, hp, ha, hb => by
    cases b with
    | nil => exact absurd hp.length_eq (by simp)
    | cons y b =>
      have ha' := List.pairwise_cons.1 ha
      have hb' := List.pairwise_cons.1 hb
      have hxy : x = y := by
        rcases List.mem_cons.1 (hp.mem_iff.1 List.mem_cons_self) with h | h
        · exact h
        · rcases List.mem_cons.1 (hp.mem_iff.2 List.mem_cons_self) with h' | h'
          · exact h'.symm
          · have h1 := hb'.1 x h; have h2 := ha'.1 y h'
            unfold ahead at h1 h2; omega
      subst hxy
      rw [ahead_unique (List.Perm.cons_inv hp) ha'.2 hb'.2]
theorem Gone.is {now nw : Nat} {L Li O O' : List Tm} (h : Gone now nw L Li O) (hp : O'.Perm (L.filter (fun t => decide (t.s.due ≤ nw)))) (ha : O'.Pairwise ahead) : O = O' := ahead_unique (h.perm.trans hp.symm) h.asc ha
set_option maxHeartbeats 1000000 in
theorem same_q {w0 : World} {H : Heap} {l r : List Int} {a1 a2 : Option Addr} {c1 c2 : Nat} (hl : Holds w0 H a1 (l.map (Value.int .i64))) (hr : Holds w0 H a2 (r.map (Value.int .i64))) (hn : l.length ≤ 4611686018427387904)  : PureAt Tryd.prog w0 H 33 [.slice a1 l.length c1, .slice a2 r.length c2] (.bool (decide (l = r))) := by
  refine L_enter Tryd.func33 rfl Tryd.ntmps33 rfl rfl ?_
  refine W_sr ?_
  refine W_assign rfl rfl ?_
  refine W_nil ?_
  refine W_seq ?_
  refine W_sr ?_
  refine W_move rfl rfl ?_
  refine W_len rfl ty58 rfl rfl ?_
  refine W_move rfl rfl ?_
  refine W_len rfl ty58 rfl rfl ?_
  refine W_bin rfl rfl b_neq rfl ?_
  refine W_nil ?_
  refine W_condPS (p := (l.length : Int) ≠ (r.length : Int)) rfl (by simp) (fun q0 => ?_) (fun q0 => ?_)
  · skip
    refine W_sr ?_
    refine W_assign rfl rfl ?_
    refine W_nil ?_
    refine W_ret1m (H2 := H) Tryd.results33 rfl (.nil _) zH ?_
    exact ⟨by rw [decide_eq_false (fun e => q0 (by rw [e]))], rfl⟩
  · skip
    refine W_skip ?_
    refine W_seq ?_
    refine W_sr ?_
    refine W_assign rfl rfl ?_
    refine W_nil ?_
    refine W_block ?_
    have hlen : l.length = r.length := by omega
    refine W_loopC (X := Nat) [(0, _), (1, _)] (fun (i : Nat) => [(5, .int .i64 (i : Int))]) (fun _ => _) (fun (i : Nat) => H) (fun (i : Nat) => i ≤ l.length ∧ l.take i = r.take i) (fun (i : Nat) => l.length - i) 0 ⟨Nat.zero_le _, rfl⟩ (sub_cons rfl (sub_cons rfl (sub_nil _))) (sub_cons rfl (sub_nil _)) rfl zH ?_
    rintro i ⟨hi, heq⟩
    simp only [List.cons_append, List.nil_append]
    refine W_seq ?_
    refine W_sr ?_
    refine W_move rfl rfl ?_
    refine W_move rfl rfl ?_
    refine W_len rfl ty58 rfl rfl ?_
    refine W_bin rfl rfl b_lss rfl ?_
    refine W_nil ?_
    refine W_condPS (p := (i : Int) < (l.length : Int)) rfl (by simp) (fun q1 => ?_) (fun q1 => ?_)
    · skip
      refine W_skip ?_
      refine W_seq ?_
      refine W_block ?_
      refine W_quietsr (by kernel_rfl) (by decide +kernel) ?_
      obtain ⟨x, hx⟩ : ∃ x, l[i]? = some x := ⟨_, List.getElem?_eq_getElem (by omega)⟩
      obtain ⟨q0, p0, rfl, hc⟩ := hl.at (i := i) (v := .int .i64 x) (by rw [List.getElem?_map, hx]; rfl)
      obtain ⟨y, hy⟩ : ∃ y, r[i]? = some y := ⟨_, List.getElem?_eq_getElem (by omega)⟩
      obtain ⟨q1, p1, rfl, hc'⟩ := hr.at (i := i) (v := .int .i64 y) (by rw [List.getElem?_map, hy]; rfl)
      refine WQ_x (X_move rfl) rfl ?_
      refine WQ_x (X_move rfl) rfl ?_
      refine WQ_x (X_indexAddr (j := i) rfl rfl ty58 ty3 rfl (by omega) rfl) rfl ?_
      refine WQ_x (X_load (v := .int .i64 x) rfl ty3 rfl (by rw [Nat.mul_one]; exact hc.up zH)) rfl ?_
      refine WQ_x (X_move rfl) rfl ?_
      refine WQ_x (X_move rfl) rfl ?_
      refine WQ_x (X_indexAddr (j := i) rfl rfl ty58 ty3 rfl (by omega) rfl) rfl ?_
      refine WQ_x (X_load (v := .int .i64 y) rfl ty3 rfl (by rw [Nat.mul_one]; exact hc'.up zH)) rfl ?_
      refine WQ_x (X_bin rfl rfl b_neq) rfl ?_
      refine WQ_nil ?_
      refine W_condPS (p := ¬ x = y) rfl (by simp) (fun q2 => ?_) (fun q2 => ?_)
      · skip
        refine W_sr ?_
        refine W_assign rfl rfl ?_
        refine W_nil ?_
        refine W_ret1m (H2 := H) Tryd.results33 rfl (.nil _) zH ?_
        exact ⟨by rw [decide_eq_false (fun e => q2 (by rw [e, hy] at hx; exact (Option.some.inj hx).symm))], rfl⟩
      · skip
        refine W_skip ?_
        refine W_blk ?_
        refine W_region ?_
        refine W_move rfl rfl ?_
        refine W_bin rfl rfl (b_add (m := ((i + 1 : Nat) : Int)) ((i64w (by omega)).trans (by omega))) rfl ?_
        refine W_assign rfl rfl ?_
        refine W_nil ?_
        refine W_again (i + 1) ⟨by omega, by rw [takeAt hx, takeAt hy, heq, Classical.not_not.1 q2]⟩ (by omega) (sub_cons rfl (sub_cons rfl (sub_cons rfl (sub_nil _)))) rfl zH
    · skip
      refine W_exit rfl ?_
      refine W_sr ?_
      refine W_assign rfl rfl ?_
      refine W_nil ?_
      refine W_ret1m (H2 := H) Tryd.results33 rfl (.nil _) zH ?_
      obtain rfl : i = l.length := by omega
      exact ⟨by rw [decide_eq_true (by rwa [List.take_length, hlen, List.take_length] at heq)], rfl⟩
end Go.Proofs.YtkcaakkaioingaaDoor
namespace Go.Proofs.YtkcaakkaioingaaDoor
open Go Go.Sl
attribute [local irreducible] W
theorem To_any {w0 : World} {H HW : Heap} {bw now turn a : Nat} {L : List Tm} (hT : Tab w0) (hW : WheelH bw now L turn HW) (hd : ∀ t ∈ L, now < t.s.due) (ha : a ≤ 18446744073709551615) :
    LCalls Tryd.prog w0 73 #[.pointer (some ⟨bw, 0, none⟩), .int .u64 ((a : Nat) : Int)] (HW ++ H) (fun v H' => ∃ O Li HW' XO, WheelH bw (max now a) Li turn HW' ∧ Gone now (max now a) L Li O ∧ OwnS 3 1 v O.length ((O.map (·.id)).map (Value.int .i64)) XO ∧ H' = XO ++ (HW' ++ H)) := by
  by_cases h : a ≤ now
  · obtain ⟨row, HT, rfl, _, hr0, _⟩ := hW.now
    have := To_stay (w0 := w0) (H := ((bw, .cells 186 523 row) :: HT) ++ H) (now := now) (row := row) (tot := 523) zM hr0 h
    refine LCalls.mono this ?_
    rintro v H' ⟨rfl, rfl⟩
    rw [Nat.max_eq_left h]
    exact ⟨[], L, _, [], hW, Gone.start hd, .nil, rfl⟩
  · have e : max now a = a := Nat.max_eq_right (by omega)
    rw [e]
    exact To_L hW (by omega) ha hT
theorem Gone.trans {now m n : Nat} {L Lm Li O1 O2 : List Tm} (h1 : Gone now m L Lm O1) (h2 : Gone m n Lm Li O2) : Gone now n L Li (O1 ++ O2) := by
  have hle := h2.le
  refine ⟨Nat.le_trans h1.le h2.le, ?_, ?_, ?_⟩
  · rw [h2.left, h1.left, List.filter_filter]
    refine List.filter_congr fun t _ => ?_
    rw [← Bool.decide_and]
    exact decide_eq_decide.2 ⟨fun h => h.1, fun h => ⟨h, by omega⟩⟩
  · have e := h2.perm
    rw [h1.left, List.filter_filter] at e
    refine (h1.perm.append e).trans (filter_or L fun t _ => ?_)
    simp only [decide_eq_true_eq, Bool.and_eq_true]
    omega
  · rw [List.pairwise_append]
    refine ⟨h1.asc, h2.asc, fun a ha b hb => .inl ?_⟩
    have e1 := of_decide_eq_true (List.mem_filter.1 (h1.perm.mem_iff.1 ha)).2
    have hb2 := (List.mem_filter.1 (h2.perm.mem_iff.1 hb)).1
    rw [h1.left] at hb2
    have e2 := of_decide_eq_true (List.mem_filter.1 hb2).2
    omega
theorem Gone.ahead {now nw : Nat} {L Li O : List Tm} (h : Gone now nw L Li O) : ∀ t ∈ Li, nw < t.s.due := fun t ht => by
  rw [h.left] at ht
  exact of_decide_eq_true (List.mem_filter.1 ht).2
theorem Gone.same {now nw : Nat} {L La Lb Oa Ob : List Tm} (ha : Gone now nw L La Oa) (hb : Gone now nw L Lb Ob) : La = Lb ∧ Oa = Ob :=
  ⟨ha.left.trans hb.left.symm, ahead_unique (ha.perm.trans hb.perm.symm) ha.asc hb.asc⟩
end Go.Proofs.YtkcaakkaioingaaDoor
namespace Go.Proofs.YtkcaakkaioingaaDoor
open Go Go.Sl
attribute [local irreducible] W
set_option maxHeartbeats 1000000 in
theorem rAdd_pure {a b : Nat} (ha : a ≤ 18446744073709551615) (hb : b ≤ 18446744073709551615) : Pure Tryd.prog (fun _ => True) 151 [.int .u64 ((a : Nat) : Int), .int .u64 ((b : Nat) : Int)] (.tuple #[.int .u64 (addT a b : Nat), .bool (addOk a b)]) := by
  intro w0 H hT
  refine L_enter Tryd.func151 rfl Tryd.ntmps151 rfl rfl ?_
  refine W_sr ?_
  refine W_assign rfl rfl ?_
  refine W_assign rfl rfl ?_
  refine W_nil ?_
  refine W_sr ?_
  refine W_move rfl rfl ?_
  refine W_bin rfl rfl (b_rem (by decide) (m := ((a % 4294967296 : Nat) : Int)) (tmN _ 4294967296)) rfl ?_
  refine W_move rfl rfl ?_
  refine W_bin rfl rfl (b_rem (by decide) (m := ((b % 4294967296 : Nat) : Int)) (tmN _ 4294967296)) rfl ?_
  refine W_bin rfl rfl (b_add (m := (((a % 4294967296 + b % 4294967296) : Nat) : Int)) (by rw [u64w ⟨by omega, by omega⟩]; omega)) rfl ?_
  refine W_assign rfl rfl ?_
  refine W_nil ?_
  refine W_sr ?_
  refine W_move rfl rfl ?_
  refine W_bin rfl rfl (b_quo (by decide) (m := ((a / 4294967296 : Nat) : Int)) (by rw [show ((a : Nat) : Int).tdiv 4294967296 = ((a / 4294967296 : Nat) : Int) from tdN _ 4294967296]; exact u64w ⟨by omega, by omega⟩)) rfl ?_
  refine W_move rfl rfl ?_
  refine W_bin rfl rfl (b_quo (by decide) (m := ((b / 4294967296 : Nat) : Int)) (by rw [show ((b : Nat) : Int).tdiv 4294967296 = ((b / 4294967296 : Nat) : Int) from tdN _ 4294967296]; exact u64w ⟨by omega, by omega⟩)) rfl ?_
  refine W_bin rfl rfl (b_add (m := (((a / 4294967296 + b / 4294967296) : Nat) : Int)) (by rw [u64w ⟨by omega, by omega⟩]; omega)) rfl ?_
  refine W_move rfl rfl ?_
  refine W_bin rfl rfl (b_quo (by decide) (m := (((a % 4294967296 + b % 4294967296) / 4294967296 : Nat) : Int)) (by rw [show (((a % 4294967296 + b % 4294967296) : Nat) : Int).tdiv 4294967296 = (((a % 4294967296 + b % 4294967296) / 4294967296 : Nat) : Int) from tdN _ 4294967296]; exact u64w ⟨by omega, by omega⟩)) rfl ?_
  refine W_bin rfl rfl (b_add (m := (((a / 4294967296 + b / 4294967296 + (a % 4294967296 + b % 4294967296) / 4294967296) : Nat) : Int)) (by rw [u64w ⟨by omega, by omega⟩]; omega)) rfl ?_
  refine W_assign rfl rfl ?_
  refine W_nil ?_
  refine W_seq ?_
  refine W_sr ?_
  refine W_move rfl rfl ?_
  refine W_bin rfl rfl b_geq rfl ?_
  refine W_nil ?_
  refine W_condPS (p := 4294967296 ≤ (a / 4294967296 + b / 4294967296 + (a % 4294967296 + b % 4294967296) / 4294967296)) rfl (by rw [decide_eq_true_eq]; omega) (fun q0 => ?_) (fun q0 => ?_)
  · skip
    refine W_sr ?_
    refine W_assign rfl rfl ?_
    refine W_assign rfl rfl ?_
    refine W_nil ?_
    refine W_ret2m (H2 := H) Tryd.results151 rfl rfl (.nil _) zH ?_
    exact ⟨by rw [show addT a b = 18446744073709551615 from if_pos (by omega), show addOk a b = false from by unfold addOk; rw [decide_eq_true (by omega)]; rfl]; rfl, rfl⟩
  · skip
    refine W_skip ?_
    refine W_sr ?_
    refine W_move rfl rfl ?_
    refine W_bin rfl rfl (b_mul (m := (((a / 4294967296 + b / 4294967296 + (a % 4294967296 + b % 4294967296) / 4294967296) * 4294967296 : Nat) : Int)) (by rw [u64w ⟨by omega, by omega⟩]; omega)) rfl ?_
    refine W_move rfl rfl ?_
    refine W_bin rfl rfl (b_rem (by decide) (m := (((a % 4294967296 + b % 4294967296) % 4294967296 : Nat) : Int)) (tmN _ 4294967296)) rfl ?_
    refine W_bin rfl rfl (b_add (m := (((a + b) : Nat) : Int)) (by rw [u64w ⟨by omega, by omega⟩]; omega)) rfl ?_
    refine W_assign rfl rfl ?_
    refine W_assign rfl rfl ?_
    refine W_nil ?_
    refine W_ret2m (H2 := H) Tryd.results151 rfl rfl (.nil _) zH ?_
    exact ⟨by rw [show addT a b = a + b from if_neg (by omega), show addOk a b = true from by unfold addOk; rw [decide_eq_false (by omega)]; rfl], rfl⟩
set_option maxHeartbeats 1000000 in
theorem rClamp_pure {a b h : Nat} (ha : a ≤ 18446744073709551615) (hb : b ≤ 18446744073709551615) (hh : h ≤ 18446744073709551615) : Pure Tryd.prog (fun _ => True) 126 [.int .u64 ((a : Nat) : Int), .int .u64 ((b : Nat) : Int), .int .u64 ((h : Nat) : Int)] (.int .u64 ((clampT a b h : Nat) : Int)) := by
  intro w0 H hT
  refine L_enter Tryd.func126 rfl Tryd.ntmps126 rfl rfl ?_
  refine W_sr ?_
  refine W_assign rfl rfl ?_
  refine W_nil ?_
  refine W_sr ?_
  refine W_move rfl rfl ?_
  refine W_callp (.cons rfl (.cons rfl .nil)) Tryd.call151 rfl (T := fun _ => True) trivial (rAdd_pure (b := 1) ha (by decide)) ?_
  obtain ⟨lo, hlo⟩ : ∃ lo, lo = addT a 1 := ⟨_, rfl⟩
  rw [← hlo]
  refine W_move rfl rfl ?_
  refine W_extract rfl rfl rfl ?_
  refine W_extract rfl rfl rfl ?_
  refine W_assign rfl rfl ?_
  refine W_assign rfl rfl ?_
  refine W_nil ?_
  refine W_sr ?_
  refine W_move rfl rfl ?_
  refine W_move rfl rfl ?_
  refine W_callp (.cons rfl (.cons rfl .nil)) Tryd.call151 rfl (T := fun _ => True) trivial (rAdd_pure (b := h) ha hh) ?_
  obtain ⟨hi, hhi⟩ : ∃ hi, hi = addT a h := ⟨_, rfl⟩
  rw [← hhi]
  refine W_move rfl rfl ?_
  refine W_extract rfl rfl rfl ?_
  refine W_extract rfl rfl rfl ?_
  refine W_assign rfl rfl ?_
  refine W_assign rfl rfl ?_
  refine W_nil ?_
  refine W_seq ?_
  refine W_sr ?_
  refine W_move rfl rfl ?_
  refine W_move rfl rfl ?_
  refine W_bin rfl rfl b_lss rfl ?_
  refine W_nil ?_
  refine W_condPS (p := b < lo) rfl (by rw [decide_eq_true_eq]; omega) (fun q0 => ?_) (fun q0 => ?_)
  · skip
    refine W_region ?_
    refine W_move rfl rfl ?_
    refine W_assign rfl rfl ?_
    refine W_nil ?_
    refine W_seq ?_
    refine W_sr ?_
    refine W_move rfl rfl ?_
    refine W_move rfl rfl ?_
    refine W_bin rfl rfl b_gtr rfl ?_
    refine W_nil ?_
    refine W_condPS (p := hi < lo) rfl (by rw [decide_eq_true_eq]; omega) (fun q1 => ?_) (fun q1 => ?_)
    · skip
      refine W_region ?_
      refine W_move rfl rfl ?_
      refine W_assign rfl rfl ?_
      refine W_nil ?_
      refine W_sr ?_
      refine W_move rfl rfl ?_
      refine W_assign rfl rfl ?_
      refine W_nil ?_
      refine W_ret1m (H2 := H) Tryd.results126 rfl (.nil _) zH ?_
      have hcl : clampT a b h = hi := by show min (max b (addT a 1)) (addT a h) = _; rw [← hlo, ← hhi]; omega
      refine ⟨?_, rfl⟩
      rw [hcl]
      first | done | rfl
    · skip
      refine W_skip ?_
      refine W_sr ?_
      refine W_move rfl rfl ?_
      refine W_assign rfl rfl ?_
      refine W_nil ?_
      refine W_ret1m (H2 := H) Tryd.results126 rfl (.nil _) zH ?_
      have hcl : clampT a b h = lo := by show min (max b (addT a 1)) (addT a h) = _; rw [← hlo, ← hhi]; omega
      refine ⟨?_, rfl⟩
      rw [hcl]
      first | done | rfl
  · skip
    refine W_skip ?_
    refine W_seq ?_
    refine W_sr ?_
    refine W_move rfl rfl ?_
    refine W_move rfl rfl ?_
    refine W_bin rfl rfl b_gtr rfl ?_
    refine W_nil ?_
    refine W_condPS (p := hi < b) rfl (by rw [decide_eq_true_eq]; omega) (fun q1 => ?_) (fun q1 => ?_)
    · skip
      refine W_region ?_
      refine W_move rfl rfl ?_
      refine W_assign rfl rfl ?_
      refine W_nil ?_
      refine W_sr ?_
      refine W_move rfl rfl ?_
      refine W_assign rfl rfl ?_
      refine W_nil ?_
      refine W_ret1m (H2 := H) Tryd.results126 rfl (.nil _) zH ?_
      have hcl : clampT a b h = hi := by show min (max b (addT a 1)) (addT a h) = _; rw [← hlo, ← hhi]; omega
      refine ⟨?_, rfl⟩
      rw [hcl]
      first | done | rfl
    · skip
      refine W_skip ?_
      refine W_sr ?_
      refine W_move rfl rfl ?_
      refine W_assign rfl rfl ?_
      refine W_nil ?_
      refine W_ret1m (H2 := H) Tryd.results126 rfl (.nil _) zH ?_
      have hcl : clampT a b h = b := by show min (max b (addT a 1)) (addT a h) = _; rw [← hlo, ← hhi]; omega
      refine ⟨?_, rfl⟩
      rw [hcl]
      first | done | rfl
set_option maxHeartbeats 1000000 in
theorem rGran_pure {n : Nat} (hn : n < 8) : Pure Tryd.prog (fun _ => True) 128 [.int .i64 (n : Int)] (.int .u64 ((8 ^ n : Nat) : Int)) := by
  intro w0 H hT
  refine L_enter Tryd.func128 rfl Tryd.ntmps128 rfl rfl ?_
  refine W_sr ?_
  refine W_assign rfl rfl ?_
  refine W_nil ?_
  refine W_seq ?_
  refine W_sr ?_
  refine W_move rfl rfl ?_
  refine W_bin rfl rfl b_lss rfl ?_
  rw [decide_eq_false (by omega)]
  refine W_move rfl rfl ?_
  refine W_gyes rfl rfl ?_
  refine W_move rfl rfl ?_
  refine W_gyes rfl rfl ?_
  refine W_bin rfl rfl b_gtr rfl ?_
  rw [decide_eq_false (by omega)]
  first | refine W_pickt rfl rfl rfl ?_ | refine W_pickf rfl rfl rfl ?_
  refine W_nil ?_
  refine W_condF rfl rfl ?_
  refine W_skip ?_
  refine W_sr ?_
  refine W_assign rfl rfl ?_
  refine W_nil ?_
  refine W_seq ?_
  refine W_sr ?_
  refine W_assign rfl rfl ?_
  refine W_nil ?_
  refine W_block ?_
  refine W_loopC (X := Nat) [(0, _)] (fun (i : Nat) => [(3, .int .u64 ((8 ^ i : Nat) : Int)), (4, .int .i64 (i : Int))]) (fun _ => _) (fun (i : Nat) => H) (fun (i : Nat) => i ≤ n) (fun (i : Nat) => n - i) 0 (Nat.zero_le _) (sub_cons rfl (sub_nil _)) (sub_cons rfl (sub_cons rfl (sub_nil _))) rfl zH ?_
  intro i hi
  have hp := pow8 (n := i) (by omega)
  simp only [List.cons_append, List.nil_append]
  refine W_seq ?_
  refine W_sr ?_
  refine W_move rfl rfl ?_
  refine W_move rfl rfl ?_
  refine W_bin rfl rfl b_lss rfl ?_
  refine W_nil ?_
  refine W_condPS (p := (i : Int) < (n : Int)) rfl (by simp) (fun q0 => ?_) (fun q0 => ?_)
  · skip
    refine W_skip ?_
    refine W_seq ?_
    refine W_block ?_
    refine W_region ?_
    refine W_move rfl rfl ?_
    have hi8 : i < 8 := by omega
    have hp7 : 8 ^ i * 8 ≤ 16777216 := by omega
    refine W_bin rfl rfl (b_mul (m := ((8 ^ (i + 1) : Nat) : Int)) (by rw [Nat.pow_succ]; generalize 8 ^ i = g at *; rw [u64w ⟨by omega, by omega⟩]; omega)) rfl ?_
    refine W_assign rfl rfl ?_
    refine W_nil ?_
    refine W_blk ?_
    refine W_region ?_
    refine W_move rfl rfl ?_
    refine W_bin rfl rfl (b_add (m := ((i + 1 : Nat) : Int)) ((i64w (by omega)).trans (by omega))) rfl ?_
    refine W_assign rfl rfl ?_
    refine W_nil ?_
    refine W_again (i + 1) (by omega) (by omega) (sub_cons rfl (sub_cons rfl (sub_cons rfl (sub_nil _)))) rfl zH
  · skip
    refine W_exit rfl ?_
    refine W_sr ?_
    refine W_move rfl rfl ?_
    refine W_assign rfl rfl ?_
    refine W_nil ?_
    refine W_ret1m (H2 := H) Tryd.results128 rfl (.nil _) zH ?_
    obtain rfl : i = n := by omega
    exact ⟨rfl, rfl⟩
set_option maxHeartbeats 1000000 in
theorem rOf_pure {d : Nat} (hd : d ≤ 18446744073709551615) : Pure Tryd.prog (fun _ => True) 127 [.int .u64 ((d : Nat) : Int)] (.tuple #[.int .i64 ((lvOf d).1 : Nat), .bool (lvOf d).2]) := by
  intro w0 H hT
  refine L_enter Tryd.func127 rfl Tryd.ntmps127 rfl rfl ?_
  refine W_sr ?_
  refine W_assign rfl rfl ?_
  refine W_assign rfl rfl ?_
  refine W_nil ?_
  refine W_seq ?_
  refine W_sr ?_
  refine W_assign rfl rfl ?_
  refine W_nil ?_
  refine W_block ?_
  refine W_loopC (X := Nat) [(0, _)] (fun (i : Nat) => [(4, .int .i64 (i : Int))]) (fun _ => _) (fun (i : Nat) => H) (fun (i : Nat) => i ≤ 8 ∧ ∀ j, j < i → 63 * 8 ^ j ≤ d) (fun (i : Nat) => 8 - i) 0 ⟨Nat.zero_le _, fun j hj => by omega⟩ (sub_cons rfl (sub_nil _)) (sub_cons rfl (sub_nil _)) rfl zH ?_
  rintro i ⟨hi, hl⟩
  simp only [List.cons_append, List.nil_append]
  refine W_seq ?_
  refine W_sr ?_
  refine W_move rfl rfl ?_
  refine W_bin rfl rfl b_lss rfl ?_
  refine W_nil ?_
  refine W_condPS (p := (i : Int) < 8) rfl (by simp) (fun q0 => ?_) (fun q0 => ?_)
  · skip
    refine W_skip ?_
    refine W_seq ?_
    refine W_block ?_
    refine W_sr ?_
    refine W_move rfl rfl ?_
    have hi8 : i < 8 := by omega
    refine W_bin rfl rfl (b_quo (by decide) (m := ((d / 63 : Nat) : Int)) (by rw [show ((d : Nat) : Int).tdiv 63 = ((d / 63 : Nat) : Int) from tdN _ 63]; exact u64w ⟨by omega, by omega⟩)) rfl ?_
    refine W_move rfl rfl ?_
    refine W_callp (.cons rfl .nil) Tryd.call128 rfl (T := fun _ => True) trivial (rGran_pure hi8) ?_
    refine W_bin rfl rfl b_lss rfl ?_
    refine W_nil ?_
    refine W_condPS (p := d < 63 * 8 ^ i) rfl (by rw [decide_eq_true_eq]; generalize 8 ^ i = g; omega) (fun q1 => ?_) (fun q1 => ?_)
    · skip
      refine W_sr ?_
      refine W_move rfl rfl ?_
      refine W_assign rfl rfl ?_
      refine W_assign rfl rfl ?_
      refine W_nil ?_
      refine W_ret2m (H2 := H) Tryd.results127 rfl rfl (.nil _) zH ?_
      exact ⟨by rw [lvOf_at hi8 q1 hl], rfl⟩
    · skip
      refine W_skip ?_
      refine W_blk ?_
      refine W_region ?_
      have q1n : 63 * 8 ^ i ≤ d := by omega
      refine W_move rfl rfl ?_
      refine W_bin rfl rfl (b_add (m := ((i + 1 : Nat) : Int)) ((i64w (by omega)).trans (by omega))) rfl ?_
      refine W_assign rfl rfl ?_
      refine W_nil ?_
      refine W_again (i + 1) ⟨by omega, fun j hj => by by_cases e : j = i; exact e ▸ q1n; exact hl j (by omega)⟩ (by omega) (sub_cons rfl (sub_cons rfl (sub_nil _))) rfl zH
  · skip
    refine W_exit rfl ?_
    refine W_sr ?_
    refine W_assign rfl rfl ?_
    refine W_assign rfl rfl ?_
    refine W_nil ?_
    refine W_ret2m (H2 := H) Tryd.results127 rfl rfl (.nil _) zH ?_
    obtain rfl : i = 8 := by omega
    exact ⟨by rw [lvOf_no hl]; rfl, rfl⟩
set_option maxHeartbeats 1000000 in
theorem rMul_pure {x n : Nat} (hn : n < 8) (hx : x ≤ 18446744073709551615) : Pure Tryd.prog (fun _ => True) 129 [.int .u64 ((x : Nat) : Int), .int .u64 ((8 ^ n : Nat) : Int)] (.int .u64 ((tickT x n : Nat) : Int)) := by
  intro w0 H hT
  have hp := pow8 hn
  refine L_enter Tryd.func129 rfl Tryd.ntmps129 rfl rfl ?_
  refine W_sr ?_
  refine W_assign rfl rfl ?_
  refine W_nil ?_
  refine W_seq ?_
  refine W_sr ?_
  refine W_move rfl rfl ?_
  refine W_move rfl rfl ?_
  refine W_bin rfl rfl (b_quo (by omega) (m := ((18446744073709551615 / 8 ^ n : Nat) : Int)) (by rw [show ((18446744073709551615 : Int)).tdiv ((8 ^ n : Nat) : Int) = ((18446744073709551615 / 8 ^ n : Nat) : Int) from tdN 18446744073709551615 _]; have := Nat.div_le_self 18446744073709551615 (8 ^ n); generalize 18446744073709551615 / 8 ^ n = y at *; exact u64w ⟨by omega, by omega⟩)) rfl ?_
  refine W_bin rfl rfl b_gtr rfl ?_
  refine W_nil ?_
  refine W_condPS (p := 18446744073709551615 / 8 ^ n < x) rfl (by rw [decide_eq_true_eq]; exact Int.ofNat_lt) (fun q0 => ?_) (fun q0 => ?_)
  · skip
    refine W_sr ?_
    refine W_assign rfl rfl ?_
    refine W_nil ?_
    refine W_ret1m (H2 := H) Tryd.results129 rfl (.nil _) zH ?_
    exact ⟨by rw [show tickT x n = 18446744073709551615 from if_pos q0]; rfl, rfl⟩
  · skip
    refine W_skip ?_
    refine W_sr ?_
    refine W_move rfl rfl ?_
    refine W_move rfl rfl ?_
    have hle := tickT_le x n
    have htk : tickT x n = x * 8 ^ n := if_neg q0
    rw [htk] at hle
    refine W_bin rfl rfl (b_mul (m := ((x * 8 ^ n : Nat) : Int)) (by rw [← Int.natCast_mul]; generalize x * 8 ^ n = y at *; exact u64w ⟨by omega, by omega⟩)) rfl ?_
    refine W_assign rfl rfl ?_
    refine W_nil ?_
    refine W_ret1m (H2 := H) Tryd.results129 rfl (.nil _) zH ?_
    exact ⟨by rw [htk], rfl⟩
theorem ceil_mod {t n : Nat} : 0 < t % 8 ^ n ↔ t / 8 ^ n * 8 ^ n ≠ t := by
  have h1 := Nat.div_add_mod t (8 ^ n)
  rw [Nat.mul_comm] at h1
  omega
theorem ceil_le {t n : Nat} (h : t ≤ 18446744073709551615) : ceilT t n ≤ 18446744073709551615 := by
  unfold ceilT
  split
  · rename_i hc
    have h0 := Nat.div_le_self t (8 ^ n)
    by_cases e : t / 8 ^ n = t
    · exfalso
      have hg : 0 < 8 ^ n := Nat.pow_pos (by omega)
      have h1 := Nat.div_mul_le_self t (8 ^ n)
      rw [e] at h1 hc
      have h2 : t * 1 ≤ t * 8 ^ n := Nat.mul_le_mul_left t hg
      omega
    · omega
  · exact Nat.le_trans (Nat.div_le_self _ _) h
set_option maxHeartbeats 1000000 in
theorem rPlace_pure {a b : Nat} (ha : a ≤ 18446744073709551615) (hb : b ≤ 18446744073709551615) : Pure Tryd.prog (fun _ => True) 106 [.int .u64 ((a : Nat) : Int), .int .u64 ((b : Nat) : Int)] (.tuple #[.agg (placeT a b).1.v.toArray, .int .i64 (placeT a b).2]) := by
  intro w0 H hT
  refine L_enter Tryd.func106 rfl Tryd.ntmps106 rfl rfl ?_
  refine W_sr ?_
  refine W_alloc (l := zSpot.v) ty69 rfl rfl (fun b4 => ?_)
  refine W_assign rfl rfl ?_
  refine W_nil ?_
  refine W_seq ?_
  refine W_sr ?_
  refine W_move rfl rfl ?_
  refine W_bin rfl rfl b_eql rfl ?_
  refine W_nil ?_
  refine W_condPS (p := a = 18446744073709551615) rfl (by rw [decide_eq_true_eq]; exact Int.ofNat_inj) (fun q0 => ?_) (fun q0 => ?_)
  · skip
    refine W_sr ?_
    refine W_build ty69 pl69 .nil rfl zF rfl ?_
    refine W_storeA (l' := zSpot.v) rfl rfl ty69 rfl rfl (b := b4) zM (by exact Nat.le_refl 4) rfl zU ?_
    refine W_assign rfl rfl ?_
    refine W_nil ?_
    refine W_ret2G (H2 := H) Tryd.results106 (.nil _) (.own rfl ty69 rfl zM rfl) (.tmp rfl) zH ?_
    exact ⟨by unfold placeT; rw [if_pos q0], rfl⟩
  · skip
    refine W_skip ?_
    refine W_sr ?_
    refine W_move rfl rfl ?_
    refine W_move rfl rfl ?_
    refine W_callp (.cons rfl (.cons rfl (.cons rfl .nil))) Tryd.call126 rfl (T := fun _ => True) trivial (rClamp_pure (h := 132120575) ha hb (by omega)) ?_
    obtain ⟨t, ht⟩ : ∃ t, t = clampT a b 132120575 := ⟨_, rfl⟩
    rw [← ht]
    have ht1 : t ≤ 18446744073709551615 := ht ▸ clampT_le _ _ _
    have ht2 : a ≤ t := ht ▸ clampT_ge ha _ _
    refine W_assign rfl rfl ?_
    refine W_nil ?_
    refine W_sr ?_
    refine W_move rfl rfl ?_
    refine W_move rfl rfl ?_
    refine W_bin rfl rfl (b_sub (m := ((t - a : Nat) : Int)) (by rw [u64w ⟨by omega, by omega⟩]; omega)) rfl ?_
    refine W_callp (.cons rfl .nil) Tryd.call127 rfl (T := fun _ => True) trivial (rOf_pure (d := t - a) (by omega)) ?_
    obtain ⟨n, hn⟩ : ∃ n, n = (lvOf (t - a)).1 := ⟨_, rfl⟩
    rw [← hn]
    have hn8 : n < 8 := hn ▸ lvOf_lt _
    have hp8 := pow8 hn8
    have hcu := ceil_le ht1 (n := n)
    refine W_move rfl rfl ?_
    refine W_extract rfl rfl rfl ?_
    refine W_extract rfl rfl rfl ?_
    refine W_assign rfl rfl ?_
    refine W_assign rfl rfl ?_
    refine W_nil ?_
    refine W_sr ?_
    refine W_move rfl rfl ?_
    refine W_callp (.cons rfl .nil) Tryd.call128 rfl (T := fun _ => True) trivial (rGran_pure hn8) ?_
    refine W_assign rfl rfl ?_
    refine W_nil ?_
    refine W_sr ?_
    refine W_move rfl rfl ?_
    refine W_move rfl rfl ?_
    refine W_bin rfl rfl (b_quo (by omega) (m := ((t / 8 ^ n : Nat) : Int)) (by rw [tdN]; have := Nat.div_le_self t (8 ^ n); generalize t / 8 ^ n = y at *; exact u64w ⟨by omega, by omega⟩)) rfl ?_
    refine W_assign rfl rfl ?_
    refine W_nil ?_
    refine W_seq ?_
    refine W_sr ?_
    refine W_move rfl rfl ?_
    refine W_move rfl rfl ?_
    refine W_bin rfl rfl (b_rem (by omega) (m := ((t % 8 ^ n : Nat) : Int)) (tmN _ _)) rfl ?_
    refine W_bin rfl rfl b_gtr rfl ?_
    refine W_nil ?_
    refine W_condPS (p := 0 < t % 8 ^ n) rfl (by rw [decide_eq_true_eq]; exact Int.ofNat_lt) (fun q1 => ?_) (fun q1 => ?_)
    · skip
      refine W_region ?_
      refine W_move rfl rfl ?_
      have hce : ceilT t n = t / 8 ^ n + 1 := if_pos (ceil_mod.1 q1)
      refine W_bin rfl rfl (b_add (m := ((ceilT t n : Nat) : Int)) (by rw [hce] at hcu ⊢; generalize t / 8 ^ n = y at *; rw [u64w ⟨by omega, by omega⟩]; omega)) rfl ?_
      refine W_assign rfl rfl ?_
      refine W_nil ?_
      refine W_sr ?_
      refine W_move rfl rfl ?_
      refine W_move rfl rfl ?_
      refine W_bin rfl rfl (b_rem (by decide) (m := ((ceilT t n % 64 : Nat) : Int)) (tmN _ 64)) rfl ?_
      refine W_conv rfl ty28 ty3 (i64w (by omega)) rfl ?_
      refine W_move rfl rfl ?_
      refine W_move rfl rfl ?_
      refine W_move rfl rfl ?_
      refine W_callp (.cons rfl (.cons rfl .nil)) Tryd.call129 rfl (T := fun _ => True) trivial (rMul_pure (x := ceilT t n) hn8 hcu) ?_
      refine W_build (l := [.int .i64 (n : Int), .int .i64 ((ceilT t n % 64 : Nat) : Int), .int .u64 (t : Int), .int .u64 ((tickT (ceilT t n) n : Nat) : Int)]) ty69 pl69 (.cons rfl rfl rfl rfl rfl (.cons rfl rfl rfl rfl rfl (.cons rfl rfl rfl rfl rfl (.cons rfl rfl rfl rfl rfl .nil)))) rfl rfl rfl ?_
      refine W_storeA (l' := [.int .i64 (n : Int), .int .i64 ((ceilT t n % 64 : Nat) : Int), .int .u64 (t : Int), .int .u64 ((tickT (ceilT t n) n : Nat) : Int)]) rfl rfl ty69 rfl rfl (b := b4) zM (by exact Nat.le_refl 4) rfl zU ?_
      refine W_assign rfl rfl ?_
      refine W_nil ?_
      refine W_ret2G (H2 := H) Tryd.results106 (.nil _) (.own rfl ty69 rfl zM rfl) (.tmp rfl) zH ?_
      exact ⟨by unfold placeT; rw [if_neg q0]; dsimp only; rw [← ht, ← hn]; rfl, rfl⟩
    · skip
      refine W_skip ?_
      refine W_sr ?_
      have hce : ceilT t n = t / 8 ^ n := if_neg (fun h => q1 (ceil_mod.2 h))
      rw [← hce]
      refine W_move rfl rfl ?_
      refine W_move rfl rfl ?_
      refine W_bin rfl rfl (b_rem (by decide) (m := ((ceilT t n % 64 : Nat) : Int)) (tmN _ 64)) rfl ?_
      refine W_conv rfl ty28 ty3 (i64w (by omega)) rfl ?_
      refine W_move rfl rfl ?_
      refine W_move rfl rfl ?_
      refine W_move rfl rfl ?_
      refine W_callp (.cons rfl (.cons rfl .nil)) Tryd.call129 rfl (T := fun _ => True) trivial (rMul_pure (x := ceilT t n) hn8 hcu) ?_
      refine W_build (l := [.int .i64 (n : Int), .int .i64 ((ceilT t n % 64 : Nat) : Int), .int .u64 (t : Int), .int .u64 ((tickT (ceilT t n) n : Nat) : Int)]) ty69 pl69 (.cons rfl rfl rfl rfl rfl (.cons rfl rfl rfl rfl rfl (.cons rfl rfl rfl rfl rfl (.cons rfl rfl rfl rfl rfl .nil)))) rfl rfl rfl ?_
      refine W_storeA (l' := [.int .i64 (n : Int), .int .i64 ((ceilT t n % 64 : Nat) : Int), .int .u64 (t : Int), .int .u64 ((tickT (ceilT t n) n : Nat) : Int)]) rfl rfl ty69 rfl rfl (b := b4) zM (by exact Nat.le_refl 4) rfl zU ?_
      refine W_assign rfl rfl ?_
      refine W_nil ?_
      refine W_ret2G (H2 := H) Tryd.results106 (.nil _) (.own rfl ty69 rfl zM rfl) (.tmp rfl) zH ?_
      exact ⟨by unfold placeT; rw [if_neg q0]; dsimp only; rw [← ht, ← hn]; rfl, rfl⟩
end Go.Proofs.YtkcaakkaioingaaDoor
namespace Go.Proofs.YtkcaakkaioingaaDoor
open Go Go.Sl
attribute [local irreducible] W
def tmC (t : Tm) : List Value := .int .i64 t.id :: t.s.v
abbrev rowT (L : List Tm) : List Value := L.flatMap tmC
theorem tmC_len (t : Tm) : (tmC t).length = 5 := rfl
theorem rowT_len (L : List Tm) : (rowT L).length = L.length * 5 := flat_length tmC_len L
theorem rowT_one (L : List Tm) : (rowT L).all Value.oneCell' = true := by
  rw [List.all_flatMap, List.all_eq_true]; exact fun t _ => rfl
theorem rowT_app (L M : List Tm) : rowT (L ++ M) = rowT L ++ rowT M := List.flatMap_append
theorem rowT_drop (L : List Tm) : ∀ k, (rowT L).drop (k * 5) = rowT (L.drop k) := by
  induction L with
  | nil => intro k; simp [rowT]
  | cons t L ih =>
    intro k
    cases k with
    | zero => rw [Nat.zero_mul]; rfl
    | succ k =>
      have e : rowT (t :: L) = tmC t ++ rowT L := rfl
      rw [e, List.drop_succ_cons, ← ih k, show (k + 1) * 5 = (tmC t).length + k * 5 by rw [tmC_len]; omega, List.drop_append]
      simp
theorem rowT_take (L : List Tm) (k : Nat) : (rowT L).take (k * 5) = rowT (L.take k) := Go.Sl.flat_take tmC_len L k
theorem delT_at : ∀ {L : List Tm} {i : Nat} {t : Tm}, (L.map (·.id)).Nodup → L[i]? = some t → delT L t.id = L.take i ++ L.drop (i + 1)
  | x :: L, 0, t, hn, h => by
    obtain rfl : x = t := by simpa using h
    rw [List.map_cons, List.nodup_cons] at hn
    show List.filter _ (x :: L) = L
    rw [List.filter_cons_of_neg (by simp)]
    exact delT_out hn.1
  | x :: L, i + 1, t, hn, h => by
    rw [List.map_cons, List.nodup_cons] at hn
    have ht : L[i]? = some t := by simpa using h
    have hne : x.id ≠ t.id := fun e => hn.1 (e ▸ List.mem_map_of_mem (List.mem_of_getElem? ht))
    show List.filter _ (x :: L) = _
    rw [List.filter_cons_of_pos (by simpa using hne)]
    have ih := delT_at hn.2 ht
    unfold delT at ih
    rw [ih]; rfl
def AtT (L : List Tm) (id z : Int) : Prop := (∃ (i : Nat) (t : Tm), z = (i : Int) ∧ L[i]? = some t ∧ t.id = id) ∨ (z = -1 ∧ id ∉ L.map (·.id))
theorem AtT.held {L : List Tm} {id z : Int} (h : AtT L id z) : (0 ≤ z ↔ id ∈ L.map (·.id)) := by
  rcases h with ⟨i, t, rfl, h1, rfl⟩ | ⟨rfl, h1⟩
  · exact ⟨fun _ => List.mem_map_of_mem (List.mem_of_getElem? h1), fun _ => by omega⟩
  · exact ⟨fun h => by omega, fun h => absurd h h1⟩
set_option maxHeartbeats 1000000 in
theorem rFind_L {w0 : World} {H : Heap} {now cap : Nat} {L : List Tm} {ad : Option Addr} (hl : L.length ≤ 1000000) (hrow : Holds w0 H ad (rowT L)) {id : Int}  : LCalls Tryd.prog w0 37 #[.agg (List.toArray [.int .u64 ((now : Nat) : Int), .slice ad L.length cap]), .int .i64 id] (H) (fun v H' => ∃ z : Int, v = .int .i64 z ∧ AtT L id z ∧ H' = H) := by
  refine L_enter (l := [.agg (List.toArray [.int .u64 ((now : Nat) : Int), .slice ad L.length cap]), .int .i64 id]) Tryd.func37 rfl Tryd.ntmps37 rfl rfl ?_
  refine W_sr ?_
  refine W_box (l := [.int .u64 ((now : Nat) : Int), .slice ad L.length cap]) rfl rfl rfl (fun b2 => ?_)
  refine W_assign rfl rfl ?_
  refine W_nil ?_
  refine W_seq ?_
  refine W_sr ?_
  refine W_assign rfl rfl ?_
  refine W_nil ?_
  refine W_block ?_
  refine W_loopC (X := Nat) [(1, _), (2, _)] (fun (i : Nat) => [(5, .int .i64 (i : Int))]) (fun _ => _) (fun (i : Nat) => (b2, .cells 90 2 [.int .u64 ((now : Nat) : Int), .slice ad L.length cap]) :: H) (fun (i : Nat) => i ≤ L.length ∧ id ∉ (L.take i).map (·.id)) (fun (i : Nat) => L.length - i) 0 ⟨Nat.zero_le _, by simp⟩ (sub_cons rfl (sub_cons rfl (sub_nil _))) (sub_cons rfl (sub_nil _)) rfl zH ?_
  rintro i ⟨hi, hn⟩
  simp only [List.cons_append, List.nil_append]
  refine W_seq ?_
  refine W_sr ?_
  refine W_move rfl rfl ?_
  refine W_fieldAddr rfl fld90_1 (by decide) rfl ?_
  refine W_load rfl ty88 rfl (Cell.own zM rfl) rfl ?_
  refine W_len rfl ty88 rfl rfl ?_
  refine W_bin rfl rfl b_lss rfl ?_
  refine W_nil ?_
  refine W_condPS (p := (i : Int) < (L.length : Int)) rfl (by simp) (fun q0 => ?_) (fun q0 => ?_)
  · skip
    refine W_skip ?_
    refine W_seq ?_
    refine W_block ?_
    refine W_sr ?_
    obtain ⟨t, ht⟩ : ∃ t, L[i]? = some t := ⟨_, List.getElem?_eq_getElem (by omega)⟩
    obtain ⟨q0_, p0_, rfl, hc⟩ := Holds.row tmC_len (by decide) hrow ht
    refine W_fieldAddr rfl fld90_1 (by decide) rfl ?_
    refine W_load rfl ty88 rfl (Cell.own zM rfl) rfl ?_
    refine W_move rfl rfl ?_
    refine W_indexAddr (j := i) rfl rfl ty88 ty87 rfl (by omega) rfl rfl ?_
    refine W_fieldAddr rfl fld87_0 (by decide) rfl ?_
    refine W_load (v := .int .i64 t.id) rfl ty3 rfl ((hc 0 (.int .i64 t.id) rfl).up zH) rfl ?_
    refine W_move rfl rfl ?_
    refine W_bin rfl rfl b_eql rfl ?_
    refine W_nil ?_
    refine W_condPS (p := t.id = id) rfl (by simp) (fun q1 => ?_) (fun q1 => ?_)
    · skip
      refine W_sr ?_
      refine W_move rfl rfl ?_
      refine W_assign rfl rfl ?_
      refine W_nil ?_
      refine W_ret1m (H2 := H) Tryd.results37 rfl (.nil _) zH ?_
      exact ⟨i, rfl, .inl ⟨i, t, rfl, ht, q1⟩, rfl⟩
    · skip
      refine W_skip ?_
      refine W_blk ?_
      refine W_region ?_
      refine W_move rfl rfl ?_
      refine W_bin rfl rfl (b_add (m := ((i + 1 : Nat) : Int)) ((i64w (by omega)).trans (by omega))) rfl ?_
      refine W_assign rfl rfl ?_
      refine W_nil ?_
      refine W_again (i + 1) ⟨by omega, by rw [takeAt ht, List.map_append, List.mem_append]; exact fun h => h.elim hn (fun h => q1 (List.mem_singleton.1 h).symm)⟩ (by omega) (sub_cons rfl (sub_cons rfl (sub_cons rfl (sub_nil _)))) rfl zH
  · skip
    refine W_exit rfl ?_
    refine W_sr ?_
    refine W_assign rfl rfl ?_
    refine W_nil ?_
    refine W_ret1m (H2 := H) Tryd.results37 rfl (.nil _) zH ?_
    obtain rfl : i = L.length := by omega
    exact ⟨-1, rfl, .inr ⟨rfl, by rwa [List.take_length] at hn⟩, rfl⟩
def BestT (L : List Tm) (z : Int) : Prop := (z = -1 ∧ L = []) ∨ ∃ (i : Nat) (t : Tm), z = (i : Int) ∧ L[i]? = some t ∧ (∀ u ∈ L, t.s.due ≤ u.s.due) ∧ ∀ (j : Nat) u, j < i → L[j]? = some u → t.s.due < u.s.due
def bestV (i b : Nat) : Int := if i = 0 then -1 else (b : Int)
def BestI (L : List Tm) (i b : Nat) : Prop := i = 0 ∨ (b < i ∧ ∃ t, L[b]? = some t ∧ ∀ (j : Nat) u, j < i → L[j]? = some u → t.s.due ≤ u.s.due ∧ (j < b → t.s.due < u.s.due))
theorem BestI.done {L : List Tm} {b : Nat} (h : BestI L L.length b) : BestT L (bestV L.length b) := by
  rcases h with h | ⟨h1, t, h2, h3⟩
  · exact .inl ⟨if_pos h, List.eq_nil_of_length_eq_zero h⟩
  · refine .inr ⟨b, t, if_neg (by omega), h2, fun u hu => ?_, fun j u hj hu => (h3 j u (by omega) hu).2 hj⟩
    obtain ⟨j, hj, e⟩ := List.getElem_of_mem hu
    exact (h3 j u hj (by rw [List.getElem?_eq_getElem hj, e])).1
theorem BestI.first {L : List Tm} {t : Tm} (h : L[0]? = some t) : BestI L 1 0 := .inr ⟨by omega, t, h, fun j u hj hu => by
  obtain rfl : j = 0 := by omega
  rw [h] at hu
  obtain rfl := Option.some.inj hu
  exact ⟨Nat.le_refl _, fun h => by omega⟩⟩
theorem BestI.keep {L : List Tm} {i b : Nat} {t u : Tm} (h : BestI L i b) (h0 : i ≠ 0) (hb : L[b]? = some t) (hi : L[i]? = some u) (hc : ¬ u.s.due < t.s.due) : BestI L (i + 1) b := by
  rcases h with h | ⟨h1, t', h2, h3⟩
  · exact absurd h h0
  · obtain rfl : t = t' := Option.some.inj (hb.symm.trans h2)
    refine .inr ⟨by omega, t, h2, fun j x hj hx => ?_⟩
    by_cases e : j = i
    · subst e
      rw [hi] at hx
      obtain rfl := Option.some.inj hx
      exact ⟨by omega, fun h => by omega⟩
    · exact h3 j x (by omega) hx
theorem BestI.turn {L : List Tm} {i b : Nat} {t u : Tm} (h : BestI L i b) (h0 : i ≠ 0) (hb : L[b]? = some t) (hi : L[i]? = some u) (hc : u.s.due < t.s.due) : BestI L (i + 1) i := by
  rcases h with h | ⟨h1, t', h2, h3⟩
  · exact absurd h h0
  · obtain rfl : t = t' := Option.some.inj (hb.symm.trans h2)
    refine .inr ⟨by omega, u, hi, fun j x hj hx => ?_⟩
    by_cases e : j = i
    · subst e
      rw [hi] at hx
      obtain rfl := Option.some.inj hx
      exact ⟨Nat.le_refl _, fun h => by omega⟩
    · have := (h3 j x (by omega) hx).1
      exact ⟨by omega, fun _ => by omega⟩
set_option maxHeartbeats 1000000 in
theorem rNext_L {w0 : World} {H : Heap} {now cap : Nat} {L : List Tm} {ad : Option Addr} (hl : L.length ≤ 1000000) (hrow : Holds w0 H ad (rowT L))  : LCalls Tryd.prog w0 76 #[.agg (List.toArray [.int .u64 ((now : Nat) : Int), .slice ad L.length cap])] (H) (fun v H' => ∃ z : Int, v = .int .i64 z ∧ BestT L z ∧ H' = H) := by
  refine L_enter (l := [.agg (List.toArray [.int .u64 ((now : Nat) : Int), .slice ad L.length cap])]) Tryd.func76 rfl Tryd.ntmps76 rfl rfl ?_
  refine W_sr ?_
  refine W_box (l := [.int .u64 ((now : Nat) : Int), .slice ad L.length cap]) rfl rfl rfl (fun b1 => ?_)
  refine W_assign rfl rfl ?_
  refine W_nil ?_
  refine W_sr ?_
  refine W_assign rfl rfl ?_
  refine W_nil ?_
  refine W_seq ?_
  refine W_sr ?_
  refine W_assign rfl rfl ?_
  refine W_nil ?_
  refine W_block ?_
  refine W_loopC (X := (Nat × Nat)) [(1, _)] (fun (x : (Nat × Nat)) => [(3, .int .i64 (bestV x.1 x.2)), (4, .int .i64 (x.1 : Int))]) (fun _ => _) (fun (x : (Nat × Nat)) => (b1, .cells 90 2 [.int .u64 ((now : Nat) : Int), .slice ad L.length cap]) :: H) (fun (x : (Nat × Nat)) => x.1 ≤ L.length ∧ BestI L x.1 x.2) (fun (x : (Nat × Nat)) => L.length - x.1) (0, 0) ⟨Nat.zero_le _, .inl rfl⟩ (sub_cons rfl (sub_nil _)) (sub_cons rfl (sub_cons rfl (sub_nil _))) rfl zH ?_
  rintro ⟨i, b⟩ ⟨hi, hB⟩
  dsimp only at hi hB ⊢
  simp only [List.cons_append, List.nil_append]
  refine W_seq ?_
  refine W_sr ?_
  refine W_move rfl rfl ?_
  refine W_fieldAddr rfl fld90_1 (by decide) rfl ?_
  refine W_load rfl ty88 rfl (Cell.own zM rfl) rfl ?_
  refine W_len rfl ty88 rfl rfl ?_
  refine W_bin rfl rfl b_lss rfl ?_
  refine W_nil ?_
  refine W_condPS (p := (i : Int) < (L.length : Int)) rfl (by simp) (fun q0 => ?_) (fun q0 => ?_)
  · skip
    refine W_skip ?_
    refine W_seq ?_
    refine W_block ?_
    refine W_seq ?_
    obtain ⟨t, ht⟩ : ∃ t, L[i]? = some t := ⟨_, List.getElem?_eq_getElem (by omega)⟩
    obtain ⟨q0_, p0_, rfl, hc⟩ := Holds.row tmC_len (by decide) hrow ht
    by_cases hi0 : i = 0
    · skip
      rw [show bestV i b = -1 from if_pos hi0]
      refine W_quiet (by kernel_rfl) (by decide +kernel) ?_
      refine WQ_x (X_move rfl) rfl ?_
      refine WQ_x (X_bin rfl rfl b_lss) rfl ?_
      first | rw [decide_eq_false (by omega)] | rw [decide_eq_true (by omega)]
      refine WQ_x (X_move rfl) rfl ?_
      refine WQ_gno rfl rfl rfl rfl ?_
      refine WQ_gno rfl rfl rfl rfl ?_
      refine WQ_gno rfl rfl rfl rfl ?_
      refine WQ_gno rfl rfl rfl rfl ?_
      refine WQ_gno rfl rfl rfl rfl ?_
      refine WQ_gno rfl rfl rfl rfl ?_
      refine WQ_gno rfl rfl rfl rfl ?_
      refine WQ_gno rfl rfl rfl rfl ?_
      refine WQ_gno rfl rfl rfl rfl ?_
      refine WQ_gno rfl rfl rfl rfl ?_
      refine WQ_gno rfl rfl rfl rfl ?_
      refine WQ_gno rfl rfl rfl rfl ?_
      refine WQ_gno rfl rfl rfl rfl ?_
      refine WQ_gno rfl rfl rfl rfl ?_
      refine WQ_gno rfl rfl rfl rfl ?_
      first | refine WQ_x (X_pickt rfl rfl) rfl ?_ | refine WQ_x (X_pickf rfl rfl) rfl ?_
      refine WQ_nil ?_
      refine W_condT rfl rfl ?_
      refine W_region ?_
      refine W_move rfl rfl ?_
      refine W_assign rfl rfl ?_
      refine W_nil ?_
      refine W_blk ?_
      refine W_region ?_
      rw [show ((i : Nat) : Int) = 0 from by omega]
      refine W_move rfl rfl ?_
      refine W_bin rfl rfl (b_add (m := ((1 : Nat) : Int)) (by rw [i64w (by omega)]; omega)) rfl ?_
      refine W_assign rfl rfl ?_
      refine W_nil ?_
      refine W_again (1, 0) ⟨by show 1 ≤ L.length; omega, .first (by rw [← hi0]; exact ht)⟩ (by show L.length - 1 < L.length - i; omega) (sub_cons rfl (sub_cons rfl (sub_cons rfl (sub_nil _)))) rfl zH
    · skip
      rw [show bestV i b = (b : Int) from if_neg hi0]
      obtain ⟨hbi, tb', htb', _⟩ := hB.resolve_left hi0
      obtain ⟨tb, htb⟩ : ∃ tb, L[b]? = some tb := ⟨_, List.getElem?_eq_getElem (by omega)⟩
      obtain ⟨q1_, p1_, ee, hcb⟩ := Holds.row tmC_len (by decide) hrow htb
      cases ee
      refine W_quiet (by kernel_rfl) (by decide +kernel) ?_
      refine WQ_x (X_move rfl) rfl ?_
      refine WQ_x (X_bin rfl rfl b_lss) rfl ?_
      first | rw [decide_eq_false (by omega)] | rw [decide_eq_true (by omega)]
      refine WQ_x (X_move rfl) rfl ?_
      refine WQ_gyes rfl rfl ?_
      refine WQ_x (X_fieldAddr rfl fld90_1 (by decide)) rfl ?_
      refine WQ_gyes rfl rfl ?_
      refine WQ_x (X_load rfl ty88 rfl (Cell.own zM rfl)) rfl ?_
      refine WQ_gyes rfl rfl ?_
      refine WQ_x (X_move rfl) rfl ?_
      refine WQ_gyes rfl rfl ?_
      refine WQ_x (X_indexAddr (j := i) rfl rfl ty88 ty87 rfl (by omega) rfl) rfl ?_
      refine WQ_gyes rfl rfl ?_
      refine WQ_x (X_fieldAddr rfl fld87_1 (by decide)) rfl ?_
      refine WQ_gyes rfl rfl ?_
      refine WQ_x (X_fieldAddr rfl fld69_3 (by decide)) rfl ?_
      refine WQ_gyes rfl rfl ?_
      refine WQ_x (X_load (v := .int .u64 (t.s.due : Int)) rfl ty28 rfl ((hc 4 (.int .u64 (t.s.due : Int)) rfl).up zH)) rfl ?_
      refine WQ_gyes rfl rfl ?_
      refine WQ_x (X_fieldAddr rfl fld90_1 (by decide)) rfl ?_
      refine WQ_gyes rfl rfl ?_
      refine WQ_x (X_load rfl ty88 rfl (Cell.own zM rfl)) rfl ?_
      refine WQ_gyes rfl rfl ?_
      refine WQ_x (X_move rfl) rfl ?_
      refine WQ_gyes rfl rfl ?_
      refine WQ_x (X_indexAddr (j := b) rfl rfl ty88 ty87 rfl (by omega) rfl) rfl ?_
      refine WQ_gyes rfl rfl ?_
      refine WQ_x (X_fieldAddr rfl fld87_1 (by decide)) rfl ?_
      refine WQ_gyes rfl rfl ?_
      refine WQ_x (X_fieldAddr rfl fld69_3 (by decide)) rfl ?_
      refine WQ_gyes rfl rfl ?_
      refine WQ_x (X_load (v := .int .u64 (tb.s.due : Int)) rfl ty28 rfl ((hcb 4 (.int .u64 (tb.s.due : Int)) rfl).up zH)) rfl ?_
      refine WQ_gyes rfl rfl ?_
      refine WQ_x (X_bin rfl rfl b_lss) rfl ?_
      first | refine WQ_x (X_pickt rfl rfl) rfl ?_ | refine WQ_x (X_pickf rfl rfl) rfl ?_
      refine WQ_nil ?_
      refine W_condPS (p := t.s.due < tb.s.due) rfl (by rw [decide_eq_true_eq]; exact Int.ofNat_lt) (fun q1 => ?_) (fun q1 => ?_)
      · skip
        refine W_region ?_
        refine W_move rfl rfl ?_
        refine W_assign rfl rfl ?_
        refine W_nil ?_
        refine W_blk ?_
        refine W_region ?_
        refine W_move rfl rfl ?_
        refine W_bin rfl rfl (b_add (m := ((i + 1 : Nat) : Int)) ((i64w (by omega)).trans (by omega))) rfl ?_
        refine W_assign rfl rfl ?_
        refine W_nil ?_
        refine W_again (i + 1, i) ⟨by show i + 1 ≤ L.length; omega, hB.turn hi0 htb ht q1⟩ (by show L.length - (i + 1) < L.length - i; omega) (sub_cons rfl (sub_cons rfl (sub_cons rfl (sub_nil _)))) rfl zH
      · skip
        refine W_skip ?_
        refine W_blk ?_
        refine W_region ?_
        refine W_move rfl rfl ?_
        refine W_bin rfl rfl (b_add (m := ((i + 1 : Nat) : Int)) ((i64w (by omega)).trans (by omega))) rfl ?_
        refine W_assign rfl rfl ?_
        refine W_nil ?_
        refine W_again (i + 1, b) ⟨by show i + 1 ≤ L.length; omega, hB.keep hi0 htb ht q1⟩ (by show L.length - (i + 1) < L.length - i; omega) (sub_cons rfl (sub_cons rfl (sub_cons rfl (sub_nil _)))) rfl zH
  · skip
    refine W_exit rfl ?_
    refine W_sr ?_
    refine W_move rfl rfl ?_
    refine W_assign rfl rfl ?_
    refine W_nil ?_
    refine W_ret1m (H2 := H) Tryd.results76 rfl (.nil _) zH ?_
    obtain rfl : i = L.length := by omega
    exact ⟨_, rfl, hB.done, rfl⟩
end Go.Proofs.YtkcaakkaioingaaDoor
namespace Go.Proofs.YtkcaakkaioingaaDoor
open Go Go.Sl
attribute [local irreducible] W
set_option maxHeartbeats 1000000 in
theorem rPut_late {w0 : World} {H : Heap} {cap : Nat} {L : List Tm} {ad : Option Addr} (hl : L.length ≤ 1000000) (hrow : Holds w0 H ad (rowT L)) {id : Int} {a : Nat} (hid : 0 ≤ id ∧ id < 256) (ha : a ≤ 18446744073709551615) (hin : id ∉ L.map (·.id))  : PureAt Tryd.prog w0 H 64 [.agg (List.toArray [.int .u64 ((18446744073709551615 : Nat) : Int), .slice ad L.length cap]), .int .i64 id, .int .u64 ((a : Nat) : Int)] (.tuple #[.agg (List.toArray [.int .u64 ((18446744073709551615 : Nat) : Int), .slice ad L.length cap]), .agg (zSpot.v).toArray, .int .i64 12]) := by
  refine L_enter Tryd.func64 rfl Tryd.ntmps64 rfl rfl ?_
  refine W_sr ?_
  refine W_box (l := [.int .u64 ((18446744073709551615 : Nat) : Int), .slice ad L.length cap]) rfl rfl rfl (fun b3 => ?_)
  refine W_alloc (l := [.int .u64 0, .slice none 0 0]) ty90 rfl rfl (fun b6 => ?_)
  refine W_alloc (l := zSpot.v) ty69 rfl rfl (fun b7 => ?_)
  refine W_assign rfl rfl ?_
  refine W_nil ?_
  refine W_seq ?_
  refine W_sr ?_
  refine W_move rfl rfl ?_
  refine W_bin rfl rfl b_lss rfl ?_
  refine W_move rfl rfl ?_
  apply W_or
  iterate 4 exact rfl
  case h1 =>
    intro hg2
    refine W_gyes rfl rfl ?_
    refine W_move rfl rfl ?_
    refine W_gyes rfl rfl ?_
    refine W_bin rfl rfl b_gtr rfl ?_
    exact W_met rfl zR
  refine W_nil ?_
  refine W_condF rfl (by simp; omega) ?_
  refine W_skip ?_
  refine W_seq ?_
  refine W_sr ?_
  refine W_loadB (vs := [.int .u64 ((18446744073709551615 : Nat) : Int), .slice ad L.length cap]) rfl ty90 rfl (b := b3) zM rfl rfl rfl ?_
  refine W_move rfl rfl ?_
  refine W_call (.cons rfl (.cons rfl .nil)) Tryd.call37 rfl ((rFind_L (now := 18446744073709551615) (cap := cap) (id := id) hl (hrow.up zH)).hsub (.refl _)) ?_
  rintro v H' ⟨z, rfl, hz, rfl⟩
  have hzz := hz.held
  refine W_bin rfl rfl b_geq rfl ?_
  refine W_nil ?_
  refine W_condF rfl (by rw [decide_eq_false_iff_not]; exact fun h => hin (hzz.1 h)) ?_
  refine W_skip ?_
  refine W_sr ?_
  refine W_fieldAddr rfl fld90_0 (by decide) rfl ?_
  refine W_load rfl ty28 rfl (Cell.own zM rfl) rfl ?_
  refine W_move rfl rfl ?_
  refine W_callp (.cons rfl (.cons rfl .nil)) Tryd.call106 rfl (T := fun _ => True) trivial (rPlace_pure (a := 18446744073709551615) (b := a) (Nat.le_refl _) ha) ?_
  rw [show placeT 18446744073709551615 a = (zSpot, 12) from if_pos rfl]
  refine W_move rfl rfl ?_
  refine W_extract rfl rfl rfl ?_
  refine W_extract rfl rfl rfl ?_
  refine W_alloc (l := zSpot.v) ty69 rfl rfl (fun b9 => ?_)
  refine W_storeA (l' := zSpot.v) rfl rfl ty69 rfl rfl (b := b9) zM (by exact Nat.le_refl 4) rfl zU ?_
  refine W_assign rfl rfl ?_
  refine W_nil ?_
  refine W_seq ?_
  refine W_sr ?_
  refine W_move rfl rfl ?_
  refine W_bin rfl rfl b_neq rfl ?_
  refine W_nil ?_
  refine W_condT rfl rfl ?_
  refine W_seq ?_
  refine W_anyC [(b3, .cells 90 2 [.int .u64 ((18446744073709551615 : Nat) : Int), .slice ad L.length cap]), (b9, .cells 69 4 zSpot.v)] (by kernel_rfl) ?_
  refine WC_take 0 (l' := #[true, false, false, false, false, false]) rfl (by decide +kernel) (by decide +kernel) (by decide +kernel) rfl (by decide +kernel) (X_loadB (vs := [.int .u64 ((18446744073709551615 : Nat) : Int), .slice ad L.length cap]) rfl ty90 rfl (b := b3) zM rfl rfl) rfl ?_
  refine WC_take 1 (l' := #[true, true, false, false, false, false]) rfl (by decide +kernel) (by decide +kernel) (by decide +kernel) rfl (by decide +kernel) (X_loadB (vs := zSpot.v) rfl ty69 rfl (b := b9) zM rfl rfl) rfl ?_
  refine WC_take 2 (l' := #[true, true, true, false, false, false]) rfl (by decide +kernel) (by decide +kernel) (by decide +kernel) rfl (by decide +kernel) (X_move rfl) rfl ?_
  refine WC_one 3 (l' := #[true, true, true, true, false, false]) zH (by decide +kernel) rfl (by decide +kernel) ?_
  refine W_storeA (l' := [.int .u64 ((18446744073709551615 : Nat) : Int), .slice ad L.length cap]) rfl rfl ty90 rfl rfl (b := b6) zM (by exact Nat.le_refl 2) rfl zU ?_
  refine W_nil ?_
  refine WC_goal ?_
  refine WC_one 4 (l' := #[true, true, true, true, true, false]) zH (by decide +kernel) rfl (by decide +kernel) ?_
  refine W_storeA (l' := zSpot.v) rfl rfl ty69 rfl rfl (b := b7) zM (by exact Nat.le_refl 4) rfl zU ?_
  refine W_nil ?_
  refine WC_goal ?_
  refine WC_take 5 (l' := #[true, true, true, true, true, true]) rfl (by decide +kernel) (by decide +kernel) (by decide +kernel) rfl (by decide +kernel) (X_assign rfl) rfl ?_
  refine WC_done zH (by decide +kernel) ?_
  refine W_ret3G (H2 := H) Tryd.results64 (.nil _) (.own rfl ty90 rfl zM rfl) (.own rfl ty69 rfl zM rfl) (.tmp rfl) zH ?_
  exact ⟨rfl, rfl⟩
set_option maxHeartbeats 1000000 in
theorem rPut_ok {w0 : World} {H : Heap} {now cap : Nat} {L : List Tm} {ad : Option Addr} (hl : L.length ≤ 1000000) (hrow : Holds w0 H ad (rowT L)) {id : Int} {a tn : Nat} {e : Spot} (hid : 0 ≤ id ∧ id < 256) (hnow : now ≤ 18446744073709551615) (ha : a ≤ 18446744073709551615) (hin : id ∉ L.map (·.id)) (he : placeT now a = (e, 0))  : LCalls Tryd.prog w0 64 #[.agg (List.toArray [.int .u64 ((now : Nat) : Int), .slice ad L.length cap]), .int .i64 id, .int .u64 ((a : Nat) : Int)] (H) (fun v H' => ∃ sv XB, v = .tuple #[.agg (List.toArray [.int .u64 ((now : Nat) : Int), sv]), .agg e.v.toArray, .int .i64 0] ∧ OwnS 87 5 sv (L ++ [(⟨id, e, tn⟩ : Tm)]).length (rowT (L ++ [(⟨id, e, tn⟩ : Tm)])) XB ∧ H' = XB ++ H) := by
  refine L_enter (l := [.agg (List.toArray [.int .u64 ((now : Nat) : Int), .slice ad L.length cap]), .int .i64 id, .int .u64 ((a : Nat) : Int)]) Tryd.func64 rfl Tryd.ntmps64 rfl rfl ?_
  refine W_sr ?_
  refine W_box (l := [.int .u64 ((now : Nat) : Int), .slice ad L.length cap]) rfl rfl rfl (fun b3 => ?_)
  refine W_alloc (l := [.int .u64 0, .slice none 0 0]) ty90 rfl rfl (fun b6 => ?_)
  refine W_alloc (l := zSpot.v) ty69 rfl rfl (fun b7 => ?_)
  refine W_assign rfl rfl ?_
  refine W_nil ?_
  refine W_seq ?_
  refine W_sr ?_
  refine W_move rfl rfl ?_
  refine W_bin rfl rfl b_lss rfl ?_
  refine W_move rfl rfl ?_
  apply W_or
  iterate 4 exact rfl
  case h1 =>
    intro hg2
    refine W_gyes rfl rfl ?_
    refine W_move rfl rfl ?_
    refine W_gyes rfl rfl ?_
    refine W_bin rfl rfl b_gtr rfl ?_
    exact W_met rfl zR
  refine W_nil ?_
  refine W_condF rfl (by simp; omega) ?_
  refine W_skip ?_
  refine W_seq ?_
  refine W_sr ?_
  refine W_loadB (vs := [.int .u64 ((now : Nat) : Int), .slice ad L.length cap]) rfl ty90 rfl (b := b3) zM rfl rfl rfl ?_
  refine W_move rfl rfl ?_
  refine W_call (.cons rfl (.cons rfl .nil)) Tryd.call37 rfl ((rFind_L (now := now) (cap := cap) (id := id) hl (hrow.up zH)).hsub (.refl _)) ?_
  rintro v H' ⟨z, rfl, hz, rfl⟩
  have hzz := hz.held
  refine W_bin rfl rfl b_geq rfl ?_
  refine W_nil ?_
  refine W_condF rfl (by rw [decide_eq_false_iff_not]; exact fun h => hin (hzz.1 h)) ?_
  refine W_skip ?_
  refine W_sr ?_
  refine W_fieldAddr rfl fld90_0 (by decide) rfl ?_
  refine W_load rfl ty28 rfl (Cell.own zM rfl) rfl ?_
  refine W_move rfl rfl ?_
  refine W_callp (.cons rfl (.cons rfl .nil)) Tryd.call106 rfl (T := fun _ => True) trivial (rPlace_pure (a := now) (b := a) hnow ha) ?_
  rw [he]
  refine W_move rfl rfl ?_
  refine W_extract rfl rfl rfl ?_
  refine W_extract rfl rfl rfl ?_
  refine W_alloc (l := zSpot.v) ty69 rfl rfl (fun b9 => ?_)
  refine W_storeA (l' := e.v) rfl rfl ty69 rfl rfl (b := b9) zM (by exact Nat.le_refl 4) rfl zU ?_
  refine W_assign rfl rfl ?_
  refine W_nil ?_
  refine W_seq ?_
  refine W_sr ?_
  refine W_move rfl rfl ?_
  refine W_bin rfl rfl b_neq rfl ?_
  refine W_nil ?_
  refine W_condF rfl rfl ?_
  refine W_skip ?_
  refine W_sr ?_
  refine W_buildSlice (l := []) ty88 ty87 .nil rfl rfl rfl rfl rfl rfl rfl (fun b38 => ?_)
  refine W_fieldAddr rfl fld90_1 (by decide) rfl ?_
  refine W_load rfl ty88 rfl (Cell.own zM rfl) rfl ?_
  refine W_append (news := rowT L) (m := L.length) (HB := [(b38, .cells 87 0 [])]) (H0 := (b9, .cells 69 4 e.v) :: (b7, .cells 69 4 zSpot.v) :: (b6, .cells 90 2 [.int .u64 0, .slice none 0 0]) :: (b3, .cells 90 2 [.int .u64 ((now : Nat) : Int), .slice ad L.length cap]) :: H) rfl rfl ty88 ty87 rfl (by decide) (OwnS.own (n := 0) (cap := 0) (xs := []) rfl (Nat.le_refl _) (Nat.zero_le _)) (rowT_len L) (hrow.up zH) (rowT_one L) (by simp only [maxLen]; omega) (by omega) (.refl _) rfl (fun v1 X1 hO1 => ?_)
  refine W_assign rfl rfl ?_
  refine W_nil ?_
  refine W_seq ?_
  refine W_anyC [(b3, .cells 90 2 [.int .u64 ((now : Nat) : Int), .slice ad L.length cap]), (b9, .cells 69 4 e.v)] (by kernel_rfl) ?_
  refine WC_take 0 (l' := #[true, false, false, false, false, false, false, false, false, false, false, false, false]) rfl (by decide +kernel) (by decide +kernel) (by decide +kernel) rfl (by decide +kernel) (X_fieldAddr rfl fld90_0 (by decide)) rfl ?_
  refine WC_take 1 (l' := #[true, true, false, false, false, false, false, false, false, false, false, false, false]) rfl (by decide +kernel) (by decide +kernel) (by decide +kernel) rfl (by decide +kernel) (X_load rfl ty28 rfl (Cell.own zM rfl)) rfl ?_
  refine WC_take 2 (l' := #[true, true, true, false, false, false, false, false, false, false, false, false, false]) rfl (by decide +kernel) (by decide +kernel) (by decide +kernel) rfl (by decide +kernel) (X_move rfl) rfl ?_
  refine WC_take 3 (l' := #[true, true, true, true, false, false, false, false, false, false, false, false, false]) rfl (by decide +kernel) (by decide +kernel) (by decide +kernel) rfl (by decide +kernel) (X_move rfl) rfl ?_
  refine WC_take 4 (l' := #[true, true, true, true, true, false, false, false, false, false, false, false, false]) rfl (by decide +kernel) (by decide +kernel) (by decide +kernel) rfl (by decide +kernel) (X_loadB (vs := e.v) rfl ty69 rfl (b := b9) zM rfl rfl) rfl ?_
  refine WC_take 5 (l' := #[true, true, true, true, true, true, false, false, false, false, false, false, false]) rfl (by decide +kernel) (by decide +kernel) (by decide +kernel) rfl (by decide +kernel) (X_build (l := tmC (⟨id, e, tn⟩ : Tm)) ty87 pl87 (.cons rfl rfl rfl rfl rfl (.cons rfl rfl rfl rfl rfl .nil)) rfl rfl) rfl ?_
  refine WC_take 9 (l' := #[true, true, true, true, true, true, false, false, false, true, false, false, false]) rfl (by decide +kernel) (by decide +kernel) (by decide +kernel) rfl (by decide +kernel) (X_loadB (vs := e.v) rfl ty69 rfl (b := b9) zM rfl rfl) rfl ?_
  refine WC_one 6 (l' := #[true, true, true, true, true, true, true, false, false, true, false, false, false]) zH (by decide +kernel) rfl (by decide +kernel) ?_
  refine W_buildSlice (l := tmC (⟨id, e, tn⟩ : Tm)) ty88 ty87 (.cons rfl rfl rfl rfl rfl .nil) rfl rfl rfl rfl rfl rfl rfl (fun b48 => ?_)
  refine W_nil ?_
  refine WC_goal ?_
  refine WC_one 7 (l' := #[true, true, true, true, true, true, true, true, false, true, false, false, false]) zH (by decide +kernel) rfl (by decide +kernel) ?_
  refine W_append (news := tmC (⟨id, e, tn⟩ : Tm)) (m := 1) (HB := X1) (H0 := (b48, .cells 87 5 (tmC (⟨id, e, tn⟩ : Tm))) :: (b9, .cells 69 4 e.v) :: (b7, .cells 69 4 zSpot.v) :: (b6, .cells 90 2 [.int .u64 0, .slice none 0 0]) :: (b3, .cells 90 2 [.int .u64 ((now : Nat) : Int), .slice ad L.length cap]) :: H) rfl rfl ty88 ty87 rfl (by decide) hO1 rfl (Holds.own zM) rfl (by simp only [maxLen]; omega) (by omega) zH rfl (fun v2 X2 hO2 => ?_)
  obtain ⟨ad2, cap2, rfl, _, _⟩ := hO2.shape
  refine W_nil ?_
  refine WC_goal ?_
  refine WC_take 8 (l' := #[true, true, true, true, true, true, true, true, true, true, false, false, false]) rfl (by decide +kernel) (by decide +kernel) (by decide +kernel) rfl (by decide +kernel) (X_build (l := [.int .u64 ((now : Nat) : Int), .slice ad2 (0 + L.length + 1) cap2]) ty90 pl90 (.cons rfl rfl rfl rfl rfl (.cons rfl rfl rfl rfl rfl .nil)) rfl rfl) rfl ?_
  refine WC_one 10 (l' := #[true, true, true, true, true, true, true, true, true, true, true, false, false]) zH (by decide +kernel) rfl (by decide +kernel) ?_
  refine W_storeA (l' := [.int .u64 ((now : Nat) : Int), .slice ad2 (0 + L.length + 1) cap2]) rfl rfl ty90 rfl rfl (b := b6) zM (by exact Nat.le_refl 2) rfl zU ?_
  refine W_nil ?_
  refine WC_goal ?_
  refine WC_one 11 (l' := #[true, true, true, true, true, true, true, true, true, true, true, true, false]) zH (by decide +kernel) rfl (by decide +kernel) ?_
  refine W_storeA (l' := e.v) rfl rfl ty69 rfl rfl (b := b7) zM (by exact Nat.le_refl 4) rfl zU ?_
  refine W_nil ?_
  refine WC_goal ?_
  refine WC_take 12 (l' := #[true, true, true, true, true, true, true, true, true, true, true, true, true]) rfl (by decide +kernel) (by decide +kernel) (by decide +kernel) rfl (by decide +kernel) (X_assign rfl) rfl ?_
  refine WC_done zH (by decide +kernel) ?_
  refine W_ret3G (H2 := X2 ++ H) Tryd.results64 (.nil _) (.own rfl ty90 rfl zM rfl) (.own rfl ty69 rfl zM rfl) (.tmp rfl) zH ?_
  exact ⟨_, X2, rfl, by rw [rowT_app, List.length_append]; simp only [Nat.zero_add, List.nil_append] at hO2 ⊢; exact hO2, rfl⟩
set_option maxHeartbeats 1000000 in
theorem rDel_hit {w0 : World} {H : Heap} {now cap : Nat} {L : List Tm} {ad : Option Addr} (hl : L.length ≤ 1000000) (hrow : Holds w0 H ad (rowT L)) {t : Tm} (hcap : L.length ≤ cap) (hn : (L.map (·.id)).Nodup) (hin : t ∈ L)  : LCalls Tryd.prog w0 68 #[.agg (List.toArray [.int .u64 ((now : Nat) : Int), .slice ad L.length cap]), .int .i64 t.id] (H) (fun v H' => ∃ sv XB, v = .tuple #[.agg (List.toArray [.int .u64 ((now : Nat) : Int), sv]), .bool true] ∧ OwnS 87 5 sv (delT L t.id).length (rowT (delT L t.id)) XB ∧ H' = XB ++ H) := by
  refine L_enter (l := [.agg (List.toArray [.int .u64 ((now : Nat) : Int), .slice ad L.length cap]), .int .i64 t.id]) Tryd.func68 rfl Tryd.ntmps68 rfl rfl ?_
  refine W_sr ?_
  refine W_box (l := [.int .u64 ((now : Nat) : Int), .slice ad L.length cap]) rfl rfl rfl (fun b2 => ?_)
  refine W_alloc (l := [.int .u64 0, .slice none 0 0]) ty90 rfl rfl (fun b4 => ?_)
  refine W_assign rfl rfl ?_
  refine W_nil ?_
  refine W_sr ?_
  refine W_loadB (vs := [.int .u64 ((now : Nat) : Int), .slice ad L.length cap]) rfl ty90 rfl (b := b2) zM rfl rfl rfl ?_
  refine W_move rfl rfl ?_
  refine W_call (.cons rfl (.cons rfl .nil)) Tryd.call37 rfl ((rFind_L (now := now) (cap := cap) (id := t.id) hl (hrow.up zH)).hsub (.refl _)) ?_
  rintro v H' ⟨z, rfl, hz, rfl⟩
  obtain ⟨i, t2, rfl, hi, e2⟩ := hz.resolve_right (fun h => h.2 (List.mem_map_of_mem hin))
  obtain rfl : t2 = t := tm_uniq hn (List.mem_of_getElem? hi) hin e2
  have hil := (List.getElem?_eq_some_iff.1 hi).1
  refine W_assign rfl rfl ?_
  refine W_nil ?_
  refine W_seq ?_
  refine W_sr ?_
  refine W_move rfl rfl ?_
  refine W_bin rfl rfl b_lss rfl ?_
  refine W_nil ?_
  refine W_condF rfl (decide_eq_false (by omega)) ?_
  refine W_skip ?_
  refine W_sr ?_
  refine W_buildSlice (l := []) ty88 ty87 .nil rfl rfl rfl rfl rfl rfl rfl (fun b14 => ?_)
  refine W_fieldAddr rfl fld90_1 (by decide) rfl ?_
  refine W_load rfl ty88 rfl (Cell.own zM rfl) rfl ?_
  refine W_move rfl rfl ?_
  obtain ⟨b0, o0, rfl, _⟩ := Holds.row tmC_len (by decide) hrow hi
  refine W_slice0 (hh := i) rfl ty88 ty87 rfl ⟨_, rfl⟩ (by omega) rfl ?_
  refine W_append (news := rowT (L.take i)) (m := i) (HB := [(b14, .cells 87 0 [])]) (H0 := (b4, .cells 90 2 [.int .u64 0, .slice none 0 0]) :: (b2, .cells 90 2 [.int .u64 ((now : Nat) : Int), .slice (some ⟨b0, o0, none⟩) L.length cap]) :: H) rfl rfl ty88 ty87 rfl (by decide) (OwnS.own (n := 0) (cap := 0) (xs := []) rfl (Nat.le_refl _) (Nat.zero_le _)) (by rw [rowT_len, List.length_take]; congr 1; omega) (by rw [← rowT_take]; exact (hrow.take _).up zH) (rowT_one _) (by simp only [maxLen]; omega) (by omega) (.refl _) rfl (fun v1 X1 hO1 => ?_)
  refine W_assign rfl rfl ?_
  refine W_nil ?_
  refine W_seq ?_
  refine W_anyC [(b2, .cells 90 2 [.int .u64 ((now : Nat) : Int), .slice (some ⟨b0, o0, none⟩) L.length cap])] (by kernel_rfl) ?_
  refine WC_take 0 (l' := #[true, false, false, false, false, false, false, false, false, false, false, false]) rfl (by decide +kernel) (by decide +kernel) (by decide +kernel) rfl (by decide +kernel) (X_fieldAddr rfl fld90_0 (by decide)) rfl ?_
  refine WC_take 1 (l' := #[true, true, false, false, false, false, false, false, false, false, false, false]) rfl (by decide +kernel) (by decide +kernel) (by decide +kernel) rfl (by decide +kernel) (X_load rfl ty28 rfl (Cell.own zM rfl)) rfl ?_
  refine WC_take 2 (l' := #[true, true, true, false, false, false, false, false, false, false, false, false]) rfl (by decide +kernel) (by decide +kernel) (by decide +kernel) rfl (by decide +kernel) (X_move rfl) rfl ?_
  refine WC_take 3 (l' := #[true, true, true, true, false, false, false, false, false, false, false, false]) rfl (by decide +kernel) (by decide +kernel) (by decide +kernel) rfl (by decide +kernel) (X_fieldAddr rfl fld90_1 (by decide)) rfl ?_
  refine WC_take 4 (l' := #[true, true, true, true, true, false, false, false, false, false, false, false]) rfl (by decide +kernel) (by decide +kernel) (by decide +kernel) rfl (by decide +kernel) (X_load rfl ty88 rfl (Cell.own zM rfl)) rfl ?_
  refine WC_take 5 (l' := #[true, true, true, true, true, true, false, false, false, false, false, false]) rfl (by decide +kernel) (by decide +kernel) (by decide +kernel) rfl (by decide +kernel) (X_move rfl) rfl ?_
  refine WC_take 6 (l' := #[true, true, true, true, true, true, true, false, false, false, false, false]) rfl (by decide +kernel) (by decide +kernel) (by decide +kernel) rfl (by decide +kernel) (X_bin rfl rfl (b_add (m := ((i + 1 : Nat) : Int)) (by rw [i64w (by omega)]; omega))) rfl ?_
  obtain ⟨o1, ho1⟩ : ∃ o1, o1 = if cap = i + 1 then o0 else o0 + (i + 1) * 5 := ⟨_, rfl⟩
  have hdr : Holds w0 H (some ⟨b0, o1, none⟩) (rowT (L.drop (i + 1))) := by
    rw [← rowT_drop]
    exact Holds.drop (cap := cap * 5) hrow (by rw [rowT_len]; omega) (fun h => by rw [ho1, if_neg (by omega)])
  refine WC_take 7 (l' := #[true, true, true, true, true, true, true, true, false, false, false, false]) rfl (by decide +kernel) (by decide +kernel) (by decide +kernel) rfl (by decide +kernel) (X_sliceAt (l := i + 1) (hh := L.length) rfl ty88 ty87 ⟨_, rfl⟩ rfl (by omega) hcap ho1) rfl ?_
  refine WC_one 8 (l' := #[true, true, true, true, true, true, true, true, true, false, false, false]) zH (by decide +kernel) rfl (by decide +kernel) ?_
  refine W_append (news := rowT (L.drop (i + 1))) (m := L.length - (i + 1)) (HB := X1) (H0 := (b4, .cells 90 2 [.int .u64 0, .slice none 0 0]) :: (b2, .cells 90 2 [.int .u64 ((now : Nat) : Int), .slice (some ⟨b0, o0, none⟩) L.length cap]) :: H) rfl rfl ty88 ty87 rfl (by decide) hO1 (by rw [rowT_len, List.length_drop]) (hdr.up zH) (rowT_one _) (by simp only [maxLen]; omega) (by omega) zH rfl (fun v2 X2 hO2 => ?_)
  obtain ⟨ad2, cap2, rfl, _, _⟩ := hO2.shape
  refine W_nil ?_
  refine WC_goal ?_
  refine WC_take 9 (l' := #[true, true, true, true, true, true, true, true, true, true, false, false]) rfl (by decide +kernel) (by decide +kernel) (by decide +kernel) rfl (by decide +kernel) (X_build (l := [.int .u64 ((now : Nat) : Int), .slice ad2 (0 + i + (L.length - (i + 1))) cap2]) ty90 pl90 (.cons rfl rfl rfl rfl rfl (.cons rfl rfl rfl rfl rfl .nil)) rfl rfl) rfl ?_
  refine WC_one 10 (l' := #[true, true, true, true, true, true, true, true, true, true, true, false]) zH (by decide +kernel) rfl (by decide +kernel) ?_
  refine W_storeA (l' := [.int .u64 ((now : Nat) : Int), .slice ad2 (0 + i + (L.length - (i + 1))) cap2]) rfl rfl ty90 rfl rfl (b := b4) zM (by exact Nat.le_refl 2) rfl zU ?_
  refine W_nil ?_
  refine WC_goal ?_
  refine WC_take 11 (l' := #[true, true, true, true, true, true, true, true, true, true, true, true]) rfl (by decide +kernel) (by decide +kernel) (by decide +kernel) rfl (by decide +kernel) (X_assign rfl) rfl ?_
  refine WC_done zH (by decide +kernel) ?_
  refine W_ret2G (H2 := X2 ++ H) Tryd.results68 (.nil _) (.own rfl ty90 rfl zM rfl) (.tmp rfl) zH ?_
  refine ⟨_, X2, rfl, ?_, rfl⟩
  rw [delT_at hn hi, rowT_app, List.length_append, List.length_take, List.length_drop, Nat.min_eq_left (by omega)]
  simp only [Nat.zero_add, List.nil_append] at hO2 ⊢
  exact hO2
end Go.Proofs.YtkcaakkaioingaaDoor
namespace Go.Proofs.YtkcaakkaioingaaDoor
open Go Go.Sl
attribute [local irreducible] W
structure Goi (a : Nat) (L Li O : List Tm) : Prop where
  mem : ∀ t ∈ O, t ∈ L ∧ t.s.due ≤ a
  left : Li = L.filter (fun t => decide (t ∉ O))
  nodup : O.Nodup
  asc : O.Pairwise ahead
  cross : ∀ o ∈ O, ∀ t ∈ Li, ahead o t
theorem Goi.start {a : Nat} {L : List Tm} : Goi a L L [] :=
  ⟨fun t h => (by cases h), (List.filter_eq_self.2 fun t _ => by simp).symm, .nil, .nil, fun o h => (by cases h)⟩
theorem Goi.sub {a : Nat} {L Li O : List Tm} (h : Goi a L Li O) : List.Sublist Li L := by rw [h.left]; exact List.filter_sublist
theorem nodup_le {α : Type} [DecidableEq α] : ∀ {a b : List α}, a.Nodup → (∀ x ∈ a, x ∈ b) → a.length ≤ b.length
  | [], _, _, _ => Nat.zero_le _
  | x :: a, b, hn, h => by
    have hn' := List.nodup_cons.1 hn
    have hx := h x List.mem_cons_self
    have := nodup_le (a := a) (b := b.erase x) hn'.2 (fun y hy => (List.mem_erase_of_ne (fun e : y = x => hn'.1 (e ▸ hy))).2 (h y (List.mem_cons_of_mem _ hy)))
    rw [List.length_erase_of_mem hx] at this
    have : 0 < b.length := List.length_pos_of_mem hx
    simp only [List.length_cons]; omega
theorem Goi.len {a : Nat} {L Li O : List Tm} (h : Goi a L Li O) : O.length ≤ L.length := nodup_le h.nodup fun t ht => (h.mem t ht).1
theorem Goi.step {a i : Nat} {L Li O : List Tm} {t : Tm} (h : Goi a L Li O) (hn : (L.map (·.id)).Nodup) (ht : L.Pairwise (fun x y => x.turn < y.turn)) (hi : Li[i]? = some t) (hle : ∀ u ∈ Li, t.s.due ≤ u.s.due) (hf : ∀ (j : Nat) u, j < i → Li[j]? = some u → t.s.due < u.s.due) (hd : t.s.due ≤ a) : Goi a L (delT Li t.id) (O ++ [t]) := by
  have hin := List.mem_of_getElem? hi
  have hL := h.sub.subset hin
  have hno : t ∉ O := by rw [h.left] at hin; exact of_decide_eq_true (List.mem_filter.1 hin).2
  have hLn : (Li.map (·.id)).Nodup := hn.sublist (h.sub.map _)
  have hLt : Li.Pairwise (fun x y => x.turn < y.turn) := ht.sublist h.sub
  refine ⟨fun u hu => (List.mem_append.1 hu).elim (h.mem u) (fun h => by rw [List.mem_singleton.1 h]; exact ⟨hL, hd⟩), ?_, ?_, ?_, ?_⟩
  · unfold delT
    conv => lhs; rw [h.left]
    rw [List.filter_filter]
    refine List.filter_congr fun u hu => ?_
    rw [← Bool.decide_and]
    refine decide_eq_decide.2 ⟨fun ⟨h1, h2⟩ h3 => ?_, fun h1 => ⟨fun e => h1 ?_, fun h2 => h1 (List.mem_append_left _ h2)⟩⟩
    · rcases List.mem_append.1 h3 with h3 | h3
      · exact h2 h3
      · exact h1 (by rw [List.mem_singleton.1 h3])
    · rw [tm_uniq hn hu hL e]; exact List.mem_append_right _ List.mem_cons_self
  · rw [List.nodup_append]
    exact ⟨h.nodup, by simp, fun x hx y hy e => hno (by rw [← List.mem_singleton.1 hy, ← e]; exact hx)⟩
  · rw [List.pairwise_append]
    exact ⟨h.asc, List.pairwise_singleton _ _, fun x hx y hy => by rw [List.mem_singleton.1 hy]; exact h.cross x hx t hin⟩
  · intro o ho u hu
    obtain ⟨hu1, hu2⟩ := List.mem_filter.1 hu
    rcases List.mem_append.1 ho with ho | ho
    · exact h.cross o ho u hu1
    · rw [List.mem_singleton.1 ho]
      have h1 := hle u hu1
      by_cases e : t.s.due = u.s.due
      · refine .inr ⟨e, ?_⟩
        obtain ⟨j, hj, ej⟩ := List.getElem_of_mem hu1
        have hij : i < j := by
          rcases Nat.lt_trichotomy j i with c | c | c
          · have := hf j u c (by rw [List.getElem?_eq_getElem hj, ej]); omega
          · subst c
            rw [List.getElem?_eq_getElem hj, ej] at hi
            exact absurd (congrArg Tm.id (Option.some.inj hi)) (of_decide_eq_true hu2)
          · exact c
        have hi2 := (List.getElem?_eq_some_iff.1 hi)
        have := List.pairwise_iff_getElem.1 hLt i j hi2.1 hj hij
        rwa [hi2.2, ej] at this
      · exact .inl (by omega)
theorem Goi.done {now a : Nat} {L Li O : List Tm} (h : Goi a L Li O) (hn : (L.map (·.id)).Nodup) (hle : now ≤ a) (hl : ∀ t ∈ Li, a < t.s.due) : Gone now a L Li O := by
  have hiff : ∀ t ∈ L, (t ∉ O ↔ a < t.s.due) := fun t ht => ⟨fun h1 => hl t (by rw [h.left]; exact List.mem_filter.2 ⟨ht, decide_eq_true h1⟩), fun h1 h2 => by have := (h.mem t h2).2; omega⟩
  have hLn : L.Nodup := List.Pairwise.of_map _ (fun a b h e => h (congrArg Tm.id e)) hn
  refine ⟨hle, ?_, ?_, h.asc⟩
  · rw [h.left]
    exact List.filter_congr fun t ht => decide_eq_decide.2 (hiff t ht)
  · refine (List.perm_ext_iff_of_nodup h.nodup (hLn.sublist List.filter_sublist)).2 fun t => ⟨fun h1 => List.mem_filter.2 ⟨(h.mem t h1).1, decide_eq_true (h.mem t h1).2⟩, fun h1 => ?_⟩
    obtain ⟨h2, h3⟩ := List.mem_filter.1 h1
    have := of_decide_eq_true h3
    by_cases c : t ∈ O
    · exact c
    · have := (hiff t h2).1 c; omega
structure RtS where
  Li : List Tm
  O : List Tm
  v : Value
  XO : Heap
  ad : Option Addr
  cap : Nat
  XR : Heap
  z : Int
set_option maxHeartbeats 1000000 in
theorem rTo_stay {w0 : World} {H : Heap} {now cap : Nat} {L : List Tm} {ad : Option Addr} (hl : L.length ≤ 1000000) (hrow : Holds w0 H ad (rowT L)) {a : Nat} (ha : a ≤ now)  : PureAt Tryd.prog w0 H 72 [.agg (List.toArray [.int .u64 ((now : Nat) : Int), .slice ad L.length cap]), .int .u64 ((a : Nat) : Int)] (.tuple #[.agg (List.toArray [.int .u64 ((now : Nat) : Int), .slice ad L.length cap]), .slice none 0 0]) := by
  refine L_enter Tryd.func72 rfl Tryd.ntmps72 rfl rfl ?_
  refine W_sr ?_
  refine W_box (l := [.int .u64 ((now : Nat) : Int), .slice ad L.length cap]) rfl rfl rfl (fun b2 => ?_)
  refine W_alloc (l := [.int .u64 0, .slice none 0 0]) ty90 rfl rfl (fun b4 => ?_)
  refine W_assign rfl rfl ?_
  refine W_nil ?_
  refine W_sr ?_
  refine W_assign rfl rfl ?_
  refine W_nil ?_
  refine W_seq ?_
  refine W_sr ?_
  refine W_move rfl rfl ?_
  refine W_fieldAddr rfl fld90_0 (by decide) rfl ?_
  refine W_load rfl ty28 rfl (Cell.own zM rfl) rfl ?_
  refine W_bin rfl rfl b_leq rfl ?_
  refine W_nil ?_
  refine W_condT rfl (decide_eq_true (by omega)) ?_
  refine W_sr ?_
  refine W_loadB (vs := [.int .u64 ((now : Nat) : Int), .slice ad L.length cap]) rfl ty90 rfl (b := b2) zM rfl rfl rfl ?_
  refine W_move rfl rfl ?_
  refine W_storeA (l' := [.int .u64 ((now : Nat) : Int), .slice ad L.length cap]) rfl rfl ty90 rfl rfl (b := b4) zM (by exact Nat.le_refl 2) rfl zU ?_
  refine W_assign rfl rfl ?_
  refine W_nil ?_
  refine W_ret2G (H2 := H) Tryd.results72 (.nil _) (.own rfl ty90 rfl zM rfl) (.tmp rfl) zH ?_
  exact ⟨rfl, rfl⟩
theorem delT_lt {L : List Tm} {t : Tm} (h : t ∈ L) : (delT L t.id).length < L.length := List.length_filter_lt_length_iff_exists.2 ⟨t, h, by simp⟩
set_option maxHeartbeats 4000000 in
theorem rTo_go {w0 : World} {H : Heap} {HR : Heap} {now cap : Nat} {L : List Tm} {ad : Option Addr} (hl : L.length ≤ 1000000) (hrow : Holds w0 HR ad (rowT L)) (hHR : HSub H HR) {a : Nat} (hcap : L.length ≤ cap) (hlt : now < a) (hn : (L.map (·.id)).Nodup) (ht : L.Pairwise (fun x y => x.turn < y.turn))  : LCalls Tryd.prog w0 72 #[.agg (List.toArray [.int .u64 ((now : Nat) : Int), .slice ad L.length cap]), .int .u64 ((a : Nat) : Int)] (H) (fun v H' => ∃ (Li O : List Tm) (ov : Value) (ad' : Option Addr) (cap' : Nat) (XR XO : Heap), v = .tuple #[.agg (List.toArray [.int .u64 ((a : Nat) : Int), .slice ad' Li.length cap']), ov] ∧ Gone now a L Li O ∧ Li.length ≤ cap' ∧ Holds w0 (XR ++ HR) ad' (rowT Li) ∧ OwnS 3 1 ov O.length ((O.map (·.id)).map (Value.int .i64)) XO ∧ H' = XO ++ (XR ++ H)) := by
  refine L_enter (l := [.agg (List.toArray [.int .u64 ((now : Nat) : Int), .slice ad L.length cap]), .int .u64 ((a : Nat) : Int)]) Tryd.func72 rfl Tryd.ntmps72 rfl rfl ?_
  refine W_sr ?_
  refine W_box (l := [.int .u64 ((now : Nat) : Int), .slice ad L.length cap]) rfl rfl rfl (fun b2 => ?_)
  refine W_alloc (l := [.int .u64 0, .slice none 0 0]) ty90 rfl rfl (fun b4 => ?_)
  refine W_assign rfl rfl ?_
  refine W_nil ?_
  refine W_sr ?_
  refine W_assign rfl rfl ?_
  refine W_nil ?_
  refine W_seq ?_
  refine W_sr ?_
  refine W_move rfl rfl ?_
  refine W_fieldAddr rfl fld90_0 (by decide) rfl ?_
  refine W_load rfl ty28 rfl (Cell.own zM rfl) rfl ?_
  refine W_bin rfl rfl b_leq rfl ?_
  refine W_nil ?_
  refine W_condF rfl (decide_eq_false (by omega)) ?_
  refine W_skip ?_
  refine W_sr ?_
  refine W_loadB (vs := [.int .u64 ((now : Nat) : Int), .slice ad L.length cap]) rfl ty90 rfl (b := b2) zM rfl rfl rfl ?_
  refine W_call (.cons rfl .nil) Tryd.call76 rfl ((rNext_L (now := now) (cap := cap) (ad := ad) (L := L) hl (hrow.up ((show HSub _ H from zH).trans hHR))).hsub (.refl _)) ?_
  rintro v H' ⟨z0, rfl, hB0, rfl⟩
  refine W_assign rfl rfl ?_
  refine W_nil ?_
  refine W_seq ?_
  refine W_block ?_
  refine W_loopC (X := RtS) [(1, _), (2, _), (4, _)] (fun (x : RtS) => [(6, x.v), (7, .int .i64 x.z)]) (fun _ => _) (fun (x : RtS) => (b4, .cells 90 2 [.int .u64 0, .slice none 0 0]) :: (b2, .cells 90 2 [.int .u64 ((now : Nat) : Int), .slice x.ad (x.Li).length x.cap]) :: (x.XO ++ (x.XR ++ H))) (fun (x : RtS) => Holds w0 (x.XR ++ HR) x.ad (rowT x.Li) ∧ x.Li.length ≤ x.cap ∧ BestT x.Li x.z ∧ OwnS 3 1 x.v x.O.length ((x.O.map (·.id)).map (Value.int .i64)) x.XO ∧ Goi a L x.Li x.O) (fun (x : RtS) => x.Li.length) ⟨L, [], .slice none 0 0, [], ad, cap, [], z0⟩ ⟨hrow, hcap, hB0, .nil, .start⟩ (sub_cons rfl (sub_cons rfl (sub_cons rfl (sub_nil _)))) (sub_cons rfl (sub_cons rfl (sub_nil _))) rfl (.refl _) ?_
  rintro ⟨Li, O, v, XO, ad, cap, XR, z⟩ ⟨hrw, hcp, hB, hO, hG⟩
  dsimp only at hrw hcp hB hO hG ⊢
  have hLl := hG.sub.length_le
  have hOl := hG.len
  simp only [List.cons_append, List.nil_append]
  refine W_seq ?_
  refine W_sr ?_
  rcases hB with ⟨rfl, hnil⟩ | ⟨i, t, rfl, hti, hle, hfirst⟩
  · skip
    refine W_move rfl rfl ?_
    refine W_bin rfl rfl b_geq rfl ?_
    first | rw [decide_eq_true (by omega)] | rw [decide_eq_false (by omega)]
    refine W_move rfl rfl ?_
    refine W_gno rfl rfl rfl ?_
    refine W_gno rfl rfl rfl ?_
    refine W_gno rfl rfl rfl ?_
    refine W_gno rfl rfl rfl ?_
    refine W_gno rfl rfl rfl ?_
    refine W_gno rfl rfl rfl ?_
    refine W_gno rfl rfl rfl ?_
    refine W_gno rfl rfl rfl ?_
    refine W_gno rfl rfl rfl ?_
    first | refine W_pickt rfl rfl rfl ?_ | refine W_pickf rfl rfl rfl ?_
    refine W_nil ?_
    refine W_condF rfl rfl ?_
    refine W_exit rfl ?_
    refine W_sr ?_
    refine W_move rfl rfl ?_
    refine W_fieldAddr rfl fld90_1 (by decide) rfl ?_
    refine W_load rfl ty88 rfl (Cell.own zM rfl) rfl ?_
    refine W_build (l := [.int .u64 ((a : Nat) : Int), .slice ad Li.length cap]) ty90 pl90 (.cons rfl rfl rfl rfl rfl (.cons rfl rfl rfl rfl rfl .nil)) rfl rfl rfl ?_
    refine W_move rfl rfl ?_
    refine W_storeA (l' := [.int .u64 ((a : Nat) : Int), .slice ad Li.length cap]) rfl rfl ty90 rfl rfl (b := b4) zM (by exact Nat.le_refl 2) rfl zU ?_
    refine W_assign rfl rfl ?_
    refine W_nil ?_
    refine W_ret2G (H2 := XO ++ (XR ++ H)) Tryd.results72 (.nil _) (.own rfl ty90 rfl zM rfl) (.tmp rfl) zH ?_
    have hfin : ∀ u ∈ Li, a < u.s.due := by rw [hnil]; intro u hu; cases hu
    exact ⟨Li, O, v, _, cap, XR, XO, rfl, hG.done hn (by omega) hfin, hcp, hrw, hO, rfl⟩
  · skip
    have hil := (List.getElem?_eq_some_iff.1 hti).1
    obtain ⟨q0_, p0_, rfl, hc⟩ := Holds.row tmC_len (by decide) hrw hti
    refine W_move rfl rfl ?_
    refine W_bin rfl rfl b_geq rfl ?_
    first | rw [decide_eq_true (by omega)] | rw [decide_eq_false (by omega)]
    refine W_move rfl rfl ?_
    refine W_gyes rfl rfl ?_
    refine W_fieldAddr rfl fld90_1 (by decide) rfl ?_
    refine W_gyes rfl rfl ?_
    refine W_load rfl ty88 rfl (Cell.own zM rfl) rfl ?_
    refine W_gyes rfl rfl ?_
    refine W_move rfl rfl ?_
    refine W_gyes rfl rfl ?_
    refine W_indexAddr (j := i) rfl rfl ty88 ty87 rfl (by omega) rfl rfl ?_
    refine W_gyes rfl rfl ?_
    refine W_fieldAddr rfl fld87_1 (by decide) rfl ?_
    refine W_gyes rfl rfl ?_
    refine W_fieldAddr rfl fld69_3 (by decide) rfl ?_
    refine W_gyes rfl rfl ?_
    refine W_load (v := .int .u64 (t.s.due : Int)) rfl ty28 rfl ((hc 4 (.int .u64 (t.s.due : Int)) rfl).up ((show HSub _ (XR ++ H) from zH).trans (HSub.app (TakeS.here _) hHR))) rfl ?_
    refine W_gyes rfl rfl ?_
    refine W_move rfl rfl ?_
    refine W_gyes rfl rfl ?_
    refine W_bin rfl rfl b_leq rfl ?_
    first | refine W_pickt rfl rfl rfl ?_ | refine W_pickf rfl rfl rfl ?_
    refine W_nil ?_
    refine W_condPS (p := t.s.due ≤ a) rfl (by rw [decide_eq_true_eq]; exact Int.ofNat_le) (fun q0 => ?_) (fun q0 => ?_)
    · skip
      refine W_skip ?_
      refine W_block ?_
      refine W_sr ?_
      refine W_move rfl rfl ?_
      refine W_fieldAddr rfl fld90_1 (by decide) rfl ?_
      refine W_load rfl ty88 rfl (Cell.own zM rfl) rfl ?_
      refine W_move rfl rfl ?_
      refine W_indexAddr (j := i) rfl rfl ty88 ty87 rfl (by omega) rfl rfl ?_
      refine W_fieldAddr rfl fld87_0 (by decide) rfl ?_
      refine W_load (v := .int .i64 t.id) rfl ty3 rfl ((hc 0 (.int .i64 t.id) rfl).up ((show HSub _ (XR ++ H) from zH).trans (HSub.app (TakeS.here _) hHR))) rfl ?_
      refine W_buildSlice (l := [.int .i64 t.id]) ty58 ty3 (.cons rfl rfl rfl rfl rfl .nil) rfl rfl rfl rfl rfl rfl rfl (fun b36 => ?_)
      refine W_append (news := [.int .i64 t.id]) (m := 1) (HB := XO) (H0 := (b36, .cells 3 1 [.int .i64 t.id]) :: (b2, .cells 90 2 [.int .u64 ((now : Nat) : Int), .slice (some ⟨q0_, p0_, none⟩) (Li).length cap]) :: (b4, .cells 90 2 [.int .u64 0, .slice none 0 0]) :: (XR ++ H)) rfl rfl ty58 ty3 rfl (by decide) hO rfl (Holds.own zM) rfl (by simp only [maxLen]; omega) (by omega) zH rfl (fun v' XO' hO' => ?_)
      refine W_assign rfl rfl ?_
      refine W_nil ?_
      refine W_seq ?_
      refine W_anyS ((b2, .cells 90 2 [.int .u64 ((now : Nat) : Int), .slice (some ⟨q0_, p0_, none⟩) (Li).length cap]) :: (XR ++ H)) 11 (by kernel_rfl) ?_
      refine WS_take 0 (l' := #[true, false, false, false, false, false, false, false, false, false, false, false]) rfl rfl (by decide +kernel) (by decide +kernel) (by decide +kernel) (by decide +kernel) rfl (by decide +kernel) (X_loadB (vs := [.int .u64 ((now : Nat) : Int), .slice (some ⟨q0_, p0_, none⟩) Li.length cap]) rfl ty90 rfl (b := b2) zM rfl rfl) rfl ?_
      refine WS_take 1 (l' := #[true, true, false, false, false, false, false, false, false, false, false, false]) rfl rfl (by decide +kernel) (by decide +kernel) (by decide +kernel) (by decide +kernel) rfl (by decide +kernel) (X_fieldAddr rfl fld90_1 (by decide)) rfl ?_
      refine WS_take 2 (l' := #[true, true, true, false, false, false, false, false, false, false, false, false]) rfl rfl (by decide +kernel) (by decide +kernel) (by decide +kernel) (by decide +kernel) rfl (by decide +kernel) (X_load (v := .slice (some ⟨q0_, p0_, none⟩) Li.length cap) rfl ty88 rfl (Cell.own (b := b2) zM rfl)) rfl ?_
      refine WS_take 3 (l' := #[true, true, true, true, false, false, false, false, false, false, false, false]) rfl rfl (by decide +kernel) (by decide +kernel) (by decide +kernel) (by decide +kernel) rfl (by decide +kernel) (X_move rfl) rfl ?_
      refine WS_take 4 (l' := #[true, true, true, true, true, false, false, false, false, false, false, false]) rfl rfl (by decide +kernel) (by decide +kernel) (by decide +kernel) (by decide +kernel) rfl (by decide +kernel) (X_indexAddr (j := i) rfl rfl ty88 ty87 rfl (by omega) rfl) rfl ?_
      refine WS_take 5 (l' := #[true, true, true, true, true, true, false, false, false, false, false, false]) rfl rfl (by decide +kernel) (by decide +kernel) (by decide +kernel) (by decide +kernel) rfl (by decide +kernel) (X_fieldAddr rfl fld87_0 (by decide)) rfl ?_
      refine WS_take 6 (l' := #[true, true, true, true, true, true, true, false, false, false, false, false]) rfl rfl (by decide +kernel) (by decide +kernel) (by decide +kernel) (by decide +kernel) rfl (by decide +kernel) (X_load (v := .int .i64 t.id) rfl ty3 rfl ((hc 0 (.int .i64 t.id) rfl).up (.drop (HSub.app (TakeS.here _) hHR)))) rfl ?_
      refine WS_one 7 (l' := #[true, true, true, true, true, true, true, true, false, false, false, false]) zH rfl (by decide +kernel) rfl (by decide +kernel) ?_
      refine W_call (.cons rfl (.cons rfl .nil)) Tryd.call68 rfl (rDel_hit (w0 := w0) (now := now) (cap := cap) (t := t) (H := XO' ++ ((b36, .cells 3 1 [.int .i64 t.id]) :: (b2, .cells 90 2 [.int .u64 ((now : Nat) : Int), .slice (some ⟨q0_, p0_, none⟩) (Li).length cap]) :: (b4, .cells 90 2 [.int .u64 0, .slice none 0 0]) :: (XR ++ H))) (by omega) (hrw.up ((show HSub _ (XR ++ H) from zH).trans (HSub.app (TakeS.here _) hHR))) hcp (hn.sublist (hG.sub.map _)) (List.mem_of_getElem? hti)) ?_
      rintro v2 H' ⟨sv2, XB2, rfl, hR2, rfl⟩
      obtain ⟨ad2, cap2, rfl, hcp2, _⟩ := hR2.shape
      have hrw2 : Holds w0 (XB2 ++ HR) ad2 (rowT (delT Li t.id)) := OwnS.holds hR2 (fun p hp => List.mem_append_left _ hp)
      have hG2 := hG.step hn ht hti hle hfirst q0
      have hd2 : (delT Li t.id).length ≤ Li.length := List.length_filter_le _ _
      refine W_nil ?_
      refine WS_goal ?_
      refine WS_take 8 (l' := #[true, true, true, true, true, true, true, true, true, false, false, false]) rfl rfl (by decide +kernel) (by decide +kernel) (by decide +kernel) (by decide +kernel) rfl (by decide +kernel) (X_move rfl) rfl ?_
      refine WS_take 9 (l' := #[true, true, true, true, true, true, true, true, true, true, false, false]) rfl rfl (by decide +kernel) (by decide +kernel) (by decide +kernel) (by decide +kernel) rfl (by decide +kernel) (X_extract rfl rfl) rfl ?_
      refine WS_takeP 10 (l' := #[true, true, true, true, true, true, true, true, true, true, true, false]) rfl rfl (by decide +kernel) (by decide +kernel) (by decide +kernel) rfl (by decide +kernel) (X_extract rfl rfl) rfl ?_
      refine WS_last (l' := #[true, true, true, true, true, true, true, true, true, true, true, true]) zH (by decide +kernel) rfl (by decide +kernel) ?_
      refine W_storeA (l' := [.int .u64 ((now : Nat) : Int), .slice ad2 (delT Li t.id).length cap2]) rfl rfl ty90 rfl rfl (b := b2) zM (by exact Nat.le_refl 2) rfl zU ?_
      refine W_nil ?_
      refine WC_goal ?_
      refine WC_done (.nil _) (by decide +kernel) ?_
      refine W_region ?_
      refine W_loadB (vs := [.int .u64 ((now : Nat) : Int), .slice ad2 (delT Li t.id).length cap2]) rfl ty90 rfl (b := b2) zM rfl rfl rfl ?_
      refine W_call (.cons rfl .nil) Tryd.call76 rfl ((rNext_L (now := now) (cap := cap2) (ad := ad2) (L := (delT Li t.id)) (by omega) (hrw2.up ((show HSub _ (XB2 ++ H) from zH).trans (HSub.app (TakeS.here _) hHR)))).hsub (.refl _)) ?_
      rintro v H' ⟨z0, rfl, hB0, rfl⟩
      refine W_assign rfl rfl ?_
      refine W_nil ?_
      refine W_blk ?_
      refine W_again ⟨delT Li t.id, O ++ [t], v', XO', ad2, cap2, XB2, z0⟩ ⟨hrw2, hcp2, hB0, by show OwnS 3 1 v' (O ++ [t]).length (((O ++ [t]).map (·.id)).map (Value.int .i64)) XO'; rw [List.map_append, List.map_append, List.length_append]; exact hO', hG2⟩ (delT_lt (List.mem_of_getElem? hti)) (sub_cons rfl (sub_cons rfl (sub_cons rfl (sub_cons rfl (sub_cons rfl (sub_nil _)))))) rfl zH
    · skip
      refine W_exit rfl ?_
      refine W_sr ?_
      refine W_move rfl rfl ?_
      refine W_fieldAddr rfl fld90_1 (by decide) rfl ?_
      refine W_load rfl ty88 rfl (Cell.own zM rfl) rfl ?_
      refine W_build (l := [.int .u64 ((a : Nat) : Int), .slice (some ⟨q0_, p0_, none⟩) Li.length cap]) ty90 pl90 (.cons rfl rfl rfl rfl rfl (.cons rfl rfl rfl rfl rfl .nil)) rfl rfl rfl ?_
      refine W_move rfl rfl ?_
      refine W_storeA (l' := [.int .u64 ((a : Nat) : Int), .slice (some ⟨q0_, p0_, none⟩) Li.length cap]) rfl rfl ty90 rfl rfl (b := b4) zM (by exact Nat.le_refl 2) rfl zU ?_
      refine W_assign rfl rfl ?_
      refine W_nil ?_
      refine W_ret2G (H2 := XO ++ (XR ++ H)) Tryd.results72 (.nil _) (.own rfl ty90 rfl zM rfl) (.tmp rfl) zH ?_
      have hfin : ∀ u ∈ Li, a < u.s.due := fun u hu => by have := hle u hu; omega
      exact ⟨Li, O, v, _, cap, XR, XO, rfl, hG.done hn (by omega) hfin, hcp, hrw, hO, rfl⟩
set_option maxHeartbeats 1000000 in
theorem rOfS_pure {e : Spot} : Pure Tryd.prog (fun _ => True) 29 [.agg e.v.toArray] (.agg e.v.toArray) := by
  intro w0 H hT
  refine L_enter Tryd.func29 rfl Tryd.ntmps29 rfl rfl ?_
  refine W_sr ?_
  refine W_box (l := e.v) rfl rfl rfl (fun b1 => ?_)
  refine W_alloc (l := zSpot.v) ty69 rfl rfl (fun b2 => ?_)
  refine W_nil ?_
  refine W_sr ?_
  refine W_fieldAddr rfl fld72_0 (by decide) rfl ?_
  refine W_load (v := .int .i64 (e.lv : Int)) rfl ty3 rfl (Cell.own (b := b1) zM rfl) rfl ?_
  refine W_fieldAddr rfl fld72_1 (by decide) rfl ?_
  refine W_load (v := .int .i64 (e.slot : Int)) rfl ty3 rfl (Cell.own (b := b1) zM rfl) rfl ?_
  refine W_fieldAddr rfl fld72_2 (by decide) rfl ?_
  refine W_load (v := .int .u64 (e.at_ : Int)) rfl ty28 rfl (Cell.own (b := b1) zM rfl) rfl ?_
  refine W_fieldAddr rfl fld72_3 (by decide) rfl ?_
  refine W_load (v := .int .u64 (e.due : Int)) rfl ty28 rfl (Cell.own (b := b1) zM rfl) rfl ?_
  refine W_build (l := e.v) ty69 pl69 (.cons rfl rfl rfl rfl rfl (.cons rfl rfl rfl rfl rfl (.cons rfl rfl rfl rfl rfl (.cons rfl rfl rfl rfl rfl .nil)))) rfl rfl rfl ?_
  refine W_storeA (l' := e.v) rfl rfl ty69 rfl rfl (b := b2) zM (by exact Nat.le_refl 4) rfl zU ?_
  refine W_nil ?_
  refine W_ret1cO (H2 := H) Tryd.results29 rfl (.nil _) ty69 rfl zM rfl zH ?_
  exact ⟨rfl, rfl⟩
end Go.Proofs.YtkcaakkaioingaaDoor
namespace Go.Proofs.YtkcaakkaioingaaDoor
open Go Go.Sl
attribute [local irreducible] W
abbrev St := List (Nat × List Tm)
def findS (S : St) (id : Int) : Option Nat := S.findIdx? (fun x => heldB x.2 id)
def findZ (S : St) (id : Int) : Int := match findS S id with | some k => (k : Int) | none => -1
def putS (S : St) (tn : Nat) (cpu id : Int) (a : Nat) : St × Spot × Int :=
  if cpu < 0 ∨ (S.length : Int) ≤ cpu ∨ id < 0 ∨ 255 < id then (S, zSpot, 2)
  else if (findS S id).isSome = true then (S, zSpot, 5)
  else match S[cpu.toNat]? with
    | none => (S, zSpot, 2)
    | some x => if x.1 = 18446744073709551615 then (S, zSpot, 12) else (S.set cpu.toNat (x.1, x.2 ++ [tmOf x.1 a tn id]), (placeT x.1 a).1, 0)
def delOne (S : St) (id : Int) : St := match findS S id with
  | none => S
  | some k => match S[k]? with
    | none => S
    | some x => S.set k (x.1, delT x.2 id)
def CatchS (S : St) (cpu : Int) (a : Nat) (S' : St) (O : List Tm) : Prop :=
  ((cpu < 0 ∨ (S.length : Int) ≤ cpu) ∧ S' = S ∧ O = []) ∨ ∃ (k : Nat) (now : Nat) (L Li : List Tm), cpu = (k : Int) ∧ S[k]? = some (now, L) ∧ Gone now (max now a) L Li O ∧ S' = S.set k (max now a, Li)
structure WOk (x : Nat × List Tm) : Prop where
  len : x.2.length ≤ 256
  now : x.1 ≤ 18446744073709551615
  ids : (x.2.map (·.id)).Nodup
  asc : x.2.Pairwise (fun a b => a.turn < b.turn)
  later : ∀ t ∈ x.2, x.1 < t.s.due
def StOk (S : St) : Prop := ∀ x ∈ S, WOk x
structure Rw where
  now : Nat
  L : List Tm
  ad : Option Addr
  cap : Nat
abbrev rwC (d : Rw) : List Value := [.int .u64 ((d.now : Nat) : Int), .slice d.ad d.L.length d.cap]
abbrev rwRow (Ds : List Rw) : List Value := Ds.flatMap rwC
def Rw.nl (d : Rw) : Nat × List Tm := (d.now, d.L)
theorem rwC_len (d : Rw) : (rwC d).length = 2 := rfl
theorem rwRow_len (Ds : List Rw) : (rwRow Ds).length = Ds.length * 2 := flat_length rwC_len Ds
theorem rwRow_one (Ds : List Rw) : (rwRow Ds).all Value.oneCell' = true := by
  rw [List.all_flatMap, List.all_eq_true]; exact fun t _ => rfl
structure RbIs (w0 : World) (H : Heap) (S : St) (ad : Option Addr) (Ds : List Rw) : Prop where
  row : Holds w0 H ad (rwRow Ds)
  each : ∀ d ∈ Ds, Holds w0 H d.ad (rowT d.L) ∧ d.L.length ≤ d.cap
  st : Ds.map Rw.nl = S
def RbV (w0 : World) (H : Heap) (S : St) (v : Value) : Prop := ∃ ad cap Ds, v = .slice ad S.length cap ∧ RbIs w0 H S ad Ds
theorem RbV.up {w0 : World} {H H' : Heap} {S : St} {v : Value} (h : RbV w0 H S v) (hs : HSub H' H) : RbV w0 H' S v := by
  obtain ⟨ad, cap, Ds, e, h⟩ := h
  exact ⟨ad, cap, Ds, e, h.row.up hs, fun d hd => ⟨(h.each d hd).1.up hs, (h.each d hd).2⟩, h.st⟩
theorem StOk.of {Ds : List Rw} (h : StOk (Ds.map Rw.nl)) {d : Rw} (hd : d ∈ Ds) : WOk (d.now, d.L) := h _ (List.mem_map_of_mem hd)
theorem findS_some {S : St} {id : Int} {k : Nat} {x : Nat × List Tm} (hw : S[k]? = some x) (hh : heldB x.2 id = true) (hf : ∀ (j : Nat) u, j < k → S[j]? = some u → heldB u.2 id = false) : findS S id = some k := by
  unfold findS
  have hk := (List.getElem?_eq_some_iff.1 hw)
  have hk1 := hk.1
  refine List.findIdx?_eq_some_iff_getElem.2 ⟨hk.1, by rw [hk.2]; exact hh, fun j hj => ?_⟩
  rw [hf j _ hj (List.getElem?_eq_getElem (by omega))]; simp
theorem findS_none {S : St} {id : Int} (hf : ∀ (j : Nat) u, j < S.length → S[j]? = some u → heldB u.2 id = false) : findS S id = none := by
  unfold findS
  rw [List.findIdx?_eq_none_iff]
  intro w hw
  obtain ⟨j, hj, e⟩ := List.getElem_of_mem hw
  exact hf j w hj (by rw [List.getElem?_eq_getElem hj, e])
theorem findS_at {S : St} {id : Int} {k : Nat} (h : findS S id = some k) : ∃ x, S[k]? = some x ∧ heldB x.2 id = true := by
  unfold findS at h
  obtain ⟨h1, h2, _⟩ := List.findIdx?_eq_some_iff_getElem.1 h
  exact ⟨_, List.getElem?_eq_getElem h1, h2⟩
theorem findS_no {S : St} {id : Int} (h : findS S id = none) {x : Nat × List Tm} (hx : x ∈ S) : id ∉ x.2.map (·.id) := fun hin => by
  unfold findS at h
  rw [List.findIdx?_eq_none_iff] at h
  have := h x hx
  rw [heldB_iff.2 hin] at this; cases this
theorem repl_snoc {α : Type} (x : α) (i : Nat) : List.replicate (i + 1) x = List.replicate i x ++ [x] := List.replicate_succ'
set_option maxHeartbeats 1000000 in
theorem rbNew_L {w0 : World} {H : Heap} {n now : Nat} (hn : n ≤ 64)  : LCalls Tryd.prog w0 26 #[.int .i64 (n : Int), .int .u64 ((now : Nat) : Int)] (H) (fun v H' => ∃ X, RbV w0 X (List.replicate n (now, [])) v ∧ H' = X ++ H) := by
  refine L_enter (l := [.int .i64 (n : Int), .int .u64 ((now : Nat) : Int)]) Tryd.func26 rfl Tryd.ntmps26 rfl rfl ?_
  refine W_sr ?_
  refine W_assign rfl rfl ?_
  refine W_nil ?_
  refine W_sr ?_
  refine W_assign rfl rfl ?_
  refine W_nil ?_
  refine W_seq ?_
  refine W_sr ?_
  refine W_assign rfl rfl ?_
  refine W_nil ?_
  refine W_block ?_
  refine W_loopC (X := (Nat × Value × Heap)) [(0, _), (1, _)] (fun (x : (Nat × Value × Heap)) => [(5, x.2.1), (6, .int .i64 (x.1 : Int))]) (fun _ => _) (fun (x : (Nat × Value × Heap)) => x.2.2 ++ H) (fun (x : (Nat × Value × Heap)) => x.1 ≤ n ∧ OwnS 90 2 x.2.1 x.1 (rwRow (List.replicate x.1 (⟨now, [], none, 0⟩ : Rw))) x.2.2) (fun (x : (Nat × Value × Heap)) => n - x.1) (0, .slice none 0 0, []) ⟨Nat.zero_le _, .nil⟩ (sub_cons rfl (sub_cons rfl (sub_nil _))) (sub_cons rfl (sub_cons rfl (sub_nil _))) rfl (.refl _) ?_
  rintro ⟨i, v, X⟩ ⟨hi, hO⟩
  dsimp only at hi hO ⊢
  simp only [List.cons_append, List.nil_append]
  refine W_seq ?_
  refine W_sr ?_
  refine W_move rfl rfl ?_
  refine W_move rfl rfl ?_
  refine W_bin rfl rfl b_lss rfl ?_
  refine W_nil ?_
  refine W_condPS (p := (i : Int) < (n : Int)) rfl (by simp) (fun q0 => ?_) (fun q0 => ?_)
  · skip
    refine W_skip ?_
    refine W_seq ?_
    refine W_block ?_
    refine W_region ?_
    refine W_move rfl rfl ?_
    refine W_move rfl rfl ?_
    refine W_build (l := rwC (⟨now, [], none, 0⟩ : Rw)) ty90 pl90 (.cons rfl rfl rfl rfl rfl .nil) rfl rfl rfl ?_
    refine W_buildSlice (l := rwC (⟨now, [], none, 0⟩ : Rw)) ty62 ty90 (.cons rfl rfl rfl rfl rfl .nil) rfl rfl rfl rfl rfl rfl rfl (fun b15 => ?_)
    refine W_append (news := rwC (⟨now, [], none, 0⟩ : Rw)) (m := 1) (HB := X) (H0 := (b15, .cells 90 2 (rwC (⟨now, [], none, 0⟩ : Rw))) :: H) rfl rfl ty62 ty90 rfl (by decide) hO rfl (Holds.own zM) rfl (by simp only [maxLen]; omega) (by omega) zH rfl (fun v' X' hO' => ?_)
    refine W_assign rfl rfl ?_
    refine W_nil ?_
    refine W_blk ?_
    refine W_region ?_
    refine W_move rfl rfl ?_
    refine W_bin rfl rfl (b_add (m := ((i + 1 : Nat) : Int)) ((i64w (by omega)).trans (by omega))) rfl ?_
    refine W_assign rfl rfl ?_
    refine W_nil ?_
    refine W_again (i + 1, v', X') ⟨by show i + 1 ≤ n; omega, by show OwnS _ _ _ _ (List.flatMap rwC (List.replicate (i + 1) (⟨now, [], none, 0⟩ : Rw))) _; rw [repl_snoc, List.flatMap_append]; exact hO'⟩ (by show n - (i + 1) < n - i; omega) (sub_cons rfl (sub_cons rfl (sub_cons rfl (sub_cons rfl (sub_nil _))))) rfl zH
  · skip
    refine W_exit rfl ?_
    refine W_sr ?_
    refine W_move rfl rfl ?_
    refine W_assign rfl rfl ?_
    refine W_nil ?_
    refine W_ret1m (H2 := X ++ H) Tryd.results26 rfl (.nil _) zH ?_
    obtain rfl : i = n := by omega
    obtain ⟨ad, cap, rfl, _, _, hh⟩ := Holds.of_own (w0 := w0) (H := X) hO (fun p hp => hp)
    exact ⟨X, ⟨ad, cap, List.replicate i (⟨now, [], none, 0⟩ : Rw), by rw [List.length_replicate], hh, fun d hd => by obtain rfl := List.eq_of_mem_replicate hd; exact ⟨Holds.nil, Nat.zero_le _⟩, by rw [List.map_replicate]; rfl⟩, rfl⟩
set_option maxHeartbeats 1000000 in
theorem rbFind_q {w0 : World} {H : Heap} {S : St} {v : Value} {id : Int} (hS : StOk S) (hv : RbV w0 H S v) (h64 : S.length ≤ 64)  : PureAt Tryd.prog w0 H 35 [v, .int .i64 id] (.int .i64 (findZ S id)) := by
  obtain ⟨ad, cap, Ds, rfl, hb⟩ := hv
  obtain ⟨hrow, heach, rfl⟩ := hb
  have hlen : (Ds.map Rw.nl).length = Ds.length := List.length_map _
  rw [hlen]
  rw [hlen] at h64
  refine L_enter Tryd.func35 rfl Tryd.ntmps35 rfl rfl ?_
  refine W_sr ?_
  refine W_assign rfl rfl ?_
  refine W_nil ?_
  refine W_seq ?_
  refine W_sr ?_
  refine W_assign rfl rfl ?_
  refine W_nil ?_
  refine W_block ?_
  refine W_loopC (X := Nat) [(0, _), (1, _)] (fun (i : Nat) => [(5, .int .i64 (i : Int))]) (fun _ => _) (fun (i : Nat) => H) (fun (i : Nat) => i ≤ Ds.length ∧ ∀ (j : Nat) u, j < i → Ds[j]? = some u → heldB u.L id = false) (fun (i : Nat) => Ds.length - i) 0 ⟨Nat.zero_le _, fun j u hj => absurd hj (Nat.not_lt_zero _)⟩ (sub_cons rfl (sub_cons rfl (sub_nil _))) (sub_cons rfl (sub_nil _)) rfl (.refl _) ?_
  rintro i ⟨hi, hn⟩
  simp only [List.cons_append, List.nil_append]
  refine W_seq ?_
  refine W_sr ?_
  refine W_move rfl rfl ?_
  refine W_move rfl rfl ?_
  refine W_len rfl ty62 rfl rfl ?_
  refine W_bin rfl rfl b_lss rfl ?_
  refine W_nil ?_
  refine W_condPS (p := (i : Int) < (Ds.length : Int)) rfl (by simp) (fun q0 => ?_) (fun q0 => ?_)
  · skip
    refine W_skip ?_
    refine W_seq ?_
    refine W_block ?_
    refine W_sr ?_
    obtain ⟨d, hd⟩ : ∃ d, Ds[i]? = some d := ⟨_, List.getElem?_eq_getElem (by omega)⟩
    have hdm := List.mem_of_getElem? hd
    obtain ⟨q0, p0, rfl, hc⟩ := Holds.row rwC_len (by decide) hrow hd
    refine W_move rfl rfl ?_
    refine W_move rfl rfl ?_
    refine W_indexAddr (j := i) rfl rfl ty62 ty90 rfl (by omega) rfl rfl ?_
    refine W_loadA (vs := [.int .u64 ((d.now : Nat) : Int), .slice d.ad d.L.length d.cap]) rfl ty90 rfl rfl (hc.up zH) rfl ?_
    refine W_move rfl rfl ?_
    have hw := hS.of hdm
    have hwl := hw.len
    dsimp only at hwl
    refine W_call (.cons rfl (.cons rfl .nil)) Tryd.call37 rfl ((rFind_L (now := d.now) (cap := d.cap) (L := d.L) (ad := d.ad) (id := id) (by omega) ((heach d hdm).1.up zH)).hsub (.refl _)) ?_
    rintro v H' ⟨z, rfl, hz, eH⟩
    obtain rfl := eH.symm
    refine W_bin rfl rfl b_geq rfl ?_
    refine W_nil ?_
    refine W_condPS (p := 0 ≤ z) rfl (by simp) (fun q1 => ?_) (fun q1 => ?_)
    · skip
      refine W_sr ?_
      refine W_move rfl rfl ?_
      refine W_assign rfl rfl ?_
      refine W_nil ?_
      refine W_ret1m (H2 := H) Tryd.results35 rfl (.nil _) zH ?_
      have hh := heldB_iff.2 (hz.held.1 q1)
      refine ⟨?_, rfl⟩
      unfold findZ
      rw [findS_some (S := Ds.map Rw.nl) (k := i) (x := d.nl) (by rw [List.getElem?_map, hd]; rfl) hh (fun j u hj hu => ?_)]
      rw [List.getElem?_map] at hu
      obtain ⟨u2, hu2, rfl⟩ := Option.map_eq_some_iff.1 hu
      exact hn j u2 hj hu2
    · skip
      refine W_skip ?_
      refine W_blk ?_
      refine W_region ?_
      refine W_move rfl rfl ?_
      refine W_bin rfl rfl (b_add (m := ((i + 1 : Nat) : Int)) ((i64w (by omega)).trans (by omega))) rfl ?_
      refine W_assign rfl rfl ?_
      refine W_nil ?_
      refine W_again (i + 1) ⟨by omega, fun j u hj hu => by
          by_cases e : j = i
          · subst e
            obtain rfl := Option.some.inj (hu.symm.trans hd)
            cases hb : heldB u.L id with
            | false => rfl
            | true => exact absurd (hz.held.2 (heldB_iff.1 hb)) q1
          · exact hn j u (by omega) hu⟩ (by omega) (sub_cons rfl (sub_cons rfl (sub_cons rfl (sub_nil _)))) rfl (.refl _)
  · skip
    refine W_exit rfl ?_
    refine W_sr ?_
    refine W_assign rfl rfl ?_
    refine W_nil ?_
    refine W_ret1m (H2 := H) Tryd.results35 rfl (.nil _) zH ?_
    refine ⟨?_, rfl⟩
    unfold findZ
    rw [findS_none (S := Ds.map Rw.nl) (fun j u hj hu => ?_)]
    rw [List.getElem?_map] at hu
    obtain ⟨u2, hu2, rfl⟩ := Option.map_eq_some_iff.1 hu
    rw [hlen] at hj
    exact hn j u2 (by omega) hu2
set_option maxHeartbeats 1000000 in
theorem rbSet_L {w0 : World} {H : Heap} {HR : Heap} {S : St} {v : Value} {k : Nat} {d : Rw} (hv : RbV w0 HR S v) (hHR : HSub H HR) (h64 : S.length ≤ 64) (hk : k < S.length) (hd1 : Holds w0 HR d.ad (rowT d.L)) (hd2 : d.L.length ≤ d.cap)  : LCalls Tryd.prog w0 65 #[v, .int .i64 (k : Int), .agg (List.toArray [.int .u64 ((d.now : Nat) : Int), .slice d.ad d.L.length d.cap])] (H) (fun v' H' => ∃ X, RbV w0 (X ++ HR) (S.set k d.nl) v' ∧ H' = X ++ H) := by
  obtain ⟨ad, cap, Ds, rfl, hb⟩ := hv
  obtain ⟨hrow, heach, rfl⟩ := hb
  have hlen : (Ds.map Rw.nl).length = Ds.length := List.length_map _
  rw [hlen]
  rw [hlen] at h64 hk
  have hrowH := hrow.up hHR
  refine L_enter (l := [.slice ad Ds.length cap, .int .i64 (k : Int), .agg (List.toArray [.int .u64 ((d.now : Nat) : Int), .slice d.ad d.L.length d.cap])]) Tryd.func65 rfl Tryd.ntmps65 rfl rfl ?_
  refine W_sr ?_
  refine W_box (l := [.int .u64 ((d.now : Nat) : Int), .slice d.ad d.L.length d.cap]) rfl rfl rfl (fun b5 => ?_)
  refine W_assign rfl rfl ?_
  refine W_nil ?_
  refine W_sr ?_
  refine W_buildSlice (l := []) ty62 ty90 .nil rfl rfl rfl rfl rfl rfl rfl (fun b8 => ?_)
  refine W_move rfl rfl ?_
  refine W_append (news := rwRow Ds) (m := Ds.length) (HB := [(b8, .cells 90 0 [])]) (H0 := (b5, .cells 90 2 [.int .u64 ((d.now : Nat) : Int), .slice d.ad d.L.length d.cap]) :: H) rfl rfl ty62 ty90 rfl (by decide) (OwnS.own (n := 0) (cap := 0) (xs := []) rfl (Nat.le_refl _) (Nat.zero_le _)) (rwRow_len Ds) (hrowH.up zH) (rwRow_one Ds) (by simp only [maxLen]; omega) (by omega) zH rfl (fun v1 X1 hO1 => ?_)
  rw [Nat.zero_add] at hO1
  obtain ⟨b1, cap1, rfl, rfl, hcap1⟩ := hO1.pos (by omega)
  simp only [List.nil_append, List.cons_append] at hO1 ⊢
  refine W_assign rfl rfl ?_
  refine W_nil ?_
  refine W_sr ?_
  refine W_move rfl rfl ?_
  refine W_move rfl rfl ?_
  refine W_loadB (vs := [.int .u64 ((d.now : Nat) : Int), .slice d.ad d.L.length d.cap]) rfl ty90 rfl (b := b5) zM rfl rfl rfl ?_
  refine W_indexAddr (j := k) rfl rfl ty62 ty90 rfl (by omega) rfl rfl ?_
  refine W_storeA (l' := rwRow (Ds.set k d)) rfl rfl ty90 rfl rfl (b := b1) zM (by show 0 + k * 2 + 2 ≤ (rwRow Ds).length; rw [rwRow_len]; omega) (by rw [Nat.zero_add]; exact flat_set rwC_len d hk) zU ?_
  refine W_nil ?_
  refine W_sr ?_
  refine W_move rfl rfl ?_
  refine W_assign rfl rfl ?_
  refine W_nil ?_
  refine W_ret1m (H2 := (b1, .cells 90 (cap1 * 2) (rwRow (Ds.set k d))) :: H) Tryd.results65 rfl (.nil _) zH ?_
  refine ⟨[_], ⟨some ⟨b1, 0, none⟩, cap1, Ds.set k d, by rw [List.length_set, List.length_map], Holds.own List.mem_cons_self, fun u hu => ?_, by rw [List.map_set]⟩, rfl⟩
  rcases List.mem_or_eq_of_mem_set hu with h | rfl
  · exact ⟨(heach u h).1.up (.drop (.refl _)), (heach u h).2⟩
  · exact ⟨hd1.up (.drop (.refl _)), hd2⟩
end Go.Proofs.YtkcaakkaioingaaDoor
