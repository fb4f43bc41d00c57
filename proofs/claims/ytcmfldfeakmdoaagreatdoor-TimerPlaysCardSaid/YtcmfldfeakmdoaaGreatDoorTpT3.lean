/-
  Own work: contracts of functions that the statement reaches, and plain facts on what they compute; each theorem says its conditions.
-/
import Derived.Test.YtcmfldfeakmdoaaGreatDoorTpT2
import Derived.Test.YtcmfldfeakmdoaaGreatDoorTpS2
import Derived.Test.YtcmfldfeakmdoaaGreatDoorTpA
set_option linter.all false
set_option linter.unusedSimpArgs false
set_option linter.unusedVariables false
set_option maxHeartbeats 16000000
namespace Go.Proofs.YtcmfldfeakmdoaaGreatDoor
open Go Go.Sl
attribute [local irreducible] W
def quOf (Q : List (Int × Int)) (k : Int) : List Int := (Q.filter (fun p => decide (p.2 = k))).map (·.1)
structure QOk (n : Nat) (Q : List (Int × Int)) : Prop where
 ids : (Q.map (·.1)).Nodup
 rng : ∀ p ∈ Q, (0 ≤ p.1 ∧ p.1 < 256) ∧ 0 ≤ p.2 ∧ p.2 < (n : Int)
structure RunsIs (rn of_ : List Int) (Rs : List (Int × Int)) : Prop where
 len1 : rn.length = 256
 len2 : of_.length = 32
 b1 : ∀ x ∈ rn, 0 ≤ x ∧ x ≤ 32
 b2 : ∀ x ∈ of_, 0 ≤ x ∧ x ≤ 256
 r1 : ∀ (i c : Nat), (rn[i]? = some ((c : Int) + 1) ↔ ((i : Int), (c : Int)) ∈ Rs)
 r2 : ∀ (i c : Nat), (of_[c]? = some ((i : Int) + 1) ↔ ((i : Int), (c : Int)) ∈ Rs)
 rng : ∀ p ∈ Rs, (0 ≤ p.1 ∧ p.1 < 256) ∧ 0 ≤ p.2 ∧ p.2 < 32
 nd : Rs.Nodup
def peRow (v : Value) (rn of_ : List Int) : List Value := v :: (rn.map (Value.int .i64) ++ of_.map (Value.int .i64))
abbrev rbP (rb : Nat) : Value := .pointer (some ⟨rb, 0, none⟩)
inductive PendH (pb n : Nat) (Q Rs : List (Int × Int)) : Heap → Prop
 | mk {v : Value} {XQ : Heap} {XS : List Heap} {rbs : List Nat} {rn of_ : List Int} (hv : OwnS 127 1 v n (rbs.map rbP) XQ) (hl : XS.length = n) (hr : ∀ (k : Nat) rb X, rbs[k]? = some rb → XS[k]? = some X → RingH 256 rb (quOf Q (k : Int)) X) (hrun : RunsIs rn of_ Rs) (hq : QOk n Q) : PendH pb n Q Rs ((pb, .cells 126 289 (peRow v rn of_)) :: (XQ ++ XS.flatten))
theorem quOf_sub {n : Nat} {Q : List (Int × Int)} (h : QOk n Q) (k : Int) : (quOf Q k).Nodup ∧ (∀ x ∈ quOf Q k, 0 ≤ x ∧ x < 256) := by
 have hs : List.Sublist (quOf Q k) (Q.map (·.1)) := List.filter_sublist.map _
 refine ⟨h.ids.sublist hs, fun x hx => ?_⟩
 obtain ⟨p, hp, rfl⟩ := List.mem_map.1 (hs.subset hx)
 exact (h.rng p hp).1
theorem quOf_len {n : Nat} {Q : List (Int × Int)} (h : QOk n Q) (k : Int) : (quOf Q k).length ≤ 256 := nodup_len (quOf_sub h k).1 (fun x hx => (quOf_sub h k).2 x hx)
theorem Q_len {n : Nat} {Q : List (Int × Int)} (h : QOk n Q) : Q.length ≤ 256 := by
 have := nodup_len (n := 256) h.ids (fun x hx => by obtain ⟨p, hp, rfl⟩ := List.mem_map.1 hx; exact (h.rng p hp).1)
 rwa [List.length_map] at this
theorem RunsIs.idn {rn of_ : List Int} {Rs : List (Int × Int)} (h : RunsIs rn of_ Rs) {p q : Int × Int} (hp : p ∈ Rs) (hq : q ∈ Rs) (e : p.1 = q.1 ∨ p.2 = q.2) : p = q := by
 obtain ⟨i, a⟩ := p
 obtain ⟨j, b⟩ := q
 have h1 := h.rng _ hp
 have h2 := h.rng _ hq
 dsimp only at h1 h2 e
 obtain ⟨i, rfl⟩ : ∃ m : Nat, i = (m : Int) := ⟨i.toNat, by omega⟩
 obtain ⟨j, rfl⟩ : ∃ m : Nat, j = (m : Int) := ⟨j.toNat, by omega⟩
 obtain ⟨a, rfl⟩ : ∃ m : Nat, a = (m : Int) := ⟨a.toNat, by omega⟩
 obtain ⟨b, rfl⟩ : ∃ m : Nat, b = (m : Int) := ⟨b.toNat, by omega⟩
 rcases e with e | e
 ·have h3 := (h.r1 i a).2 hp
  rw [show i = j by omega, (h.r1 j b).2 hq] at h3
  have := Option.some.inj h3
  rw [e, show a = b by omega]
 ·have h3 := (h.r2 i a).2 hp
  rw [show a = b by omega, (h.r2 j b).2 hq] at h3
  have := Option.some.inj h3
  rw [e, show i = j by omega]
theorem peRow_len {v : Value} {rn of_ : List Int} (h1 : rn.length = 256) (h2 : of_.length = 32) : (peRow v rn of_).length = 289 := by
 unfold peRow; simp [h1, h2]
theorem peRow_rn {v : Value} {rn of_ : List Int} {i : Nat} {x : Int} (h : rn[i]? = some x) : (peRow v rn of_)[1 + i]? = some (.int .i64 x) := by
 unfold peRow
 rw [Nat.add_comm, List.getElem?_cons_succ, List.getElem?_append_left (by rw [List.length_map]; exact (List.getElem?_eq_some_iff.1 h).1), List.getElem?_map, h]; rfl
theorem peRow_of {v : Value} {rn of_ : List Int} {i : Nat} {x : Int} (h1 : rn.length = 256) (h : of_[i]? = some x) : (peRow v rn of_)[257 + i]? = some (.int .i64 x) := by
 unfold peRow
 rw [show 257 + i = (256 + i) + 1 by omega, List.getElem?_cons_succ, List.getElem?_append_right (by rw [List.length_map]; omega), List.length_map, h1, Nat.add_sub_cancel_left, List.getElem?_map, h]; rfl
theorem peRow_setRn {v : Value} {rn of_ : List Int} {i : Nat} {x : Int} (h : i < rn.length) : (peRow v rn of_).set (1 + i) (.int .i64 x) = peRow v (rn.set i x) of_ := by
 unfold peRow
 rw [Nat.add_comm, List.set_cons_succ, List.set_append_left _ _ (by rw [List.length_map]; exact h), List.map_set]
theorem peRow_setOf {v : Value} {rn of_ : List Int} {i : Nat} {x : Int} (h1 : rn.length = 256) : (peRow v rn of_).set (257 + i) (.int .i64 x) = peRow v rn (of_.set i x) := by
 unfold peRow
 rw [show 257 + i = (256 + i) + 1 by omega, List.set_cons_succ, List.set_append_right _ _ (by rw [List.length_map]; omega), List.length_map, h1, Nat.add_sub_cancel_left, List.map_set]
def quV (rbs : List Nat) (cpu : Int) : Value := if 0 ≤ cpu then (match rbs[cpu.toNat]? with
 | some rb => rbP rb
 | none => .pointer none) else .pointer none
theorem quV_at {rbs : List Nat} {k rb : Nat} (h : rbs[k]? = some rb) : quV rbs (k : Int) = rbP rb := by
 unfold quV
 rw [if_pos (by omega), show ((k : Nat) : Int).toNat = k by omega, h]
theorem quV_no {rbs : List Nat} {cpu : Int} (h : cpu < 0 ∨ (rbs.length : Int) ≤ cpu) : quV rbs cpu = .pointer none := by
 unfold quV
 by_cases c : 0 ≤ cpu
 ·rw [if_pos c, List.getElem?_eq_none (by omega)]
 ·rw [if_neg c]
def inR (Rs : List (Int × Int)) (id : Int) : Option Int := (Rs.find? (fun p => decide (p.1 = id))).map (·.2)
def ofR (Rs : List (Int × Int)) (c : Int) : Option Int := (Rs.find? (fun p => decide (p.2 = c))).map (·.1)
def optV (o : Option Int) : Value := match o with
 | some x => .tuple #[.int .i64 x, .bool true]
 | none => .tuple #[.int .i64 0, .bool false]
theorem inR_some {rn of_ : List Int} {Rs : List (Int × Int)} (h : RunsIs rn of_ Rs) {id c : Int} : inR Rs id = some c ↔ (id, c) ∈ Rs := by
 unfold inR
 constructor
 ·intro e
  obtain ⟨p, hp, rfl⟩ := Option.map_eq_some_iff.1 e
  have h1 : p.1 = id := by simpa using List.find?_some hp
  rw [← h1]; exact List.mem_of_find?_eq_some hp
 ·intro hm
  cases hf : Rs.find? (fun p => decide (p.1 = id)) with
  | none => exact absurd (List.find?_eq_none.1 hf _ hm) (by simp)
  | some p =>
   have h1 : p.1 = id := by simpa using List.find?_some hf
   have h2 := h.idn (List.mem_of_find?_eq_some hf) hm (.inl h1)
   rw [h2]; rfl
theorem ofR_some {rn of_ : List Int} {Rs : List (Int × Int)} (h : RunsIs rn of_ Rs) {id c : Int} : ofR Rs c = some id ↔ (id, c) ∈ Rs := by
 unfold ofR
 constructor
 ·intro e
  obtain ⟨p, hp, rfl⟩ := Option.map_eq_some_iff.1 e
  have h1 : p.2 = c := by simpa using List.find?_some hp
  rw [← h1]; exact List.mem_of_find?_eq_some hp
 ·intro hm
  cases hf : Rs.find? (fun p => decide (p.2 = c)) with
  | none => exact absurd (List.find?_eq_none.1 hf _ hm) (by simp)
  | some p =>
   have h1 : p.2 = c := by simpa using List.find?_some hf
   have h2 := h.idn (List.mem_of_find?_eq_some hf) hm (.inr h1)
   rw [h2]; rfl
theorem queue_no {w0 : World} {H : Heap} {pb n cap : Nat} {ad : Option Addr} {rbs : List Nat} {rn of_ : List Int} (hm : (pb, .cells 126 289 (peRow (.slice ad n cap) rn of_)) ∈ H) (hrow : Holds w0 H ad (rbs.map rbP)) (hl : rbs.length = n) (hn : n ≤ 64) {cpu : Int} (hc : cpu < 0 ∨ (n : Int) ≤ cpu)  : PureAt Tryz.prog w0 H 87 [.pointer (some ⟨pb, 0, none⟩), .int .i64 cpu] (quV rbs cpu) := by
 refine L_enter Tryz.func87 rfl Tryz.ntmps87 rfl rfl ?_
 refine W_sr ?_
 refine W_assign rfl rfl ?_
 refine W_nil (W_seq (W_sr ?_))
 refine W_move rfl rfl ?_
 refine W_x (X_ptrNil rfl rfl ty81) (fun _ h => by cases h) rfl ?_
 refine W_move rfl rfl ?_
 apply W_or
 iterate 4 exact rfl
 case h1 =>
  intro hg2
  refine W_gyes rfl rfl ?_
  refine W_move rfl rfl ?_
  refine W_gyes rfl rfl ?_
  refine W_bin rfl rfl b_lss rfl ?_
  exact W_met rfl zR
 refine W_move rfl rfl ?_
 apply W_or
 iterate 4 exact rfl
 case h1 =>
  intro hg6
  refine W_gyes rfl rfl ?_
  refine W_move rfl rfl ?_
  refine W_gyes rfl rfl ?_
  refine W_move rfl rfl ?_
  refine W_gyes rfl rfl ?_
  refine W_nilCheck rfl rfl ?_
  refine W_gyes rfl rfl ?_
  refine W_fieldAddr rfl fld126_0 zd rfl ?_
  refine W_gyes rfl rfl ?_
  refine W_load (v := .slice ad n cap) rfl ty122 rfl (Cell.own (b := pb) hm rfl) rfl ?_
  refine W_gyes rfl rfl ?_
  refine W_len rfl ty122 rfl rfl ?_
  refine W_gyes rfl rfl ?_
  refine W_bin rfl rfl b_geq rfl ?_
  exact W_met rfl zR
 refine W_nil ?_
 refine W_condT rfl (by simp; omega) ?_
 refine W_sr ?_
 refine W_assign rfl rfl ?_
 refine W_nil ?_
 refine W_ret1m (H2 := H) Tryz.results87 rfl (.nil _) zH ?_
 exact ⟨(quV_no zO).symm, rfl⟩
theorem queue_at {w0 : World} {H : Heap} {pb n cap : Nat} {ad : Option Addr} {rbs : List Nat} {rn of_ : List Int} (hm : (pb, .cells 126 289 (peRow (.slice ad n cap) rn of_)) ∈ H) (hrow : Holds w0 H ad (rbs.map rbP)) (hl : rbs.length = n) (hn : n ≤ 64) {k rb : Nat} (hk : rbs[k]? = some rb)  : PureAt Tryz.prog w0 H 87 [.pointer (some ⟨pb, 0, none⟩), .int .i64 (k : Int)] (rbP rb) := by
 have hkl := (List.getElem?_eq_some_iff.1 hk).1
 obtain ⟨q0, p0, rfl, hc⟩ := hrow.at (i := k) (v := rbP rb) (by rw [List.getElem?_map, hk]; rfl)
 refine L_enter Tryz.func87 rfl Tryz.ntmps87 rfl rfl ?_
 refine W_sr ?_
 refine W_assign rfl rfl ?_
 refine W_nil (W_seq (W_sr ?_))
 refine W_move rfl rfl ?_
 refine W_x (X_ptrNil rfl rfl ty81) (fun _ h => by cases h) rfl ?_
 refine W_move rfl rfl ?_
 apply W_or
 iterate 4 exact rfl
 case h1 =>
  intro hg2
  refine W_gyes rfl rfl ?_
  refine W_move rfl rfl ?_
  refine W_gyes rfl rfl ?_
  refine W_bin rfl rfl b_lss rfl ?_
  exact W_met rfl zR
 refine W_move rfl rfl ?_
 apply W_or
 iterate 4 exact rfl
 case h1 =>
  intro hg6
  refine W_gyes rfl rfl ?_
  refine W_move rfl rfl ?_
  refine W_gyes rfl rfl ?_
  refine W_move rfl rfl ?_
  refine W_gyes rfl rfl ?_
  refine W_nilCheck rfl rfl ?_
  refine W_gyes rfl rfl ?_
  refine W_fieldAddr rfl fld126_0 zd rfl ?_
  refine W_gyes rfl rfl ?_
  refine W_load (v := .slice (some ⟨q0, p0, none⟩) n cap) rfl ty122 rfl (Cell.own (b := pb) hm rfl) rfl ?_
  refine W_gyes rfl rfl ?_
  refine W_len rfl ty122 rfl rfl ?_
  refine W_gyes rfl rfl ?_
  refine W_bin rfl rfl b_geq rfl ?_
  exact W_met rfl zR
 refine W_nil ?_
 refine W_condF rfl (by simp; omega) ?_
 refine W_skip (W_sr ?_)
 refine W_move rfl rfl ?_
 refine W_nilCheck rfl rfl ?_
 refine W_fieldAddr rfl fld126_0 zd rfl ?_
 refine W_load (v := .slice (some ⟨q0, p0, none⟩) n cap) rfl ty122 rfl (Cell.own (b := pb) hm rfl) rfl ?_
 refine W_move rfl rfl ?_
 refine W_indexAddr (j := k) rfl rfl ty122 ty127 (by first | rfl | omega) (by first | decide | omega | simp) rfl rfl ?_
 refine W_load (v := rbP rb) rfl ty127 rfl (by rw [Nat.mul_one]; exact hc) rfl ?_
 refine W_assign rfl rfl ?_
 refine W_nil ?_
 refine W_ret1m (H2 := H) Tryz.results87 rfl (.nil _) zH ?_
 exact ⟨rfl, rfl⟩
theorem queue_q {w0 : World} {H : Heap} {pb n cap : Nat} {ad : Option Addr} {rbs : List Nat} {rn of_ : List Int} (hm : (pb, .cells 126 289 (peRow (.slice ad n cap) rn of_)) ∈ H) (hrow : Holds w0 H ad (rbs.map rbP)) (hl : rbs.length = n) (hn : n ≤ 64) {cpu : Int} : PureAt Tryz.prog w0 H 87 [.pointer (some ⟨pb, 0, none⟩), .int .i64 cpu] (quV rbs cpu) := by
 by_cases h : cpu < 0 ∨ (n : Int) ≤ cpu
 ·exact queue_no hm hrow hl hn h
 ·obtain ⟨k, rfl⟩ : ∃ k : Nat, cpu = (k : Int) := ⟨cpu.toNat, by omega⟩
  obtain ⟨rb, hk⟩ : ∃ rb, rbs[k]? = some rb := ⟨_, List.getElem?_eq_getElem zO⟩
  rw [quV_at hk]
  exact queue_at hm hrow hl hn hk
theorem thing_pure {id : Int} : Pure Tryz.prog (fun _ => True) 88 [.int .i64 id] (.bool (decide (0 ≤ id) && decide (id < 256))) := by
 intro w0 H hT
 refine L_enter Tryz.func88 rfl Tryz.ntmps88 rfl rfl ?_
 refine W_sr ?_
 refine W_assign rfl rfl ?_
 refine W_nil (W_sr ?_)
 refine W_move rfl rfl ?_
 refine W_bin rfl rfl b_geq rfl ?_
 refine W_move rfl rfl ?_
 apply W_and
 iterate 4 exact rfl
 case h1 =>
  intro hg2
  refine W_gyes rfl rfl ?_
  refine W_move rfl rfl ?_
  refine W_gyes rfl rfl ?_
  refine W_bin rfl rfl b_lss rfl ?_
  exact W_met rfl zR
 refine W_assign rfl rfl ?_
 refine W_nil ?_
 refine W_ret1m (H2 := H) Tryz.results88 rfl (.nil _) zH ?_
 exact ⟨rfl, rfl⟩
theorem inR_none {rn of_ : List Int} {Rs : List (Int × Int)} (h : RunsIs rn of_ Rs) {id : Int} (hi : ¬ (0 ≤ id ∧ id < 256)) : inR Rs id = none := by
 cases e : inR Rs id with
 | none => rfl
 | some c => exact absurd (h.rng _ ((inR_some h).1 e)).1 hi
theorem ofR_none {rn of_ : List Int} {Rs : List (Int × Int)} (h : RunsIs rn of_ Rs) {c : Int} (hi : ¬ (0 ≤ c ∧ c < 32)) : ofR Rs c = none := by
 cases e : ofR Rs c with
 | none => rfl
 | some i => exact absurd (h.rng _ ((ofR_some h).1 e)).2 hi
theorem inR_at {rn of_ : List Int} {Rs : List (Int × Int)} (h : RunsIs rn of_ Rs) {i : Nat} {x : Int} (hx : rn[i]? = some x) : inR Rs (i : Int) = if x = 0 then none else some (x - 1) := by
 have hb := h.b1 x (List.mem_of_getElem? hx)
 by_cases c : x = 0
 ·rw [if_pos c]
  cases e : inR Rs (i : Int) with
  | none => rfl
  | some k =>
   have h1 := (inR_some h).1 e
   have h2 := h.rng _ h1
   obtain ⟨k, rfl⟩ : ∃ m : Nat, k = (m : Int) := ⟨k.toNat, by have := h2.2.1; dsimp only at this; omega⟩
   have h3 := (h.r1 i k).2 h1
   rw [hx] at h3
   have := Option.some.inj h3
   omega
 ·rw [if_neg c, inR_some h]
  obtain ⟨k, hk⟩ : ∃ m : Nat, x - 1 = (m : Int) := ⟨(x - 1).toNat, by omega⟩
  rw [hk]
  exact (h.r1 i k).1 (by rw [hx]; congr 1; omega)
theorem ofR_at {rn of_ : List Int} {Rs : List (Int × Int)} (h : RunsIs rn of_ Rs) {i : Nat} {x : Int} (hx : of_[i]? = some x) : ofR Rs (i : Int) = if x = 0 then none else some (x - 1) := by
 have hb := h.b2 x (List.mem_of_getElem? hx)
 by_cases c : x = 0
 ·rw [if_pos c]
  cases e : ofR Rs (i : Int) with
  | none => rfl
  | some k =>
   have h1 := (ofR_some h).1 e
   have h2 := h.rng _ h1
   obtain ⟨k, rfl⟩ : ∃ m : Nat, k = (m : Int) := ⟨k.toNat, by have := h2.1.1; dsimp only at this; omega⟩
   have h3 := (h.r2 k i).2 h1
   rw [hx] at h3
   have := Option.some.inj h3
   omega
 ·rw [if_neg c, ofR_some h]
  obtain ⟨k, hk⟩ : ∃ m : Nat, x - 1 = (m : Int) := ⟨(x - 1).toNat, by omega⟩
  rw [hk]
  exact (h.r2 k i).1 (by rw [hx]; congr 1; omega)
theorem Runs_no {w0 : World} {H : Heap} {pb : Nat} {v : Value} {rn of_ : List Int} {Rs : List (Int × Int)} (hm : (pb, .cells 126 289 (peRow v rn of_)) ∈ H) (hR : RunsIs rn of_ Rs) {id : Int} (hi : ¬ (0 ≤ id ∧ id < 256))  : PureAt Tryz.prog w0 H 68 [.pointer (some ⟨pb, 0, none⟩), .int .i64 id] (optV (inR Rs id)) := by
 refine L_enter Tryz.func68 rfl Tryz.ntmps68 rfl rfl ?_
 refine W_sr ?_
 refine W_assign rfl rfl ?_
 refine W_assign rfl rfl ?_
 refine W_nil (W_seq (W_sr ?_))
 refine W_move rfl rfl ?_
 refine W_x (X_ptrNil rfl rfl ty81) (fun _ h => by cases h) rfl ?_
 refine W_move rfl rfl ?_
 refine W_gyes rfl rfl ?_
 refine W_move rfl rfl ?_
 refine W_gyes rfl rfl ?_
 refine W_callp (.cons rfl .nil) Tryz.call88 rfl (T := fun _ => True) trivial (thing_pure (id := id)) ?_
 rw [show (decide (0 ≤ id) && decide (id < 256)) = false by simp; omega]
 refine W_gyes rfl rfl ?_
 refine W_not rfl rfl ?_
 first | refine W_pickt rfl rfl rfl ?_ | refine W_pickf rfl rfl rfl ?_
 refine W_move rfl rfl ?_
 refine W_gno rfl rfl rfl ?_
 refine W_gno rfl rfl rfl ?_
 refine W_gno rfl rfl rfl ?_
 refine W_gno rfl rfl rfl ?_
 refine W_gno rfl rfl rfl ?_
 refine W_gno rfl rfl rfl ?_
 refine W_gno rfl rfl rfl ?_
 first | refine W_pickt rfl rfl rfl ?_ | refine W_pickf rfl rfl rfl ?_
 refine W_nil ?_
 refine W_condT rfl rfl ?_
 refine W_sr ?_
 refine W_assign rfl rfl ?_
 refine W_assign rfl rfl ?_
 refine W_nil ?_
 refine W_ret2m (H2 := H) Tryz.results68 rfl rfl (.nil _) zH ?_
 rw [inR_none hR hi]
 exact ⟨rfl, rfl⟩
theorem Runs_in {w0 : World} {H : Heap} {pb : Nat} {v : Value} {rn of_ : List Int} {Rs : List (Int × Int)} (hm : (pb, .cells 126 289 (peRow v rn of_)) ∈ H) (hR : RunsIs rn of_ Rs) {i : Nat} (hi : i < 256)  : PureAt Tryz.prog w0 H 68 [.pointer (some ⟨pb, 0, none⟩), .int .i64 (i : Int)] (optV (inR Rs (i : Int))) := by
 obtain ⟨x, hx⟩ : ∃ x, rn[i]? = some x := ⟨_, List.getElem?_eq_getElem (by rw [hR.len1]; exact hi)⟩
 have hb := hR.b1 x (List.mem_of_getElem? hx)
 refine L_enter Tryz.func68 rfl Tryz.ntmps68 rfl rfl ?_
 refine W_sr ?_
 refine W_assign rfl rfl ?_
 refine W_assign rfl rfl ?_
 refine W_nil (W_seq (W_sr ?_))
 refine W_move rfl rfl ?_
 refine W_x (X_ptrNil rfl rfl ty81) (fun _ h => by cases h) rfl ?_
 refine W_move rfl rfl ?_
 refine W_gyes rfl rfl ?_
 refine W_move rfl rfl ?_
 refine W_gyes rfl rfl ?_
 refine W_callp (.cons rfl .nil) Tryz.call88 rfl (T := fun _ => True) trivial (thing_pure (id := (i : Int))) ?_
 rw [show (decide (0 ≤ (i : Int)) && decide ((i : Int) < 256)) = true by simp; omega]
 refine W_gyes rfl rfl ?_
 refine W_not rfl rfl ?_
 first | refine W_pickt rfl rfl rfl ?_ | refine W_pickf rfl rfl rfl ?_
 refine W_move rfl rfl ?_
 refine W_gyes rfl rfl ?_
 refine W_move rfl rfl ?_
 refine W_gyes rfl rfl ?_
 refine W_move rfl rfl ?_
 refine W_gyes rfl rfl ?_
 refine W_nilCheck rfl rfl ?_
 refine W_gyes rfl rfl ?_
 refine W_fieldAddr rfl fld126_1 zd rfl ?_
 refine W_gyes rfl rfl ?_
 refine W_indexAddrA (j := i) rfl rfl ty123 ty3 (by first | rfl | omega) (by first | decide | omega | simp) rfl rfl ?_
 refine W_gyes rfl rfl ?_
 refine W_load (v := .int .i64 x) rfl ty3 rfl (Cell.own (b := pb) hm (by simpa using peRow_rn hx)) rfl ?_
 refine W_gyes rfl rfl ?_
 refine W_bin rfl rfl b_eql rfl ?_
 first | refine W_pickt rfl rfl rfl ?_ | refine W_pickf rfl rfl rfl ?_
 refine W_nil ?_
 refine W_condPS (p := x = 0) rfl (by simp) (fun q0 => ?_) (fun q0 => ?_)
 ·skip
  refine W_sr ?_
  refine W_assign rfl rfl ?_
  refine W_assign rfl rfl ?_
  refine W_nil ?_
  refine W_ret2m (H2 := H) Tryz.results68 rfl rfl (.nil _) zH ?_
  rw [inR_at hR hx, if_pos q0]
  exact ⟨rfl, rfl⟩
 ·skip
  refine W_skip (W_sr ?_)
  refine W_move rfl rfl ?_
  refine W_move rfl rfl ?_
  refine W_nilCheck rfl rfl ?_
  refine W_fieldAddr rfl fld126_1 zd rfl ?_
  refine W_indexAddrA (j := i) rfl rfl ty123 ty3 (by first | rfl | omega) (by first | decide | omega | simp) rfl rfl ?_
  refine W_load (v := .int .i64 x) rfl ty3 rfl (Cell.own (b := pb) hm (by simpa using peRow_rn hx)) rfl ?_
  refine W_bin rfl rfl (b_sub (m := x - 1) (by rw [i64w (by omega)])) rfl ?_
  refine W_assign rfl rfl ?_
  refine W_assign rfl rfl ?_
  refine W_nil ?_
  refine W_ret2m (H2 := H) Tryz.results68 rfl rfl (.nil _) zH ?_
  rw [inR_at hR hx, if_neg q0]
  exact ⟨rfl, rfl⟩
theorem Runs_q {w0 : World} {H : Heap} {pb : Nat} {v : Value} {rn of_ : List Int} {Rs : List (Int × Int)} (hm : (pb, .cells 126 289 (peRow v rn of_)) ∈ H) (hR : RunsIs rn of_ Rs) {id : Int} : PureAt Tryz.prog w0 H 68 [.pointer (some ⟨pb, 0, none⟩), .int .i64 id] (optV (inR Rs id)) := by
 by_cases h : 0 ≤ id ∧ id < 256
 ·obtain ⟨i, rfl⟩ : ∃ k : Nat, id = (k : Int) := ⟨id.toNat, by omega⟩
  exact Runs_in hm hR zO
 ·exact Runs_no hm hR h
theorem Of_lo {w0 : World} {H : Heap} {pb : Nat} {v : Value} {rn of_ : List Int} {Rs : List (Int × Int)} (hm : (pb, .cells 126 289 (peRow v rn of_)) ∈ H) (hR : RunsIs rn of_ Rs) {c : Int} (hi : c < 0)  : PureAt Tryz.prog w0 H 92 [.pointer (some ⟨pb, 0, none⟩), .int .i64 c] (optV (ofR Rs c)) := by
 refine L_enter Tryz.func92 rfl Tryz.ntmps92 rfl rfl ?_
 refine W_sr ?_
 refine W_assign rfl rfl ?_
 refine W_assign rfl rfl ?_
 refine W_nil (W_seq (W_sr ?_))
 refine W_move rfl rfl ?_
 refine W_x (X_ptrNil rfl rfl ty81) (fun _ h => by cases h) rfl ?_
 refine W_move rfl rfl ?_
 refine W_gyes rfl rfl ?_
 refine W_move rfl rfl ?_
 refine W_gyes rfl rfl ?_
 refine W_bin rfl rfl b_lss rfl ?_
 first | rw [decide_eq_true (by omega)] | rw [decide_eq_false (by omega)]
 first | refine W_pickt rfl rfl rfl ?_ | refine W_pickf rfl rfl rfl ?_
 refine W_move rfl rfl ?_
 refine W_gno rfl rfl rfl ?_
 refine W_gno rfl rfl rfl ?_
 first | refine W_pickt rfl rfl rfl ?_ | refine W_pickf rfl rfl rfl ?_
 refine W_move rfl rfl ?_
 refine W_gno rfl rfl rfl ?_
 refine W_gno rfl rfl rfl ?_
 refine W_gno rfl rfl rfl ?_
 refine W_gno rfl rfl rfl ?_
 refine W_gno rfl rfl rfl ?_
 refine W_gno rfl rfl rfl ?_
 refine W_gno rfl rfl rfl ?_
 first | refine W_pickt rfl rfl rfl ?_ | refine W_pickf rfl rfl rfl ?_
 refine W_nil ?_
 refine W_condT rfl rfl ?_
 refine W_sr ?_
 refine W_assign rfl rfl ?_
 refine W_assign rfl rfl ?_
 refine W_nil ?_
 refine W_ret2m (H2 := H) Tryz.results92 rfl rfl (.nil _) zH ?_
 rw [ofR_none hR (by omega)]
 exact ⟨rfl, rfl⟩
theorem Of_hi {w0 : World} {H : Heap} {pb : Nat} {v : Value} {rn of_ : List Int} {Rs : List (Int × Int)} (hm : (pb, .cells 126 289 (peRow v rn of_)) ∈ H) (hR : RunsIs rn of_ Rs) {c : Int} (hi : 32 ≤ c)  : PureAt Tryz.prog w0 H 92 [.pointer (some ⟨pb, 0, none⟩), .int .i64 c] (optV (ofR Rs c)) := by
 refine L_enter Tryz.func92 rfl Tryz.ntmps92 rfl rfl ?_
 refine W_sr ?_
 refine W_assign rfl rfl ?_
 refine W_assign rfl rfl ?_
 refine W_nil (W_seq (W_sr ?_))
 refine W_move rfl rfl ?_
 refine W_x (X_ptrNil rfl rfl ty81) (fun _ h => by cases h) rfl ?_
 refine W_move rfl rfl ?_
 refine W_gyes rfl rfl ?_
 refine W_move rfl rfl ?_
 refine W_gyes rfl rfl ?_
 refine W_bin rfl rfl b_lss rfl ?_
 first | rw [decide_eq_true (by omega)] | rw [decide_eq_false (by omega)]
 first | refine W_pickt rfl rfl rfl ?_ | refine W_pickf rfl rfl rfl ?_
 refine W_move rfl rfl ?_
 refine W_gyes rfl rfl ?_
 refine W_move rfl rfl ?_
 refine W_gyes rfl rfl ?_
 refine W_bin rfl rfl b_geq rfl ?_
 first | rw [decide_eq_true (by omega)] | rw [decide_eq_false (by omega)]
 first | refine W_pickt rfl rfl rfl ?_ | refine W_pickf rfl rfl rfl ?_
 refine W_move rfl rfl ?_
 refine W_gno rfl rfl rfl ?_
 refine W_gno rfl rfl rfl ?_
 refine W_gno rfl rfl rfl ?_
 refine W_gno rfl rfl rfl ?_
 refine W_gno rfl rfl rfl ?_
 refine W_gno rfl rfl rfl ?_
 refine W_gno rfl rfl rfl ?_
 first | refine W_pickt rfl rfl rfl ?_ | refine W_pickf rfl rfl rfl ?_
 refine W_nil ?_
 refine W_condT rfl rfl ?_
 refine W_sr ?_
 refine W_assign rfl rfl ?_
 refine W_assign rfl rfl ?_
 refine W_nil ?_
 refine W_ret2m (H2 := H) Tryz.results92 rfl rfl (.nil _) zH ?_
 rw [ofR_none hR (by omega)]
 exact ⟨rfl, rfl⟩
theorem Of_in {w0 : World} {H : Heap} {pb : Nat} {v : Value} {rn of_ : List Int} {Rs : List (Int × Int)} (hm : (pb, .cells 126 289 (peRow v rn of_)) ∈ H) (hR : RunsIs rn of_ Rs) {i : Nat} (hi : i < 32)  : PureAt Tryz.prog w0 H 92 [.pointer (some ⟨pb, 0, none⟩), .int .i64 (i : Int)] (optV (ofR Rs (i : Int))) := by
 obtain ⟨x, hx⟩ : ∃ x, of_[i]? = some x := ⟨_, List.getElem?_eq_getElem (by rw [hR.len2]; exact hi)⟩
 have hb := hR.b2 x (List.mem_of_getElem? hx)
 refine L_enter Tryz.func92 rfl Tryz.ntmps92 rfl rfl ?_
 refine W_sr ?_
 refine W_assign rfl rfl ?_
 refine W_assign rfl rfl ?_
 refine W_nil (W_seq (W_sr ?_))
 refine W_move rfl rfl ?_
 refine W_x (X_ptrNil rfl rfl ty81) (fun _ h => by cases h) rfl ?_
 refine W_move rfl rfl ?_
 refine W_gyes rfl rfl ?_
 refine W_move rfl rfl ?_
 refine W_gyes rfl rfl ?_
 refine W_bin rfl rfl b_lss rfl ?_
 first | rw [decide_eq_true (by omega)] | rw [decide_eq_false (by omega)]
 first | refine W_pickt rfl rfl rfl ?_ | refine W_pickf rfl rfl rfl ?_
 refine W_move rfl rfl ?_
 refine W_gyes rfl rfl ?_
 refine W_move rfl rfl ?_
 refine W_gyes rfl rfl ?_
 refine W_bin rfl rfl b_geq rfl ?_
 first | rw [decide_eq_true (by omega)] | rw [decide_eq_false (by omega)]
 first | refine W_pickt rfl rfl rfl ?_ | refine W_pickf rfl rfl rfl ?_
 refine W_move rfl rfl ?_
 refine W_gyes rfl rfl ?_
 refine W_move rfl rfl ?_
 refine W_gyes rfl rfl ?_
 refine W_move rfl rfl ?_
 refine W_gyes rfl rfl ?_
 refine W_nilCheck rfl rfl ?_
 refine W_gyes rfl rfl ?_
 refine W_fieldAddr rfl fld126_2 zd rfl ?_
 refine W_gyes rfl rfl ?_
 refine W_indexAddrA (j := i) rfl rfl ty124 ty3 (by first | rfl | omega) (by first | decide | omega | simp) rfl rfl ?_
 refine W_gyes rfl rfl ?_
 refine W_load (v := .int .i64 x) rfl ty3 rfl (Cell.own (b := pb) hm (by simpa using peRow_of hR.len1 hx)) rfl ?_
 refine W_gyes rfl rfl ?_
 refine W_bin rfl rfl b_eql rfl ?_
 first | refine W_pickt rfl rfl rfl ?_ | refine W_pickf rfl rfl rfl ?_
 refine W_nil ?_
 refine W_condPS (p := x = 0) rfl (by simp) (fun q0 => ?_) (fun q0 => ?_)
 ·skip
  refine W_sr ?_
  refine W_assign rfl rfl ?_
  refine W_assign rfl rfl ?_
  refine W_nil ?_
  refine W_ret2m (H2 := H) Tryz.results92 rfl rfl (.nil _) zH ?_
  rw [ofR_at hR hx, if_pos q0]
  exact ⟨rfl, rfl⟩
 ·skip
  refine W_skip (W_sr ?_)
  refine W_move rfl rfl ?_
  refine W_move rfl rfl ?_
  refine W_nilCheck rfl rfl ?_
  refine W_fieldAddr rfl fld126_2 zd rfl ?_
  refine W_indexAddrA (j := i) rfl rfl ty124 ty3 (by first | rfl | omega) (by first | decide | omega | simp) rfl rfl ?_
  refine W_load (v := .int .i64 x) rfl ty3 rfl (Cell.own (b := pb) hm (by simpa using peRow_of hR.len1 hx)) rfl ?_
  refine W_bin rfl rfl (b_sub (m := x - 1) (by rw [i64w (by omega)])) rfl ?_
  refine W_assign rfl rfl ?_
  refine W_assign rfl rfl ?_
  refine W_nil ?_
  refine W_ret2m (H2 := H) Tryz.results92 rfl rfl (.nil _) zH ?_
  rw [ofR_at hR hx, if_neg q0]
  exact ⟨rfl, rfl⟩
theorem Of_q {w0 : World} {H : Heap} {pb : Nat} {v : Value} {rn of_ : List Int} {Rs : List (Int × Int)} (hm : (pb, .cells 126 289 (peRow v rn of_)) ∈ H) (hR : RunsIs rn of_ Rs) {c : Int} : PureAt Tryz.prog w0 H 92 [.pointer (some ⟨pb, 0, none⟩), .int .i64 c] (optV (ofR Rs c)) := by
 by_cases h : c < 0
 ·exact Of_lo hm hR h
 ·by_cases h2 : 32 ≤ c
  ·exact Of_hi hm hR h2
  ·obtain ⟨i, rfl⟩ : ∃ k : Nat, c = (k : Int) := ⟨c.toNat, by omega⟩
   exact Of_in hm hR zO
theorem PendH.ok {pb n : Nat} {Q Rs : List (Int × Int)} {HB : Heap} (h : PendH pb n Q Rs HB) : QOk n Q := by cases h; assumption
theorem PendH.at {pb n k : Nat} {Q Rs : List (Int × Int)} {HB : Heap} (h : PendH pb n Q Rs HB) (hn : n ≤ 64) (hk : k < n) : ∃ rb X HR, RingH 256 rb (quOf Q (k : Int)) X ∧ (∀ {w0 : World} {H : Heap}, (∀ p ∈ HB, p ∈ H) → PureAt Tryz.prog w0 H 87 [.pointer (some ⟨pb, 0, none⟩), .int .i64 (k : Int)] (rbP rb)) ∧
  (∀ H, HSub (HB ++ H) (X ++ (HR ++ H))) ∧ (∀ H, HSub (X ++ (HR ++ H)) (HB ++ H)) ∧
  (∀ (Q' : List (Int × Int)) X', RingH 256 rb (quOf Q' (k : Int)) X' → (∀ j : Nat, j ≠ k → quOf Q' (j : Int) = quOf Q (j : Int)) → QOk n Q' → ∃ HB', PendH pb n Q' Rs HB' ∧ ∀ H, HSub (X' ++ (HR ++ H)) (HB' ++ H)) := by
 cases h with
 | @mk v XQ XS rbs rn of_ hv hl hr hrun hq =>
  have hvl := hv.length
  rw [List.length_map, Nat.mul_one] at hvl
  obtain ⟨rb, hrb⟩ : ∃ rb, rbs[k]? = some rb := ⟨_, List.getElem?_eq_getElem zO⟩
  obtain ⟨X, hX⟩ : ∃ X, XS[k]? = some X := ⟨_, List.getElem?_eq_getElem zO⟩
  have hp : ∀ H, (((pb, .cells 126 289 (peRow v rn of_)) :: (XQ ++ XS.flatten)) ++ H).Perm (X ++ (((pb, .cells 126 289 (peRow v rn of_)) :: (XQ ++ (XS.set k []).flatten)) ++ H)) := fun H => by
   have h1 := ((flat_take hX).append_left ((pb, .cells 126 289 (peRow v rn of_)) :: XQ)).append_right H
   refine List.Perm.trans (List.Perm.of_eq ?_) (h1.trans ?_)
   ·simp only [List.cons_append, List.append_assoc]
   ·have e : ((pb, .cells 126 289 (peRow v rn of_)) :: XQ ++ (X ++ (XS.set k []).flatten)) ++ H = ((pb, .cells 126 289 (peRow v rn of_)) :: XQ) ++ (X ++ ((XS.set k []).flatten ++ H)) := by simp only [List.cons_append, List.append_assoc]
    rw [e]
    refine (List.perm_append_comm_assoc _ _ _).trans (List.Perm.of_eq ?_)
    simp only [List.cons_append, List.append_assoc]
  refine ⟨rb, X, (pb, .cells 126 289 (peRow v rn of_)) :: (XQ ++ (XS.set k []).flatten), hr k rb X hrb hX, fun {w0 H} hm => ?_, fun H => HSub.of_perm (hp H), fun H => HSub.of_perm (hp H).symm, fun Q' X' hR' hj hq' => ?_⟩
  ·obtain ⟨ad, cap, rfl, _, _, hrow⟩ := Holds.of_own (w0 := w0) (H := H) hv (fun p hp => hm p (List.mem_cons_of_mem _ (List.mem_append_left _ hp)))
   exact queue_at (n := n) (hm _ List.mem_cons_self) hrow zO hn hrb
  ·refine ⟨(pb, .cells 126 289 (peRow v rn of_)) :: (XQ ++ (XS.set k X').flatten), .mk hv (by rw [List.length_set, hl]) (fun j rb2 Y h1 h2 => ?_) hrun hq', fun H => ?_⟩
   ·by_cases c : k = j
    ·subst c
     rw [List.getElem?_set_self (by omega)] at h2
     obtain rfl := Option.some.inj h2
     obtain rfl := Option.some.inj (h1.symm.trans hrb)
     exact hR'
    ·rw [List.getElem?_set_ne c] at h2
     rw [hj j (fun e => c e.symm)]
     exact hr j rb2 Y h1 h2
   ·have h1 := ((flat_put (B := X') (XS := XS) (k := k) zO).append_left ((pb, .cells 126 289 (peRow v rn of_)) :: XQ)).append_right H
    refine HSub.of_perm (List.Perm.trans ?_ (h1.trans (List.Perm.of_eq ?_)))
    ·have e : ((pb, .cells 126 289 (peRow v rn of_)) :: XQ ++ (X' ++ (XS.set k []).flatten)) ++ H = ((pb, .cells 126 289 (peRow v rn of_)) :: XQ) ++ (X' ++ ((XS.set k []).flatten ++ H)) := by simp only [List.cons_append, List.append_assoc]
     rw [e]
     refine List.Perm.trans (List.Perm.of_eq ?_) (List.perm_append_comm_assoc _ _ _).symm.symm
     simp only [List.cons_append, List.append_assoc]
    ·simp only [List.cons_append, List.append_assoc]
theorem PendH.noq {pb n : Nat} {Q Rs : List (Int × Int)} {HB : Heap} (h : PendH pb n Q Rs HB) (hn : n ≤ 64) {cpu : Int} (hc : cpu < 0 ∨ (n : Int) ≤ cpu) {w0 : World} {H : Heap} (hm : ∀ p ∈ HB, p ∈ H) : PureAt Tryz.prog w0 H 87 [.pointer (some ⟨pb, 0, none⟩), .int .i64 cpu] (.pointer none) := by
 cases h with
 | @mk v XQ XS rbs rn of_ hv hl hr hrun hq =>
  have hvl := hv.length
  rw [List.length_map, Nat.mul_one] at hvl
  obtain ⟨ad, cap, rfl, _, _, hrow⟩ := Holds.of_own (w0 := w0) (H := H) hv (fun p hp => hm p (List.mem_cons_of_mem _ (List.mem_append_left _ hp)))
  rw [← quV_no (rbs := rbs) (cpu := cpu) (by omega)]
  exact queue_q (n := n) (hm _ List.mem_cons_self) hrow zO hn
theorem PendH.runs {pb n : Nat} {Q Rs : List (Int × Int)} {HB : Heap} (h : PendH pb n Q Rs HB) : ∃ v XX rn of_, HB = (pb, .cells 126 289 (peRow v rn of_)) :: XX ∧ RunsIs rn of_ Rs ∧ ∀ rn' of' Rs', RunsIs rn' of' Rs' → PendH pb n Q Rs' ((pb, .cells 126 289 (peRow v rn' of')) :: XX) := by
 cases h with
 | @mk v XQ XS rbs rn of_ hv hl hr hrun hq => exact ⟨v, _, rn, of_, rfl, hrun, fun rn' of' Rs' h => .mk hv hl hr h hq⟩
theorem PendH.Runs_q {pb n : Nat} {Q Rs : List (Int × Int)} {HB : Heap} (h : PendH pb n Q Rs HB) {w0 : World} {H : Heap} (hm : ∀ p ∈ HB, p ∈ H) {id : Int} : PureAt Tryz.prog w0 H 68 [.pointer (some ⟨pb, 0, none⟩), .int .i64 id] (optV (inR Rs id)) := by
 obtain ⟨v, XX, rn, of_, rfl, hR, _⟩ := h.runs
 exact Go.Proofs.YtcmfldfeakmdoaaGreatDoor.Runs_q (hm _ List.mem_cons_self) hR
theorem PendH.Of_q {pb n : Nat} {Q Rs : List (Int × Int)} {HB : Heap} (h : PendH pb n Q Rs HB) {w0 : World} {H : Heap} (hm : ∀ p ∈ HB, p ∈ H) {c : Int} : PureAt Tryz.prog w0 H 92 [.pointer (some ⟨pb, 0, none⟩), .int .i64 c] (optV (ofR Rs c)) := by
 obtain ⟨v, XX, rn, of_, rfl, hR, _⟩ := h.runs
 exact Go.Proofs.YtcmfldfeakmdoaaGreatDoor.Of_q (hm _ List.mem_cons_self) hR
theorem pall_L {w0 : World} {H : Heap} {pb : Nat} {cpu : Int}  : LCalls Tryz.prog w0 108 #[.pointer (some ⟨pb, 0, none⟩), .int .i64 cpu] (H) (fun v H' => ∃ b2 b3, v = .func (.func 125) #[] #[.pointer (some ⟨b2, 0, none⟩), .pointer (some ⟨b3, 0, none⟩)] ∧ H' = (b3, .cells 3 1 [.int .i64 cpu]) :: (b2, .cells 81 1 [.pointer (some ⟨pb, 0, none⟩)]) :: H) := by
 refine L_enter (l := [.pointer (some ⟨pb, 0, none⟩), .int .i64 cpu]) Tryz.func108 rfl Tryz.ntmps108 rfl rfl ?_
 refine W_sr ?_
 refine W_box (l := [.pointer (some ⟨pb, 0, none⟩)]) rfl rfl rfl (fun b2 => ?_)
 refine W_box (l := [.int .i64 cpu]) rfl rfl rfl (fun b3 => ?_)
 refine W_assign rfl rfl ?_
 refine W_nil (W_sr ?_)
 refine W_makeFunc .nil (.cons rfl (.cons rfl .nil)) rfl ?_
 refine W_assign rfl rfl ?_
 refine W_nil ?_
 refine W_ret1m Tryz.results108 rfl (.nil _) (.refl _) ?_
 exact ⟨b2, b3, rfl, rfl⟩
theorem pall_iter {w0 : World} {H HB : Heap} {lp b2 b3 pb n k : Nat} {Q Rs : List (Int × Int)} (hP : PendH pb n Q Rs HB) (hn : n ≤ 64) (hk : k < n) (J : Nat → Heap → Prop) (S : Heap → Prop)
  (hround : ∀ i x Hi XB, (quOf Q (k : Int))[i]? = some x → J i Hi → RoundC Tryz.prog w0 lp #[.int .i64 (i : Int), .int .i64 x] (XB ++ ((b2, .cells 81 1 [.pointer (some ⟨pb, 0, none⟩)]) :: (b3, .cells 3 1 [.int .i64 (k : Int)]) :: (HB ++ Hi))) (fun v H' => ∃ Hi', HSub H' (XB ++ ((b2, .cells 81 1 [.pointer (some ⟨pb, 0, none⟩)]) :: (b3, .cells 3 1 [.int .i64 (k : Int)]) :: (HB ++ Hi'))) ∧ ((v = .bool true ∧ J (i + 1) Hi') ∨ (v = .bool false ∧ S Hi')))) (hJ : J 0 H) :
  LCalls Tryz.prog w0 125 #[.func (.yield lp) #[] #[], .pointer (some ⟨b2, 0, none⟩), .pointer (some ⟨b3, 0, none⟩)] ((b2, .cells 81 1 [.pointer (some ⟨pb, 0, none⟩)]) :: (b3, .cells 3 1 [.int .i64 (k : Int)]) :: (HB ++ H)) (fun _ H' => ∃ Hi', HSub H' ((b2, .cells 81 1 [.pointer (some ⟨pb, 0, none⟩)]) :: (b3, .cells 3 1 [.int .i64 (k : Int)]) :: (HB ++ Hi')) ∧ (J (quOf Q (k : Int)).length Hi' ∨ S Hi')) := by
 have hql := quOf_len hP.ok (k : Int)
 obtain ⟨rb, X, HR, hR, hqu, ho1, ho2, hup⟩ := hP.at hn hk
 refine L_enter (l := [.func (.yield lp) #[] #[], .pointer (some ⟨b2, 0, none⟩), .pointer (some ⟨b3, 0, none⟩)]) Tryz.func125 rfl Tryz.ntmps125 rfl rfl ?_
 refine W_sr ?_
 refine W_load (v := .pointer (some ⟨pb, 0, none⟩)) rfl ty81 rfl (Cell.own (b := b2) zM rfl) rfl ?_
 refine W_load (v := .int .i64 (k : Int)) rfl ty3 rfl (Cell.own (b := b3) zM rfl) rfl ?_
 refine W_callq (.cons rfl (.cons rfl .nil)) Tryz.call87 rfl (hqu (fun p hp => List.mem_cons_of_mem _ (List.mem_cons_of_mem _ (List.mem_append_left _ hp)))) ?_
 refine W_hsub (H' := X ++ ((b2, .cells 81 1 [.pointer (some ⟨pb, 0, none⟩)]) :: (b3, .cells 3 1 [.int .i64 (k : Int)]) :: (HR ++ H))) ((show HSub _ ((b2, .cells 81 1 [.pointer (some ⟨pb, 0, none⟩)]) :: (b3, .cells 3 1 [.int .i64 (k : Int)]) :: (X ++ (HR ++ H))) from .cons (.here _) (.cons (.here _) (ho1 H))).trans zH) ?_
 refine W_call (.cons rfl .nil) Tryz.call126 rfl (rList_L hR) ?_
 rintro v H' ⟨XB, hXB, rfl⟩
 obtain ⟨ad, cap, rfl, hlc, hcm, hrow⟩ := Holds.of_own (w0 := w0) (H := XB ++ []) hXB (fun p hp => List.mem_append_left _ hp)
 refine W_hsub (H' := XB ++ ((b2, .cells 81 1 [.pointer (some ⟨pb, 0, none⟩)]) :: (b3, .cells 3 1 [.int .i64 (k : Int)]) :: (HB ++ H))) ((show HSub _ (XB ++ ((b2, .cells 81 1 [.pointer (some ⟨pb, 0, none⟩)]) :: (b3, .cells 3 1 [.int .i64 (k : Int)]) :: (X ++ (HR ++ H)))) from zH).trans (.app (.here _) (.cons (.here _) (.cons (.here _) (ho2 H))))) ?_
 refine W_len rfl ty24 rfl rfl ?_
 refine W_move rfl rfl ?_
 refine W_nil (W_block ?_)
 refine W_loopC (X := (Nat × Heap)) [(0, _), (9, _), (10, _)] (fun (x : (Nat × Heap)) => [(11, .int .i64 (x.1 : Int))]) (fun _ => _) (fun (x : (Nat × Heap)) => XB ++ ((b2, .cells 81 1 [.pointer (some ⟨pb, 0, none⟩)]) :: (b3, .cells 3 1 [.int .i64 (k : Int)]) :: (HB ++ x.2))) (fun (x : (Nat × Heap)) => x.1 ≤ (quOf Q (k : Int)).length ∧ J x.1 x.2) (fun (x : (Nat × Heap)) => (quOf Q (k : Int)).length - x.1) (0, H) ⟨Nat.zero_le _, hJ⟩ (sub_cons rfl (sub_cons rfl (sub_cons rfl (sub_nil _)))) (sub_cons rfl (sub_nil _)) rfl (.refl _) ?_
 rintro ⟨i, Hi⟩ ⟨hi, hJi⟩
 dsimp only at hi hJi ⊢
 simp only [List.cons_append, List.nil_append]
 refine W_sr ?_
 refine W_bin rfl rfl b_lss rfl ?_
 refine W_nil (W_seq ?_)
 refine W_condPS (p := (i : Int) < ((quOf Q (k : Int)).length : Int)) rfl (by simp) (fun q0 => ?_) (fun q0 => ?_)
 ·skip
  refine W_skip (W_seq ?_)
  refine W_block (W_sr ?_)
  refine W_move rfl rfl ?_
  obtain ⟨x, hx⟩ : ∃ x, (quOf Q (k : Int))[i]? = some x := ⟨_, List.getElem?_eq_getElem zO⟩
  obtain ⟨q0, p0, rfl, hcx⟩ := hrow.at (i := i) (v := .int .i64 x) (by rw [List.getElem?_map, hx]; rfl)
  refine W_indexAddr (j := i) rfl rfl ty24 ty3 rfl zO rfl rfl ?_
  refine W_load (v := .int .i64 x) rfl ty3 rfl (by rw [Nat.mul_one]; exact hcx.up (HSub.app (.here _) (.nil _))) rfl ?_
  refine W_assign rfl rfl ?_
  refine W_assign rfl rfl ?_
  refine W_nil (W_sr ?_)
  refine W_move rfl rfl ?_
  refine W_move rfl rfl ?_
  refine W_move rfl rfl ?_
  refine W_yield rfl (.cons rfl (.cons rfl .nil)) rfl ((hround i x Hi XB hx hJi).hsub zH) ?_
  rintro v H' ⟨Hi', hsub, ⟨rfl, hJ'⟩ | ⟨rfl, hS'⟩⟩
  ·skip
   refine W_hsub hsub ?_
   refine W_not rfl rfl ?_
   refine W_nil ?_
   refine W_condF rfl rfl ?_
   refine W_skip ?_
   refine W_blk ?_
   refine W_region ?_
   refine W_bin rfl rfl (b_add (m := ((i + 1 : Nat) : Int)) (by rw [i64w (by omega)]; omega)) rfl ?_
   refine W_move rfl rfl ?_
   refine W_nil ?_
   refine W_again (i + 1, Hi') ⟨by show i + 1 ≤ _; omega, hJ'⟩ (by show (quOf Q (k : Int)).length - (i + 1) < (quOf Q (k : Int)).length - i; omega) (sub_cons rfl (sub_cons rfl (sub_cons rfl (sub_cons rfl (sub_nil _))))) rfl (.refl _)
  ·skip
   refine W_hsub hsub ?_
   refine W_not rfl rfl ?_
   refine W_nil ?_
   refine W_condT rfl rfl ?_
   refine W_ret0m Tryz.results125 (.nil _) (.refl _) ?_
   exact ⟨Hi', .dropS (.refl _), .inr hS'⟩
 ·skip
  refine W_exit rfl ?_
  refine W_end0m Tryz.results125 (.nil _) (.refl _) ?_
  obtain rfl : i = (quOf Q (k : Int)).length := by omega
  exact ⟨Hi, .dropS (.refl _), .inl hJi⟩
abbrev dB (D : Nat) : Nat × Blk := (D, .obj (.deferred (some [])))
theorem marks_list {H : Heap} : ∀ (Ds : List Nat), Marks (Ds.map Go.Sl.mark) (Ds.map dB ++ H) H
 | [] => .nil _
 | D :: Ds => .cons (.here _) (marks_list Ds)
theorem PendH.slice {pb n : Nat} {Q Rs : List (Int × Int)} {HB : Heap} (h : PendH pb n Q Rs HB) : ∃ ad cap rn of_, (pb, .cells 126 289 (peRow (.slice ad n cap) rn of_)) ∈ HB := by
 cases h with
 | @mk v XQ XS rbs rn of_ hv hl hr hrun hq =>
  obtain ⟨ad, cap, rfl, _, _⟩ := hv.shape
  exact ⟨ad, cap, rn, of_, List.mem_cons_self⟩
def FindIs (n : Nat) (Q : List (Int × Int)) (id : Int) (v : Value) : Prop := (v = .tuple #[.int .i64 0, .int .i64 0, .bool false] ∧ ∀ k : Nat, k < n → id ∉ quOf Q (k : Int)) ∨ ∃ k i : Nat, v = .tuple #[.int .i64 (k : Int), .int .i64 (i : Int), .bool true] ∧ k < n ∧ (quOf Q (k : Int))[i]? = some id
theorem mem_quOf {Q : List (Int × Int)} {id k : Int} : id ∈ quOf Q k ↔ (id, k) ∈ Q := by
 unfold quOf
 rw [List.mem_map]
 constructor
 ·rintro ⟨p, hp, rfl⟩
  obtain ⟨h1, h2⟩ := List.mem_filter.1 hp
  rw [← of_decide_eq_true h2]; exact h1
 ·exact fun h => ⟨_, List.mem_filter.2 ⟨h, decide_eq_true rfl⟩, rfl⟩
def whQ (Q : List (Int × Int)) (id : Int) : Option Int := (Q.find? (fun p => decide (p.1 = id))).map (·.2)
theorem whQ_some {n : Nat} {Q : List (Int × Int)} (h : QOk n Q) {id k : Int} : whQ Q id = some k ↔ (id, k) ∈ Q := by
 unfold whQ
 constructor
 ·intro e
  obtain ⟨p, hp, rfl⟩ := Option.map_eq_some_iff.1 e
  have h1 : p.1 = id := by simpa using List.find?_some hp
  rw [← h1]; exact List.mem_of_find?_eq_some hp
 ·intro hm
  cases hf : Q.find? (fun p => decide (p.1 = id)) with
  | none => exact absurd (List.find?_eq_none.1 hf _ hm) (by simp)
  | some p =>
   have h1 : p.1 = id := by simpa using List.find?_some hf
   have h2 : p = (id, k) := by
    obtain ⟨i, hi, ei⟩ := List.getElem_of_mem (List.mem_of_find?_eq_some hf)
    obtain ⟨j, hj, ej⟩ := List.getElem_of_mem hm
    have e : i = j := (List.getElem_inj (xs := Q.map (·.1)) (h₀ := by simpa using hi) (h₁ := by simpa using hj) h.ids).1 (by simp only [List.getElem_map]; rw [ei, ej]; exact h1)
    subst e
    rw [← ei, ej]
   rw [h2]; rfl
theorem FindIs.wh {n : Nat} {Q : List (Int × Int)} {id : Int} {v : Value} (h : FindIs n Q id v) (hq : QOk n Q) : (v = .tuple #[.int .i64 0, .int .i64 0, .bool false] ∧ whQ Q id = none) ∨ ∃ k i : Nat, v = .tuple #[.int .i64 (k : Int), .int .i64 (i : Int), .bool true] ∧ k < n ∧ (quOf Q (k : Int))[i]? = some id ∧ whQ Q id = some (k : Int) := by
 rcases h with ⟨h, hno⟩ | ⟨k, i, h, hk, hi⟩
 ·refine .inl ⟨h, ?_⟩
  cases e : whQ Q id with
  | none => rfl
  | some c =>
   have h1 := (whQ_some hq).1 e
   have h2 := (hq.rng _ h1).2
   dsimp only at h2
   obtain ⟨c, rfl⟩ : ∃ m : Nat, c = (m : Int) := ⟨c.toNat, by omega⟩
   exact absurd (mem_quOf.2 h1) (hno c zO)
 ·exact .inr ⟨k, i, h, hk, hi, (whQ_some hq).2 (mem_quOf.1 (List.mem_of_getElem? hi))⟩
theorem snoc_no {Q : List Int} {i : Nat} {x id : Int} (h : ∀ (j : Nat) y, j < i → Q[j]? = some y → y ≠ id) (hx : Q[i]? = some x) (hn : x ≠ id) : ∀ (j : Nat) y, j < i + 1 → Q[j]? = some y → y ≠ id := fun j y hj hy => by
 by_cases e : j = i
 ·subst e
  obtain rfl := Option.some.inj (hy.symm.trans hx)
  exact hn
 ·exact h j y zO hy
theorem whc_q {w0 : World} {H : Heap} {bi : Nat} {id x : Int} (hb : (bi, .cells 3 1 [.int .i64 id]) ∈ H)  : PureAt Tryz.prog w0 H 85 [.int .i64 x, .pointer (some ⟨bi, 0, none⟩)] (.bool (decide (x = id))) := by
 refine L_enter Tryz.func85 rfl Tryz.ntmps85 rfl rfl ?_
 refine W_sr ?_
 refine W_assign rfl rfl ?_
 refine W_nil (W_sr ?_)
 refine W_move rfl rfl ?_
 refine W_load (v := .int .i64 id) rfl ty3 rfl (Cell.own hb rfl) rfl ?_
 refine W_bin rfl rfl b_eql rfl ?_
 refine W_assign rfl rfl ?_
 refine W_nil ?_
 refine W_ret1m (H2 := H) Tryz.results85 rfl (.nil _) zH ?_
 exact ⟨rfl, rfl⟩
theorem dec_q {w0 : World} {H : Heap} {bi : Nat} {id x : Int} (hb : (bi, .cells 3 1 [.int .i64 id]) ∈ H)  : PureAt Tryz.prog w0 H 103 [.int .i64 x, .pointer (some ⟨bi, 0, none⟩)] (.bool (decide (x = id))) := by
 refine L_enter Tryz.func103 rfl Tryz.ntmps103 rfl rfl ?_
 refine W_sr ?_
 refine W_assign rfl rfl ?_
 refine W_nil (W_sr ?_)
 refine W_move rfl rfl ?_
 refine W_load (v := .int .i64 id) rfl ty3 rfl (Cell.own hb rfl) rfl ?_
 refine W_bin rfl rfl b_eql rfl ?_
 refine W_assign rfl rfl ?_
 refine W_nil ?_
 refine W_ret1m (H2 := H) Tryz.results103 rfl (.nil _) zH ?_
 exact ⟨rfl, rfl⟩
theorem find_L {w0 : World} {H : Heap} {HB : Heap} {pb n bi fi : Nat} {id : Int} {Q Rs : List (Int × Int)} (hP : PendH pb n Q Rs HB) (hn : n ≤ 64) (hbi : (bi, .cells 3 1 [.int .i64 id]) ∈ H) (hfi : ∀ (args : Array Value) (w : World), (callFunc fi args).run Tryz.prog w = .ok (.enter fi args) w) (hcl : ∀ (x : Int) (H : Heap), (bi, .cells 3 1 [.int .i64 id]) ∈ H → PureAt Tryz.prog w0 H fi [.int .i64 x, .pointer (some ⟨bi, 0, none⟩)] (.bool (decide (x = id))))  : LCalls Tryz.prog w0 84 #[.pointer (some ⟨pb, 0, none⟩), .func (.func fi) #[] #[.pointer (some ⟨bi, 0, none⟩)]] (HB ++ H) (fun v H' => FindIs n Q id v ∧ H' = HB ++ H) := by
 obtain ⟨ad, cap, rn, of_, hpe⟩ := hP.slice
 refine L_enter (l := [.pointer (some ⟨pb, 0, none⟩), .func (.func fi) #[] #[.pointer (some ⟨bi, 0, none⟩)]]) Tryz.func84 rfl Tryz.ntmps84 rfl rfl ?_
 refine W_sr ?_
 refine W_box (l := [.func (.func fi) #[] #[.pointer (some ⟨bi, 0, none⟩)]]) rfl rfl rfl (fun b3 => ?_)
 refine W_alloc (l := [.int .i64 0]) ty3 rfl rfl (fun b4 => ?_)
 refine W_alloc (l := [.int .i64 0]) ty3 rfl rfl (fun b5 => ?_)
 refine W_alloc (l := [.bool false]) ty4 rfl rfl (fun b6 => ?_)
 refine W_nil (W_seq (W_sr ?_))
 refine W_move rfl rfl ?_
 refine W_x (X_ptrNil rfl rfl ty81) (fun _ h => by cases h) rfl ?_
 refine W_nil ?_
 refine W_condF rfl rfl ?_
 refine W_skip (W_seq (W_sr ?_))
 refine W_move rfl rfl ?_
 refine W_nilCheck rfl rfl ?_
 refine W_fieldAddr rfl fld126_0 zd rfl ?_
 refine W_load (v := .slice ad n cap) rfl ty122 rfl (Cell.own (b := pb) (by repeat (first | exact List.mem_append_left _ hpe | exact List.mem_cons_self | apply List.mem_cons_of_mem | apply List.mem_append_right)) rfl) rfl ?_
 refine W_len rfl ty122 rfl rfl ?_
 refine W_move rfl rfl ?_
 refine W_nil (W_block ?_)
 refine W_loopC (X := (Nat × List Nat)) [(0, _), (3, _), (4, _), (5, _), (6, _), (16, _)] (fun (x : (Nat × List Nat)) => [(17, .int .i64 (x.1 : Int))]) (fun (x : (Nat × List Nat)) => x.2.map Go.Sl.mark) (fun (x : (Nat × List Nat)) => HB ++ (x.2.map dB ++ ((b6, .cells 4 1 [.bool false]) :: (b5, .cells 3 1 [.int .i64 0]) :: (b4, .cells 3 1 [.int .i64 0]) :: (b3, .cells 97 1 [.func (.func fi) #[] #[.pointer (some ⟨bi, 0, none⟩)]]) :: H))) (fun (x : (Nat × List Nat)) => x.1 ≤ n ∧ ∀ j : Nat, j < x.1 → id ∉ quOf Q (j : Int)) (fun (x : (Nat × List Nat)) => n - x.1) (0, []) ⟨Nat.zero_le _, fun j hj => absurd hj (Nat.not_lt_zero _)⟩ (sub_cons rfl (sub_cons rfl (sub_cons rfl (sub_cons rfl (sub_cons rfl (sub_cons rfl (sub_nil _))))))) (sub_cons rfl (sub_nil _)) rfl (show HSub _ (HB ++ ([] ++ ((b6, .cells 4 1 [.bool false]) :: (b5, .cells 3 1 [.int .i64 0]) :: (b4, .cells 3 1 [.int .i64 0]) :: (b3, .cells 97 1 [.func (.func fi) #[] #[.pointer (some ⟨bi, 0, none⟩)]]) :: H))) from zH) ?_
 rintro ⟨k, Ds⟩ ⟨hk, hno⟩
 dsimp only at hk hno ⊢
 simp only [List.cons_append, List.nil_append]
 refine W_sr ?_
 refine W_bin rfl rfl b_lss rfl ?_
 refine W_nil (W_seq ?_)
 refine W_condPS (p := (k : Int) < (n : Int)) rfl (by simp) (fun q0 => ?_) (fun q0 => ?_)
 ·skip
  refine W_skip (W_seq ?_)
  refine W_block (W_sr ?_)
  refine W_move rfl rfl ?_
  refine W_alloc (l := [.int .i64 0]) ty3 rfl rfl (fun b7 => ?_)
  refine W_store (l' := [.int .i64 (k : Int)]) rfl rfl ty3 rfl rfl (b := b7) zM rfl rfl zU ?_
  refine W_nil (W_sr ?_)
  refine W_move rfl rfl ?_
  refine W_load (v := .int .i64 (k : Int)) rfl ty3 rfl (Cell.own (b := b7) zM rfl) rfl ?_
  refine W_call (.cons rfl (.cons rfl .nil)) Tryz.call108 rfl (pall_L) ?_
  rintro v H' ⟨c2, c3, rfl, rfl⟩
  refine W_nil (W_block ?_)
  refine W_rangeFunc rfl Tryz.call125 ?_
  intro lp D r hst hpd hps hasg hbody hA
  have hr := loop_ready hst hpd
  show LCalls _ _ _ #[_, _, _] _ _
  refine ((pall_iter (b2 := c2) (b3 := c3) (H := (lp, .obj (.loop r)) :: (D, .obj (.deferred (some []))) :: ((b7, .cells 3 1 [.int .i64 (k : Int)]) :: (Ds.map dB ++ ((b6, .cells 4 1 [.bool false]) :: (b5, .cells 3 1 [.int .i64 0]) :: (b4, .cells 3 1 [.int .i64 0]) :: (b3, .cells 97 1 [.func (.func fi) #[] #[.pointer (some ⟨bi, 0, none⟩)]]) :: H)))) hP hn (k := k) zO (fun i Hi => (∀ (j : Nat) y, j < i → (quOf Q (k : Int))[j]? = some y → y ≠ id) ∧ Hi = (lp, .obj (.loop r)) :: (D, .obj (.deferred (some []))) :: ((b7, .cells 3 1 [.int .i64 (k : Int)]) :: (Ds.map dB ++ ((b6, .cells 4 1 [.bool false]) :: (b5, .cells 3 1 [.int .i64 0]) :: (b4, .cells 3 1 [.int .i64 0]) :: (b3, .cells 97 1 [.func (.func fi) #[] #[.pointer (some ⟨bi, 0, none⟩)]]) :: H)))) (fun Hi => ∃ i : Nat, (quOf Q (k : Int))[i]? = some id ∧ Hi = (lp, .obj (.loop (Loop.at r .done (some .ret)))) :: (D, .obj (.deferred (some []))) :: ((b7, .cells 3 1 [.int .i64 (k : Int)]) :: (Ds.map dB ++ ((b6, .cells 4 1 [.bool true]) :: (b5, .cells 3 1 [.int .i64 (i : Int)]) :: (b4, .cells 3 1 [.int .i64 (k : Int)]) :: (b3, .cells 97 1 [.func (.func fi) #[] #[.pointer (some ⟨bi, 0, none⟩)]]) :: H)))) ?_ ⟨fun j y hj => absurd hj (Nat.not_lt_zero _), rfl⟩).hsub zH).mono ?_
  ·intro i x Hi XB hx hJ
   obtain ⟨hJ1, rfl⟩ := hJ
   refine round_intro hst hpd hA hps rfl hasg rfl rfl rfl zT ?_
   refine W_sr ?_
   refine W_assign rfl rfl ?_
   refine W_nil ?_
   refine W_region ?_
   refine W_assign rfl rfl ?_
   refine W_nil ?_
   refine W_begin hst hpd zT hbody ?_
   refine W_block (W_sr ?_)
   refine W_load (v := .func (.func fi) #[] #[.pointer (some ⟨bi, 0, none⟩)]) rfl ty97 rfl (Cell.own (b := b3) zM rfl) rfl ?_
   refine W_move rfl rfl ?_
   refine W_callqv (fa := []) (ca := [.pointer (some ⟨bi, 0, none⟩)]) rfl (.cons rfl .nil) rfl hfi rfl (hcl x _ (by repeat (first | exact hbi | exact List.mem_cons_self | apply List.mem_cons_of_mem | apply List.mem_append_right))) ?_
   by_cases hxi : x = id
   ·skip
    subst hxi
    rw [decide_eq_true rfl]
    refine W_nil ?_
    refine W_condT rfl rfl ?_
    refine W_sr ?_
    refine W_load (v := .int .i64 (k : Int)) rfl ty3 rfl (Cell.own (b := b7) zM rfl) rfl ?_
    refine W_move rfl rfl ?_
    refine W_store (l' := [.int .i64 (k : Int)]) rfl rfl ty3 rfl rfl (b := b4) zM rfl rfl zU ?_
    refine W_store (l' := [.int .i64 (i : Int)]) rfl rfl ty3 rfl rfl (b := b5) zM rfl rfl zU ?_
    refine W_store (l' := [.bool true]) rfl rfl ty4 rfl rfl (b := b6) zM rfl rfl zU ?_
    refine W_nil ?_
    refine W_retround zT ?_
    exact ⟨(lp, .obj (.loop (Loop.at r .done (some .ret)))) :: (D, .obj (.deferred (some []))) :: ((b7, .cells 3 1 [.int .i64 (k : Int)]) :: (Ds.map dB ++ ((b6, .cells 4 1 [.bool true]) :: (b5, .cells 3 1 [.int .i64 (i : Int)]) :: (b4, .cells 3 1 [.int .i64 (k : Int)]) :: (b3, .cells 97 1 [.func (.func fi) #[] #[.pointer (some ⟨bi, 0, none⟩)]]) :: H))), zH, .inr ⟨rfl, i, hx, rfl⟩⟩
    skip
   ·skip
    rw [decide_eq_false hxi]
    refine W_nil ?_
    refine W_condF rfl rfl ?_
    refine W_skip ?_
    refine W_blk ?_
    refine W_endround zT ?_
    rw [hr]
    exact ⟨(lp, .obj (.loop r)) :: (D, .obj (.deferred (some []))) :: ((b7, .cells 3 1 [.int .i64 (k : Int)]) :: (Ds.map dB ++ ((b6, .cells 4 1 [.bool false]) :: (b5, .cells 3 1 [.int .i64 0]) :: (b4, .cells 3 1 [.int .i64 0]) :: (b3, .cells 97 1 [.func (.func fi) #[] #[.pointer (some ⟨bi, 0, none⟩)]]) :: H))), zH, .inl ⟨rfl, snoc_no hJ1 hx hxi, rfl⟩⟩
  ·intro _ H' hp
   obtain ⟨Hi', hs, hJS⟩ := hp
   rcases hJS with ⟨hJ1, rfl⟩ | ⟨i, hi, rfl⟩
   case inr =>
    refine ⟨.done, some .ret, (c2, .cells 81 1 [.pointer (some ⟨pb, 0, none⟩)]) :: (c3, .cells 3 1 [.int .i64 (k : Int)]) :: (HB ++ ((D, .obj (.deferred (some []))) :: ((b7, .cells 3 1 [.int .i64 (k : Int)]) :: (Ds.map dB ++ ((b6, .cells 4 1 [.bool true]) :: (b5, .cells 3 1 [.int .i64 (i : Int)]) :: (b4, .cells 3 1 [.int .i64 (k : Int)]) :: (b3, .cells 97 1 [.func (.func fi) #[] #[.pointer (some ⟨bi, 0, none⟩)]]) :: H))))), hs.trans zH, by decide, ?_⟩
    show W _ _ _ _ _ _ _ _ _
    refine W_hsub (H' := (D :: Ds).map dB ++ (HB ++ ((b6, .cells 4 1 [.bool true]) :: (b5, .cells 3 1 [.int .i64 (i : Int)]) :: (b4, .cells 3 1 [.int .i64 (k : Int)]) :: (b3, .cells 97 1 [.func (.func fi) #[] #[.pointer (some ⟨bi, 0, none⟩)]]) :: H))) (show HSub _ (dB D :: (Ds.map dB ++ (HB ++ ((b6, .cells 4 1 [.bool true]) :: (b5, .cells 3 1 [.int .i64 (i : Int)]) :: (b4, .cells 3 1 [.int .i64 (k : Int)]) :: (b3, .cells 97 1 [.func (.func fi) #[] #[.pointer (some ⟨bi, 0, none⟩)]]) :: H)))) from zH) ?_
    refine W_ret3G (H2 := HB ++ H) Tryz.results84 (marks_list (D :: Ds)) (.one rfl ty3 rfl (Cell.own (b := b4) zM rfl)) (.one rfl ty3 rfl (Cell.own (b := b5) zM rfl)) (.one rfl ty4 rfl (Cell.own (b := b6) zM rfl)) zH ?_
    exact ⟨.inr ⟨k, i, rfl, by omega, hi⟩, rfl⟩
   refine ⟨.ready, none, (c2, .cells 81 1 [.pointer (some ⟨pb, 0, none⟩)]) :: (c3, .cells 3 1 [.int .i64 (k : Int)]) :: (HB ++ ((D, .obj (.deferred (some []))) :: ((b7, .cells 3 1 [.int .i64 (k : Int)]) :: (Ds.map dB ++ ((b6, .cells 4 1 [.bool false]) :: (b5, .cells 3 1 [.int .i64 0]) :: (b4, .cells 3 1 [.int .i64 0]) :: (b3, .cells 97 1 [.func (.func fi) #[] #[.pointer (some ⟨bi, 0, none⟩)]]) :: H))))), by rw [hr]; exact hs.trans zH, by decide, ?_⟩
   show W _ _ _ _ _ _ _ _ _
   refine W_blk ?_
   refine W_blk ?_
   refine W_region ?_
   refine W_bin rfl rfl (b_add (m := ((k + 1 : Nat) : Int)) (by rw [i64w (by omega)]; omega)) rfl ?_
   refine W_move rfl rfl ?_
   refine W_nil ?_
   refine W_again (k + 1, D :: Ds) ⟨by show k + 1 ≤ n; omega, fun j hj hin => by
     by_cases e : j = k
     ·subst e
      obtain ⟨q, hq, eq⟩ := List.getElem_of_mem hin
      exact hJ1 q id hq (by rw [List.getElem?_eq_getElem hq, eq]) rfl
     ·exact hno j (by have : j < k + 1 := hj; omega) hin⟩ (by show n - (k + 1) < n - k; omega) (sub_cons rfl (sub_cons rfl (sub_cons rfl (sub_cons rfl (sub_cons rfl (sub_cons rfl (sub_cons rfl (sub_nil _)))))))) rfl (show HSub _ (HB ++ (dB D :: (Ds.map dB ++ ((b6, .cells 4 1 [.bool false]) :: (b5, .cells 3 1 [.int .i64 0]) :: (b4, .cells 3 1 [.int .i64 0]) :: (b3, .cells 97 1 [.func (.func fi) #[] #[.pointer (some ⟨bi, 0, none⟩)]]) :: H)))) from zH)
 ·skip
  refine W_exit rfl ?_
  refine W_sr ?_
  refine W_store (l' := [.int .i64 0]) rfl rfl ty3 rfl rfl (b := b4) zM rfl rfl zU ?_
  refine W_store (l' := [.int .i64 0]) rfl rfl ty3 rfl rfl (b := b5) zM rfl rfl zU ?_
  refine W_store (l' := [.bool false]) rfl rfl ty4 rfl rfl (b := b6) zM rfl rfl zU ?_
  refine W_nil ?_
  refine W_hsub (H' := Ds.map dB ++ (HB ++ ((b6, .cells 4 1 [.bool false]) :: (b5, .cells 3 1 [.int .i64 0]) :: (b4, .cells 3 1 [.int .i64 0]) :: (b3, .cells 97 1 [.func (.func fi) #[] #[.pointer (some ⟨bi, 0, none⟩)]]) :: H))) zH ?_
  refine W_ret3G (H2 := HB ++ H) Tryz.results84 (marks_list (Ds)) (.one rfl ty3 rfl (Cell.own (b := b4) zM rfl)) (.one rfl ty3 rfl (Cell.own (b := b5) zM rfl)) (.one rfl ty4 rfl (Cell.own (b := b6) zM rfl)) zH ?_
  obtain rfl : k = n := by omega
  exact ⟨.inl ⟨rfl, hno⟩, rfl⟩
theorem Where_L {w0 : World} {H : Heap} {HB : Heap} {pb n : Nat} {id : Int} {Q Rs : List (Int × Int)} (hP : PendH pb n Q Rs HB) (hn : n ≤ 64)  : LCalls Tryz.prog w0 46 #[.pointer (some ⟨pb, 0, none⟩), .int .i64 id] (HB ++ H) (fun v H' => v = optV (whQ Q id) ∧ H' = HB ++ H) := by
 refine L_enter (l := [.pointer (some ⟨pb, 0, none⟩), .int .i64 id]) Tryz.func46 rfl Tryz.ntmps46 rfl rfl ?_
 refine W_sr ?_
 refine W_box (l := [.int .i64 id]) rfl rfl rfl (fun b3 => ?_)
 refine W_assign rfl rfl ?_
 refine W_assign rfl rfl ?_
 refine W_nil (W_sr ?_)
 refine W_move rfl rfl ?_
 refine W_makeFunc .nil (.cons rfl .nil) rfl ?_
 refine W_call (.cons rfl (.cons rfl .nil)) Tryz.call84 rfl ((find_L (bi := b3) (fi := 85) (id := id) hP hn (H := (b3, .cells 3 1 [.int .i64 id]) :: H) zM Tryz.call85 (fun x H hb => whc_q hb)).hsub zH) ?_
 rintro v H' ⟨hF, rfl⟩
 rcases hF.wh hP.ok with ⟨rfl, hw⟩ | ⟨k, i, rfl, hk, hi, hw⟩
 ·skip
  refine W_move rfl rfl ?_
  refine W_extract rfl rfl rfl ?_
  refine W_extract rfl rfl rfl ?_
  refine W_extract rfl rfl rfl ?_
  refine W_assign rfl rfl ?_
  refine W_assign rfl rfl ?_
  refine W_assign rfl rfl ?_
  refine W_nil (W_sr ?_)
  refine W_move rfl rfl ?_
  refine W_move rfl rfl ?_
  refine W_assign rfl rfl ?_
  refine W_assign rfl rfl ?_
  refine W_nil ?_
  refine W_ret2m (H2 := HB ++ H) Tryz.results46 rfl rfl (.nil _) zH ?_
  rw [hw]
  exact ⟨rfl, rfl⟩
 ·skip
  refine W_move rfl rfl ?_
  refine W_extract rfl rfl rfl ?_
  refine W_extract rfl rfl rfl ?_
  refine W_extract rfl rfl rfl ?_
  refine W_assign rfl rfl ?_
  refine W_assign rfl rfl ?_
  refine W_assign rfl rfl ?_
  refine W_nil (W_sr ?_)
  refine W_move rfl rfl ?_
  refine W_move rfl rfl ?_
  refine W_assign rfl rfl ?_
  refine W_assign rfl rfl ?_
  refine W_nil ?_
  refine W_ret2m (H2 := HB ++ H) Tryz.results46 rfl rfl (.nil _) zH ?_
  rw [hw]
  exact ⟨rfl, rfl⟩
def addQ (cpu : Int) : List Int → List (Int × Int) → List (Int × Int) × Int
 | [], Q => (Q, 0)
 | id :: l, Q => if ¬ (0 ≤ id ∧ id < 256) then (Q, 2) else if (whQ Q id).isSome = true then (Q, 5) else addQ cpu l (Q ++ [(id, cpu)])
def addsQ (n : Nat) (Q : List (Int × Int)) (cpu : Int) (l : List Int) : List (Int × Int) × Int := if cpu < 0 ∨ (n : Int) ≤ cpu then (Q, 2) else addQ cpu l Q
theorem quOf_snoc (Q : List (Int × Int)) (id k j : Int) : quOf (Q ++ [(id, k)]) j = quOf Q j ++ (if k = j then [id] else []) := by
 unfold quOf
 rw [List.filter_append, List.map_append]
 congr 1
 by_cases c : k = j
 ·rw [if_pos c]; simp [c]
 ·rw [if_neg c]; simp [c]
theorem QOk.snoc {n : Nat} {Q : List (Int × Int)} (h : QOk n Q) {id k : Int} (hr : 0 ≤ id ∧ id < 256) (hk : 0 ≤ k ∧ k < (n : Int)) (hw : whQ Q id = none) : QOk n (Q ++ [(id, k)]) := by
 refine ⟨?_, fun p hp => ?_⟩
 ·rw [List.map_append, List.nodup_append]
  refine ⟨h.ids, by simp, fun x hx y hy e => ?_⟩
  obtain ⟨p, hp, rfl⟩ := List.mem_map.1 hx
  have hy2 : y = id := by simpa using hy
  have h1 := (whQ_some h (id := id) (k := p.2)).2 (by rw [← hy2, ← e]; exact hp)
  rw [hw] at h1; cases h1
 ·rcases List.mem_append.1 hp with hp | hp
  ·exact h.rng p hp
  ·rw [List.mem_singleton.1 hp]; exact ⟨hr, hk⟩
def delQ (Q : List (Int × Int)) (id : Int) : List (Int × Int) := Q.filter (fun p => decide (p.1 ≠ id))
theorem QOk.del {n : Nat} {Q : List (Int × Int)} (h : QOk n Q) (id : Int) : QOk n (delQ Q id) := ⟨h.ids.sublist (List.filter_sublist.map _), fun p hp => h.rng p (List.mem_filter.1 hp).1⟩
theorem delQ_no {n : Nat} {Q : List (Int × Int)} (h : QOk n Q) {id : Int} (hw : whQ Q id = none) : delQ Q id = Q := List.filter_eq_self.2 fun p hp => decide_eq_true (fun e => by
 have h1 := (whQ_some h (id := id) (k := p.2)).2 (by rw [← e]; exact hp)
 rw [hw] at h1; cases h1)
theorem eraseIdx_filter : ∀ {l : List Int} {i : Nat} {x : Int}, l.Nodup → l[i]? = some x → l.eraseIdx i = l.filter (fun y => decide (y ≠ x))
 | y :: l, 0, x, hn, h => by
  obtain rfl : y = x := by simpa using h
  rw [List.nodup_cons] at hn
  rw [List.filter_cons_of_neg (by simp), List.eraseIdx_zero, List.tail_cons]
  exact (List.filter_eq_self.2 fun z hz => decide_eq_true (p := z ≠ y) (fun (e : z = y) => hn.1 (e ▸ hz))).symm
 | y :: l, i + 1, x, hn, h => by
  rw [List.nodup_cons] at hn
  have hx : l[i]? = some x := by simpa using h
  rw [List.eraseIdx_cons_succ, List.filter_cons_of_pos (by simpa using fun e : y = x => hn.1 (e ▸ List.mem_of_getElem? hx)), eraseIdx_filter hn.2 hx]
theorem quOf_del (Q : List (Int × Int)) (id k : Int) : quOf (delQ Q id) k = (quOf Q k).filter (fun y => decide (y ≠ id)) := by
 unfold quOf delQ
 rw [List.filter_map, List.filter_filter, List.filter_filter]
 congr 1
 refine List.filter_congr fun p _ => ?_
 simp [Bool.and_comm]
theorem quOf_del_at {n : Nat} {Q : List (Int × Int)} (h : QOk n Q) {id k : Int} {i : Nat} (hi : (quOf Q k)[i]? = some id) : quOf (delQ Q id) k = (quOf Q k).eraseIdx i := by
 rw [quOf_del, eraseIdx_filter (quOf_sub h k).1 hi]
theorem quOf_del_other {n : Nat} {Q : List (Int × Int)} (h : QOk n Q) {id k j : Int} (hm : (id, k) ∈ Q) (hj : j ≠ k) : quOf (delQ Q id) j = quOf Q j := by
 rw [quOf_del]
 refine List.filter_eq_self.2 fun y hy => decide_eq_true (fun e => hj ?_)
 subst e
 have h1 := (whQ_some h).2 (mem_quOf.1 hy)
 rw [(whQ_some h).2 hm] at h1
 exact (Option.some.inj h1).symm
def delsQ (Q : List (Int × Int)) (l : List Int) : List (Int × Int) × Nat := l.foldl (fun s id => (delQ s.1 id, s.2 + if (whQ s.1 id).isSome = true then 1 else 0)) (Q, 0)
theorem delsQ_at {Q : List (Int × Int)} {l : List Int} {i : Nat} {x : Int} (h : l[i]? = some x) : delsQ Q (l.take (i + 1)) = (delQ (delsQ Q (l.take i)).1 x, (delsQ Q (l.take i)).2 + if (whQ (delsQ Q (l.take i)).1 x).isSome = true then 1 else 0) := by
 unfold delsQ
 rw [takeAt h, List.foldl_append]; rfl
theorem delsQ_le (Q : List (Int × Int)) (l : List Int) : ∀ i, i ≤ l.length → (delsQ Q (l.take i)).2 ≤ i
 | 0, _ => by rw [List.take_zero]; exact Nat.le_refl _
 | i + 1, h => by
  obtain ⟨x, hx⟩ : ∃ x, l[i]? = some x := ⟨_, List.getElem?_eq_getElem zO⟩
  rw [delsQ_at hx]
  have := delsQ_le Q l i zO
  dsimp only
  split <;> omega
theorem Add_no {w0 : World} {H : Heap} {HB : Heap} {pb n : Nat} {Q Rs : List (Int × Int)} (hP : PendH pb n Q Rs HB) (hn : n ≤ 64) {cpu : Int} {ids : List Int} {ad : Option Addr} {cap : Nat} (hc : cpu < 0 ∨ (n : Int) ≤ cpu)  : LCalls Tryz.prog w0 48 #[.pointer (some ⟨pb, 0, none⟩), .int .i64 cpu, .slice ad ids.length cap] (HB ++ H) (fun v H' => ∃ HB', PendH pb n (addsQ n Q cpu ids).1 Rs HB' ∧ v = .int .i64 (addsQ n Q cpu ids).2 ∧ H' = HB' ++ H) := by
 refine L_enter (l := [.pointer (some ⟨pb, 0, none⟩), .int .i64 cpu, .slice ad ids.length cap]) Tryz.func48 rfl Tryz.ntmps48 rfl rfl ?_
 refine W_sr ?_
 refine W_assign rfl rfl ?_
 refine W_nil (W_seq ?_)
 refine W_block (W_sr ?_)
 refine W_move rfl rfl ?_
 refine W_x (X_ptrNil rfl rfl ty81) (fun _ h => by cases h) rfl ?_
 refine W_assign rfl rfl ?_
 refine W_nil ?_
 refine W_condF rfl rfl ?_
 refine W_sr ?_
 refine W_move rfl rfl ?_
 refine W_move rfl rfl ?_
 refine W_callq (.cons rfl (.cons rfl .nil)) Tryz.call87 rfl (hP.noq hn hc (fun p hp => List.mem_append_left _ hp)) ?_
 refine W_x (X_ptrNil rfl rfl ty127) (fun _ h => by cases h) rfl ?_
 refine W_assign rfl rfl ?_
 refine W_nil ?_
 refine W_condT rfl rfl ?_
 refine W_sr ?_
 refine W_assign rfl rfl ?_
 refine W_nil ?_
 refine W_ret1m (H2 := HB ++ H) Tryz.results48 rfl (.nil _) zH ?_
 unfold addsQ; rw [if_pos hc]
 exact ⟨HB, hP, rfl, rfl⟩
theorem Add_at {w0 : World} {H : Heap} {HB : Heap} {pb n : Nat} {Q Rs : List (Int × Int)} (hP : PendH pb n Q Rs HB) (hn : n ≤ 64) {k : Nat} {ids : List Int} {ad : Option Addr} {cap : Nat} (hil : ids.length ≤ 1000000) (hrow : Holds w0 H ad (ids.map (Value.int .i64))) (hk : k < n)  : LCalls Tryz.prog w0 48 #[.pointer (some ⟨pb, 0, none⟩), .int .i64 (k : Int), .slice ad ids.length cap] (HB ++ H) (fun v H' => ∃ HB', PendH pb n (addsQ n Q (k : Int) ids).1 Rs HB' ∧ v = .int .i64 (addsQ n Q (k : Int) ids).2 ∧ H' = HB' ++ H) := by
 refine L_enter (l := [.pointer (some ⟨pb, 0, none⟩), .int .i64 (k : Int), .slice ad ids.length cap]) Tryz.func48 rfl Tryz.ntmps48 rfl rfl ?_
 refine W_sr ?_
 refine W_assign rfl rfl ?_
 refine W_nil (W_seq ?_)
 refine W_block (W_sr ?_)
 refine W_move rfl rfl ?_
 refine W_x (X_ptrNil rfl rfl ty81) (fun _ h => by cases h) rfl ?_
 refine W_assign rfl rfl ?_
 refine W_nil ?_
 refine W_condF rfl rfl ?_
 refine W_sr ?_
 refine W_move rfl rfl ?_
 refine W_move rfl rfl ?_
 obtain ⟨rb, X, HR, hR, hqu, ho1, ho2, hup⟩ := hP.at hn hk
 refine W_callq (.cons rfl (.cons rfl .nil)) Tryz.call87 rfl (hqu (fun p hp => List.mem_append_left _ hp)) ?_
 refine W_x (X_ptrNil rfl rfl ty127) (fun _ h => by cases h) rfl ?_
 refine W_assign rfl rfl ?_
 refine W_nil ?_
 refine W_condF rfl rfl ?_
 refine W_skip ?_
 refine W_blk ?_
 refine W_seq (W_sr ?_)
 refine W_move rfl rfl ?_
 refine W_len rfl ty24 rfl rfl ?_
 refine W_move rfl rfl ?_
 refine W_nil (W_block ?_)
 refine W_loopC (X := (Nat × List (Int × Int) × Heap)) [(0, _), (1, _), (19, _), (20, _)] (fun (x : (Nat × List (Int × Int) × Heap)) => [(21, .int .i64 (x.1 : Int))]) (fun _ => _) (fun (x : (Nat × List (Int × Int) × Heap)) => x.2.2 ++ H) (fun (x : (Nat × List (Int × Int) × Heap)) => x.1 ≤ ids.length ∧ PendH pb n x.2.1 Rs x.2.2 ∧ addQ (k : Int) ids Q = addQ (k : Int) (ids.drop x.1) x.2.1) (fun (x : (Nat × List (Int × Int) × Heap)) => ids.length - x.1) (0, Q, HB) ⟨Nat.zero_le _, hP, rfl⟩ (sub_cons rfl (sub_cons rfl (sub_cons rfl (sub_cons rfl (sub_nil _))))) (sub_cons rfl (sub_nil _)) rfl (.refl _) ?_
 rintro ⟨i, Qi, HBi⟩ ⟨hi, hPi, hA⟩
 dsimp only at hi hPi hA ⊢
 simp only [List.cons_append, List.nil_append]
 refine W_sr ?_
 refine W_bin rfl rfl b_lss rfl ?_
 refine W_nil (W_seq ?_)
 refine W_condPS (p := (i : Int) < (ids.length : Int)) rfl (by simp) (fun q0 => ?_) (fun q0 => ?_)
 ·skip
  refine W_skip (W_seq ?_)
  refine W_block (W_sr ?_)
  obtain ⟨x, hx⟩ : ∃ x, ids[i]? = some x := ⟨_, List.getElem?_eq_getElem zO⟩
  have hdr : ids.drop i = x :: ids.drop (i + 1) := by rw [List.drop_eq_getElem_cons (by omega)]; congr 1; exact (List.getElem?_eq_some_iff.1 hx).2
  obtain ⟨q0, p0, rfl, hcx⟩ := hrow.at (i := i) (v := .int .i64 x) (by rw [List.getElem?_map, hx]; rfl)
  refine W_indexAddr (j := i) rfl rfl ty24 ty3 rfl zO rfl rfl ?_
  refine W_load (v := .int .i64 x) rfl ty3 rfl (by rw [Nat.mul_one]; exact hcx.up zH) rfl ?_
  refine W_assign rfl rfl ?_
  refine W_nil (W_seq (W_sr ?_))
  refine W_move rfl rfl ?_
  refine W_callp (.cons rfl .nil) Tryz.call88 rfl (T := fun _ => True) trivial (thing_pure (id := x)) ?_
  by_cases hxr : 0 ≤ x ∧ x < 256
  ·skip
   rw [show (decide (0 ≤ x) && decide (x < 256)) = true by simp; omega]
   refine W_not rfl rfl ?_
   refine W_nil ?_
   refine W_condF rfl rfl ?_
   refine W_skip (W_seq (W_sr ?_))
   refine W_move rfl rfl ?_
   refine W_move rfl rfl ?_
   refine W_call (.cons rfl (.cons rfl .nil)) Tryz.call46 rfl (Where_L (id := x) hPi hn) ?_
   rintro v H' ⟨rfl, rfl⟩
   rcases hw : whQ Qi x with _ | c
   ·skip
    refine W_move rfl rfl ?_
    refine W_extract rfl rfl rfl ?_
    refine W_extract rfl rfl rfl ?_
    refine W_assign rfl rfl ?_
    refine W_assign rfl rfl ?_
    refine W_nil (W_sr ?_)
    refine W_move rfl rfl ?_
    refine W_nil ?_
    refine W_condF rfl rfl ?_
    refine W_skip ?_
    refine W_region ?_
    refine W_move rfl rfl ?_
    refine W_move rfl rfl ?_
    obtain ⟨rb, X, HR, hR, hqu, ho1, ho2, hup⟩ := hPi.at hn hk
    refine W_callq (.cons rfl (.cons rfl .nil)) Tryz.call87 rfl (hqu (fun p hp => List.mem_append_left _ hp)) ?_
    refine W_move rfl rfl ?_
    refine W_buildSlice (l := [.int .i64 x]) ty24 ty3 (.cons rfl rfl rfl rfl rfl .nil) rfl rfl rfl rfl rfl rfl rfl (fun b39 => ?_)
    have hqn := hPi.ok.snoc hxr ⟨by omega, by omega⟩ hw (k := (k : Int))
    have hql := quOf_len hqn (k : Int)
    rw [quOf_snoc, if_pos rfl, List.length_append, List.length_singleton] at hql
    refine W_hsub (H' := X ++ ((b39, .cells 3 1 [.int .i64 x]) :: (HR ++ H))) ((show HSub _ ((b39, .cells 3 1 [.int .i64 x]) :: (HBi ++ H)) from zH).trans ((HSub.cons (.here _) (ho1 H)).trans zH)) ?_
    refine W_call (.cons rfl (.cons rfl .nil)) Tryz.call89 rfl (rPush_L (xs := [x]) hR (show 1 ≤ 1000000 by decide) (by exact Nat.le_refl 1) (Holds.own (b := b39) zM)) ?_
    rintro v H' ⟨X', hR', rfl, rfl⟩
    rw [List.take_of_length_le (by show 1 ≤ _; simp only [List.length_singleton]; omega)] at hR'
    obtain ⟨HBn, hPn, hin⟩ := hup (Qi ++ [(x, (k : Int))]) X' (by rw [quOf_snoc, if_pos rfl]; exact hR') (fun j hj => by rw [quOf_snoc, if_neg (by omega), List.append_nil]) hqn
    refine W_hsub (H' := HBn ++ H) ((show HSub _ (X' ++ (HR ++ H)) from zH).trans (hin H)) ?_
    refine W_nil ?_
    refine W_blk ?_
    refine W_region ?_
    refine W_bin rfl rfl (b_add (m := ((i + 1 : Nat) : Int)) (by rw [i64w (by omega)]; omega)) rfl ?_
    refine W_move rfl rfl ?_
    refine W_nil ?_
    refine W_again (i + 1, Qi ++ [(x, (k : Int))], HBn) ⟨by show i + 1 ≤ ids.length; omega, hPn, by rw [hA, hdr, addQ, if_neg (fun h => h hxr), if_neg (by rw [hw]; decide)]⟩ (by show ids.length - (i + 1) < ids.length - i; omega) (sub_cons rfl (sub_cons rfl (sub_cons rfl (sub_cons rfl (sub_cons rfl (sub_nil _)))))) rfl zH
   ·skip
    refine W_move rfl rfl ?_
    refine W_extract rfl rfl rfl ?_
    refine W_extract rfl rfl rfl ?_
    refine W_assign rfl rfl ?_
    refine W_assign rfl rfl ?_
    refine W_nil (W_sr ?_)
    refine W_move rfl rfl ?_
    refine W_nil ?_
    refine W_condT rfl rfl ?_
    refine W_sr ?_
    refine W_assign rfl rfl ?_
    refine W_nil ?_
    refine W_ret1m (H2 := HBi ++ H) Tryz.results48 rfl (.nil _) zH ?_
    have e : addsQ n Q (k : Int) ids = addQ (k : Int) ids Q := if_neg zO
    rw [e, hA, hdr, addQ, if_neg (fun h => h hxr), if_pos (by rw [hw]; rfl)]
    exact ⟨HBi, hPi, rfl, rfl⟩
  ·skip
   rw [show (decide (0 ≤ x) && decide (x < 256)) = false by simp; omega]
   refine W_not rfl rfl ?_
   refine W_nil ?_
   refine W_condT rfl rfl ?_
   refine W_sr ?_
   refine W_assign rfl rfl ?_
   refine W_nil ?_
   refine W_ret1m (H2 := HBi ++ H) Tryz.results48 rfl (.nil _) zH ?_
   have e : addsQ n Q (k : Int) ids = addQ (k : Int) ids Q := if_neg zO
   rw [e, hA, hdr, addQ, if_pos hxr]
   exact ⟨HBi, hPi, rfl, rfl⟩
 ·skip
  refine W_exit rfl ?_
  refine W_sr ?_
  refine W_assign rfl rfl ?_
  refine W_nil ?_
  refine W_ret1m (H2 := HBi ++ H) Tryz.results48 rfl (.nil _) zH ?_
  obtain rfl : i = ids.length := by omega
  have e : addsQ n Q (k : Int) ids = addQ (k : Int) ids Q := if_neg zO
  rw [e, hA, List.drop_length]
  exact ⟨HBi, hPi, rfl, rfl⟩
theorem Add_L {w0 : World} {H : Heap} {HB : Heap} {pb n : Nat} {Q Rs : List (Int × Int)} (hP : PendH pb n Q Rs HB) (hn : n ≤ 64) {cpu : Int} {ids : List Int} {ad : Option Addr} {cap : Nat} (hil : ids.length ≤ 1000000) (hrow : Holds w0 H ad (ids.map (Value.int .i64))) : LCalls Tryz.prog w0 48 #[.pointer (some ⟨pb, 0, none⟩), .int .i64 cpu, .slice ad ids.length cap] (HB ++ H) (fun v H' => ∃ HB', PendH pb n (addsQ n Q cpu ids).1 Rs HB' ∧ v = .int .i64 (addsQ n Q cpu ids).2 ∧ H' = HB' ++ H) := by
 by_cases h : cpu < 0 ∨ (n : Int) ≤ cpu
 ·exact Add_no hP hn h
 ·obtain ⟨k, rfl⟩ : ∃ k : Nat, cpu = (k : Int) := ⟨cpu.toNat, by omega⟩
  exact Add_at hP hn hil hrow zO
theorem pDel_L {w0 : World} {H : Heap} {HB : Heap} {pb n : Nat} {Q Rs : List (Int × Int)} (hP : PendH pb n Q Rs HB) (hn : n ≤ 64) {ids : List Int} {ad : Option Addr} {cap : Nat} (hil : ids.length ≤ 1000000) (hrow : Holds w0 H ad (ids.map (Value.int .i64)))  : LCalls Tryz.prog w0 78 #[.pointer (some ⟨pb, 0, none⟩), .slice ad ids.length cap] (HB ++ H) (fun v H' => ∃ HB', PendH pb n (delsQ Q ids).1 Rs HB' ∧ v = .int .i64 (((delsQ Q ids).2 : Nat) : Int) ∧ H' = HB' ++ H) := by
 refine L_enter (l := [.pointer (some ⟨pb, 0, none⟩), .slice ad ids.length cap]) Tryz.func78 rfl Tryz.ntmps78 rfl rfl ?_
 refine W_sr ?_
 refine W_assign rfl rfl ?_
 refine W_nil (W_sr ?_)
 refine W_assign rfl rfl ?_
 refine W_nil (W_seq (W_sr ?_))
 refine W_move rfl rfl ?_
 refine W_len rfl ty24 rfl rfl ?_
 refine W_move rfl rfl ?_
 refine W_nil (W_block ?_)
 refine W_loopC (X := (Nat × Heap)) [(0, _), (11, _), (12, _)] (fun (x : (Nat × Heap)) => [(5, .int .i64 (((delsQ Q (ids.take x.1)).2 : Nat) : Int)), (13, .int .i64 (x.1 : Int))]) (fun _ => _) (fun (x : (Nat × Heap)) => x.2 ++ H) (fun (x : (Nat × Heap)) => x.1 ≤ ids.length ∧ PendH pb n (delsQ Q (ids.take x.1)).1 Rs x.2) (fun (x : (Nat × Heap)) => ids.length - x.1) (0, HB) ⟨Nat.zero_le _, by rw [List.take_zero]; exact hP⟩ (sub_cons rfl (sub_cons rfl (sub_cons rfl (sub_nil _)))) (sub_cons rfl (sub_cons rfl (sub_nil _))) rfl (.refl _) ?_
 rintro ⟨i, HBi⟩ ⟨hi, hPi⟩
 dsimp only at hi hPi ⊢
 have hdl := delsQ_le Q ids i hi
 simp only [List.cons_append, List.nil_append]
 refine W_sr ?_
 refine W_bin rfl rfl b_lss rfl ?_
 refine W_nil (W_seq ?_)
 refine W_condPS (p := (i : Int) < (ids.length : Int)) rfl (by simp) (fun q0 => ?_) (fun q0 => ?_)
 ·skip
  refine W_skip (W_seq ?_)
  refine W_block (W_sr ?_)
  obtain ⟨x, hx⟩ : ∃ x, ids[i]? = some x := ⟨_, List.getElem?_eq_getElem zO⟩
  obtain ⟨q0, p0, rfl, hcx⟩ := hrow.at (i := i) (v := .int .i64 x) (by rw [List.getElem?_map, hx]; rfl)
  refine W_indexAddr (j := i) rfl rfl ty24 ty3 rfl zO rfl rfl ?_
  refine W_load (v := .int .i64 x) rfl ty3 rfl (by rw [Nat.mul_one]; exact hcx.up zH) rfl ?_
  refine W_alloc (l := [.int .i64 0]) ty3 rfl rfl (fun b7 => ?_)
  refine W_store (l' := [.int .i64 x]) rfl rfl ty3 rfl rfl (b := b7) zM rfl rfl zU ?_
  refine W_nil (W_sr ?_)
  refine W_move rfl rfl ?_
  refine W_makeFunc .nil (.cons rfl .nil) rfl ?_
  refine W_call (.cons rfl (.cons rfl .nil)) Tryz.call84 rfl ((find_L (bi := b7) (fi := 103) (id := x) (H := (b7, .cells 3 1 [.int .i64 x]) :: H) hPi hn zM Tryz.call103 (fun x H hb => dec_q hb)).hsub zH) ?_
  rintro v H' ⟨hF, rfl⟩
  rcases hF.wh hPi.ok with ⟨rfl, hw⟩ | ⟨k, j, rfl, hk, hki, hw⟩
  ·skip
   refine W_move rfl rfl ?_
   refine W_extract rfl rfl rfl ?_
   refine W_extract rfl rfl rfl ?_
   refine W_extract rfl rfl rfl ?_
   refine W_assign rfl rfl ?_
   refine W_assign rfl rfl ?_
   refine W_assign rfl rfl ?_
   refine W_nil (W_sr ?_)
   refine W_move rfl rfl ?_
   refine W_nil ?_
   refine W_condF rfl rfl ?_
   refine W_skip ?_
   refine W_blk ?_
   refine W_region ?_
   refine W_bin rfl rfl (b_add (m := ((i + 1 : Nat) : Int)) (by rw [i64w (by omega)]; omega)) rfl ?_
   refine W_move rfl rfl ?_
   refine W_nil ?_
   have hat : delsQ Q (ids.take (i + 1)) = (delQ (delsQ Q (ids.take i)).1 x, (delsQ Q (ids.take i)).2 + 0) := by rw [delsQ_at hx, hw]; rfl
   have hPn : PendH pb n (delsQ Q (ids.take (i + 1))).1 Rs HBi := by rw [hat, delQ_no hPi.ok hw]; exact hPi
   refine W_again (i + 1, HBi) ⟨by show i + 1 ≤ ids.length; omega, hPn⟩ (by show ids.length - (i + 1) < ids.length - i; omega) (sub_cons (by rw [hat]; rfl) (sub_cons rfl (sub_cons rfl (sub_cons rfl (sub_cons rfl (sub_nil _)))))) rfl zH
  ·skip
   refine W_move rfl rfl ?_
   refine W_extract rfl rfl rfl ?_
   refine W_extract rfl rfl rfl ?_
   refine W_extract rfl rfl rfl ?_
   refine W_assign rfl rfl ?_
   refine W_assign rfl rfl ?_
   refine W_assign rfl rfl ?_
   refine W_nil (W_sr ?_)
   refine W_move rfl rfl ?_
   refine W_nil ?_
   refine W_condT rfl rfl ?_
   refine W_sr ?_
   refine W_move rfl rfl ?_
   refine W_move rfl rfl ?_
   obtain ⟨rb, X, HR, hR, hqu, ho1, ho2, hup⟩ := hPi.at hn hk
   refine W_callq (.cons rfl (.cons rfl .nil)) Tryz.call87 rfl (hqu (fun p hp => List.mem_append_left _ hp)) ?_
   refine W_move rfl rfl ?_
   have hm : (x, (k : Int)) ∈ (delsQ Q (ids.take i)).1 := mem_quOf.1 (List.mem_of_getElem? hki)
   refine W_hsub (H' := X ++ (HR ++ H)) ((show HSub _ (HBi ++ H) from zH).trans (ho1 H)) ?_
   refine W_call (.cons rfl (.cons rfl .nil)) Tryz.call104 rfl (rTake_L hR hki) ?_
   rintro v H' ⟨X', hR', rfl, rfl⟩
   obtain ⟨HBn, hPn, hin⟩ := hup (delQ (delsQ Q (ids.take i)).1 x) X' (by rw [quOf_del_at hPi.ok hki]; exact hR') (fun j hj => quOf_del_other hPi.ok hm (by omega)) (hPi.ok.del x)
   refine W_hsub (H' := HBn ++ H) (hin H) ?_
   refine W_nil ?_
   refine W_region ?_
   refine W_move rfl rfl ?_
   refine W_bin rfl rfl (b_add (m := (((delsQ Q (ids.take i)).2 + 1 : Nat) : Int)) (by rw [i64w (by omega)]; omega)) rfl ?_
   refine W_assign rfl rfl ?_
   refine W_nil ?_
   refine W_blk ?_
   refine W_region ?_
   refine W_bin rfl rfl (b_add (m := ((i + 1 : Nat) : Int)) (by rw [i64w (by omega)]; omega)) rfl ?_
   refine W_move rfl rfl ?_
   refine W_nil ?_
   have hat : delsQ Q (ids.take (i + 1)) = (delQ (delsQ Q (ids.take i)).1 x, (delsQ Q (ids.take i)).2 + 1) := by rw [delsQ_at hx, hw]; rfl
   rw [← show (delsQ Q (ids.take (i + 1))).1 = delQ (delsQ Q (ids.take i)).1 x from by rw [hat]] at hPn
   refine W_again (i + 1, HBn) ⟨by show i + 1 ≤ ids.length; omega, hPn⟩ (by show ids.length - (i + 1) < ids.length - i; omega) (sub_cons (by rw [hat]; rfl) (sub_cons rfl (sub_cons rfl (sub_cons rfl (sub_cons rfl (sub_nil _)))))) rfl zH
 ·skip
  refine W_exit rfl ?_
  refine W_sr ?_
  refine W_move rfl rfl ?_
  refine W_assign rfl rfl ?_
  refine W_nil ?_
  refine W_ret1m (H2 := HBi ++ H) Tryz.results78 rfl (.nil _) zH ?_
  obtain rfl : i = ids.length := by omega
  rw [List.take_length] at hPi ⊢
  exact ⟨HBi, hPi, rfl, rfl⟩
def rdyQ (Q Rs : List (Int × Int)) (cpu : Int) : Int × Bool := match quOf Q cpu with
 | [] => (0, false)
 | x :: _ => (x, (inR Rs x).isNone)
theorem quOf_none {n : Nat} {Q : List (Int × Int)} (h : QOk n Q) {cpu : Int} (hc : cpu < 0 ∨ (n : Int) ≤ cpu) : quOf Q cpu = [] := by
 cases e : quOf Q cpu with
 | nil => rfl
 | cons x l =>
  have h1 := (h.rng _ (mem_quOf.1 (e ▸ List.mem_cons_self : x ∈ quOf Q cpu))).2
  dsimp only at h1; omega
theorem optV_ways (o : Option Int) : (o = none ∧ optV o = .tuple #[.int .i64 0, .bool false]) ∨ ∃ x, o = some x ∧ optV o = .tuple #[.int .i64 x, .bool true] := by
 cases o with
 | none => exact .inl ⟨rfl, rfl⟩
 | some x => exact .inr ⟨x, rfl, rfl⟩
def begQ (n : Nat) (Q Rs : List (Int × Int)) (cpu c : Int) : List (Int × Int) × List (Int × Int) × Int × Int :=
 if (cpu < 0 ∨ (n : Int) ≤ cpu) ∨ c < 0 ∨ 32 ≤ c then (Q, Rs, 0, 2)
 else if (ofR Rs c).isSome = true then (Q, Rs, 0, 5)
 else match quOf Q cpu with
  | [] => (Q, Rs, 0, 4)
  | x :: _ => if (inR Rs x).isSome = true then (Q, Rs, 0, 21) else (delQ Q x, Rs ++ [(x, c)], x, 0)
def endQ (Rs : List (Int × Int)) (c : Int) : List (Int × Int) × Int × Int := match ofR Rs c with
 | none => (Rs, 0, 4)
 | some x => (Rs.filter (fun p => decide (p.1 ≠ x)), x, 0)
theorem RunsIs.begin {rn of_ : List Int} {Rs : List (Int × Int)} (h : RunsIs rn of_ Rs) {i c : Nat} (hi : i < 256) (hc : c < 32) (h1 : inR Rs (i : Int) = none) (h2 : ofR Rs (c : Int) = none) : RunsIs (rn.set i ((c : Int) + 1)) (of_.set c ((i : Int) + 1)) (Rs ++ [((i : Int), (c : Int))]) := by
 have n1 : ∀ x, ((i : Int), x) ∉ Rs := fun x hx => by rw [(inR_some h).2 hx] at h1; cases h1
 have n2 : ∀ x, (x, (c : Int)) ∉ Rs := fun x hx => by rw [(ofR_some h).2 hx] at h2; cases h2
 refine ⟨by rw [List.length_set, h.len1], by rw [List.length_set, h.len2], fun x hx => ?_, fun x hx => ?_, fun j d => ?_, fun j d => ?_, fun p hp => ?_, ?_⟩
 ·rcases List.mem_or_eq_of_mem_set hx with hx | rfl
  ·exact h.b1 x hx
  ·omega
 ·rcases List.mem_or_eq_of_mem_set hx with hx | rfl
  ·exact h.b2 x hx
  ·omega
 ·rw [List.mem_append, List.mem_singleton]
  by_cases e : i = j
  ·subst e
   rw [List.getElem?_set_self (by rw [h.len1]; exact hi)]
   constructor
   ·intro e; have := Option.some.inj e; exact .inr (by rw [show d = c by omega])
   ·rintro (h3 | h3)
    ·exact absurd h3 (n1 _)
    ·have := (Prod.mk.inj h3).2; congr 1; omega
  ·rw [List.getElem?_set_ne e, h.r1 j d]
   constructor
   ·exact .inl
   ·rintro (h3 | h3)
    ·exact h3
    ·have := (Prod.mk.inj h3).1; exact absurd (show i = j by omega) e
 ·rw [List.mem_append, List.mem_singleton]
  by_cases e : c = d
  ·subst e
   rw [List.getElem?_set_self (by rw [h.len2]; exact hc)]
   constructor
   ·intro e; have := Option.some.inj e; exact .inr (by rw [show j = i by omega])
   ·rintro (h3 | h3)
    ·exact absurd h3 (n2 _)
    ·have := (Prod.mk.inj h3).1; congr 1; omega
  ·rw [List.getElem?_set_ne e, h.r2 j d]
   constructor
   ·exact .inl
   ·rintro (h3 | h3)
    ·exact h3
    ·have := (Prod.mk.inj h3).2; exact absurd (show c = d by omega) e
 ·rcases List.mem_append.1 hp with hp | hp
  ·exact h.rng p hp
  ·rw [List.mem_singleton.1 hp]; dsimp only; omega
 ·rw [List.nodup_append]
  exact ⟨h.nd, by simp, fun x hx y hy e => n1 (c : Int) (by rw [List.mem_singleton] at hy; rw [← hy, ← e]; exact hx)⟩
theorem RunsIs.over {rn of_ : List Int} {Rs : List (Int × Int)} (h : RunsIs rn of_ Rs) {i c : Nat} (hm : ((i : Int), (c : Int)) ∈ Rs) : RunsIs (rn.set i 0) (of_.set c 0) (Rs.filter (fun p => decide (p.1 ≠ (i : Int)))) := by
 have hr := h.rng _ hm
 dsimp only at hr
 refine ⟨by rw [List.length_set, h.len1], by rw [List.length_set, h.len2], fun x hx => ?_, fun x hx => ?_, fun j d => ?_, fun j d => ?_, fun p hp => h.rng p (List.mem_filter.1 hp).1, h.nd.filter _⟩
 ·rcases List.mem_or_eq_of_mem_set hx with hx | rfl
  ·exact h.b1 x hx
  ·omega
 ·rcases List.mem_or_eq_of_mem_set hx with hx | rfl
  ·exact h.b2 x hx
  ·omega
 ·rw [List.mem_filter]
  by_cases e : i = j
  ·subst e
   rw [List.getElem?_set_self (by rw [h.len1]; omega)]
   constructor
   ·intro e; have := Option.some.inj e; omega
   ·rintro ⟨_, h4⟩; exact absurd rfl (of_decide_eq_true h4)
  ·rw [List.getElem?_set_ne e, h.r1 j d]
   exact ⟨fun h3 => ⟨h3, decide_eq_true (by dsimp only; omega)⟩, fun h3 => h3.1⟩
 ·rw [List.mem_filter]
  by_cases e : c = d
  ·subst e
   rw [List.getElem?_set_self (by rw [h.len2]; omega)]
   constructor
   ·intro e; have := Option.some.inj e; omega
   ·rintro ⟨h3, h4⟩
    have := h.idn h3 hm (.inr rfl)
    have := (Prod.mk.inj this).1
    exact absurd this (of_decide_eq_true h4)
  ·rw [List.getElem?_set_ne e, h.r2 j d]
   refine ⟨fun h3 => ⟨h3, decide_eq_true (fun e2 => e ?_)⟩, fun h3 => h3.1⟩
   have := h.idn h3 hm (.inl e2)
   have := (Prod.mk.inj this).2
   omega
theorem RingH.reads {R rb : Nat} {l : List Int} {X : Heap} (h : RingH R rb l X) {w0 : World} {H : Heap} (hm : ∀ p ∈ X, p ∈ H) : (∀ z : Int, PureAt Tryz.prog w0 H 100 [.pointer (some ⟨rb, 0, none⟩), .int .i64 z] (atV l z)) ∧ PureAt Tryz.prog w0 H 90 [.pointer (some ⟨rb, 0, none⟩)] (.int .i64 (l.length : Int)) := by
 cases h with
 | mk hI => exact ⟨fun z => rAt_q hI (hm _ List.mem_cons_self) (hm _ (List.mem_cons_of_mem _ List.mem_cons_self)), rLen_q (hm _ List.mem_cons_self)⟩
theorem PendH.ring {pb n k : Nat} {Q Rs : List (Int × Int)} {HB : Heap} (h : PendH pb n Q Rs HB) (hn : n ≤ 64) (hk : k < n) : ∃ rb X, RingH 256 rb (quOf Q (k : Int)) X ∧ (∀ p ∈ X, p ∈ HB) ∧ (∀ {w0 : World} {H : Heap}, (∀ p ∈ HB, p ∈ H) → PureAt Tryz.prog w0 H 87 [.pointer (some ⟨pb, 0, none⟩), .int .i64 (k : Int)] (rbP rb)) := by
 cases h with
 | @mk v XQ XS rbs rn of_ hv hl hr hrun hq =>
  have hvl := hv.length
  rw [List.length_map, Nat.mul_one] at hvl
  obtain ⟨rb, hrb⟩ : ∃ rb, rbs[k]? = some rb := ⟨_, List.getElem?_eq_getElem zO⟩
  obtain ⟨X, hX⟩ : ∃ X, XS[k]? = some X := ⟨_, List.getElem?_eq_getElem zO⟩
  refine ⟨rb, X, hr k rb X hrb hX, fun p hp => List.mem_cons_of_mem _ (List.mem_append_right _ (List.mem_flatten.2 ⟨X, List.mem_of_getElem? hX, hp⟩)), fun {w0 H} hm => ?_⟩
  obtain ⟨ad, cap, rfl, _, _, hrow⟩ := Holds.of_own (w0 := w0) (H := H) hv (fun p hp => hm p (List.mem_cons_of_mem _ (List.mem_append_left _ hp)))
  exact queue_at (n := n) (hm _ List.mem_cons_self) hrow zO hn hrb
theorem Ready_no {w0 : World} {H : Heap} {HB : Heap} {pb n : Nat} {Q Rs : List (Int × Int)} (hP : PendH pb n Q Rs HB) (hn : n ≤ 64) {cpu : Int} (hm : ∀ p ∈ HB, p ∈ H) (hc : cpu < 0 ∨ (n : Int) ≤ cpu)  : PureAt Tryz.prog w0 H 66 [.pointer (some ⟨pb, 0, none⟩), .int .i64 cpu] (.tuple #[.int .i64 (rdyQ Q Rs cpu).1, .bool (rdyQ Q Rs cpu).2]) := by
 refine L_enter Tryz.func66 rfl Tryz.ntmps66 rfl rfl ?_
 refine W_sr ?_
 refine W_assign rfl rfl ?_
 refine W_assign rfl rfl ?_
 refine W_nil (W_sr ?_)
 refine W_move rfl rfl ?_
 refine W_move rfl rfl ?_
 refine W_callq (.cons rfl (.cons rfl .nil)) Tryz.call87 rfl (hP.noq hn hc hm) ?_
 refine W_callp (.cons rfl (.cons rfl .nil)) Tryz.call100 rfl (T := fun _ => True) trivial rAt_nil ?_
 refine W_move rfl rfl ?_
 refine W_extract rfl rfl rfl ?_
 refine W_extract rfl rfl rfl ?_
 refine W_assign rfl rfl ?_
 refine W_assign rfl rfl ?_
 refine W_nil (W_sr ?_)
 refine W_move rfl rfl ?_
 refine W_move rfl rfl ?_
 refine W_callq (.cons rfl (.cons rfl .nil)) Tryz.call68 rfl (hP.Runs_q (id := 0) hm) ?_
 rcases optV_ways (inR Rs (0)) with ⟨hir, e⟩ | ⟨cx, hir, e⟩
 ·skip
  rw [e]
  refine W_move rfl rfl ?_
  refine W_extract rfl rfl rfl ?_
  refine W_extract rfl rfl rfl ?_
  refine W_assign rfl rfl ?_
  refine W_assign rfl rfl ?_
  refine W_nil (W_sr ?_)
  refine W_move rfl rfl ?_
  refine W_move rfl rfl ?_
  refine W_move rfl rfl ?_
  refine W_gno rfl rfl rfl ?_
  refine W_gno rfl rfl rfl ?_
  first | refine W_pickt rfl rfl rfl ?_ | refine W_pickf rfl rfl rfl ?_
  refine W_assign rfl rfl ?_
  refine W_assign rfl rfl ?_
  refine W_nil ?_
  refine W_ret2m (H2 := H) Tryz.results66 rfl rfl (.nil _) zH ?_
  exact ⟨by unfold rdyQ; rw [quOf_none hP.ok hc]; rfl, rfl⟩
 ·skip
  rw [e]
  refine W_move rfl rfl ?_
  refine W_extract rfl rfl rfl ?_
  refine W_extract rfl rfl rfl ?_
  refine W_assign rfl rfl ?_
  refine W_assign rfl rfl ?_
  refine W_nil (W_sr ?_)
  refine W_move rfl rfl ?_
  refine W_move rfl rfl ?_
  refine W_move rfl rfl ?_
  refine W_gno rfl rfl rfl ?_
  refine W_gno rfl rfl rfl ?_
  first | refine W_pickt rfl rfl rfl ?_ | refine W_pickf rfl rfl rfl ?_
  refine W_assign rfl rfl ?_
  refine W_assign rfl rfl ?_
  refine W_nil ?_
  refine W_ret2m (H2 := H) Tryz.results66 rfl rfl (.nil _) zH ?_
  exact ⟨by unfold rdyQ; rw [quOf_none hP.ok hc]; rfl, rfl⟩
theorem Ready_nil {w0 : World} {H : Heap} {HB : Heap} {pb n : Nat} {Q Rs : List (Int × Int)} (hP : PendH pb n Q Rs HB) (hn : n ≤ 64) {k : Nat} (hm : ∀ p ∈ HB, p ∈ H) (hk : k < n) (he : quOf Q (k : Int) = [])  : PureAt Tryz.prog w0 H 66 [.pointer (some ⟨pb, 0, none⟩), .int .i64 (k : Int)] (.tuple #[.int .i64 (rdyQ Q Rs (k : Int)).1, .bool (rdyQ Q Rs (k : Int)).2]) := by
 obtain ⟨rb, X, hR, hXm, hqu⟩ := hP.ring hn hk
 obtain ⟨hat, hle⟩ := hR.reads (w0 := w0) (fun p hp => hm p (hXm p hp))
 refine L_enter Tryz.func66 rfl Tryz.ntmps66 rfl rfl ?_
 refine W_sr ?_
 refine W_assign rfl rfl ?_
 refine W_assign rfl rfl ?_
 refine W_nil (W_sr ?_)
 refine W_move rfl rfl ?_
 refine W_move rfl rfl ?_
 refine W_callq (.cons rfl (.cons rfl .nil)) Tryz.call87 rfl (hqu hm) ?_
 refine W_callq (.cons rfl (.cons rfl .nil)) Tryz.call100 rfl (hat 0) ?_
 rw [he, show atV [] 0 = .tuple #[.int .i64 0, .bool false] from rfl]
 refine W_move rfl rfl ?_
 refine W_extract rfl rfl rfl ?_
 refine W_extract rfl rfl rfl ?_
 refine W_assign rfl rfl ?_
 refine W_assign rfl rfl ?_
 refine W_nil (W_sr ?_)
 refine W_move rfl rfl ?_
 refine W_move rfl rfl ?_
 refine W_callq (.cons rfl (.cons rfl .nil)) Tryz.call68 rfl (hP.Runs_q (id := 0) hm) ?_
 rcases optV_ways (inR Rs (0)) with ⟨hir, e⟩ | ⟨cx, hir, e⟩
 ·skip
  rw [e]
  refine W_move rfl rfl ?_
  refine W_extract rfl rfl rfl ?_
  refine W_extract rfl rfl rfl ?_
  refine W_assign rfl rfl ?_
  refine W_assign rfl rfl ?_
  refine W_nil (W_sr ?_)
  refine W_move rfl rfl ?_
  refine W_move rfl rfl ?_
  refine W_move rfl rfl ?_
  refine W_gno rfl rfl rfl ?_
  refine W_gno rfl rfl rfl ?_
  first | refine W_pickt rfl rfl rfl ?_ | refine W_pickf rfl rfl rfl ?_
  refine W_assign rfl rfl ?_
  refine W_assign rfl rfl ?_
  refine W_nil ?_
  refine W_ret2m (H2 := H) Tryz.results66 rfl rfl (.nil _) zH ?_
  exact ⟨by unfold rdyQ; rw [he]; rfl, rfl⟩
 ·skip
  rw [e]
  refine W_move rfl rfl ?_
  refine W_extract rfl rfl rfl ?_
  refine W_extract rfl rfl rfl ?_
  refine W_assign rfl rfl ?_
  refine W_assign rfl rfl ?_
  refine W_nil (W_sr ?_)
  refine W_move rfl rfl ?_
  refine W_move rfl rfl ?_
  refine W_move rfl rfl ?_
  refine W_gno rfl rfl rfl ?_
  refine W_gno rfl rfl rfl ?_
  first | refine W_pickt rfl rfl rfl ?_ | refine W_pickf rfl rfl rfl ?_
  refine W_assign rfl rfl ?_
  refine W_assign rfl rfl ?_
  refine W_nil ?_
  refine W_ret2m (H2 := H) Tryz.results66 rfl rfl (.nil _) zH ?_
  exact ⟨by unfold rdyQ; rw [he]; rfl, rfl⟩
theorem Ready_at {w0 : World} {H : Heap} {HB : Heap} {pb n : Nat} {Q Rs : List (Int × Int)} (hP : PendH pb n Q Rs HB) (hn : n ≤ 64) {k : Nat} {x : Int} {l : List Int} (hm : ∀ p ∈ HB, p ∈ H) (hk : k < n) (he : quOf Q (k : Int) = x :: l)  : PureAt Tryz.prog w0 H 66 [.pointer (some ⟨pb, 0, none⟩), .int .i64 (k : Int)] (.tuple #[.int .i64 (rdyQ Q Rs (k : Int)).1, .bool (rdyQ Q Rs (k : Int)).2]) := by
 obtain ⟨rb, X, hR, hXm, hqu⟩ := hP.ring hn hk
 obtain ⟨hat, hle⟩ := hR.reads (w0 := w0) (fun p hp => hm p (hXm p hp))
 refine L_enter Tryz.func66 rfl Tryz.ntmps66 rfl rfl ?_
 refine W_sr ?_
 refine W_assign rfl rfl ?_
 refine W_assign rfl rfl ?_
 refine W_nil (W_sr ?_)
 refine W_move rfl rfl ?_
 refine W_move rfl rfl ?_
 refine W_callq (.cons rfl (.cons rfl .nil)) Tryz.call87 rfl (hqu hm) ?_
 refine W_callq (.cons rfl (.cons rfl .nil)) Tryz.call100 rfl (hat 0) ?_
 rw [he, show atV (x :: l) 0 = .tuple #[.int .i64 x, .bool true] from rfl]
 refine W_move rfl rfl ?_
 refine W_extract rfl rfl rfl ?_
 refine W_extract rfl rfl rfl ?_
 refine W_assign rfl rfl ?_
 refine W_assign rfl rfl ?_
 refine W_nil (W_sr ?_)
 refine W_move rfl rfl ?_
 refine W_move rfl rfl ?_
 refine W_callq (.cons rfl (.cons rfl .nil)) Tryz.call68 rfl (hP.Runs_q (id := x) hm) ?_
 rcases optV_ways (inR Rs (x)) with ⟨hir, e⟩ | ⟨cx, hir, e⟩
 ·skip
  rw [e]
  refine W_move rfl rfl ?_
  refine W_extract rfl rfl rfl ?_
  refine W_extract rfl rfl rfl ?_
  refine W_assign rfl rfl ?_
  refine W_assign rfl rfl ?_
  refine W_nil (W_sr ?_)
  refine W_move rfl rfl ?_
  refine W_move rfl rfl ?_
  refine W_move rfl rfl ?_
  refine W_gyes rfl rfl ?_
  refine W_move rfl rfl ?_
  refine W_gyes rfl rfl ?_
  refine W_not rfl rfl ?_
  first | refine W_pickt rfl rfl rfl ?_ | refine W_pickf rfl rfl rfl ?_
  refine W_assign rfl rfl ?_
  refine W_assign rfl rfl ?_
  refine W_nil ?_
  refine W_ret2m (H2 := H) Tryz.results66 rfl rfl (.nil _) zH ?_
  exact ⟨by unfold rdyQ; rw [he]; dsimp only; rw [hir]; rfl, rfl⟩
 ·skip
  rw [e]
  refine W_move rfl rfl ?_
  refine W_extract rfl rfl rfl ?_
  refine W_extract rfl rfl rfl ?_
  refine W_assign rfl rfl ?_
  refine W_assign rfl rfl ?_
  refine W_nil (W_sr ?_)
  refine W_move rfl rfl ?_
  refine W_move rfl rfl ?_
  refine W_move rfl rfl ?_
  refine W_gyes rfl rfl ?_
  refine W_move rfl rfl ?_
  refine W_gyes rfl rfl ?_
  refine W_not rfl rfl ?_
  first | refine W_pickt rfl rfl rfl ?_ | refine W_pickf rfl rfl rfl ?_
  refine W_assign rfl rfl ?_
  refine W_assign rfl rfl ?_
  refine W_nil ?_
  refine W_ret2m (H2 := H) Tryz.results66 rfl rfl (.nil _) zH ?_
  exact ⟨by unfold rdyQ; rw [he]; dsimp only; rw [hir]; rfl, rfl⟩
theorem PendH.Ready_q {HB : Heap} {pb n : Nat} {Q Rs : List (Int × Int)} (hP : PendH pb n Q Rs HB) (hn : n ≤ 64) {w0 : World} {H : Heap} (hm : ∀ p ∈ HB, p ∈ H) {cpu : Int} : PureAt Tryz.prog w0 H 66 [.pointer (some ⟨pb, 0, none⟩), .int .i64 cpu] (.tuple #[.int .i64 (rdyQ Q Rs cpu).1, .bool (rdyQ Q Rs cpu).2]) := by
 by_cases h : cpu < 0 ∨ (n : Int) ≤ cpu
 ·exact Ready_no hP hn hm h
 ·obtain ⟨k, rfl⟩ : ∃ k : Nat, cpu = (k : Int) := ⟨cpu.toNat, by omega⟩
  cases he : quOf Q (k : Int) with
  | nil => exact Ready_nil hP hn hm zO he
  | cons x l => exact Ready_at hP hn hm zO he
theorem Begin_cpu {w0 : World} {H : Heap} {HB : Heap} {pb n : Nat} {Q Rs : List (Int × Int)} (hP : PendH pb n Q Rs HB) (hn : n ≤ 64) {cpu c : Int} (hc : cpu < 0 ∨ (n : Int) ≤ cpu)  : LCalls Tryz.prog w0 52 #[.pointer (some ⟨pb, 0, none⟩), .int .i64 cpu, .int .i64 c] (HB ++ H) (fun v H' => ∃ HB', PendH pb n (begQ n Q Rs cpu c).1 (begQ n Q Rs cpu c).2.1 HB' ∧ v = .tuple #[.int .i64 (begQ n Q Rs cpu c).2.2.1, .int .i64 (begQ n Q Rs cpu c).2.2.2] ∧ H' = HB' ++ H) := by
 refine L_enter (l := [.pointer (some ⟨pb, 0, none⟩), .int .i64 cpu, .int .i64 c]) Tryz.func52 rfl Tryz.ntmps52 rfl rfl ?_
 refine W_sr ?_
 refine W_assign rfl rfl ?_
 refine W_assign rfl rfl ?_
 refine W_nil (W_seq ?_)
 refine W_block (W_sr ?_)
 refine W_move rfl rfl ?_
 refine W_x (X_ptrNil rfl rfl ty81) (fun _ h => by cases h) rfl ?_
 refine W_assign rfl rfl ?_
 refine W_nil ?_
 refine W_condF rfl rfl ?_
 refine W_sr ?_
 refine W_move rfl rfl ?_
 refine W_move rfl rfl ?_
 refine W_callq (.cons rfl (.cons rfl .nil)) Tryz.call87 rfl (hP.noq hn hc (fun p hp => List.mem_append_left _ hp)) ?_
 refine W_x (X_ptrNil rfl rfl ty127) (fun _ h => by cases h) rfl ?_
 refine W_move rfl rfl ?_
 refine W_gno rfl rfl rfl ?_
 refine W_gno rfl rfl rfl ?_
 first | refine W_pickt rfl rfl rfl ?_ | refine W_pickf rfl rfl rfl ?_
 refine W_move rfl rfl ?_
 refine W_gno rfl rfl rfl ?_
 refine W_gno rfl rfl rfl ?_
 first | refine W_pickt rfl rfl rfl ?_ | refine W_pickf rfl rfl rfl ?_
 refine W_assign rfl rfl ?_
 refine W_nil ?_
 refine W_condT rfl rfl ?_
 refine W_sr ?_
 refine W_assign rfl rfl ?_
 refine W_assign rfl rfl ?_
 refine W_nil ?_
 refine W_ret2m (H2 := HB ++ H) Tryz.results52 rfl rfl (.nil _) zH ?_
 have e : begQ n Q Rs cpu c = (Q, Rs, 0, 2) := if_pos (.inl hc)
 rw [e]
 exact ⟨HB, hP, rfl, rfl⟩
theorem Begin_lo {w0 : World} {H : Heap} {HB : Heap} {pb n : Nat} {Q Rs : List (Int × Int)} (hP : PendH pb n Q Rs HB) (hn : n ≤ 64) {k : Nat} {c : Int} (hk : k < n) (hc : c < 0)  : LCalls Tryz.prog w0 52 #[.pointer (some ⟨pb, 0, none⟩), .int .i64 (k : Int), .int .i64 c] (HB ++ H) (fun v H' => ∃ HB', PendH pb n (begQ n Q Rs (k : Int) c).1 (begQ n Q Rs (k : Int) c).2.1 HB' ∧ v = .tuple #[.int .i64 (begQ n Q Rs (k : Int) c).2.2.1, .int .i64 (begQ n Q Rs (k : Int) c).2.2.2] ∧ H' = HB' ++ H) := by
 obtain ⟨rb, X, hR, hXm, hqu⟩ := hP.ring hn hk
 refine L_enter (l := [.pointer (some ⟨pb, 0, none⟩), .int .i64 (k : Int), .int .i64 c]) Tryz.func52 rfl Tryz.ntmps52 rfl rfl ?_
 refine W_sr ?_
 refine W_assign rfl rfl ?_
 refine W_assign rfl rfl ?_
 refine W_nil (W_seq ?_)
 refine W_block (W_sr ?_)
 refine W_move rfl rfl ?_
 refine W_x (X_ptrNil rfl rfl ty81) (fun _ h => by cases h) rfl ?_
 refine W_assign rfl rfl ?_
 refine W_nil ?_
 refine W_condF rfl rfl ?_
 refine W_sr ?_
 refine W_move rfl rfl ?_
 refine W_move rfl rfl ?_
 refine W_callq (.cons rfl (.cons rfl .nil)) Tryz.call87 rfl (hqu (fun p hp => List.mem_append_left _ hp)) ?_
 refine W_x (X_ptrNil rfl rfl ty127) (fun _ h => by cases h) rfl ?_
 refine W_move rfl rfl ?_
 refine W_gyes rfl rfl ?_
 refine W_move rfl rfl ?_
 refine W_gyes rfl rfl ?_
 refine W_bin rfl rfl b_lss rfl ?_
 first | rw [decide_eq_true (by omega)] | rw [decide_eq_false (by omega)]
 first | refine W_pickt rfl rfl rfl ?_ | refine W_pickf rfl rfl rfl ?_
 refine W_move rfl rfl ?_
 refine W_gno rfl rfl rfl ?_
 refine W_gno rfl rfl rfl ?_
 first | refine W_pickt rfl rfl rfl ?_ | refine W_pickf rfl rfl rfl ?_
 refine W_assign rfl rfl ?_
 refine W_nil ?_
 refine W_condT rfl rfl ?_
 refine W_sr ?_
 refine W_assign rfl rfl ?_
 refine W_assign rfl rfl ?_
 refine W_nil ?_
 refine W_ret2m (H2 := HB ++ H) Tryz.results52 rfl rfl (.nil _) zH ?_
 have e : begQ n Q Rs (k : Int) c = (Q, Rs, 0, 2) := if_pos (.inr (.inl hc))
 rw [e]
 exact ⟨HB, hP, rfl, rfl⟩
theorem Begin_hi {w0 : World} {H : Heap} {HB : Heap} {pb n : Nat} {Q Rs : List (Int × Int)} (hP : PendH pb n Q Rs HB) (hn : n ≤ 64) {k : Nat} {c : Int} (hk : k < n) (hc : 32 ≤ c)  : LCalls Tryz.prog w0 52 #[.pointer (some ⟨pb, 0, none⟩), .int .i64 (k : Int), .int .i64 c] (HB ++ H) (fun v H' => ∃ HB', PendH pb n (begQ n Q Rs (k : Int) c).1 (begQ n Q Rs (k : Int) c).2.1 HB' ∧ v = .tuple #[.int .i64 (begQ n Q Rs (k : Int) c).2.2.1, .int .i64 (begQ n Q Rs (k : Int) c).2.2.2] ∧ H' = HB' ++ H) := by
 obtain ⟨rb, X, hR, hXm, hqu⟩ := hP.ring hn hk
 refine L_enter (l := [.pointer (some ⟨pb, 0, none⟩), .int .i64 (k : Int), .int .i64 c]) Tryz.func52 rfl Tryz.ntmps52 rfl rfl ?_
 refine W_sr ?_
 refine W_assign rfl rfl ?_
 refine W_assign rfl rfl ?_
 refine W_nil (W_seq ?_)
 refine W_block (W_sr ?_)
 refine W_move rfl rfl ?_
 refine W_x (X_ptrNil rfl rfl ty81) (fun _ h => by cases h) rfl ?_
 refine W_assign rfl rfl ?_
 refine W_nil ?_
 refine W_condF rfl rfl ?_
 refine W_sr ?_
 refine W_move rfl rfl ?_
 refine W_move rfl rfl ?_
 refine W_callq (.cons rfl (.cons rfl .nil)) Tryz.call87 rfl (hqu (fun p hp => List.mem_append_left _ hp)) ?_
 refine W_x (X_ptrNil rfl rfl ty127) (fun _ h => by cases h) rfl ?_
 refine W_move rfl rfl ?_
 refine W_gyes rfl rfl ?_
 refine W_move rfl rfl ?_
 refine W_gyes rfl rfl ?_
 refine W_bin rfl rfl b_lss rfl ?_
 first | rw [decide_eq_true (by omega)] | rw [decide_eq_false (by omega)]
 first | refine W_pickt rfl rfl rfl ?_ | refine W_pickf rfl rfl rfl ?_
 refine W_move rfl rfl ?_
 refine W_gyes rfl rfl ?_
 refine W_move rfl rfl ?_
 refine W_gyes rfl rfl ?_
 refine W_bin rfl rfl b_geq rfl ?_
 first | rw [decide_eq_true (by omega)] | rw [decide_eq_false (by omega)]
 first | refine W_pickt rfl rfl rfl ?_ | refine W_pickf rfl rfl rfl ?_
 refine W_assign rfl rfl ?_
 refine W_nil ?_
 refine W_condT rfl rfl ?_
 refine W_sr ?_
 refine W_assign rfl rfl ?_
 refine W_assign rfl rfl ?_
 refine W_nil ?_
 refine W_ret2m (H2 := HB ++ H) Tryz.results52 rfl rfl (.nil _) zH ?_
 have e : begQ n Q Rs (k : Int) c = (Q, Rs, 0, 2) := if_pos (.inr (.inr hc))
 rw [e]
 exact ⟨HB, hP, rfl, rfl⟩
theorem Begin_busy {w0 : World} {H : Heap} {HB : Heap} {pb n : Nat} {Q Rs : List (Int × Int)} (hP : PendH pb n Q Rs HB) (hn : n ≤ 64) {k j : Nat} (hk : k < n) (hj : j < 32) {z : Int} (ho : ofR Rs (j : Int) = some z)  : LCalls Tryz.prog w0 52 #[.pointer (some ⟨pb, 0, none⟩), .int .i64 (k : Int), .int .i64 (j : Int)] (HB ++ H) (fun v H' => ∃ HB', PendH pb n (begQ n Q Rs (k : Int) (j : Int)).1 (begQ n Q Rs (k : Int) (j : Int)).2.1 HB' ∧ v = .tuple #[.int .i64 (begQ n Q Rs (k : Int) (j : Int)).2.2.1, .int .i64 (begQ n Q Rs (k : Int) (j : Int)).2.2.2] ∧ H' = HB' ++ H) := by
 obtain ⟨v0, XX, rn, of_, rfl, hRun, hRup⟩ := hP.runs
 obtain ⟨y, hy⟩ : ∃ y, of_[j]? = some y := ⟨_, List.getElem?_eq_getElem (by rw [hRun.len2]; exact hj)⟩
 have hyb := hRun.b2 y (List.mem_of_getElem? hy)
 have hoj := ofR_at hRun hy
 obtain ⟨rb, X, hR, hXm, hqu⟩ := hP.ring hn hk
 have hy0 : y ≠ 0 := fun e => by rw [ho, if_pos e] at hoj; cases hoj
 refine L_enter (l := [.pointer (some ⟨pb, 0, none⟩), .int .i64 (k : Int), .int .i64 (j : Int)]) Tryz.func52 rfl Tryz.ntmps52 rfl rfl ?_
 refine W_sr ?_
 refine W_assign rfl rfl ?_
 refine W_assign rfl rfl ?_
 refine W_nil (W_seq ?_)
 refine W_block (W_sr ?_)
 refine W_move rfl rfl ?_
 refine W_x (X_ptrNil rfl rfl ty81) (fun _ h => by cases h) rfl ?_
 refine W_assign rfl rfl ?_
 refine W_nil ?_
 refine W_condF rfl rfl ?_
 refine W_sr ?_
 refine W_move rfl rfl ?_
 refine W_move rfl rfl ?_
 refine W_callq (.cons rfl (.cons rfl .nil)) Tryz.call87 rfl (hqu (fun p hp => List.mem_append_left _ hp)) ?_
 refine W_x (X_ptrNil rfl rfl ty127) (fun _ h => by cases h) rfl ?_
 refine W_move rfl rfl ?_
 refine W_gyes rfl rfl ?_
 refine W_move rfl rfl ?_
 refine W_gyes rfl rfl ?_
 refine W_bin rfl rfl b_lss rfl ?_
 first | rw [decide_eq_true (by omega)] | rw [decide_eq_false (by omega)]
 first | refine W_pickt rfl rfl rfl ?_ | refine W_pickf rfl rfl rfl ?_
 refine W_move rfl rfl ?_
 refine W_gyes rfl rfl ?_
 refine W_move rfl rfl ?_
 refine W_gyes rfl rfl ?_
 refine W_bin rfl rfl b_geq rfl ?_
 first | rw [decide_eq_true (by omega)] | rw [decide_eq_false (by omega)]
 first | refine W_pickt rfl rfl rfl ?_ | refine W_pickf rfl rfl rfl ?_
 refine W_assign rfl rfl ?_
 refine W_nil ?_
 refine W_condF rfl rfl ?_
 refine W_sr ?_
 refine W_move rfl rfl ?_
 refine W_move rfl rfl ?_
 refine W_nilCheck rfl rfl ?_
 refine W_fieldAddr rfl fld126_2 zd rfl ?_
 refine W_indexAddrA (j := j) rfl rfl ty124 ty3 (by first | rfl | omega) (by first | decide | omega | simp) rfl rfl ?_
 refine W_load (v := .int .i64 y) rfl ty3 rfl (Cell.own (b := pb) List.mem_cons_self (by simpa using peRow_of hRun.len1 hy)) rfl ?_
 refine W_bin rfl rfl b_gtr rfl ?_
 rw [decide_eq_true (by omega)]
 refine W_assign rfl rfl ?_
 refine W_nil ?_
 refine W_condT rfl rfl ?_
 refine W_sr ?_
 refine W_assign rfl rfl ?_
 refine W_assign rfl rfl ?_
 refine W_nil ?_
 refine W_ret2m (H2 := ((pb, .cells 126 289 (peRow v0 rn of_)) :: XX) ++ H) Tryz.results52 rfl rfl (.nil _) zH ?_
 have h0 : ¬ (((k : Int) < 0 ∨ (n : Int) ≤ (k : Int)) ∨ (j : Int) < 0 ∨ 32 ≤ (j : Int)) := by omega
 have e : begQ n Q Rs (k : Int) (j : Int) = (Q, Rs, 0, 5) := by
  unfold begQ
  rw [if_neg h0, if_pos (by rw [ho]; rfl)]
 rw [e]
 exact ⟨_, hP, rfl, rfl⟩
theorem Begin_none {w0 : World} {H : Heap} {HB : Heap} {pb n : Nat} {Q Rs : List (Int × Int)} (hP : PendH pb n Q Rs HB) (hn : n ≤ 64) {k j : Nat} (hk : k < n) (hj : j < 32) (ho : ofR Rs (j : Int) = none) (he : quOf Q (k : Int) = [])  : LCalls Tryz.prog w0 52 #[.pointer (some ⟨pb, 0, none⟩), .int .i64 (k : Int), .int .i64 (j : Int)] (HB ++ H) (fun v H' => ∃ HB', PendH pb n (begQ n Q Rs (k : Int) (j : Int)).1 (begQ n Q Rs (k : Int) (j : Int)).2.1 HB' ∧ v = .tuple #[.int .i64 (begQ n Q Rs (k : Int) (j : Int)).2.2.1, .int .i64 (begQ n Q Rs (k : Int) (j : Int)).2.2.2] ∧ H' = HB' ++ H) := by
 obtain ⟨v0, XX, rn, of_, rfl, hRun, hRup⟩ := hP.runs
 obtain ⟨y, hy⟩ : ∃ y, of_[j]? = some y := ⟨_, List.getElem?_eq_getElem (by rw [hRun.len2]; exact hj)⟩
 have hyb := hRun.b2 y (List.mem_of_getElem? hy)
 have hoj := ofR_at hRun hy
 obtain ⟨rb, X, hR, hXm, hqu⟩ := hP.ring hn hk
 have hy0 : y = 0 := by
  by_cases e : y = 0
  ·exact e
  ·rw [ho, if_neg e] at hoj; cases hoj
 subst hy0
 refine L_enter (l := [.pointer (some ⟨pb, 0, none⟩), .int .i64 (k : Int), .int .i64 (j : Int)]) Tryz.func52 rfl Tryz.ntmps52 rfl rfl ?_
 refine W_sr ?_
 refine W_assign rfl rfl ?_
 refine W_assign rfl rfl ?_
 refine W_nil (W_seq ?_)
 refine W_block (W_sr ?_)
 refine W_move rfl rfl ?_
 refine W_x (X_ptrNil rfl rfl ty81) (fun _ h => by cases h) rfl ?_
 refine W_assign rfl rfl ?_
 refine W_nil ?_
 refine W_condF rfl rfl ?_
 refine W_sr ?_
 refine W_move rfl rfl ?_
 refine W_move rfl rfl ?_
 refine W_callq (.cons rfl (.cons rfl .nil)) Tryz.call87 rfl (hqu (fun p hp => List.mem_append_left _ hp)) ?_
 refine W_x (X_ptrNil rfl rfl ty127) (fun _ h => by cases h) rfl ?_
 refine W_move rfl rfl ?_
 refine W_gyes rfl rfl ?_
 refine W_move rfl rfl ?_
 refine W_gyes rfl rfl ?_
 refine W_bin rfl rfl b_lss rfl ?_
 first | rw [decide_eq_true (by omega)] | rw [decide_eq_false (by omega)]
 first | refine W_pickt rfl rfl rfl ?_ | refine W_pickf rfl rfl rfl ?_
 refine W_move rfl rfl ?_
 refine W_gyes rfl rfl ?_
 refine W_move rfl rfl ?_
 refine W_gyes rfl rfl ?_
 refine W_bin rfl rfl b_geq rfl ?_
 first | rw [decide_eq_true (by omega)] | rw [decide_eq_false (by omega)]
 first | refine W_pickt rfl rfl rfl ?_ | refine W_pickf rfl rfl rfl ?_
 refine W_assign rfl rfl ?_
 refine W_nil ?_
 refine W_condF rfl rfl ?_
 refine W_sr ?_
 refine W_move rfl rfl ?_
 refine W_move rfl rfl ?_
 refine W_nilCheck rfl rfl ?_
 refine W_fieldAddr rfl fld126_2 zd rfl ?_
 refine W_indexAddrA (j := j) rfl rfl ty124 ty3 (by first | rfl | omega) (by first | decide | omega | simp) rfl rfl ?_
 refine W_load (v := .int .i64 0) rfl ty3 rfl (Cell.own (b := pb) List.mem_cons_self (by simpa using peRow_of hRun.len1 hy)) rfl ?_
 refine W_bin rfl rfl b_gtr rfl ?_
 refine W_assign rfl rfl ?_
 refine W_nil ?_
 refine W_condF rfl rfl ?_
 refine W_sr ?_
 refine W_move rfl rfl ?_
 refine W_move rfl rfl ?_
 refine W_callq (.cons rfl (.cons rfl .nil)) Tryz.call87 rfl (hqu (fun p hp => List.mem_append_left _ hp)) ?_
 refine W_callq (.cons rfl .nil) Tryz.call90 rfl (hR.reads (w0 := w0) (fun p hp => List.mem_append_left _ (hXm p hp))).2 ?_
 rw [he]
 refine W_bin rfl rfl b_eql rfl ?_
 refine W_assign rfl rfl ?_
 refine W_nil ?_
 refine W_condT rfl rfl ?_
 refine W_sr ?_
 refine W_assign rfl rfl ?_
 refine W_assign rfl rfl ?_
 refine W_nil ?_
 refine W_ret2m (H2 := ((pb, .cells 126 289 (peRow v0 rn of_)) :: XX) ++ H) Tryz.results52 rfl rfl (.nil _) zH ?_
 have h0 : ¬ (((k : Int) < 0 ∨ (n : Int) ≤ (k : Int)) ∨ (j : Int) < 0 ∨ 32 ≤ (j : Int)) := by omega
 have e : begQ n Q Rs (k : Int) (j : Int) = (Q, Rs, 0, 4) := by
  unfold begQ
  rw [if_neg h0, if_neg (by rw [ho]; decide), he]
 rw [e]
 exact ⟨_, hP, rfl, rfl⟩
theorem Begin_not {w0 : World} {H : Heap} {HB : Heap} {pb n : Nat} {Q Rs : List (Int × Int)} (hP : PendH pb n Q Rs HB) (hn : n ≤ 64) {k j : Nat} (hk : k < n) (hj : j < 32) (ho : ofR Rs (j : Int) = none) {x z : Int} {l : List Int} (he : quOf Q (k : Int) = x :: l) (hir : inR Rs x = some z)  : LCalls Tryz.prog w0 52 #[.pointer (some ⟨pb, 0, none⟩), .int .i64 (k : Int), .int .i64 (j : Int)] (HB ++ H) (fun v H' => ∃ HB', PendH pb n (begQ n Q Rs (k : Int) (j : Int)).1 (begQ n Q Rs (k : Int) (j : Int)).2.1 HB' ∧ v = .tuple #[.int .i64 (begQ n Q Rs (k : Int) (j : Int)).2.2.1, .int .i64 (begQ n Q Rs (k : Int) (j : Int)).2.2.2] ∧ H' = HB' ++ H) := by
 obtain ⟨v0, XX, rn, of_, rfl, hRun, hRup⟩ := hP.runs
 obtain ⟨y, hy⟩ : ∃ y, of_[j]? = some y := ⟨_, List.getElem?_eq_getElem (by rw [hRun.len2]; exact hj)⟩
 have hyb := hRun.b2 y (List.mem_of_getElem? hy)
 have hoj := ofR_at hRun hy
 obtain ⟨rb, X, hR, hXm, hqu⟩ := hP.ring hn hk
 have hy0 : y = 0 := by
  by_cases e : y = 0
  ·exact e
  ·rw [ho, if_neg e] at hoj; cases hoj
 subst hy0
 refine L_enter (l := [.pointer (some ⟨pb, 0, none⟩), .int .i64 (k : Int), .int .i64 (j : Int)]) Tryz.func52 rfl Tryz.ntmps52 rfl rfl ?_
 refine W_sr ?_
 refine W_assign rfl rfl ?_
 refine W_assign rfl rfl ?_
 refine W_nil (W_seq ?_)
 refine W_block (W_sr ?_)
 refine W_move rfl rfl ?_
 refine W_x (X_ptrNil rfl rfl ty81) (fun _ h => by cases h) rfl ?_
 refine W_assign rfl rfl ?_
 refine W_nil ?_
 refine W_condF rfl rfl ?_
 refine W_sr ?_
 refine W_move rfl rfl ?_
 refine W_move rfl rfl ?_
 refine W_callq (.cons rfl (.cons rfl .nil)) Tryz.call87 rfl (hqu (fun p hp => List.mem_append_left _ hp)) ?_
 refine W_x (X_ptrNil rfl rfl ty127) (fun _ h => by cases h) rfl ?_
 refine W_move rfl rfl ?_
 refine W_gyes rfl rfl ?_
 refine W_move rfl rfl ?_
 refine W_gyes rfl rfl ?_
 refine W_bin rfl rfl b_lss rfl ?_
 first | rw [decide_eq_true (by omega)] | rw [decide_eq_false (by omega)]
 first | refine W_pickt rfl rfl rfl ?_ | refine W_pickf rfl rfl rfl ?_
 refine W_move rfl rfl ?_
 refine W_gyes rfl rfl ?_
 refine W_move rfl rfl ?_
 refine W_gyes rfl rfl ?_
 refine W_bin rfl rfl b_geq rfl ?_
 first | rw [decide_eq_true (by omega)] | rw [decide_eq_false (by omega)]
 first | refine W_pickt rfl rfl rfl ?_ | refine W_pickf rfl rfl rfl ?_
 refine W_assign rfl rfl ?_
 refine W_nil ?_
 refine W_condF rfl rfl ?_
 refine W_sr ?_
 refine W_move rfl rfl ?_
 refine W_move rfl rfl ?_
 refine W_nilCheck rfl rfl ?_
 refine W_fieldAddr rfl fld126_2 zd rfl ?_
 refine W_indexAddrA (j := j) rfl rfl ty124 ty3 (by first | rfl | omega) (by first | decide | omega | simp) rfl rfl ?_
 refine W_load (v := .int .i64 0) rfl ty3 rfl (Cell.own (b := pb) List.mem_cons_self (by simpa using peRow_of hRun.len1 hy)) rfl ?_
 refine W_bin rfl rfl b_gtr rfl ?_
 refine W_assign rfl rfl ?_
 refine W_nil ?_
 refine W_condF rfl rfl ?_
 refine W_sr ?_
 refine W_move rfl rfl ?_
 refine W_move rfl rfl ?_
 refine W_callq (.cons rfl (.cons rfl .nil)) Tryz.call87 rfl (hqu (fun p hp => List.mem_append_left _ hp)) ?_
 refine W_callq (.cons rfl .nil) Tryz.call90 rfl (hR.reads (w0 := w0) (fun p hp => List.mem_append_left _ (hXm p hp))).2 ?_
 rw [he]
 refine W_bin rfl rfl b_eql rfl ?_
 rw [decide_eq_false (by simp only [List.length_cons]; omega)]
 refine W_assign rfl rfl ?_
 refine W_nil ?_
 refine W_condF rfl rfl ?_
 refine W_skip ?_
 refine W_blk ?_
 refine W_sr ?_
 refine W_move rfl rfl ?_
 refine W_move rfl rfl ?_
 refine W_callq (.cons rfl (.cons rfl .nil)) Tryz.call66 rfl (hP.Ready_q hn (fun p hp => List.mem_append_left _ hp) (cpu := (k : Int))) ?_
 rw [show rdyQ Q Rs (k : Int) = (x, (inR Rs x).isNone) from by unfold rdyQ; rw [he]]
 rw [hir]
 refine W_move rfl rfl ?_
 refine W_extract rfl rfl rfl ?_
 refine W_extract rfl rfl rfl ?_
 refine W_assign rfl rfl ?_
 refine W_assign rfl rfl ?_
 refine W_nil (W_seq (W_sr ?_))
 refine W_move rfl rfl ?_
 refine W_not rfl rfl ?_
 refine W_nil ?_
 refine W_condT rfl rfl ?_
 refine W_sr ?_
 refine W_assign rfl rfl ?_
 refine W_assign rfl rfl ?_
 refine W_nil ?_
 refine W_ret2m (H2 := ((pb, .cells 126 289 (peRow v0 rn of_)) :: XX) ++ H) Tryz.results52 rfl rfl (.nil _) zH ?_
 have h0 : ¬ (((k : Int) < 0 ∨ (n : Int) ≤ (k : Int)) ∨ (j : Int) < 0 ∨ 32 ≤ (j : Int)) := by omega
 have e : begQ n Q Rs (k : Int) (j : Int) = (Q, Rs, 0, 21) := by
  unfold begQ
  rw [if_neg h0, if_neg (by rw [ho]; decide), he]
  exact if_pos (by rw [hir]; rfl)
 rw [e]
 exact ⟨_, hP, rfl, rfl⟩
theorem Begin_ok {w0 : World} {H : Heap} {HB : Heap} {pb n : Nat} {Q Rs : List (Int × Int)} (hP : PendH pb n Q Rs HB) (hn : n ≤ 64) {k j : Nat} (hk : k < n) (hj : j < 32) (ho : ofR Rs (j : Int) = none) {x : Int} {l : List Int} (he : quOf Q (k : Int) = x :: l) (hir : inR Rs x = none)  : LCalls Tryz.prog w0 52 #[.pointer (some ⟨pb, 0, none⟩), .int .i64 (k : Int), .int .i64 (j : Int)] (HB ++ H) (fun v H' => ∃ HB', PendH pb n (begQ n Q Rs (k : Int) (j : Int)).1 (begQ n Q Rs (k : Int) (j : Int)).2.1 HB' ∧ v = .tuple #[.int .i64 (begQ n Q Rs (k : Int) (j : Int)).2.2.1, .int .i64 (begQ n Q Rs (k : Int) (j : Int)).2.2.2] ∧ H' = HB' ++ H) := by
 obtain ⟨v0, XX, rn, of_, rfl, hRun, hRup⟩ := hP.runs
 obtain ⟨y, hy⟩ : ∃ y, of_[j]? = some y := ⟨_, List.getElem?_eq_getElem (by rw [hRun.len2]; exact hj)⟩
 have hyb := hRun.b2 y (List.mem_of_getElem? hy)
 have hoj := ofR_at hRun hy
 obtain ⟨rb, X, hR, hXm, hqu⟩ := hP.ring hn hk
 have hy0 : y = 0 := by
  by_cases e : y = 0
  ·exact e
  ·rw [ho, if_neg e] at hoj; cases hoj
 subst hy0
 refine L_enter (l := [.pointer (some ⟨pb, 0, none⟩), .int .i64 (k : Int), .int .i64 (j : Int)]) Tryz.func52 rfl Tryz.ntmps52 rfl rfl ?_
 refine W_sr ?_
 refine W_assign rfl rfl ?_
 refine W_assign rfl rfl ?_
 refine W_nil (W_seq ?_)
 refine W_block (W_sr ?_)
 refine W_move rfl rfl ?_
 refine W_x (X_ptrNil rfl rfl ty81) (fun _ h => by cases h) rfl ?_
 refine W_assign rfl rfl ?_
 refine W_nil ?_
 refine W_condF rfl rfl ?_
 refine W_sr ?_
 refine W_move rfl rfl ?_
 refine W_move rfl rfl ?_
 refine W_callq (.cons rfl (.cons rfl .nil)) Tryz.call87 rfl (hqu (fun p hp => List.mem_append_left _ hp)) ?_
 refine W_x (X_ptrNil rfl rfl ty127) (fun _ h => by cases h) rfl ?_
 refine W_move rfl rfl ?_
 refine W_gyes rfl rfl ?_
 refine W_move rfl rfl ?_
 refine W_gyes rfl rfl ?_
 refine W_bin rfl rfl b_lss rfl ?_
 first | rw [decide_eq_true (by omega)] | rw [decide_eq_false (by omega)]
 first | refine W_pickt rfl rfl rfl ?_ | refine W_pickf rfl rfl rfl ?_
 refine W_move rfl rfl ?_
 refine W_gyes rfl rfl ?_
 refine W_move rfl rfl ?_
 refine W_gyes rfl rfl ?_
 refine W_bin rfl rfl b_geq rfl ?_
 first | rw [decide_eq_true (by omega)] | rw [decide_eq_false (by omega)]
 first | refine W_pickt rfl rfl rfl ?_ | refine W_pickf rfl rfl rfl ?_
 refine W_assign rfl rfl ?_
 refine W_nil ?_
 refine W_condF rfl rfl ?_
 refine W_sr ?_
 refine W_move rfl rfl ?_
 refine W_move rfl rfl ?_
 refine W_nilCheck rfl rfl ?_
 refine W_fieldAddr rfl fld126_2 zd rfl ?_
 refine W_indexAddrA (j := j) rfl rfl ty124 ty3 (by first | rfl | omega) (by first | decide | omega | simp) rfl rfl ?_
 refine W_load (v := .int .i64 0) rfl ty3 rfl (Cell.own (b := pb) List.mem_cons_self (by simpa using peRow_of hRun.len1 hy)) rfl ?_
 refine W_bin rfl rfl b_gtr rfl ?_
 refine W_assign rfl rfl ?_
 refine W_nil ?_
 refine W_condF rfl rfl ?_
 refine W_sr ?_
 refine W_move rfl rfl ?_
 refine W_move rfl rfl ?_
 refine W_callq (.cons rfl (.cons rfl .nil)) Tryz.call87 rfl (hqu (fun p hp => List.mem_append_left _ hp)) ?_
 refine W_callq (.cons rfl .nil) Tryz.call90 rfl (hR.reads (w0 := w0) (fun p hp => List.mem_append_left _ (hXm p hp))).2 ?_
 rw [he]
 refine W_bin rfl rfl b_eql rfl ?_
 rw [decide_eq_false (by simp only [List.length_cons]; omega)]
 refine W_assign rfl rfl ?_
 refine W_nil ?_
 refine W_condF rfl rfl ?_
 refine W_skip ?_
 refine W_blk ?_
 refine W_sr ?_
 refine W_move rfl rfl ?_
 refine W_move rfl rfl ?_
 refine W_callq (.cons rfl (.cons rfl .nil)) Tryz.call66 rfl (hP.Ready_q hn (fun p hp => List.mem_append_left _ hp) (cpu := (k : Int))) ?_
 rw [show rdyQ Q Rs (k : Int) = (x, (inR Rs x).isNone) from by unfold rdyQ; rw [he]]
 rw [hir]
 refine W_move rfl rfl ?_
 refine W_extract rfl rfl rfl ?_
 refine W_extract rfl rfl rfl ?_
 refine W_assign rfl rfl ?_
 refine W_assign rfl rfl ?_
 refine W_nil (W_seq (W_sr ?_))
 refine W_move rfl rfl ?_
 refine W_not rfl rfl ?_
 refine W_nil ?_
 refine W_condF rfl rfl ?_
 refine W_skip (W_sr ?_)
 refine W_move rfl rfl ?_
 refine W_move rfl rfl ?_
 obtain ⟨rb2, X2, HR, hR2, hqu2, ho1, ho2, hup⟩ := hP.at hn hk
 refine W_callq (.cons rfl (.cons rfl .nil)) Tryz.call87 rfl (hqu2 (fun p hp => List.mem_append_left _ hp)) ?_
 rw [he] at hR2
 refine W_hsub (H' := X2 ++ (HR ++ H)) (ho1 H) ?_
 refine W_call (.cons rfl .nil) Tryz.call91 rfl (rPop_L hR2) ?_
 rintro v H' ⟨X', hR', rfl, rfl⟩
 have hm0 : (x, (k : Int)) ∈ Q := mem_quOf.1 (by rw [he]; exact List.mem_cons_self)
 have hx0 : (quOf Q (k : Int))[0]? = some x := by rw [he]; rfl
 obtain ⟨HBn, hPn, hin⟩ := hup (delQ Q x) X' (by rw [quOf_del_at hP.ok hx0, he]; exact hR') (fun j hj => quOf_del_other hP.ok hm0 (by omega)) (hP.ok.del x)
 refine W_hsub (H' := HBn ++ H) (hin H) ?_
 obtain ⟨v1, XX1, rn1, of1, rfl, hRun1, hRup1⟩ := hPn.runs
 have hxr := (hP.ok.rng _ hm0).1
 dsimp only at hxr
 obtain ⟨i, rfl⟩ : ∃ i : Nat, x = (i : Int) := ⟨x.toNat, by omega⟩
 refine W_nil (W_seq ?_)
 refine W_anyC [] zk ?_
 refine WC_take 0 (l' := #[true, false, false, false, false, false, false, false, false, false, false, false, false, false, false, false]) rfl zK zK zK rfl zK (X_move rfl) rfl ?_
 refine WC_take 1 (l' := #[true, true, false, false, false, false, false, false, false, false, false, false, false, false, false, false]) rfl zK zK zK rfl zK (X_move rfl) rfl ?_
 refine WC_take 2 (l' := #[true, true, true, false, false, false, false, false, false, false, false, false, false, false, false, false]) rfl zK zK zK rfl zK (X_move rfl) rfl ?_
 refine WC_take 3 (l' := #[true, true, true, true, false, false, false, false, false, false, false, false, false, false, false, false]) rfl zK zK zK rfl zK (X_move rfl) rfl ?_
 refine WC_take 4 (l' := #[true, true, true, true, true, false, false, false, false, false, false, false, false, false, false, false]) rfl zK zK zK rfl zK (X_move rfl) rfl ?_
 refine WC_take 5 (l' := #[true, true, true, true, true, true, false, false, false, false, false, false, false, false, false, false]) rfl (by decide +kernel) (by decide +kernel) (by decide +kernel) rfl (by decide +kernel) (X_bin rfl rfl (b_add (m := ((j : Int) + 1)) (by rw [i64w (by omega)]))) rfl ?_
 refine WC_take 6 (l' := #[true, true, true, true, true, true, true, false, false, false, false, false, false, false, false, false]) rfl zK zK zK rfl zK (X_move rfl) rfl ?_
 refine WC_take 7 (l' := #[true, true, true, true, true, true, true, true, false, false, false, false, false, false, false, false]) rfl (by decide +kernel) (by decide +kernel) (by decide +kernel) rfl (by decide +kernel) (X_bin rfl rfl (b_add (m := ((i : Int) + 1)) (by rw [i64w (by omega)]))) rfl ?_
 refine WC_take 8 (l' := #[true, true, true, true, true, true, true, true, true, false, false, false, false, false, false, false]) rfl zK zK zK rfl zK (X_nilCheck rfl) rfl ?_
 refine WC_take 9 (l' := #[true, true, true, true, true, true, true, true, true, true, false, false, false, false, false, false]) rfl zK zK zK rfl zK (X_fieldAddr rfl fld126_1 zd) rfl ?_
 refine WC_take 10 (l' := #[true, true, true, true, true, true, true, true, true, true, true, false, false, false, false, false]) rfl (by decide +kernel) (by decide +kernel) (by decide +kernel) rfl (by decide +kernel) (X_indexAddrA (j := i) rfl rfl ty123 ty3 (by first | rfl | omega) (by first | decide | omega | simp) rfl) rfl ?_
 refine WC_take 12 (l' := #[true, true, true, true, true, true, true, true, true, true, true, false, true, false, false, false]) rfl zK zK zK rfl zK (X_nilCheck rfl) rfl ?_
 refine WC_take 13 (l' := #[true, true, true, true, true, true, true, true, true, true, true, false, true, true, false, false]) rfl zK zK zK rfl zK (X_fieldAddr rfl fld126_2 zd) rfl ?_
 refine WC_one 11 (l' := #[true, true, true, true, true, true, true, true, true, true, true, true, true, true, false, false]) zH zK rfl zK ?_
 refine W_store (l' := peRow v1 (rn1.set i ((j : Int) + 1)) of1) rfl rfl ty3 rfl rfl (b := pb) zM (by rw [peRow_len hRun1.len1 hRun1.len2, Nat.blt_eq]; omega) (by rw [← peRow_setRn (by rw [hRun1.len1]; omega)]; congr 1; omega) zU ?_
 refine W_nil ?_
 refine WC_goal ?_
 refine WC_take 14 (l' := #[true, true, true, true, true, true, true, true, true, true, true, true, true, true, true, false]) rfl (by decide +kernel) (by decide +kernel) (by decide +kernel) rfl (by decide +kernel) (X_indexAddrA (j := j) rfl rfl ty124 ty3 (by first | rfl | omega) (by first | decide | omega | simp) rfl) rfl ?_
 refine WC_one 15 (l' := #[true, true, true, true, true, true, true, true, true, true, true, true, true, true, true, true]) zH zK rfl zK ?_
 refine W_store (l' := peRow v1 (rn1.set i ((j : Int) + 1)) (of1.set j ((i : Int) + 1))) rfl rfl ty3 rfl rfl (b := pb) zM (by rw [peRow_len (by rw [List.length_set]; exact hRun1.len1) hRun1.len2, Nat.blt_eq]; omega) (by rw [← peRow_setOf (by rw [List.length_set]; exact hRun1.len1)]; congr 1; omega) zU ?_
 refine W_nil ?_
 refine WC_goal ?_
 refine WC_done zH zK ?_
 refine W_sr ?_
 refine W_move rfl rfl ?_
 refine W_assign rfl rfl ?_
 refine W_assign rfl rfl ?_
 refine W_nil ?_
 refine W_ret2m (H2 := ((pb, .cells 126 289 (peRow v1 (rn1.set i ((j : Int) + 1)) (of1.set j ((i : Int) + 1)))) :: XX1) ++ H) Tryz.results52 rfl rfl (.nil _) zH ?_
 have h0 : ¬ (((k : Int) < 0 ∨ (n : Int) ≤ (k : Int)) ∨ (j : Int) < 0 ∨ 32 ≤ (j : Int)) := by omega
 have e : begQ n Q Rs (k : Int) (j : Int) = (delQ Q (i : Int), Rs ++ [((i : Int), (j : Int))], (i : Int), 0) := by
  unfold begQ
  rw [if_neg h0, if_neg (by rw [ho]; decide), he]
  exact if_neg (by rw [hir]; decide)
 rw [e]
 exact ⟨_, hRup1 _ _ _ (hRun1.begin zO hj hir ho), rfl, rfl⟩
theorem Begin_L {w0 : World} {H : Heap} {HB : Heap} {pb n : Nat} {Q Rs : List (Int × Int)} (hP : PendH pb n Q Rs HB) (hn : n ≤ 64) {cpu c : Int} : LCalls Tryz.prog w0 52 #[.pointer (some ⟨pb, 0, none⟩), .int .i64 cpu, .int .i64 c] (HB ++ H) (fun v H' => ∃ HB', PendH pb n (begQ n Q Rs cpu c).1 (begQ n Q Rs cpu c).2.1 HB' ∧ v = .tuple #[.int .i64 (begQ n Q Rs cpu c).2.2.1, .int .i64 (begQ n Q Rs cpu c).2.2.2] ∧ H' = HB' ++ H) := by
 by_cases h : cpu < 0 ∨ (n : Int) ≤ cpu
 ·exact Begin_cpu hP hn h
 ·obtain ⟨k, rfl⟩ : ∃ k : Nat, cpu = (k : Int) := ⟨cpu.toNat, by omega⟩
  have hk : k < n := by omega
  by_cases h1 : c < 0
  ·exact Begin_lo hP hn hk h1
  ·by_cases h2 : 32 ≤ c
   ·exact Begin_hi hP hn hk h2
   ·obtain ⟨j, rfl⟩ : ∃ j : Nat, c = (j : Int) := ⟨c.toNat, by omega⟩
    have hj : j < 32 := by omega
    cases ho : ofR Rs (j : Int) with
    | some z => exact Begin_busy hP hn hk hj ho
    | none =>
     cases he : quOf Q (k : Int) with
     | nil => exact Begin_none hP hn hk hj ho he
     | cons x l =>
      cases hir : inR Rs x with
      | some z => exact Begin_not hP hn hk hj ho he hir
      | none => exact Begin_ok hP hn hk hj ho he hir
theorem End_none {w0 : World} {H : Heap} {HB : Heap} {pb n : Nat} {Q Rs : List (Int × Int)} (hP : PendH pb n Q Rs HB) (hn : n ≤ 64) {c : Int} (ho : ofR Rs c = none)  : LCalls Tryz.prog w0 53 #[.pointer (some ⟨pb, 0, none⟩), .int .i64 c] (HB ++ H) (fun v H' => ∃ HB', PendH pb n Q (endQ Rs c).1 HB' ∧ v = .tuple #[.int .i64 (endQ Rs c).2.1, .int .i64 (endQ Rs c).2.2] ∧ H' = HB' ++ H) := by
 refine L_enter (l := [.pointer (some ⟨pb, 0, none⟩), .int .i64 c]) Tryz.func53 rfl Tryz.ntmps53 rfl rfl ?_
 refine W_sr ?_
 refine W_assign rfl rfl ?_
 refine W_assign rfl rfl ?_
 refine W_nil (W_seq (W_sr ?_))
 refine W_move rfl rfl ?_
 refine W_x (X_ptrNil rfl rfl ty81) (fun _ h => by cases h) rfl ?_
 refine W_nil ?_
 refine W_condF rfl rfl ?_
 refine W_skip (W_sr ?_)
 refine W_move rfl rfl ?_
 refine W_move rfl rfl ?_
 refine W_callq (.cons rfl (.cons rfl .nil)) Tryz.call92 rfl (hP.Of_q (c := c) (fun p hp => List.mem_append_left _ hp)) ?_
 rw [ho, show optV none = .tuple #[.int .i64 0, .bool false] from rfl]
 refine W_move rfl rfl ?_
 refine W_extract rfl rfl rfl ?_
 refine W_extract rfl rfl rfl ?_
 refine W_assign rfl rfl ?_
 refine W_assign rfl rfl ?_
 refine W_nil (W_seq (W_sr ?_))
 refine W_move rfl rfl ?_
 refine W_not rfl rfl ?_
 refine W_nil ?_
 refine W_condT rfl rfl ?_
 refine W_sr ?_
 refine W_assign rfl rfl ?_
 refine W_assign rfl rfl ?_
 refine W_nil ?_
 refine W_ret2m (H2 := HB ++ H) Tryz.results53 rfl rfl (.nil _) zH ?_
 unfold endQ; rw [ho]
 exact ⟨HB, hP, rfl, rfl⟩
theorem End_at {w0 : World} {H : Heap} {HB : Heap} {pb n : Nat} {Q Rs : List (Int × Int)} (hP : PendH pb n Q Rs HB) (hn : n ≤ 64) {c x : Int} (ho : ofR Rs c = some x)  : LCalls Tryz.prog w0 53 #[.pointer (some ⟨pb, 0, none⟩), .int .i64 c] (HB ++ H) (fun v H' => ∃ HB', PendH pb n Q (endQ Rs c).1 HB' ∧ v = .tuple #[.int .i64 (endQ Rs c).2.1, .int .i64 (endQ Rs c).2.2] ∧ H' = HB' ++ H) := by
 obtain ⟨v1, XX1, rn1, of1, rfl, hRun1, hRup1⟩ := hP.runs
 have hm0 := (ofR_some hRun1).1 ho
 have hxr := hRun1.rng _ hm0
 dsimp only at hxr
 obtain ⟨i, rfl⟩ : ∃ i : Nat, x = (i : Int) := ⟨x.toNat, by omega⟩
 obtain ⟨j, rfl⟩ : ∃ j : Nat, c = (j : Int) := ⟨c.toNat, by omega⟩
 refine L_enter (l := [.pointer (some ⟨pb, 0, none⟩), .int .i64 (j : Int)]) Tryz.func53 rfl Tryz.ntmps53 rfl rfl ?_
 refine W_sr ?_
 refine W_assign rfl rfl ?_
 refine W_assign rfl rfl ?_
 refine W_nil (W_seq (W_sr ?_))
 refine W_move rfl rfl ?_
 refine W_x (X_ptrNil rfl rfl ty81) (fun _ h => by cases h) rfl ?_
 refine W_nil ?_
 refine W_condF rfl rfl ?_
 refine W_skip (W_sr ?_)
 refine W_move rfl rfl ?_
 refine W_move rfl rfl ?_
 refine W_callq (.cons rfl (.cons rfl .nil)) Tryz.call92 rfl (hP.Of_q (c := (j : Int)) (fun p hp => List.mem_append_left _ hp)) ?_
 rw [ho, show optV (some (i : Int)) = .tuple #[.int .i64 (i : Int), .bool true] from rfl]
 refine W_move rfl rfl ?_
 refine W_extract rfl rfl rfl ?_
 refine W_extract rfl rfl rfl ?_
 refine W_assign rfl rfl ?_
 refine W_assign rfl rfl ?_
 refine W_nil (W_seq (W_sr ?_))
 refine W_move rfl rfl ?_
 refine W_not rfl rfl ?_
 refine W_nil ?_
 refine W_condF rfl rfl ?_
 refine W_skip (W_seq ?_)
 refine W_anyC [] zk ?_
 refine WC_take 0 (l' := #[true, false, false, false, false, false, false, false, false, false, false, false]) rfl zK zK zK rfl zK (X_move rfl) rfl ?_
 refine WC_take 1 (l' := #[true, true, false, false, false, false, false, false, false, false, false, false]) rfl zK zK zK rfl zK (X_move rfl) rfl ?_
 refine WC_take 2 (l' := #[true, true, true, false, false, false, false, false, false, false, false, false]) rfl zK zK zK rfl zK (X_move rfl) rfl ?_
 refine WC_take 3 (l' := #[true, true, true, true, false, false, false, false, false, false, false, false]) rfl zK zK zK rfl zK (X_move rfl) rfl ?_
 refine WC_take 4 (l' := #[true, true, true, true, true, false, false, false, false, false, false, false]) rfl zK zK zK rfl zK (X_nilCheck rfl) rfl ?_
 refine WC_take 5 (l' := #[true, true, true, true, true, true, false, false, false, false, false, false]) rfl zK zK zK rfl zK (X_fieldAddr rfl fld126_1 zd) rfl ?_
 refine WC_take 6 (l' := #[true, true, true, true, true, true, true, false, false, false, false, false]) rfl (by decide +kernel) (by decide +kernel) (by decide +kernel) rfl (by decide +kernel) (X_indexAddrA (j := i) rfl rfl ty123 ty3 (by first | rfl | omega) (by first | decide | omega | simp) rfl) rfl ?_
 refine WC_take 8 (l' := #[true, true, true, true, true, true, true, false, true, false, false, false]) rfl zK zK zK rfl zK (X_nilCheck rfl) rfl ?_
 refine WC_take 9 (l' := #[true, true, true, true, true, true, true, false, true, true, false, false]) rfl zK zK zK rfl zK (X_fieldAddr rfl fld126_2 zd) rfl ?_
 refine WC_one 7 (l' := #[true, true, true, true, true, true, true, true, true, true, false, false]) zH zK rfl zK ?_
 refine W_store (l' := peRow v1 (rn1.set i 0) of1) rfl rfl ty3 rfl rfl (b := pb) zM (by rw [peRow_len hRun1.len1 hRun1.len2, Nat.blt_eq]; omega) (by rw [← peRow_setRn (by rw [hRun1.len1]; omega)]; congr 1; omega) zU ?_
 refine W_nil ?_
 refine WC_goal ?_
 refine WC_take 10 (l' := #[true, true, true, true, true, true, true, true, true, true, true, false]) rfl (by decide +kernel) (by decide +kernel) (by decide +kernel) rfl (by decide +kernel) (X_indexAddrA (j := j) rfl rfl ty124 ty3 (by first | rfl | omega) (by first | decide | omega | simp) rfl) rfl ?_
 refine WC_one 11 (l' := #[true, true, true, true, true, true, true, true, true, true, true, true]) zH zK rfl zK ?_
 refine W_store (l' := peRow v1 (rn1.set i 0) (of1.set j 0)) rfl rfl ty3 rfl rfl (b := pb) zM (by rw [peRow_len (by rw [List.length_set]; exact hRun1.len1) hRun1.len2, Nat.blt_eq]; omega) (by rw [← peRow_setOf (by rw [List.length_set]; exact hRun1.len1)]; congr 1; omega) zU ?_
 refine W_nil ?_
 refine WC_goal ?_
 refine WC_done zH zK ?_
 refine W_sr ?_
 refine W_move rfl rfl ?_
 refine W_assign rfl rfl ?_
 refine W_assign rfl rfl ?_
 refine W_nil ?_
 refine W_ret2m (H2 := ((pb, .cells 126 289 (peRow v1 (rn1.set i 0) (of1.set j 0))) :: XX1) ++ H) Tryz.results53 rfl rfl (.nil _) zH ?_
 unfold endQ; rw [ho]
 exact ⟨_, hRup1 _ _ _ (hRun1.over hm0), rfl, rfl⟩
theorem End_L {w0 : World} {H : Heap} {HB : Heap} {pb n : Nat} {Q Rs : List (Int × Int)} (hP : PendH pb n Q Rs HB) (hn : n ≤ 64) {c : Int} : LCalls Tryz.prog w0 53 #[.pointer (some ⟨pb, 0, none⟩), .int .i64 c] (HB ++ H) (fun v H' => ∃ HB', PendH pb n Q (endQ Rs c).1 HB' ∧ v = .tuple #[.int .i64 (endQ Rs c).2.1, .int .i64 (endQ Rs c).2.2] ∧ H' = HB' ++ H) := by
 cases ho : ofR Rs c with
 | none => exact End_none hP hn ho
 | some x => exact End_at hP hn ho
end Go.Proofs.YtcmfldfeakmdoaaGreatDoor
