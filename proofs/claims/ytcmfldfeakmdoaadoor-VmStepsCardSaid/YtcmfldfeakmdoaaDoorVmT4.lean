/-
  Own work: contracts of functions that the statement reaches, and plain facts on what they compute; each theorem says its conditions.
-/
import Derived.Test.YtcmfldfeakmdoaaDoorVmS2
import Derived.Test.YtcmfldfeakmdoaaDoorVmT3
import Derived.Test.YtcmfldfeakmdoaaDoorVmT2
import Derived.Test.YtcmfldfeakmdoaaDoorVmA
set_option linter.all false
set_option linter.unusedSimpArgs false
set_option linter.unusedVariables false
namespace Go.Proofs.YtcmfldfeakmdoaaDoor
open Go Go.Sl
attribute [local irreducible] W
def unset (m : Nat) : Nat := ((List.range 64).filter fun i => !m.testBit i).length
theorem filter_lt {α : Type} {p q : α → Bool} : ∀ {l : List α}, (∀ x ∈ l, q x = true → p x = true) → (∃ x ∈ l, p x = true ∧ q x = false) → (l.filter q).length < (l.filter p).length
  | [], _, ⟨x, hx, _⟩ => by cases hx
  | y :: l, h, ⟨x, hx, hp, hq⟩ => by
    have hle : ∀ {l : List α}, (∀ x ∈ l, q x = true → p x = true) → (l.filter q).length ≤ (l.filter p).length := by
      intro l
      induction l with
      | nil => intro _; exact Nat.le_refl _
      | cons z l ih =>
        intro h
        have h1 := ih (fun x hx => h x (List.mem_cons_of_mem _ hx))
        have h2 := h z List.mem_cons_self
        cases hz : q z <;> cases hz' : p z <;> simp_all <;> omega
    have htl : ∀ x ∈ l, q x = true → p x = true := fun x hx => h x (List.mem_cons_of_mem _ hx)
    rcases List.mem_cons.1 hx with rfl | hx
    · have := hle htl
      simp [hp, hq]; omega
    · have := filter_lt htl ⟨x, hx, hp, hq⟩
      have h2 := h y List.mem_cons_self
      cases hy : q y <;> cases hy' : p y <;> simp_all <;> omega
theorem unset_le (m : Nat) : unset m ≤ 64 := Nat.le_trans (List.length_filter_le _ _) (by simp)
theorem bit_or {m : Nat} {z : Int} (hz : 0 ≤ z ∧ z < 64) (i : Nat) : (m ||| bitN z).testBit i = (m.testBit i || decide (i = z.toNat)) := by
  unfold bitN
  rw [if_pos hz, Nat.testBit_or, Nat.testBit_two_pow]
  congr 1
  by_cases h : z.toNat = i
  · subst h; simp
  · rw [decide_eq_false h, decide_eq_false (fun e => h e.symm)]
theorem unset_or {m : Nat} {z : Int} (hz : 0 ≤ z ∧ z < 64) (h : m.testBit z.toNat = false) : unset (m ||| bitN z) + 1 ≤ unset m := by
  refine filter_lt (fun x _ hx => ?_) ⟨z.toNat, List.mem_range.2 (by omega), by simp [h], by rw [bit_or hz]; simp⟩
  rw [bit_or hz] at hx
  cases hm : m.testBit x <;> simp_all
theorem next_range {c : List Ins} {k z : Int} (h : z ∈ nextL c k) : 0 ≤ z ∧ z < (c.length : Int) := by
  unfold nextL at h
  split at h
  · cases h
  · split at h
    · simp only [List.mem_filter, inB, Bool.and_eq_true, decide_eq_true_eq] at h; exact h.2
    · cases h
theorem nextL_len (c : List Ins) (k : Int) : (nextL c k).length ≤ 3 := by
  unfold nextL
  split
  · simp
  · split
    · exact Nat.le_trans (List.length_filter_le _ _) (seqOf_len _ _ _ _ _ _)
    · simp
structure ReachI (c : List Ins) (m : Nat) (todo : List Int) : Prop where
  ok : MaskOk m
  sound : ∀ i, m.testBit i = true → Reach c i
  zero : 0 < c.length → m.testBit 0 = true
  has : ∀ z ∈ todo, ∃ i : Nat, z = i ∧ i < 64 ∧ (m.testBit i = true ∨ c.length = 0)
  closed : ∀ i : Nat, m.testBit i = true → (i : Int) ∈ todo ∨ ∀ z : Nat, (z : Int) ∈ nextL c i → m.testBit z = true
  room : todo.length + unset m ≤ 65
structure ReachJ (c : List Ins) (k : Nat) (B : Nat) (j : Nat) (m : Nat) (todo : List Int) : Prop where
  ok : MaskOk m
  sound : ∀ i, m.testBit i = true → Reach c i
  zero : 0 < c.length → m.testBit 0 = true
  has : ∀ z ∈ todo, ∃ i : Nat, z = i ∧ i < 64 ∧ (m.testBit i = true ∨ c.length = 0)
  here : Reach c k ∨ c.length = 0
  closed : ∀ i : Nat, m.testBit i = true → (i : Int) ∈ todo ∨ (∀ z : Nat, (z : Int) ∈ nextL c i → m.testBit z = true) ∨ i = k
  done : ∀ z : Nat, (z : Int) ∈ (nextL c k).take j → m.testBit z = true
  room : todo.length + unset m ≤ 64
  less : todo.length + 2 * unset m + 1 ≤ B
theorem ReachI.start {c : List Ins} (hc : c.length ≤ 64) : ReachI c (fullN ((min c.length 1 : Nat) : Int)) [0] := by
  by_cases h : c.length = 0
  · have e : fullN ((min c.length 1 : Nat) : Int) = 0 := by rw [h]; rfl
    rw [e]
    refine ⟨by unfold MaskOk; decide, fun i hi => by simp at hi, fun h' => by omega, fun z hz => ⟨0, by simpa using hz, by omega, .inr h⟩, fun i hi => by simp at hi, ?_⟩
    have := unset_le 0
    simp only [List.length_singleton]; omega
  · have e : fullN ((min c.length 1 : Nat) : Int) = 1 := by rw [show min c.length 1 = 1 by omega]; rfl
    rw [e]
    have h1 : ∀ i, (1 : Nat).testBit i = true → i = 0 := fun i hi => by
      have : (2 ^ 0 : Nat).testBit i = true := by simpa using hi
      rw [Nat.testBit_two_pow] at this
      simpa using (of_decide_eq_true this).symm
    refine ⟨by unfold MaskOk; decide, fun i hi => by rw [h1 i hi]; exact .zero (by omega), fun _ => by decide, fun z hz => ⟨0, by simpa using hz, by omega, .inl (by decide)⟩, fun i hi => by rw [h1 i hi]; exact .inl (by simp), ?_⟩
    have := unset_le 1
    simp only [List.length_singleton]; omega
theorem ReachI.pop {c : List Ins} {m : Nat} {t : List Int} {k : Nat} (h : ReachI c m (t ++ [(k : Int)])) : ReachJ c k ((t ++ [(k : Int)]).length + 2 * unset m) 0 m t := by
  have hr := h.room
  simp only [List.length_append, List.length_singleton] at hr
  refine ⟨h.ok, h.sound, h.zero, fun z hz => h.has z (List.mem_append_left _ hz), ?_, fun i hi => ?_, fun z hz => by simp at hz, by omega, by simp only [List.length_append, List.length_singleton]; omega⟩
  · obtain ⟨i, e, _, hi⟩ := h.has k (by simp)
    have : i = k := by omega
    subst this
    rcases hi with hi | hi
    · exact .inl (h.sound _ hi)
    · exact .inr hi
  · rcases h.closed i hi with h1 | h1
    · rcases List.mem_append.1 h1 with h2 | h2
      · exact .inl h2
      · right; right; simp at h2; omega
    · exact .inr (.inl h1)
theorem ReachJ.seen {c : List Ins} {k B j m : Nat} {t : List Int} {z : Int} (h : ReachJ c k B j m t) (hc : c.length ≤ 64) (hz : (nextL c k)[j]? = some z) (hs : hasN m z = true) : ReachJ c k B (j + 1) m t := by
  refine ⟨h.ok, h.sound, h.zero, h.has, h.here, h.closed, fun y hy => ?_, h.room, h.less⟩
  rw [takeAt hz] at hy
  rcases List.mem_append.1 hy with hy | hy
  · exact h.done y hy
  · simp at hy
    subst hy
    unfold hasN at hs
    simp only [Bool.and_eq_true] at hs
    simpa using hs.2
theorem ReachJ.new {c : List Ins} {k B j m : Nat} {t : List Int} {z : Int} (h : ReachJ c k B j m t) (hc : c.length ≤ 64) (hz : (nextL c k)[j]? = some z) (hs : hasN m z = false) : ReachJ c k B (j + 1) (m ||| bitN z) (t ++ [z]) := by
  have hr := next_range (List.mem_of_getElem? hz)
  have hz64 : 0 ≤ z ∧ z < 64 := by omega
  obtain ⟨y, rfl⟩ := Int.eq_ofNat_of_zero_le hr.1
  have hb : m.testBit y = false := by
    unfold hasN goodB at hs
    simpa [hz64.1, hz64.2] using hs
  have hu := unset_or (m := m) hz64 (by simpa using hb)
  have hm : ∀ i, m.testBit i = true → (m ||| bitN (y : Int)).testBit i = true := fun i hi => by rw [bit_or hz64, hi]; rfl
  have hy : (m ||| bitN (y : Int)).testBit y = true := by rw [bit_or hz64]; simp
  have hrk : Reach c k := by
    rcases h.here with h1 | h1
    · exact h1
    · omega
  refine ⟨or_ok h.ok _, fun i hi => ?_, fun h0 => hm 0 (h.zero h0), fun x hx => ?_, h.here, fun i hi => ?_, fun x hx => ?_, by have := h.room; simp only [List.length_append, List.length_singleton]; omega, by have := h.less; simp only [List.length_append, List.length_singleton]; omega⟩
  · rw [bit_or hz64] at hi
    rcases Bool.or_eq_true _ _ ▸ hi with h1 | h1
    · exact h.sound i h1
    · have : i = y := by simpa using of_decide_eq_true h1
      subst this
      exact hrk.step (List.mem_of_getElem? hz)
  · rcases List.mem_append.1 hx with hx | hx
    · obtain ⟨i, e, h6, hi⟩ := h.has x hx
      exact ⟨i, e, h6, hi.imp (hm i) id⟩
    · simp at hx; subst hx
      exact ⟨y, rfl, by omega, .inl hy⟩
  · rw [bit_or hz64] at hi
    rcases Bool.or_eq_true _ _ ▸ hi with h1 | h1
    · rcases h.closed i h1 with h2 | h2 | h2
      · exact .inl (List.mem_append_left _ h2)
      · exact .inr (.inl fun x hx => hm x (h2 x hx))
      · exact .inr (.inr h2)
    · have : i = y := by simpa using of_decide_eq_true h1
      subst this
      exact .inl (by simp)
  · rw [takeAt hz] at hx
    rcases List.mem_append.1 hx with hx | hx
    · exact hm x (h.done x hx)
    · simp at hx
      have : x = y := by omega
      subst this; exact hy
theorem ReachJ.over {c : List Ins} {k B m : Nat} {t : List Int} (h : ReachJ c k B (nextL c k).length m t) : ReachI c m t ∧ t.length + 2 * unset m < B := by
  refine ⟨⟨h.ok, h.sound, h.zero, h.has, fun i hi => ?_, by have := h.room; omega⟩, by have := h.less; omega⟩
  rcases h.closed i hi with h1 | h1 | h1
  · exact .inl h1
  · exact .inr h1
  · subst h1
    right
    intro z hz
    exact h.done z (by rwa [List.take_length])
theorem ReachI.all {l : List Ins} (hl : InsOk l) {m : Nat} (h : ReachI (l.take 64) m []) : m = reachN l := by
  refine reachN_unique hl fun i => ⟨h.sound i, fun hr => ?_⟩
  induction hr with
  | zero h0 => exact h.zero h0
  | @step k z _ hz ih =>
    rcases h.closed k ih with h1 | h1
    · cases h1
    · exact h1 z hz
theorem holds_left {w0 : World} {H : Heap} {ad : Option Addr} {a b : List Value} (h : Holds w0 H ad (a ++ b)) : Holds w0 H ad a := fun j x hx => h j x (by
  rw [List.getElem?_append_left (List.getElem?_eq_some_iff.1 hx).1]; exact hx)
theorem insRow_take {w0 : World} {H : Heap} {ad : Option Addr} {l : List Ins} (h : Holds w0 H ad (insRow l)) (k : Nat) : Holds w0 H ad (insRow (l.take k)) := by
  have e : insRow l = insRow (l.take k) ++ insRow (l.drop k) := by rw [← List.flatMap_append, List.take_append_drop]
  rw [e] at h
  exact holds_left h
theorem i64s_take (l : List Int) (k : Nat) : (i64s l).take k = i64s (l.take k) := by simp [i64s, List.map_take]
set_option maxHeartbeats 4000000 in
theorem reached_q {w0 : World} {H : Heap} (l : List Ins) {ad : Option Addr} {cap : Nat} (hl : InsOk l) (hn : l.length ≤ 1000000) (hcap : l.length ≤ cap) (hrow : Holds w0 H ad (insRow l)) (hT : Tab w0) : PureAt Tryd.prog w0 H 37 [.slice ad l.length cap] (.int .u64 ((reachN l : Nat) : Int)) := by
  obtain ⟨c, hc⟩ : ∃ c, c = l.take 64 := ⟨_, rfl⟩
  have hcl : c.length = min 64 l.length := by rw [hc, List.length_take]
  have hc64 : c.length ≤ 64 := by omega
  have hrc : Holds w0 H ad (insRow c) := by rw [hc]; exact insRow_take hrow 64
  refine L_enter Tryd.func37 rfl Tryd.ntmps37 rfl rfl ?_
  refine W_sr ?_
  refine W_assign rfl rfl ?_
  refine W_nil ?_
  refine W_sr ?_
  refine W_move rfl rfl ?_
  refine W_move rfl rfl ?_
  refine W_len rfl ty24 rfl rfl ?_
  refine W_min2 rfl rfl (m := (c.length : Int)) (by rw [hcl]; split <;> omega) rfl ?_
  refine W_slice0 (hh := c.length) rfl ty24 ty59 rfl ⟨_, rfl⟩ (by omega) rfl ?_
  refine W_assign rfl rfl ?_
  refine W_nil ?_
  refine W_sr ?_
  refine W_move rfl rfl ?_
  refine W_len rfl ty24 rfl rfl ?_
  refine W_min2 rfl rfl (m := ((min c.length 1 : Nat) : Int)) (by split <;> omega) rfl ?_
  refine W_callp (.cons rfl .nil) Tryd.call55 rfl hT (full_pure _) ?_
  refine W_buildSlice (l := i64s [0]) ty113 ty3 (.cons rfl rfl rfl rfl rfl .nil) rfl rfl rfl rfl rfl rfl rfl (fun b17 => ?_)
  refine W_assign rfl rfl ?_
  refine W_assign rfl rfl ?_
  refine W_nil ?_
  refine W_seq ?_
  refine W_block ?_
  refine W_loopD (X := Nat × List Int × Value × Heap) (fun | (m, _, v, _) => [(0, .slice ad c.length cap), (3, .int .u64 (m : Int)), (4, v)]) (fun _ => []) (fun | (_, _, _, HB) => HB ++ H) (fun | (m, todo, v, HB) => ReachI c m todo ∧ OwnS 3 1 v todo.length (i64s todo) HB) (fun | (m, todo, _, _) => todo.length + 2 * unset m) (fullN ((min c.length 1 : Nat) : Int), [0], .slice (some ⟨b17, 0, none⟩) 1 1, [(b17, .cells 3 (1 * 1) (i64s [0]))]) ⟨.start hc64, .own rfl (by decide) (by decide)⟩ (sub_cons rfl (sub_cons rfl (sub_cons rfl (sub_nil _)))) rfl (by first | exact hsubI | (repeat (first | exact HSub.refl _ | refine HSub.cons zT ?_ | refine HSub.app (by repeat (first | exact TakeS.here _ | apply TakeS.next | apply TakeS.app)) ?_ | refine HSub.drop ?_ | refine HSub.dropS ?_ | exact HSub.nil _))) ?_
  rintro ⟨m, todo, v, HB⟩ ⟨hI, hO⟩
  simp only
  obtain ⟨ad4, cap4, rfl, _, _⟩ := hO.shape
  refine W_seq ?_
  refine W_sr ?_
  refine W_move rfl rfl ?_
  refine W_len rfl ty113 rfl rfl ?_
  refine W_bin rfl rfl b_gtr rfl ?_
  refine W_nil ?_
  refine W_condPS (p := 0 < (todo.length : Int)) rfl (by simp) (fun c0 => ?_) (fun c0 => ?_)
  · skip
    refine W_skip ?_
    refine W_block ?_
    refine W_sr ?_
    obtain ⟨b4, cp4, hv, rfl, hcp⟩ := hO.pos (by omega)
    cases hv
    obtain ⟨tds, z, rfl⟩ : ∃ tds z, todo = tds ++ [z] := ⟨todo.dropLast, todo.getLast (by intro e; rw [e] at c0; simp at c0), (List.dropLast_concat_getLast _).symm⟩
    obtain ⟨k, rfl, hk64, _⟩ := hI.has z (by simp)
    have hpop := hI.pop
    have hr65 := hpop.room
    obtain ⟨B, hB⟩ : ∃ B, B = (tds ++ [(k : Int)]).length + 2 * unset m := ⟨_, rfl⟩
    rw [← hB] at hpop ⊢
    have hln : (tds ++ [(k : Int)]).length = tds.length + 1 := by simp
    refine W_move rfl rfl ?_
    refine W_move rfl rfl ?_
    refine W_len rfl ty113 rfl rfl ?_
    refine W_bin rfl rfl (b_sub (m := (tds.length : Int)) ((i64w (by omega)).trans (by omega))) rfl ?_
    refine W_indexAddr (j := tds.length) rfl rfl ty113 ty3 rfl (by omega) rfl rfl ?_
    refine W_load rfl ty3 rfl (Cell.own zM (by rw [Nat.zero_add, Nat.mul_one]; exact i64s_at (x := (k : Int)) (by simp))) rfl ?_
    refine W_assign rfl rfl ?_
    refine W_nil ?_
    refine W_sr ?_
    refine W_move rfl rfl ?_
    refine W_move rfl rfl ?_
    refine W_len rfl ty113 rfl rfl ?_
    refine W_bin rfl rfl (b_sub (m := (tds.length : Int)) ((i64w (by omega)).trans (by omega))) rfl ?_
    refine W_slice0 (hh := tds.length) rfl ty113 ty3 rfl ⟨_, rfl⟩ (by omega) rfl ?_
    refine W_assign rfl rfl ?_
    refine W_nil ?_
    refine W_sr ?_
    obtain ⟨HB', hO', hsub⟩ := hO.cut (j := tds.length) (by omega)
    rw [show (i64s (tds ++ [(k : Int)])).take (tds.length * 1) = i64s tds by rw [Nat.mul_one, i64s_take]; simp] at hO'
    refine W_hsub (hsub H) ?_
    obtain ⟨r, hr⟩ : ∃ r, r = nextL c k := ⟨_, rfl⟩
    refine W_move rfl rfl ?_
    refine W_move rfl rfl ?_
    refine W_call (.cons rfl (.cons rfl .nil)) Tryd.call56 rfl (next_L c k ⟨by omega, by omega⟩ (hrc.up (by first | exact hsubI | (repeat (first | exact HSub.refl _ | refine HSub.cons zT ?_ | refine HSub.app (by repeat (first | exact TakeS.here _ | apply TakeS.next | apply TakeS.app)) ?_ | refine HSub.drop ?_ | refine HSub.dropS ?_ | exact HSub.nil _)))) hT) ?_
    rintro v34 H' ⟨HB34, hO34, rfl⟩
    rw [← hr] at hO34
    obtain ⟨ad34, cap34, rfl, hcap34, hmax34, hH34⟩ := Holds.of_own (w0 := w0) (H := HB34 ++ (HB' ++ H)) hO34 (fun p hp => List.mem_append_left _ hp)
    have hr62 : r.length ≤ 3 := by rw [hr]; exact nextL_len _ _
    refine W_len rfl ty113 rfl rfl ?_
    refine W_move rfl rfl ?_
    refine W_nil ?_
    refine W_block ?_
    refine W_loopD (X := Nat × Nat × List Int × Value × Heap) (fun | (j, m, _, v, _) => [(0, .slice ad c.length cap), (3, .int .u64 (m : Int)), (4, v), (34, .slice ad34 r.length cap34), (35, .int .i64 (r.length : Int)), (36, .int .i64 (j : Int))]) (fun _ => []) (fun | (_, _, _, _, HB) => HB34 ++ (HB ++ H)) (fun | (j, m, todo, v, HB) => j ≤ r.length ∧ ReachJ c k B j m todo ∧ OwnS 3 1 v todo.length (i64s todo) HB) (fun | (j, _, _, _, _) => r.length - j) (0, m, tds, .slice (some ⟨b4, 0, none⟩) tds.length cap4, HB') ⟨Nat.zero_le _, hpop, hO'⟩ (sub_cons rfl (sub_cons rfl (sub_cons rfl (sub_cons rfl (sub_cons rfl (sub_cons rfl (sub_nil _))))))) rfl (by first | exact hsubI | (repeat (first | exact HSub.refl _ | refine HSub.cons zT ?_ | refine HSub.app (by repeat (first | exact TakeS.here _ | apply TakeS.next | apply TakeS.app)) ?_ | refine HSub.drop ?_ | refine HSub.dropS ?_ | exact HSub.nil _))) ?_
    rintro ⟨j, m2, todo, v, HB2⟩ ⟨hj, hJ, hO2⟩
    simp only
    obtain ⟨ad2, cap2, rfl, _, _⟩ := hO2.shape
    have hroom := hJ.room
    refine W_sr ?_
    refine W_bin rfl rfl b_lss rfl ?_
    refine W_nil ?_
    refine W_seq ?_
    refine W_condPS (p := (j : Int) < (r.length : Int)) rfl (by simp) (fun c1 => ?_) (fun c1 => ?_)
    · skip
      refine W_skip ?_
      refine W_seq ?_
      refine W_block ?_
      refine W_sr ?_
      obtain ⟨z, hz⟩ : ∃ z, r[j]? = some z := ⟨_, List.getElem?_eq_getElem (by omega)⟩
      obtain ⟨b, o, rfl, _⟩ := hH34 j _ (i64s_at hz)
      have hH34' := Holds.of_own (w0 := w0) (H := HB34 ++ (HB2 ++ H)) hO34 (fun p hp => List.mem_append_left _ hp)
      obtain ⟨ad', cap', he, _, _, hH⟩ := hH34'
      cases he
      obtain ⟨b', o', he, hcz⟩ := hH j _ (i64s_at hz)
      cases he
      refine W_indexAddr (j := j) rfl rfl ty113 ty3 rfl (by omega) rfl rfl ?_
      refine W_load rfl ty3 rfl (by rw [Nat.mul_one]; exact hcz) rfl ?_
      refine W_assign rfl rfl ?_
      refine W_nil ?_
      refine W_sr ?_
      refine W_move rfl rfl ?_
      refine W_move rfl rfl ?_
      refine W_callp (.cons rfl (.cons rfl .nil)) Tryd.call36 rfl hT (has_m _ _ hJ.ok) ?_
      refine W_not rfl rfl ?_
      refine W_nil ?_
      refine W_condS rfl (fun c2 => ?_) (fun c2 => ?_)
      · skip
        refine W_sr ?_
        refine W_move rfl rfl ?_
        refine W_move rfl rfl ?_
        refine W_buildSlice ty113 ty3 (.cons rfl rfl rfl rfl rfl .nil) rfl rfl rfl rfl rfl rfl rfl (fun b46 => ?_)
        refine W_callq (.cons rfl (.cons rfl .nil)) Tryd.call57 rfl (with_q _ [z] hJ.ok (by simp) (Holds.own zM) hT) ?_
        refine W_assign rfl rfl ?_
        refine W_nil ?_
        refine W_region ?_
        refine W_move rfl rfl ?_
        refine W_move rfl rfl ?_
        refine W_buildSlice ty113 ty3 (.cons rfl rfl rfl rfl rfl .nil) rfl rfl rfl rfl rfl rfl rfl (fun b50 => ?_)
        refine W_append (news := [.int .i64 z]) (m := 1) (HB := HB2) (H0 := HB34 ++ H) rfl rfl ty113 ty3 rfl (by decide) hO2 rfl (Holds.own List.mem_cons_self) rfl (by simp only [maxLen]; omega) (by omega) (by first | exact hsubI | (repeat (first | exact HSub.refl _ | refine HSub.cons zT ?_ | refine HSub.app (by repeat (first | exact TakeS.here _ | apply TakeS.next | apply TakeS.app)) ?_ | refine HSub.drop ?_ | refine HSub.dropS ?_ | exact HSub.nil _))) rfl (fun v3 HB3 hO3 => ?_)
        obtain ⟨ad3, cap3, rfl, _, _⟩ := hO3.shape
        refine W_assign rfl rfl ?_
        refine W_nil ?_
        refine W_blk ?_
        refine W_region ?_
        refine W_bin rfl rfl (b_add (m := ((j + 1 : Nat) : Int)) ((i64w (by omega)).trans (by omega))) rfl ?_
        refine W_move rfl rfl ?_
        refine W_nil ?_
        refine W_again (j + 1, m2 ||| bitN z, todo ++ [z], _, HB3) ⟨by omega, hJ.new hc64 (hr ▸ hz) (by simpa using c2), by simpa [i64s_append, i64s] using hO3⟩ (by dsimp only; omega) (sub_cons rfl (sub_cons rfl (sub_cons rfl (sub_cons rfl (sub_cons rfl (sub_cons rfl (sub_nil _))))))) rfl (by first | exact hsubI | (repeat (first | exact HSub.refl _ | refine HSub.cons zT ?_ | refine HSub.app (by repeat (first | exact TakeS.here _ | apply TakeS.next | apply TakeS.app)) ?_ | refine HSub.drop ?_ | refine HSub.dropS ?_ | exact HSub.nil _)))
      · skip
        refine W_skip ?_
        refine W_blk ?_
        refine W_region ?_
        refine W_bin rfl rfl (b_add (m := ((j + 1 : Nat) : Int)) ((i64w (by omega)).trans (by omega))) rfl ?_
        refine W_move rfl rfl ?_
        refine W_nil ?_
        refine W_again (j + 1, m2, todo, _, HB2) ⟨by omega, hJ.seen hc64 (hr ▸ hz) (by simpa using c2), hO2⟩ (by dsimp only; omega) (sub_cons rfl (sub_cons rfl (sub_cons rfl (sub_cons rfl (sub_cons rfl (sub_cons rfl (sub_nil _))))))) rfl (by first | exact hsubI | (repeat (first | exact HSub.refl _ | refine HSub.cons zT ?_ | refine HSub.app (by repeat (first | exact TakeS.here _ | apply TakeS.next | apply TakeS.app)) ?_ | refine HSub.drop ?_ | refine HSub.dropS ?_ | exact HSub.nil _)))
    · skip
      refine W_exit rfl ?_
      refine W_blk ?_
      obtain rfl : j = r.length := by omega
      have hov := ReachJ.over (hr ▸ hJ)
      refine W_again (m2, todo, _, HB2) ⟨hov.1, hO2⟩ hov.2 (sub_cons rfl (sub_cons rfl (sub_cons rfl (sub_nil _)))) rfl (by first | exact hsubI | (repeat (first | exact HSub.refl _ | refine HSub.cons zT ?_ | refine HSub.app (by repeat (first | exact TakeS.here _ | apply TakeS.next | apply TakeS.app)) ?_ | refine HSub.drop ?_ | refine HSub.dropS ?_ | exact HSub.nil _)))
  · skip
    refine W_exit rfl ?_
    refine W_sr ?_
    refine W_move rfl rfl ?_
    refine W_assign rfl rfl ?_
    refine W_nil ?_
    refine W_ret1m (H2 := H) Tryd.results37 rfl (.nil _) (by first | exact hsubI | (repeat (first | exact HSub.refl _ | refine HSub.cons zT ?_ | refine HSub.app (by repeat (first | exact TakeS.here _ | apply TakeS.next | apply TakeS.app)) ?_ | refine HSub.drop ?_ | refine HSub.dropS ?_ | exact HSub.nil _))) ?_
    obtain rfl : todo = [] := List.eq_nil_of_length_eq_zero (by omega)
    have hIl : ReachI (l.take 64) m [] := by rw [← hc]; exact hI
    exact ⟨by rw [ReachI.all hl hIl], rfl⟩
end Go.Proofs.YtcmfldfeakmdoaaDoor
namespace Go.Proofs.YtcmfldfeakmdoaaDoor
open Go Go.Sl
attribute [local irreducible] W
def withinB (x : Ins) (n k : Nat) : Bool :=
  if x.op = 64 ∨ x.op = 65 then decide (0 ≤ x.off) && decide (x.off < 8) else if x.op = 66 ∨ x.op = 67 then decide (0 ≤ x.off) && decide (x.off < 4)
  else decide (cls x.op ≠ 2) || (decide (0 ≤ toV x k) && decide (toV x k < (n : Int)))
def wrongE (x : Ins) (n k : Nat) (sleeps : Bool) : Int :=
  if (!withinB x n k) = true then 2 else if (decide (x.op = 72) && !helpB x.imm) = true then 4 else if (decide (x.op = 72) && decide (x.imm = 16) && !sleeps) = true then 17
  else if (decide ((k : Int) = (n : Int) - 1) && decide (x.op ≠ 73) && decide (x.op ≠ 32)) = true then 10 else 0
set_option maxHeartbeats 1000000 in
theorem within_q {w0 : World} {H : Heap} {x : Ins} {n k : Nat} {l : List Ins} {ad : Option Addr} {cap : Nat} (hnl : l.length = n) (hk : k < n) (hx : l[k]? = some x) (hrow : Holds w0 H ad (insRow l)) (hT : Tab w0) : PureAt Tryd.prog w0 H 53 [.slice ad n cap, .int .i64 (k : Int)] (.bool (withinB x n k)) := by
  have hx' := hx
  obtain ⟨b, o, rfl, hc⟩ := hrow.row cells_len (by decide) hx
  refine L_enter Tryd.func53 rfl Tryd.ntmps53 rfl rfl ?_
  refine W_sr ?_
  refine W_assign rfl rfl ?_
  refine W_nil ?_
  refine W_sr ?_
  refine W_move rfl rfl ?_
  refine W_move rfl rfl ?_
  refine W_indexAddr (j := k) rfl rfl ty24 ty59 rfl hk rfl rfl ?_
  refine W_loadA rfl ty59 rfl (vs := [.int .i64 x.op, .int .i64 x.dst, .int .i64 x.src, .int .i64 x.off, .int .i64 x.imm]) rfl (hc.up (by first | exact hsubI | (repeat (first | exact HSub.refl _ | refine HSub.cons zT ?_ | refine HSub.app (by repeat (first | exact TakeS.here _ | apply TakeS.next | apply TakeS.app)) ?_ | refine HSub.drop ?_ | refine HSub.dropS ?_ | exact HSub.nil _)))) rfl ?_
  refine W_alloc ty59 rfl rfl (fun b5 => ?_)
  refine W_storeA rfl rfl ty59 rfl rfl zM (Nat.le_of_ble_eq_true rfl) zF zU ?_
  refine W_nil ?_
  refine W_seq ?_
  refine W_sr ?_
  refine W_fieldAddr rfl fld59_0 (by decide) rfl ?_
  refine W_load rfl ty3 rfl (Cell.own zM rfl) rfl ?_
  refine W_nil ?_
  refine W_block ?_
  refine W_seq ?_
  refine W_sr ?_
  refine W_bin rfl rfl b_eql rfl ?_
  refine W_assign rfl rfl ?_
  refine W_nil ?_
  refine W_condPS (p := x.op = 64) rfl (by simp) (fun c0 => ?_) (fun c0 => ?_)
  · skip
    refine W_skip ?_
    refine W_condT rfl rfl ?_
    refine W_sr ?_
    refine W_fieldAddr rfl fld59_3 (by decide) rfl ?_
    refine W_load rfl ty3 rfl (Cell.own zM rfl) rfl ?_
    refine W_bin rfl rfl b_geq rfl ?_
    refine W_move rfl rfl ?_
    apply W_and
    iterate 4 exact rfl
    case h1 =>
      intro hg3
      refine W_gyes rfl rfl ?_
      refine W_fieldAddr rfl fld59_3 (by decide) rfl ?_
      refine W_gyes rfl rfl ?_
      refine W_load rfl ty3 rfl (Cell.own zM rfl) rfl ?_
      refine W_gyes rfl rfl ?_
      refine W_bin rfl rfl b_lss rfl ?_
      exact W_met rfl zR
    refine W_assign rfl rfl ?_
    refine W_nil ?_
    refine W_ret1m (H2 := H) Tryd.results53 rfl (.nil _) (by first | exact hsubI | (repeat (first | exact HSub.refl _ | refine HSub.cons zT ?_ | refine HSub.app (by repeat (first | exact TakeS.here _ | apply TakeS.next | apply TakeS.app)) ?_ | refine HSub.drop ?_ | refine HSub.dropS ?_ | exact HSub.nil _))) ?_
    exact ⟨by unfold withinB toV; repeat (first | rw [if_pos (by omega)] | rw [if_neg (by omega)]), rfl⟩
  · skip
    refine W_region ?_
    refine W_bin rfl rfl b_eql rfl ?_
    refine W_assign rfl rfl ?_
    refine W_nil ?_
    refine W_condPS (p := x.op = 65) rfl (by simp) (fun c1 => ?_) (fun c1 => ?_)
    · skip
      refine W_sr ?_
      refine W_fieldAddr rfl fld59_3 (by decide) rfl ?_
      refine W_load rfl ty3 rfl (Cell.own zM rfl) rfl ?_
      refine W_bin rfl rfl b_geq rfl ?_
      refine W_move rfl rfl ?_
      apply W_and
      iterate 4 exact rfl
      case h1 =>
        intro hg3
        refine W_gyes rfl rfl ?_
        refine W_fieldAddr rfl fld59_3 (by decide) rfl ?_
        refine W_gyes rfl rfl ?_
        refine W_load rfl ty3 rfl (Cell.own zM rfl) rfl ?_
        refine W_gyes rfl rfl ?_
        refine W_bin rfl rfl b_lss rfl ?_
        exact W_met rfl zR
      refine W_assign rfl rfl ?_
      refine W_nil ?_
      refine W_ret1m (H2 := H) Tryd.results53 rfl (.nil _) (by first | exact hsubI | (repeat (first | exact HSub.refl _ | refine HSub.cons zT ?_ | refine HSub.app (by repeat (first | exact TakeS.here _ | apply TakeS.next | apply TakeS.app)) ?_ | refine HSub.drop ?_ | refine HSub.dropS ?_ | exact HSub.nil _))) ?_
      exact ⟨by unfold withinB toV; repeat (first | rw [if_pos (by omega)] | rw [if_neg (by omega)]), rfl⟩
    · skip
      refine W_seq ?_
      refine W_sr ?_
      refine W_bin rfl rfl b_eql rfl ?_
      refine W_assign rfl rfl ?_
      refine W_nil ?_
      refine W_condPS (p := x.op = 66) rfl (by simp) (fun c2 => ?_) (fun c2 => ?_)
      · skip
        refine W_skip ?_
        refine W_condT rfl rfl ?_
        refine W_sr ?_
        refine W_fieldAddr rfl fld59_3 (by decide) rfl ?_
        refine W_load rfl ty3 rfl (Cell.own zM rfl) rfl ?_
        refine W_bin rfl rfl b_geq rfl ?_
        refine W_move rfl rfl ?_
        apply W_and
        iterate 4 exact rfl
        case h1 =>
          intro hg3
          refine W_gyes rfl rfl ?_
          refine W_fieldAddr rfl fld59_3 (by decide) rfl ?_
          refine W_gyes rfl rfl ?_
          refine W_load rfl ty3 rfl (Cell.own zM rfl) rfl ?_
          refine W_gyes rfl rfl ?_
          refine W_bin rfl rfl b_lss rfl ?_
          exact W_met rfl zR
        refine W_assign rfl rfl ?_
        refine W_nil ?_
        refine W_ret1m (H2 := H) Tryd.results53 rfl (.nil _) (by first | exact hsubI | (repeat (first | exact HSub.refl _ | refine HSub.cons zT ?_ | refine HSub.app (by repeat (first | exact TakeS.here _ | apply TakeS.next | apply TakeS.app)) ?_ | refine HSub.drop ?_ | refine HSub.dropS ?_ | exact HSub.nil _))) ?_
        exact ⟨by unfold withinB toV; repeat (first | rw [if_pos (by omega)] | rw [if_neg (by omega)]), rfl⟩
      · skip
        refine W_region ?_
        refine W_bin rfl rfl b_eql rfl ?_
        refine W_assign rfl rfl ?_
        refine W_nil ?_
        refine W_condPS (p := x.op = 67) rfl (by simp) (fun c3 => ?_) (fun c3 => ?_)
        · skip
          refine W_sr ?_
          refine W_fieldAddr rfl fld59_3 (by decide) rfl ?_
          refine W_load rfl ty3 rfl (Cell.own zM rfl) rfl ?_
          refine W_bin rfl rfl b_geq rfl ?_
          refine W_move rfl rfl ?_
          apply W_and
          iterate 4 exact rfl
          case h1 =>
            intro hg3
            refine W_gyes rfl rfl ?_
            refine W_fieldAddr rfl fld59_3 (by decide) rfl ?_
            refine W_gyes rfl rfl ?_
            refine W_load rfl ty3 rfl (Cell.own zM rfl) rfl ?_
            refine W_gyes rfl rfl ?_
            refine W_bin rfl rfl b_lss rfl ?_
            exact W_met rfl zR
          refine W_assign rfl rfl ?_
          refine W_nil ?_
          refine W_ret1m (H2 := H) Tryd.results53 rfl (.nil _) (by first | exact hsubI | (repeat (first | exact HSub.refl _ | refine HSub.cons zT ?_ | refine HSub.app (by repeat (first | exact TakeS.here _ | apply TakeS.next | apply TakeS.app)) ?_ | refine HSub.drop ?_ | refine HSub.dropS ?_ | exact HSub.nil _))) ?_
          exact ⟨by unfold withinB toV; repeat (first | rw [if_pos (by omega)] | rw [if_neg (by omega)]), rfl⟩
        · skip
          refine W_skip ?_
          refine W_blk ?_
          refine W_sr ?_
          refine W_loadB rfl ty59 rfl zM rfl zF rfl ?_
          refine W_move rfl rfl ?_
          refine W_callp (.cons rfl (.cons rfl .nil)) Tryd.call68 rfl hT (target_pure _ _) ?_
          refine W_assign rfl rfl ?_
          refine W_nil ?_
          refine W_sr ?_
          refine W_fieldAddr rfl fld59_0 (by decide) rfl ?_
          refine W_load rfl ty3 rfl (Cell.own zM rfl) rfl ?_
          refine W_callp (.cons rfl .nil) Tryd.call49 rfl hT (class_pure _) ?_
          refine W_bin rfl rfl b_neq rfl ?_
          refine W_move rfl rfl ?_
          apply W_or
          iterate 4 exact rfl
          case h1 =>
            intro hg4
            refine W_gyes rfl rfl ?_
            refine W_move rfl rfl ?_
            refine W_gyes rfl rfl ?_
            refine W_bin rfl rfl b_geq rfl ?_
            refine W_gyes rfl rfl ?_
            refine W_move rfl rfl ?_
            apply W_and
            iterate 4 exact rfl
            case h1 =>
              intro hg7
              refine W_gyes rfl rfl ?_
              refine W_move rfl rfl ?_
              refine W_gyes rfl rfl ?_
              refine W_move rfl rfl ?_
              refine W_gyes rfl rfl ?_
              refine W_len rfl ty24 rfl rfl ?_
              refine W_gyes rfl rfl ?_
              refine W_bin rfl rfl b_lss rfl ?_
              exact W_met rfl zR
            exact W_met rfl zR
          refine W_assign rfl rfl ?_
          refine W_nil ?_
          refine W_ret1m (H2 := H) Tryd.results53 rfl (.nil _) (by first | exact hsubI | (repeat (first | exact HSub.refl _ | refine HSub.cons zT ?_ | refine HSub.app (by repeat (first | exact TakeS.here _ | apply TakeS.next | apply TakeS.app)) ?_ | refine HSub.drop ?_ | refine HSub.dropS ?_ | exact HSub.nil _))) ?_
          exact ⟨by unfold withinB toV; repeat (first | rw [if_pos (by omega)] | rw [if_neg (by omega)]), rfl⟩
set_option maxHeartbeats 1000000 in
theorem wrong_q {w0 : World} {H : Heap} {x : Ins} {n k : Nat} {l : List Ins} {ad : Option Addr} {cap : Nat} {sleeps : Bool} (hnl : l.length = n) (hn : n ≤ 1000000) (hk : k < n) (hx : l[k]? = some x) (hxo : x.Ok) (hrow : Holds w0 H ad (insRow l)) (hT : Tab w0) : PureAt Tryd.prog w0 H 34 [.agg #[.slice ad n cap, .bool sleeps], .int .i64 (k : Int)] (.int .i64 (wrongE x n k sleeps)) := by
  have hx' := hx
  have hrow' := hrow
  obtain ⟨b, o, rfl, hc⟩ := hrow.row cells_len (by decide) hx
  refine L_enter Tryd.func34 rfl Tryd.ntmps34 rfl rfl ?_
  refine W_sr ?_
  refine W_box rfl rfl rfl (fun b2 => ?_)
  refine W_assign rfl rfl ?_
  refine W_nil ?_
  refine W_sr ?_
  refine W_fieldAddr rfl fld27_0 (by decide) rfl ?_
  refine W_load rfl ty24 rfl (Cell.own zM rfl) rfl ?_
  refine W_move rfl rfl ?_
  refine W_indexAddr (j := k) rfl rfl ty24 ty59 rfl hk rfl rfl ?_
  refine W_loadA rfl ty59 rfl (vs := [.int .i64 x.op, .int .i64 x.dst, .int .i64 x.src, .int .i64 x.off, .int .i64 x.imm]) rfl (hc.up (by first | exact hsubI | (repeat (first | exact HSub.refl _ | refine HSub.cons zT ?_ | refine HSub.app (by repeat (first | exact TakeS.here _ | apply TakeS.next | apply TakeS.app)) ?_ | refine HSub.drop ?_ | refine HSub.dropS ?_ | exact HSub.nil _)))) rfl ?_
  refine W_alloc ty59 rfl rfl (fun b5 => ?_)
  refine W_storeA rfl rfl ty59 rfl rfl zM (Nat.le_of_ble_eq_true rfl) zF zU ?_
  refine W_nil ?_
  refine W_sr ?_
  refine W_fieldAddr rfl fld59_4 (by decide) rfl ?_
  refine W_load rfl ty3 rfl (Cell.own zM rfl) rfl ?_
  refine W_callp (.cons rfl .nil) Tryd.call52 rfl hT (helper_pure _ hxo.imm) ?_
  refine W_move rfl rfl ?_
  refine W_extract rfl rfl rfl ?_
  refine W_extract rfl rfl rfl ?_
  refine W_extract rfl rfl rfl ?_
  refine W_assign rfl rfl ?_
  refine W_assign rfl rfl ?_
  refine W_assign rfl rfl ?_
  refine W_nil ?_
  refine W_seq ?_
  refine W_block ?_
  refine W_sr ?_
  refine W_fieldAddr rfl fld27_0 (by decide) rfl ?_
  refine W_load rfl ty24 rfl (Cell.own zM rfl) rfl ?_
  refine W_move rfl rfl ?_
  refine W_callq (.cons rfl (.cons rfl .nil)) Tryd.call53 rfl (within_q hnl hk hx' (hrow'.up (by first | exact hsubI | (repeat (first | exact HSub.refl _ | refine HSub.cons zT ?_ | refine HSub.app (by repeat (first | exact TakeS.here _ | apply TakeS.next | apply TakeS.app)) ?_ | refine HSub.drop ?_ | refine HSub.dropS ?_ | exact HSub.nil _)))) hT) ?_
  refine W_not rfl rfl ?_
  refine W_assign rfl rfl ?_
  refine W_nil ?_
  refine W_condS rfl (fun c0 => ?_) (fun c0 => ?_)
  · skip
    refine W_sr ?_
    refine W_assign rfl rfl ?_
    refine W_nil ?_
    refine W_ret1m (H2 := H) Tryd.results34 rfl (.nil _) (by first | exact hsubI | (repeat (first | exact HSub.refl _ | refine HSub.cons zT ?_ | refine HSub.app (by repeat (first | exact TakeS.here _ | apply TakeS.next | apply TakeS.app)) ?_ | refine HSub.drop ?_ | refine HSub.dropS ?_ | exact HSub.nil _))) ?_
    have c0 : (!withinB x n k) = true := c0
    exact ⟨by unfold wrongE; rw [if_pos c0], rfl⟩
  · skip
    refine W_sr ?_
    refine W_fieldAddr rfl fld59_0 (by decide) rfl ?_
    refine W_load rfl ty3 rfl (Cell.own zM rfl) rfl ?_
    refine W_bin rfl rfl b_eql rfl ?_
    refine W_move rfl rfl ?_
    apply W_and
    iterate 4 exact rfl
    case h1 =>
      intro hg3
      refine W_gyes rfl rfl ?_
      refine W_move rfl rfl ?_
      refine W_gyes rfl rfl ?_
      refine W_not rfl rfl ?_
      exact W_met rfl zR
    refine W_assign rfl rfl ?_
    refine W_nil ?_
    refine W_condS rfl (fun c1 => ?_) (fun c1 => ?_)
    · skip
      refine W_sr ?_
      refine W_assign rfl rfl ?_
      refine W_nil ?_
      refine W_ret1m (H2 := H) Tryd.results34 rfl (.nil _) (by first | exact hsubI | (repeat (first | exact HSub.refl _ | refine HSub.cons zT ?_ | refine HSub.app (by repeat (first | exact TakeS.here _ | apply TakeS.next | apply TakeS.app)) ?_ | refine HSub.drop ?_ | refine HSub.dropS ?_ | exact HSub.nil _))) ?_
      have c0 : (!withinB x n k) = false := c0
      have c1 : (decide (x.op = 72) && !helpB x.imm) = true := c1
      exact ⟨by unfold wrongE; rw [if_neg (by rw [c0]; simp), if_pos c1], rfl⟩
    · skip
      refine W_sr ?_
      refine W_fieldAddr rfl fld59_0 (by decide) rfl ?_
      refine W_load rfl ty3 rfl (Cell.own zM rfl) rfl ?_
      refine W_bin rfl rfl b_eql rfl ?_
      refine W_move rfl rfl ?_
      apply W_and
      iterate 4 exact rfl
      case h1 =>
        intro hg3
        refine W_gyes rfl rfl ?_
        refine W_fieldAddr rfl fld59_4 (by decide) rfl ?_
        refine W_gyes rfl rfl ?_
        refine W_load rfl ty3 rfl (Cell.own zM rfl) rfl ?_
        refine W_gyes rfl rfl ?_
        refine W_bin rfl rfl b_eql rfl ?_
        exact W_met rfl zR
      refine W_move rfl rfl ?_
      apply W_and
      iterate 4 exact rfl
      case h1 =>
        intro hg8
        refine W_gyes rfl rfl ?_
        refine W_fieldAddr rfl fld27_1 (by decide) rfl ?_
        refine W_gyes rfl rfl ?_
        refine W_load rfl ty4 rfl (Cell.own zM rfl) rfl ?_
        refine W_gyes rfl rfl ?_
        refine W_not rfl rfl ?_
        exact W_met rfl zR
      refine W_assign rfl rfl ?_
      refine W_nil ?_
      refine W_condS rfl (fun c2 => ?_) (fun c2 => ?_)
      · skip
        refine W_sr ?_
        refine W_assign rfl rfl ?_
        refine W_nil ?_
        refine W_ret1m (H2 := H) Tryd.results34 rfl (.nil _) (by first | exact hsubI | (repeat (first | exact HSub.refl _ | refine HSub.cons zT ?_ | refine HSub.app (by repeat (first | exact TakeS.here _ | apply TakeS.next | apply TakeS.app)) ?_ | refine HSub.drop ?_ | refine HSub.dropS ?_ | exact HSub.nil _))) ?_
        have c0 : (!withinB x n k) = false := c0
        have c1 : (decide (x.op = 72) && !helpB x.imm) = false := c1
        have c2 : (decide (x.op = 72) && decide (x.imm = 16) && !sleeps) = true := c2
        exact ⟨by unfold wrongE; rw [if_neg (by rw [c0]; simp), if_neg (by rw [c1]; simp), if_pos c2], rfl⟩
      · skip
        refine W_sr ?_
        refine W_move rfl rfl ?_
        refine W_fieldAddr rfl fld27_0 (by decide) rfl ?_
        refine W_load rfl ty24 rfl (Cell.own zM rfl) rfl ?_
        refine W_len rfl ty24 rfl rfl ?_
        refine W_bin rfl rfl (b_sub (m := (n : Int) - 1) (i64w (by omega))) rfl ?_
        refine W_bin rfl rfl b_eql rfl ?_
        refine W_move rfl rfl ?_
        apply W_and
        iterate 4 exact rfl
        case h1 =>
          intro hg6
          refine W_gyes rfl rfl ?_
          refine W_fieldAddr rfl fld59_0 (by decide) rfl ?_
          refine W_gyes rfl rfl ?_
          refine W_load rfl ty3 rfl (Cell.own zM rfl) rfl ?_
          refine W_gyes rfl rfl ?_
          refine W_bin rfl rfl b_neq rfl ?_
          exact W_met rfl zR
        refine W_move rfl rfl ?_
        apply W_and
        iterate 4 exact rfl
        case h1 =>
          intro hg11
          refine W_gyes rfl rfl ?_
          refine W_fieldAddr rfl fld59_0 (by decide) rfl ?_
          refine W_gyes rfl rfl ?_
          refine W_load rfl ty3 rfl (Cell.own zM rfl) rfl ?_
          refine W_gyes rfl rfl ?_
          refine W_bin rfl rfl b_neq rfl ?_
          exact W_met rfl zR
        refine W_assign rfl rfl ?_
        refine W_nil ?_
        refine W_condS rfl (fun c3 => ?_) (fun c3 => ?_)
        · skip
          refine W_sr ?_
          refine W_assign rfl rfl ?_
          refine W_nil ?_
          refine W_ret1m (H2 := H) Tryd.results34 rfl (.nil _) (by first | exact hsubI | (repeat (first | exact HSub.refl _ | refine HSub.cons zT ?_ | refine HSub.app (by repeat (first | exact TakeS.here _ | apply TakeS.next | apply TakeS.app)) ?_ | refine HSub.drop ?_ | refine HSub.dropS ?_ | exact HSub.nil _))) ?_
          have c0 : (!withinB x n k) = false := c0
          have c1 : (decide (x.op = 72) && !helpB x.imm) = false := c1
          have c2 : (decide (x.op = 72) && decide (x.imm = 16) && !sleeps) = false := c2
          have c3 : (decide ((k : Int) = (n : Int) - 1) && decide (x.op ≠ 73) && decide (x.op ≠ 32)) = true := c3
          exact ⟨by unfold wrongE; rw [if_neg (by rw [c0]; simp), if_neg (by rw [c1]; simp), if_neg (by rw [c2]; simp), if_pos c3], rfl⟩
        · skip
          refine W_skip ?_
          refine W_blk ?_
          refine W_sr ?_
          refine W_assign rfl rfl ?_
          refine W_nil ?_
          refine W_ret1m (H2 := H) Tryd.results34 rfl (.nil _) (by first | exact hsubI | (repeat (first | exact HSub.refl _ | refine HSub.cons zT ?_ | refine HSub.app (by repeat (first | exact TakeS.here _ | apply TakeS.next | apply TakeS.app)) ?_ | refine HSub.drop ?_ | refine HSub.dropS ?_ | exact HSub.nil _))) ?_
          have c0 : (!withinB x n k) = false := c0
          have c1 : (decide (x.op = 72) && !helpB x.imm) = false := c1
          have c2 : (decide (x.op = 72) && decide (x.imm = 16) && !sleeps) = false := c2
          have c3 : (decide ((k : Int) = (n : Int) - 1) && decide (x.op ≠ 73) && decide (x.op ≠ 32)) = false := c3
          exact ⟨by unfold wrongE; rw [if_neg (by rw [c0]; simp), if_neg (by rw [c1]; simp), if_neg (by rw [c2]; simp), if_neg (by rw [c3]; simp)], rfl⟩
end Go.Proofs.YtcmfldfeakmdoaaDoor
namespace Go.Proofs.YtcmfldfeakmdoaaDoor
open Go Go.Sl
attribute [local irreducible] W
def ins0 : Ins := ⟨0, 0, 0, 0, 0⟩
def lookE (l : List Ins) (s : Bool) (j k : Nat) : Int :=
  if j = 0 then isaChk (l.getD k ins0) else if j = 1 then wrongE (l.getD k ins0) l.length k s else bif hasN (reachN l) k then 0 else 19
def firstE (f : Nat → Int) (n : Nat) : Option Nat := (List.range n).find? fun k => decide (f k ≠ 0)
def chkR (l : List Ins) (s : Bool) : Int × Int :=
  if l.length = 0 ∨ 64 < l.length then (0, 8) else match firstE (lookE l s 0) l.length with
    | some k => (k, lookE l s 0 k)
    | none => match firstE (lookE l s 1) l.length with
      | some k => (k, lookE l s 1 k)
      | none => match firstE (lookE l s 2) l.length with
        | some k => (k, lookE l s 2 k)
        | none => (0, 0)
theorem find_range {p : Nat → Bool} {n k : Nat} (hk : k < n) (hp : p k = true) (hb : ∀ i, i < k → p i = false) : (List.range n).find? p = some k := by
  rw [List.find?_range_eq_some]
  exact ⟨hp, List.mem_range.2 hk, fun i hi => by simp [hb i hi]⟩
theorem first_some {f : Nat → Int} {n k : Nat} (hk : k < n) (hp : f k ≠ 0) (hb : ∀ i, i < k → f i = 0) : firstE f n = some k := find_range hk (by simpa using hp) (fun i hi => by simp [hb i hi])
theorem first_none {f : Nat → Int} {n : Nat} (hb : ∀ i, i < n → f i = 0) : firstE f n = none := by
  unfold firstE
  rw [List.find?_eq_none]
  intro i hi
  simp [hb i (List.mem_range.1 hi)]
theorem chkR_long {l : List Ins} {s : Bool} (h : l.length = 0 ∨ 64 < l.length) : chkR l s = (0, 8) := if_pos h
theorem chkR_found {l : List Ins} {s : Bool} (h : ¬ (l.length = 0 ∨ 64 < l.length)) {j k : Nat} (hj : j < 3) (hall : ∀ j', j' < j → ∀ i, i < l.length → lookE l s j' i = 0) (hk : k < l.length) (hp : lookE l s j k ≠ 0) (hb : ∀ i, i < k → lookE l s j i = 0) : chkR l s = ((k : Int), lookE l s j k) := by
  unfold chkR
  rw [if_neg h]
  match j, hj with
  | 0, _ => rw [first_some hk hp hb]
  | 1, _ => rw [first_none (hall 0 (by omega)), first_some hk hp hb]
  | 2, _ => rw [first_none (hall 0 (by omega)), first_none (hall 1 (by omega)), first_some hk hp hb]
theorem chkR_right {l : List Ins} {s : Bool} (h : ¬ (l.length = 0 ∨ 64 < l.length)) (hall : ∀ j', j' < 3 → ∀ i, i < l.length → lookE l s j' i = 0) : chkR l s = (0, 0) := by
  unfold chkR
  rw [if_neg h, first_none (hall 0 (by omega)), first_none (hall 1 (by omega)), first_none (hall 2 (by omega))]
theorem getD_at {l : List Ins} {k : Nat} {x : Ins} (h : l[k]? = some x) : l.getD k ins0 = x := by simp [List.getD, h]
theorem look0 {l : List Ins} {s : Bool} {k : Nat} {x : Ins} (h : l[k]? = some x) : lookE l s 0 k = isaChk x := by unfold lookE; rw [if_pos rfl, getD_at h]
theorem look1 {l : List Ins} {s : Bool} {k : Nat} {x : Ins} (h : l[k]? = some x) : lookE l s 1 k = wrongE x l.length k s := by unfold lookE; rw [if_neg (by decide), if_pos rfl, getD_at h]
theorem look2 {l : List Ins} {s : Bool} {k : Nat} : lookE l s 2 k = bif hasN (reachN l) k then 0 else 19 := by unfold lookE; rw [if_neg (by decide), if_neg (by decide)]
theorem call_look (j : Nat) (args : Array Value) (w : World) : (callFunc (if j = 0 then 31 else if j = 1 then 33 else 35) args).run Tryd.prog w = .ok (.enter (if j = 0 then 31 else if j = 1 then 33 else 35) args) w := by
  by_cases h : j = 0
  · rw [if_pos h]; exact Tryd.call31 _ _
  · rw [if_neg h]
    by_cases h1 : j = 1
    · rw [if_pos h1]; exact Tryd.call33 _ _
    · rw [if_neg h1]; exact Tryd.call35 _ _
set_option maxHeartbeats 1000000 in
theorem look0_q {w0 : World} {H : Heap} {l : List Ins} {s : Bool} {ad : Option Addr} {cap b1 k : Nat} (hl : InsOk l) (hn : l.length ≤ 1000000) (hk : k < l.length) (hrow : Holds w0 H ad (insRow l)) (hcl : Cells w0 H b1 0 [.slice ad l.length cap, .bool s]) (hT : Tab w0) : PureAt Tryd.prog w0 H 31 [.int .i64 (k : Int), .pointer (some ⟨b1, 0, none⟩)] (.int .i64 (lookE l s 0 k)) := by
  obtain ⟨x, hx⟩ : ∃ x, l[k]? = some x := ⟨_, List.getElem?_eq_getElem hk⟩
  obtain ⟨b, o, rfl, hc⟩ := hrow.row cells_len (by decide) hx
  refine L_enter Tryd.func31 rfl Tryd.ntmps31 rfl rfl ?_
  refine W_sr ?_
  refine W_assign rfl rfl ?_
  refine W_nil ?_
  refine W_sr ?_
  refine W_fieldAddr rfl fld27_0 (by decide) rfl ?_
  refine W_load rfl ty24 rfl (hcl 0 _ rfl) rfl ?_
  refine W_move rfl rfl ?_
  refine W_indexAddr (j := k) rfl rfl ty24 ty59 rfl hk rfl rfl ?_
  refine W_loadA rfl ty59 rfl (vs := [.int .i64 x.op, .int .i64 x.dst, .int .i64 x.src, .int .i64 x.off, .int .i64 x.imm]) rfl hc rfl ?_
  refine W_callp (.cons rfl .nil) Tryd.call32 rfl hT (isaChk_pure _) ?_
  refine W_assign rfl rfl ?_
  refine W_nil ?_
  refine W_ret1m (H2 := H) Tryd.results31 rfl (.nil _) (by first | exact hsubI | (repeat (first | exact HSub.refl _ | refine HSub.cons zT ?_ | refine HSub.app (by repeat (first | exact TakeS.here _ | apply TakeS.next | apply TakeS.app)) ?_ | refine HSub.drop ?_ | refine HSub.dropS ?_ | exact HSub.nil _))) ?_
  exact ⟨by rw [look0 hx], rfl⟩
set_option maxHeartbeats 1000000 in
theorem look1_q {w0 : World} {H : Heap} {l : List Ins} {s : Bool} {ad : Option Addr} {cap b1 k : Nat} (hl : InsOk l) (hn : l.length ≤ 1000000) (hk : k < l.length) (hrow : Holds w0 H ad (insRow l)) (hcl : Cells w0 H b1 0 [.slice ad l.length cap, .bool s]) (hT : Tab w0) : PureAt Tryd.prog w0 H 33 [.int .i64 (k : Int), .pointer (some ⟨b1, 0, none⟩)] (.int .i64 (lookE l s 1 k)) := by
  obtain ⟨x, hx⟩ : ∃ x, l[k]? = some x := ⟨_, List.getElem?_eq_getElem hk⟩
  refine L_enter Tryd.func33 rfl Tryd.ntmps33 rfl rfl ?_
  refine W_sr ?_
  refine W_assign rfl rfl ?_
  refine W_nil ?_
  refine W_sr ?_
  refine W_loadA rfl ty27 rfl (vs := [.slice ad l.length cap, .bool s]) rfl hcl rfl ?_
  refine W_move rfl rfl ?_
  refine W_callq (.cons rfl (.cons rfl .nil)) Tryd.call34 rfl (wrong_q rfl hn hk hx (hl x (List.mem_of_getElem? hx)) hrow hT) ?_
  refine W_assign rfl rfl ?_
  refine W_nil ?_
  refine W_ret1m (H2 := H) Tryd.results33 rfl (.nil _) (by first | exact hsubI | (repeat (first | exact HSub.refl _ | refine HSub.cons zT ?_ | refine HSub.app (by repeat (first | exact TakeS.here _ | apply TakeS.next | apply TakeS.app)) ?_ | refine HSub.drop ?_ | refine HSub.dropS ?_ | exact HSub.nil _))) ?_
  exact ⟨by rw [look1 hx], rfl⟩
set_option maxHeartbeats 1000000 in
theorem look2_q {w0 : World} {H : Heap} {l : List Ins} {s : Bool} {b4 k : Nat} (hcm : Cell w0 H b4 0 (.int .u64 ((reachN l : Nat) : Int))) (hT : Tab w0) : PureAt Tryd.prog w0 H 35 [.int .i64 (k : Int), .pointer (some ⟨b4, 0, none⟩)] (.int .i64 (lookE l s 2 k)) := by
  refine L_enter Tryd.func35 rfl Tryd.ntmps35 rfl rfl ?_
  refine W_sr ?_
  refine W_assign rfl rfl ?_
  refine W_nil ?_
  refine W_seq ?_
  refine W_sr ?_
  refine W_load rfl ty87 rfl hcm rfl ?_
  refine W_move rfl rfl ?_
  refine W_callp (.cons rfl (.cons rfl .nil)) Tryd.call36 rfl hT (has_m _ _ (reachN_ok l)) ?_
  refine W_not rfl rfl ?_
  refine W_nil ?_
  refine W_condS rfl (fun c0 => ?_) (fun c0 => ?_)
  · skip
    refine W_sr ?_
    refine W_assign rfl rfl ?_
    refine W_nil ?_
    refine W_ret1m (H2 := H) Tryd.results35 rfl (.nil _) (by first | exact hsubI | (repeat (first | exact HSub.refl _ | refine HSub.cons zT ?_ | refine HSub.app (by repeat (first | exact TakeS.here _ | apply TakeS.next | apply TakeS.app)) ?_ | refine HSub.drop ?_ | refine HSub.dropS ?_ | exact HSub.nil _))) ?_
    exact ⟨by rw [look2, show hasN (reachN l) k = false by simpa using c0]; rfl, rfl⟩
  · skip
    refine W_skip ?_
    refine W_sr ?_
    refine W_assign rfl rfl ?_
    refine W_nil ?_
    refine W_ret1m (H2 := H) Tryd.results35 rfl (.nil _) (by first | exact hsubI | (repeat (first | exact HSub.refl _ | refine HSub.cons zT ?_ | refine HSub.app (by repeat (first | exact TakeS.here _ | apply TakeS.next | apply TakeS.app)) ?_ | refine HSub.drop ?_ | refine HSub.dropS ?_ | exact HSub.nil _))) ?_
    exact ⟨by rw [look2, show hasN (reachN l) k = true by simpa using c0]; rfl, rfl⟩
set_option maxHeartbeats 4000000 in
theorem check_q {w0 : World} {H : Heap} {l : List Ins} {s : Bool} {ad : Option Addr} {cap : Nat} (hl : InsOk l) (hn : l.length ≤ 1000000) (hcap : l.length ≤ cap) (hrow : Holds w0 H ad (insRow l)) (hT : Tab w0) : PureAt Tryd.prog w0 H 10 [.agg #[.slice ad l.length cap, .bool s]] (.tuple #[.int .i64 (chkR l s).1, .int .i64 (chkR l s).2]) := by
  refine L_enter Tryd.func10 rfl Tryd.ntmps10 rfl rfl ?_
  refine W_sr ?_
  refine W_box rfl rfl rfl (fun b1 => ?_)
  refine W_assign rfl rfl ?_
  refine W_assign rfl rfl ?_
  refine W_nil ?_
  refine W_scope (fun _ _ _ h => h) ?_
  refine W_seq ?_
  refine W_sr ?_
  refine W_fieldAddr rfl fld27_0 (by decide) rfl ?_
  refine W_load rfl ty24 rfl (Cell.own zM rfl) rfl ?_
  refine W_len rfl ty24 rfl rfl ?_
  refine W_bin rfl rfl b_eql rfl ?_
  refine W_move rfl rfl ?_
  apply W_or
  iterate 4 exact rfl
  case h1 =>
    intro hg4
    refine W_gyes rfl rfl ?_
    refine W_fieldAddr rfl fld27_0 (by decide) rfl ?_
    refine W_gyes rfl rfl ?_
    refine W_load rfl ty24 rfl (Cell.own zM rfl) rfl ?_
    refine W_gyes rfl rfl ?_
    refine W_len rfl ty24 rfl rfl ?_
    refine W_gyes rfl rfl ?_
    refine W_bin rfl rfl b_gtr rfl ?_
    exact W_met rfl zR
  refine W_nil ?_
  refine W_condPS (p := (l.length : Int) = 0 ∨ 64 < (l.length : Int)) rfl (by simp only [Bool.or_eq_true, decide_eq_true_eq]) (fun c0 => ?_) (fun c0 => ?_)
  · skip
    refine W_sr ?_
    refine W_assign rfl rfl ?_
    refine W_assign rfl rfl ?_
    refine W_nil ?_
    refine W_ret2m (H2 := H) Tryd.results10 rfl rfl (.nil _) (by first | exact hsubI | (repeat (first | exact HSub.refl _ | refine HSub.cons zT ?_ | refine HSub.app (by repeat (first | exact TakeS.here _ | apply TakeS.next | apply TakeS.app)) ?_ | refine HSub.drop ?_ | refine HSub.dropS ?_ | exact HSub.nil _))) ?_
    exact ⟨by rw [chkR_long (by omega)], rfl⟩
  · skip
    refine W_skip ?_
    refine W_sr ?_
    refine W_alloc ty87 rfl rfl (fun b4 => ?_)
    refine W_store rfl rfl ty87 rfl rfl zM rfl rfl zU ?_
    refine W_nil ?_
    refine W_sr ?_
    refine W_makeFunc .nil (.cons rfl .nil) rfl ?_
    refine W_makeFunc .nil (.cons rfl .nil) rfl ?_
    refine W_makeFunc .nil (.cons rfl .nil) rfl ?_
    refine W_buildSlice (l := [.func (.func 31) #[] #[.pointer (some ⟨b1, 0, none⟩)], .func (.func 33) #[] #[.pointer (some ⟨b1, 0, none⟩)], .func (.func 35) #[] #[.pointer (some ⟨b4, 0, none⟩)]]) ty92 ty89 (.cons rfl rfl rfl rfl rfl (.cons rfl rfl rfl rfl rfl (.cons rfl rfl rfl rfl rfl .nil))) rfl rfl rfl rfl rfl rfl rfl (fun b25 => ?_)
    refine W_assign rfl rfl ?_
    refine W_nil ?_
    refine W_sr ?_
    refine W_assign rfl rfl ?_
    refine W_assign rfl rfl ?_
    refine W_nil ?_
    refine W_seq ?_
    refine W_label ?_
    refine W_seq ?_
    refine W_sr ?_
    refine W_move rfl rfl ?_
    refine W_len rfl ty92 rfl rfl ?_
    refine W_move rfl rfl ?_
    refine W_nil ?_
    refine W_block ?_
    refine W_loopD (X := Nat × Nat) (fun | (j, _) => [(1, .pointer (some ⟨b1, 0, none⟩)), (4, .pointer (some ⟨b4, 0, none⟩)), (5, .slice (some ⟨b25, 0, none⟩) 3 3), (6, .int .i64 0), (7, .int .i64 0), (26, .slice (some ⟨b25, 0, none⟩) 3 3), (27, .int .i64 3), (28, .int .i64 (j : Int))]) (fun _ => []) (fun | (_, m) => (b25, .cells 89 3 [.func (.func 31) #[] #[.pointer (some ⟨b1, 0, none⟩)], .func (.func 33) #[] #[.pointer (some ⟨b1, 0, none⟩)], .func (.func 35) #[] #[.pointer (some ⟨b4, 0, none⟩)]]) :: (b4, .cells 87 1 [.int .u64 ((m : Nat) : Int)]) :: (b1, .cells 27 2 [.slice ad l.length cap, .bool s]) :: H) (fun | (j, m) => j ≤ 3 ∧ (j ≤ 2 → m = 0) ∧ ∀ j', j' < j → ∀ i, i < l.length → lookE l s j' i = 0) (fun | (j, _) => 3 - j) (0, 0) ⟨by omega, fun _ => rfl, fun j' hj => absurd hj (by omega)⟩ (sub_cons rfl (sub_cons rfl (sub_cons rfl (sub_cons rfl (sub_cons rfl (sub_cons rfl (sub_cons rfl (sub_cons rfl (sub_nil _))))))))) rfl (by first | exact hsubI | (repeat (first | exact HSub.refl _ | refine HSub.cons zT ?_ | refine HSub.app (by repeat (first | exact TakeS.here _ | apply TakeS.next | apply TakeS.app)) ?_ | refine HSub.drop ?_ | refine HSub.dropS ?_ | exact HSub.nil _))) ?_
    rintro ⟨j, m⟩ ⟨hj, hm, hall⟩
    simp only
    refine W_sr ?_
    refine W_bin rfl rfl b_lss rfl ?_
    refine W_nil ?_
    refine W_seq ?_
    refine W_condPS (p := (j : Int) < 3) rfl (by simp) (fun c1 => ?_) (fun c1 => ?_)
    · skip
      refine W_skip ?_
      refine W_seq ?_
      refine W_block ?_
      refine W_sr ?_
      obtain ⟨fv, hfv, hlook⟩ : ∃ fv, ([.func (.func 31) #[] #[.pointer (some ⟨b1, 0, none⟩)], .func (.func 33) #[] #[.pointer (some ⟨b1, 0, none⟩)], .func (.func 35) #[] #[.pointer (some ⟨b4, 0, none⟩)]] : List Value)[j]? = some fv ∧ True := ⟨_, List.getElem?_eq_getElem (by show j < 3; omega), trivial⟩
      refine W_move rfl rfl ?_
      refine W_indexAddr (j := j) rfl rfl ty92 ty89 rfl (by omega) rfl rfl ?_
      refine W_load rfl ty89 rfl (Cell.own zM (by rw [Nat.zero_add, Nat.mul_one]; exact hfv)) rfl ?_
      refine W_assign rfl rfl ?_
      refine W_assign rfl rfl ?_
      refine W_nil ?_
      refine W_seq ?_
      refine W_sr ?_
      refine W_move rfl rfl ?_
      refine W_move rfl rfl ?_
      refine W_len rfl ty92 rfl rfl ?_
      refine W_bin rfl rfl (b_sub (m := 2) (i64w (by omega))) rfl ?_
      refine W_bin rfl rfl b_eql rfl ?_
      refine W_nil ?_
      refine W_condJ (p := (j : Int) = 2) [(1, .pointer (some ⟨b1, 0, none⟩)), (4, .pointer (some ⟨b4, 0, none⟩)), (5, .slice (some ⟨b25, 0, none⟩) 3 3), (6, .int .i64 0), (7, .int .i64 0), (26, .slice (some ⟨b25, 0, none⟩) 3 3), (27, .int .i64 3), (28, .int .i64 (j : Int)), (8, .int .i64 (j : Int)), (9, fv)] ((b25, .cells 89 3 [.func (.func 31) #[] #[.pointer (some ⟨b1, 0, none⟩)], .func (.func 33) #[] #[.pointer (some ⟨b1, 0, none⟩)], .func (.func 35) #[] #[.pointer (some ⟨b4, 0, none⟩)]]) :: (b4, .cells 87 1 [.int .u64 (((bif decide (j = 2) then reachN l else 0) : Nat) : Int)]) :: (b1, .cells 27 2 [.slice ad l.length cap, .bool s]) :: H) rfl (by simp) (fun c2 => ?_) (fun c2 => ?_) ?_
      · skip
        refine W_region ?_
        refine W_fieldAddr rfl fld27_0 (by decide) rfl ?_
        refine W_load rfl ty24 rfl (Cell.own zM rfl) rfl ?_
        refine W_callq (.cons rfl .nil) Tryd.call37 rfl (reached_q l hl (by omega) hcap (hrow.up (by first | exact hsubI | (repeat (first | exact HSub.refl _ | refine HSub.cons zT ?_ | refine HSub.app (by repeat (first | exact TakeS.here _ | apply TakeS.next | apply TakeS.app)) ?_ | refine HSub.drop ?_ | refine HSub.dropS ?_ | exact HSub.nil _)))) hT) ?_
        refine W_store rfl rfl ty87 rfl rfl zM rfl rfl zU ?_
        refine W_nil ?_
        refine W_joined (sub_cons rfl (sub_cons rfl (sub_cons rfl (sub_cons rfl (sub_cons rfl (sub_cons rfl (sub_cons rfl (sub_cons rfl (sub_cons rfl (sub_cons rfl (sub_nil _))))))))))) (by rw [show decide (j = 2) = true from decide_eq_true (by omega)]; exact .refl _)
      · skip
        refine W_skip ?_
        refine W_joined (sub_cons rfl (sub_cons rfl (sub_cons rfl (sub_cons rfl (sub_cons rfl (sub_cons rfl (sub_cons rfl (sub_cons rfl (sub_cons rfl (sub_cons rfl (sub_nil _))))))))))) (by rw [show decide (j = 2) = false from decide_eq_false (by omega), hm (by omega)]; exact .refl _)
      obtain ⟨m2, hm2e⟩ : ∃ m2, m2 = (bif decide (j = 2) then reachN l else 0) := ⟨_, rfl⟩
      rw [← hm2e]
      have hm2 : j + 1 ≤ 2 → m2 = 0 := fun h => by rw [hm2e, decide_eq_false (by omega)]; rfl
      have hm3 : j = 2 → m2 = reachN l := fun h => by rw [hm2e, decide_eq_true h]; rfl
      refine W_sr ?_
      refine W_fieldAddr rfl fld27_0 (by decide) rfl ?_
      refine W_load rfl ty24 rfl (Cell.own zM rfl) rfl ?_
      refine W_len rfl ty24 rfl rfl ?_
      refine W_move rfl rfl ?_
      refine W_nil ?_
      refine W_block ?_
      refine W_loopD (X := Nat) (fun k => [(1, .pointer (some ⟨b1, 0, none⟩)), (4, .pointer (some ⟨b4, 0, none⟩)), (5, .slice (some ⟨b25, 0, none⟩) 3 3), (6, .int .i64 0), (7, .int .i64 0), (26, .slice (some ⟨b25, 0, none⟩) 3 3), (27, .int .i64 3), (8, .int .i64 (j : Int)), (9, fv), (28, .int .i64 (j : Int)), (43, .int .i64 (l.length : Int)), (44, .int .i64 (k : Int))]) (fun _ => []) (fun _ => (b25, .cells 89 3 [.func (.func 31) #[] #[.pointer (some ⟨b1, 0, none⟩)], .func (.func 33) #[] #[.pointer (some ⟨b1, 0, none⟩)], .func (.func 35) #[] #[.pointer (some ⟨b4, 0, none⟩)]]) :: (b4, .cells 87 1 [.int .u64 ((m2 : Nat) : Int)]) :: (b1, .cells 27 2 [.slice ad l.length cap, .bool s]) :: H) (fun k => k ≤ l.length ∧ ∀ i, i < k → lookE l s j i = 0) (fun k => l.length - k) 0 ⟨by omega, fun i hi => absurd hi (by omega)⟩ (sub_cons rfl (sub_cons rfl (sub_cons rfl (sub_cons rfl (sub_cons rfl (sub_cons rfl (sub_cons rfl (sub_cons rfl (sub_cons rfl (sub_cons rfl (sub_cons rfl (sub_cons rfl (sub_nil _))))))))))))) rfl (by first | exact hsubI | (repeat (first | exact HSub.refl _ | refine HSub.cons zT ?_ | refine HSub.app (by repeat (first | exact TakeS.here _ | apply TakeS.next | apply TakeS.app)) ?_ | refine HSub.drop ?_ | refine HSub.dropS ?_ | exact HSub.nil _))) ?_
      rintro k ⟨hk, hno⟩
      refine W_sr ?_
      refine W_bin rfl rfl b_lss rfl ?_
      refine W_nil ?_
      refine W_seq ?_
      refine W_condPS (p := (k : Int) < (l.length : Int)) rfl (by simp) (fun c3 => ?_) (fun c3 => ?_)
      · skip
        refine W_skip ?_
        refine W_seq ?_
        refine W_block ?_
        refine W_sr ?_
        refine W_move rfl rfl ?_
        refine W_assign rfl rfl ?_
        refine W_nil ?_
        refine W_sr ?_
        refine W_move rfl rfl ?_
        refine W_move rfl rfl ?_
        have hkl : k < l.length := by omega
        have hlk : PureAt Tryd.prog w0 ((b25, .cells 89 3 [.func (.func 31) #[] #[.pointer (some ⟨b1, 0, none⟩)], .func (.func 33) #[] #[.pointer (some ⟨b1, 0, none⟩)], .func (.func 35) #[] #[.pointer (some ⟨b4, 0, none⟩)]]) :: (b4, .cells 87 1 [.int .u64 ((m2 : Nat) : Int)]) :: (b1, .cells 27 2 [.slice ad l.length cap, .bool s]) :: H) (if j = 0 then 31 else if j = 1 then 33 else 35) [.int .i64 (k : Int), .pointer (some ⟨(if j = 2 then b4 else b1), 0, none⟩)] (.int .i64 (lookE l s j k)) ∧ fv = .func (.func (if j = 0 then 31 else if j = 1 then 33 else 35)) #[] #[.pointer (some ⟨(if j = 2 then b4 else b1), 0, none⟩)] := by
          have hcp : Cells w0 ((b25, .cells 89 3 [.func (.func 31) #[] #[.pointer (some ⟨b1, 0, none⟩)], .func (.func 33) #[] #[.pointer (some ⟨b1, 0, none⟩)], .func (.func 35) #[] #[.pointer (some ⟨b4, 0, none⟩)]]) :: (b4, .cells 87 1 [.int .u64 ((m2 : Nat) : Int)]) :: (b1, .cells 27 2 [.slice ad l.length cap, .bool s]) :: H) b1 0 [.slice ad l.length cap, .bool s] := Cells.own (e := 27) (tot := 2) zM rfl
          match j, (show j < 3 by omega) with
          | 0, _ => exact ⟨look0_q hl (by omega) hkl (hrow.up (by first | exact hsubI | (repeat (first | exact HSub.refl _ | refine HSub.cons zT ?_ | refine HSub.app (by repeat (first | exact TakeS.here _ | apply TakeS.next | apply TakeS.app)) ?_ | refine HSub.drop ?_ | refine HSub.dropS ?_ | exact HSub.nil _)))) hcp hT, (Option.some.inj hfv).symm⟩
          | 1, _ => exact ⟨look1_q hl (by omega) hkl (hrow.up (by first | exact hsubI | (repeat (first | exact HSub.refl _ | refine HSub.cons zT ?_ | refine HSub.app (by repeat (first | exact TakeS.here _ | apply TakeS.next | apply TakeS.app)) ?_ | refine HSub.drop ?_ | refine HSub.dropS ?_ | exact HSub.nil _)))) hcp hT, (Option.some.inj hfv).symm⟩
          | 2, _ => exact ⟨look2_q (by rw [← hm3 rfl]; exact Cell.own (e := 87) (tot := 1) zM rfl) hT, (Option.some.inj hfv).symm⟩
        obtain ⟨hlk, rfl⟩ := hlk
        refine W_callqv (fa := []) (ca := [.pointer (some ⟨(if j = 2 then b4 else b1), 0, none⟩)]) rfl (.cons rfl .nil) rfl (call_look j) rfl hlk ?_
        refine W_assign rfl rfl ?_
        refine W_nil ?_
        refine W_sr ?_
        refine W_move rfl rfl ?_
        refine W_bin rfl rfl b_neq rfl ?_
        refine W_nil ?_
        refine W_condPS (p := lookE l s j k ≠ 0) rfl (by simp) (fun c4 => ?_) (fun c4 => ?_)
        · skip
          refine W_sr ?_
          refine W_move rfl rfl ?_
          refine W_move rfl rfl ?_
          refine W_assign rfl rfl ?_
          refine W_assign rfl rfl ?_
          refine W_nil ?_
          refine W_exit rfl ?_
          refine W_sr ?_
          refine W_move rfl rfl ?_
          refine W_move rfl rfl ?_
          refine W_assign rfl rfl ?_
          refine W_assign rfl rfl ?_
          refine W_nil ?_
          refine W_ret2m (H2 := H) Tryd.results10 rfl rfl (.nil _) (by first | exact hsubI | (repeat (first | exact HSub.refl _ | refine HSub.cons zT ?_ | refine HSub.app (by repeat (first | exact TakeS.here _ | apply TakeS.next | apply TakeS.app)) ?_ | refine HSub.drop ?_ | refine HSub.dropS ?_ | exact HSub.nil _))) ?_
          exact ⟨by rw [chkR_found (by omega) (by omega) hall hkl c4 hno], rfl⟩
        · skip
          refine W_skip ?_
          refine W_blk ?_
          refine W_region ?_
          refine W_bin rfl rfl (b_add (m := ((k + 1 : Nat) : Int)) ((i64w (by omega)).trans (by omega))) rfl ?_
          refine W_move rfl rfl ?_
          refine W_nil ?_
          refine W_again (k + 1) ⟨by omega, fun i hi => by rcases Nat.lt_or_ge i k with h | h; exact hno i h; obtain rfl : i = k := (by omega); exact Decidable.not_not.1 c4⟩ (by omega) (sub_cons rfl (sub_cons rfl (sub_cons rfl (sub_cons rfl (sub_cons rfl (sub_cons rfl (sub_cons rfl (sub_cons rfl (sub_cons rfl (sub_cons rfl (sub_cons rfl (sub_cons rfl (sub_nil _))))))))))))) rfl (by first | exact hsubI | (repeat (first | exact HSub.refl _ | refine HSub.cons zT ?_ | refine HSub.app (by repeat (first | exact TakeS.here _ | apply TakeS.next | apply TakeS.app)) ?_ | refine HSub.drop ?_ | refine HSub.dropS ?_ | exact HSub.nil _)))
      · skip
        refine W_exit rfl ?_
        refine W_blk ?_
        refine W_region ?_
        refine W_bin rfl rfl (b_add (m := ((j + 1 : Nat) : Int)) ((i64w (by omega)).trans (by omega))) rfl ?_
        refine W_move rfl rfl ?_
        refine W_nil ?_
        refine W_again (j + 1, m2) ⟨by omega, fun h => hm2 (by omega), fun j' hj' i hi => by rcases Nat.lt_or_ge j' j with h | h; exact hall j' h i hi; obtain rfl : j' = j := (by omega); exact hno i (by omega)⟩ (by dsimp only; omega) (sub_cons rfl (sub_cons rfl (sub_cons rfl (sub_cons rfl (sub_cons rfl (sub_cons rfl (sub_cons rfl (sub_cons rfl (sub_nil _))))))))) rfl (by first | exact hsubI | (repeat (first | exact HSub.refl _ | refine HSub.cons zT ?_ | refine HSub.app (by repeat (first | exact TakeS.here _ | apply TakeS.next | apply TakeS.app)) ?_ | refine HSub.drop ?_ | refine HSub.dropS ?_ | exact HSub.nil _)))
    · skip
      refine W_exit rfl ?_
      refine W_sr ?_
      refine W_move rfl rfl ?_
      refine W_move rfl rfl ?_
      refine W_assign rfl rfl ?_
      refine W_assign rfl rfl ?_
      refine W_nil ?_
      refine W_ret2m (H2 := H) Tryd.results10 rfl rfl (.nil _) (by first | exact hsubI | (repeat (first | exact HSub.refl _ | refine HSub.cons zT ?_ | refine HSub.app (by repeat (first | exact TakeS.here _ | apply TakeS.next | apply TakeS.app)) ?_ | refine HSub.drop ?_ | refine HSub.dropS ?_ | exact HSub.nil _))) ?_
      obtain rfl : j = 3 := by omega
      exact ⟨by rw [chkR_right (by omega) hall], rfl⟩
end Go.Proofs.YtcmfldfeakmdoaaDoor
namespace Go.Proofs.YtcmfldfeakmdoaaDoor
open Go Go.Sl
attribute [local irreducible] W
def oneX (r : Vs) (x : Ins) : Vs :=
  if r.fuel = 0 then endF r 16
  else if x.op = 73 then { endF { r with fuel := r.fuel - 1 } 0 with res := (rdV r.V false 0).1.n }
  else if x.op = 72 then askF { r with fuel := r.fuel - 1 } { argsT r.V with kind := 2, helper := x.imm }
  else if x.op = 66 ∨ x.op = 67 then valueF { r with fuel := r.fuel - 1 } x
  else if cls x.op = 2 then jumpF { r with fuel := r.fuel - 1 } x
  else nextF { r with V := (doV r.V x).1, fuel := r.fuel - 1 } (doV r.V x).2
theorem valueF_V (r : Vs) (x : Ins) : (valueF r x).V = r.V := by
  unfold valueF askF endF; repeat' split
  all_goals rfl
theorem nextF_V (r : Vs) (e : Int) : (nextF r e).V = r.V := by
  unfold nextF endF; repeat' split
  all_goals rfl
set_option maxHeartbeats 4000000 in
theorem rone_L {w0 : World} {H : Heap} {br bf n cap : Nat} {ad : Option Addr} {r : Vs} {l : List Ins} {k : Nat} {x : Ins} (hn : n = l.length) (hV : r.V.length = 18) (hk : r.at_ = (k : Int)) (hx : l[k]? = some x) (hkb : k ≤ 100000) (hop : -9223372036854775808 ≤ x.op ∧ x.op ≤ 9223372036854775807) (hW : ∀ v ∈ r.V, 0 ≤ v.n) (hf : 0 ≤ r.fuel ∧ r.fuel ≤ 1000) (hto : cls x.op = 2 → -1 ≤ r.at_ + x.off ∧ r.at_ + x.off ≤ 1000000) (hrow : Holds w0 H ad (insRow l)) (hT : Tab w0) : LCalls Tryd.prog w0 38 #[.pointer (some ⟨br, 0, none⟩)] ((br, .cells 86 42 (runC bf ad n cap r)) :: (bf, .cells 101 90 (vaRow (r).V)) :: H) (fun _ H' => H' = (br, .cells 86 42 (runC bf ad n cap (oneX r x))) :: (bf, .cells 101 90 (vaRow (oneX r x).V)) :: H) := by
  have hlt : k < l.length := (List.getElem?_eq_some_iff.1 hx).1
  obtain ⟨b, o, hAd, hc⟩ := hrow.row cells_len (by decide) hx
  refine L_enter (l := [.pointer (some ⟨br, 0, none⟩)]) Tryd.func38 rfl Tryd.ntmps38 rfl rfl ?_
  refine W_seq ?_
  refine W_sr ?_
  refine W_move rfl rfl ?_
  refine W_nilCheck rfl rfl ?_
  refine W_fieldAddr rfl fld86_3 (by decide) rfl ?_
  refine W_load (v := .int .i64 r.fuel) rfl ty3 rfl (Cell.own (b := br) zM rfl) rfl ?_
  refine W_bin rfl rfl b_eql rfl ?_
  refine W_nil ?_
  refine W_condPS (p := r.fuel = 0) rfl (by simp) (fun c0 => ?_) (fun c0 => ?_)
  · skip
    refine W_sr ?_
    refine W_move rfl rfl ?_
    refine W_call (.cons rfl (.cons rfl .nil)) Tryd.call41 rfl ((rend_L (H := (bf, .cells 101 90 (vaRow r.V)) :: H) (r := r) (e := 16)).hsub zH) ?_
    rintro v H' rfl
    refine W_nil ?_
    refine W_ret0m (H2 := (br, .cells 86 42 (runC bf ad n cap (endF r 16))) :: (bf, .cells 101 90 (vaRow r.V)) :: H) Tryd.results38 (.nil _) zH ?_
    unfold oneX
    rw [if_pos c0]
    all_goals rfl
  · skip
    refine W_skip ?_
    refine W_sr ?_
    refine W_move rfl rfl ?_
    refine W_nilCheck rfl rfl ?_
    refine W_fieldAddr rfl fld86_3 (by decide) rfl ?_
    refine W_load (v := .int .i64 r.fuel) rfl ty3 rfl (Cell.own (b := br) zM rfl) rfl ?_
    refine W_bin rfl rfl (b_sub (m := r.fuel - 1) (by rw [i64w (by omega)])) rfl ?_
    refine W_nilCheck rfl rfl ?_
    refine W_fieldAddr rfl fld86_3 (by decide) rfl ?_
    refine W_store (l' := runC bf ad n cap { r with fuel := r.fuel - 1 }) rfl rfl ty3 rfl rfl (b := br) zM rfl rfl zU ?_
    refine W_nil ?_
    refine W_seq ?_
    refine W_anyC ((br, .cells 86 42 (runC bf ad n cap { r with fuel := r.fuel - 1 })) :: (bf, .cells 101 90 (vaRow r.V)) :: H) (by kernel_rfl) ?_
    refine WC_take 0 (l' := #[true, false, false, false, false, false, false, false, false, false, false, false]) rfl (by decide +kernel) (by decide +kernel) (by decide +kernel) rfl (by decide +kernel) (X_move rfl) rfl ?_
    refine WC_take 1 (l' := #[true, true, false, false, false, false, false, false, false, false, false, false]) rfl (by decide +kernel) (by decide +kernel) (by decide +kernel) rfl (by decide +kernel) (X_nilCheck rfl) rfl ?_
    refine WC_take 2 (l' := #[true, true, true, false, false, false, false, false, false, false, false, false]) rfl (by decide +kernel) (by decide +kernel) (by decide +kernel) rfl (by decide +kernel) (X_fieldAddr rfl fld86_1 (by decide)) rfl ?_
    refine WC_take 3 (l' := #[true, true, true, true, false, false, false, false, false, false, false, false]) rfl (by decide +kernel) (by decide +kernel) (by decide +kernel) rfl (by decide +kernel) (X_load (v := .slice (some ⟨b, o, none⟩) n cap) rfl ty24 rfl (Cell.own (b := br) zM (by rw [← hAd]; rfl))) rfl ?_
    refine WC_take 4 (l' := #[true, true, true, true, true, false, false, false, false, false, false, false]) rfl (by decide +kernel) (by decide +kernel) (by decide +kernel) rfl (by decide +kernel) (X_move rfl) rfl ?_
    refine WC_take 5 (l' := #[true, true, true, true, true, true, false, false, false, false, false, false]) rfl (by decide +kernel) (by decide +kernel) (by decide +kernel) rfl (by decide +kernel) (X_nilCheck rfl) rfl ?_
    refine WC_take 6 (l' := #[true, true, true, true, true, true, true, false, false, false, false, false]) rfl (by decide +kernel) (by decide +kernel) (by decide +kernel) rfl (by decide +kernel) (X_fieldAddr rfl fld86_2 (by decide)) rfl ?_
    refine WC_take 7 (l' := #[true, true, true, true, true, true, true, true, false, false, false, false]) rfl (by decide +kernel) (by decide +kernel) (by decide +kernel) rfl (by decide +kernel) (X_load (v := .int .i64 (k : Int)) rfl ty3 rfl (Cell.own (b := br) zM (by rw [← hk]; rfl))) rfl ?_
    refine WC_take 8 (l' := #[true, true, true, true, true, true, true, true, true, false, false, false]) rfl (by decide +kernel) (by decide +kernel) (by decide +kernel) rfl (by decide +kernel) (X_indexAddr (j := k) rfl rfl ty24 ty59 rfl (by omega) rfl) rfl ?_
    refine WC_take 9 (l' := #[true, true, true, true, true, true, true, true, true, true, false, false]) rfl (by decide +kernel) (by decide +kernel) (by decide +kernel) rfl (by decide +kernel) (X_loadA rfl ty59 rfl (vs := [.int .i64 x.op, .int .i64 x.dst, .int .i64 x.src, .int .i64 x.off, .int .i64 x.imm]) rfl (hc.up zH)) rfl ?_
    refine WC_one 10 (l' := #[true, true, true, true, true, true, true, true, true, true, true, false]) zH (by decide +kernel) rfl (by decide +kernel) ?_
    refine W_alloc (l := [.int .i64 0, .int .i64 0, .int .i64 0, .int .i64 0, .int .i64 0]) ty59 rfl rfl (fun b2 => ?_)
    refine W_nil ?_
    refine WC_goal ?_
    refine WC_one 11 (l' := #[true, true, true, true, true, true, true, true, true, true, true, true]) zH (by decide +kernel) rfl (by decide +kernel) ?_
    refine W_storeA (l' := [.int .i64 x.op, .int .i64 x.dst, .int .i64 x.src, .int .i64 x.off, .int .i64 x.imm]) rfl rfl ty59 rfl rfl (b := b2) zM (Nat.le_of_ble_eq_true rfl) rfl zU ?_
    refine W_nil ?_
    refine WC_goal ?_
    refine WC_done zH (by decide +kernel) ?_
    refine W_block ?_
    refine W_sr ?_
    refine W_fieldAddr rfl fld59_0 (by decide) rfl ?_
    refine W_load rfl ty3 rfl (Cell.own zM rfl) rfl ?_
    refine W_bin rfl rfl b_eql rfl ?_
    refine W_assign rfl rfl ?_
    refine W_nil ?_
    refine W_condPS (p := x.op = 73) rfl (by simp) (fun c1 => ?_) (fun c1 => ?_)
    · skip
      refine W_sr ?_
      refine W_move rfl rfl ?_
      refine W_call (.cons rfl (.cons rfl .nil)) Tryd.call27 rfl ((RReg_L (H := (b2, .cells 59 5 [.int .i64 x.op, .int .i64 x.dst, .int .i64 x.src, .int .i64 x.off, .int .i64 x.imm]) :: H) (r := { r with fuel := r.fuel - 1 }) (at_ := 0) hV).hsub zH) ?_
      rintro v H' ⟨rfl, rfl⟩
      refine W_move rfl rfl ?_
      refine W_extract rfl rfl rfl ?_
      refine W_extract rfl rfl rfl ?_
      refine W_alloc (l := vaC zeroV) ty41 rfl rfl (fun b3 => ?_)
      refine W_storeA rfl rfl ty41 rfl rfl (b := b3) zM (by decide) rfl zU ?_
      refine W_assign rfl rfl ?_
      refine W_nil ?_
      refine W_sr ?_
      refine W_move rfl rfl ?_
      refine W_call (.cons rfl (.cons rfl .nil)) Tryd.call41 rfl ((rend_L (H := (b3, .cells 41 5 (vaC (rdV r.V false 0).1)) :: (b2, .cells 59 5 [.int .i64 x.op, .int .i64 x.dst, .int .i64 x.src, .int .i64 x.off, .int .i64 x.imm]) :: (bf, .cells 101 90 (vaRow r.V)) :: H) (r := { r with fuel := r.fuel - 1 }) (e := 0)).hsub zH) ?_
      rintro v H' rfl
      refine W_nil ?_
      refine W_region ?_
      refine W_move rfl rfl ?_
      refine W_fieldAddr rfl fld41_3 (by decide) rfl ?_
      refine W_load rfl ty28 rfl (Cell.own zM rfl) rfl ?_
      refine W_nilCheck rfl rfl ?_
      refine W_fieldAddr rfl fld86_8 (by decide) rfl ?_
      refine W_store (l' := runC bf ad n cap { endF { r with fuel := r.fuel - 1 } 0 with res := (rdV r.V false 0).1.n }) rfl rfl ty28 rfl rfl (b := br) zM rfl rfl zU ?_
      refine W_nil ?_
      refine W_blk ?_
      refine W_end0m (H2 := (br, .cells 86 42 (runC bf ad n cap { endF { r with fuel := r.fuel - 1 } 0 with res := (rdV r.V false 0).1.n })) :: (bf, .cells 101 90 (vaRow r.V)) :: H) Tryd.results38 (.nil _) zH ?_
      unfold oneX
      rw [if_neg c0, if_pos c1]
      all_goals rfl
    · skip
      refine W_sr ?_
      refine W_fieldAddr rfl fld59_0 (by decide) rfl ?_
      refine W_load rfl ty3 rfl (Cell.own zM rfl) rfl ?_
      refine W_bin rfl rfl b_eql rfl ?_
      refine W_assign rfl rfl ?_
      refine W_nil ?_
      refine W_condPS (p := x.op = 72) rfl (by simp) (fun c2 => ?_) (fun c2 => ?_)
      · skip
        refine W_cut [(0, .pointer (some ⟨br, 0, none⟩))] ((br, .cells 86 42 (runC bf ad n cap (askF { r with fuel := r.fuel - 1 } { argsT r.V with kind := 2, helper := x.imm }))) :: (bf, .cells 101 90 (vaRow r.V)) :: H) ?_ ?_
        · skip
          refine W_any (by kernel_rfl) ?_
          refine WA_take 0 (l' := #[true, false, false, false, false, false, false, false, false, false]) rfl (by decide +kernel) (by decide +kernel) (by decide +kernel) (fun _ h => by cases h) (fun _ h => by cases h) (by decide +kernel) (X_move rfl) rfl ?_
          refine WA_take 1 (l' := #[true, true, false, false, false, false, false, false, false, false]) rfl (by decide +kernel) (by decide +kernel) (by decide +kernel) (fun _ h => by cases h) (fun _ h => by cases h) (by decide +kernel) (X_fieldAddr rfl fld59_4 (by decide)) rfl ?_
          refine WA_take 3 (l' := #[true, true, false, true, false, false, false, false, false, false]) rfl (by decide +kernel) (by decide +kernel) (by decide +kernel) (fun _ h => by cases h) (fun _ h => by cases h) (by decide +kernel) (X_move rfl) rfl ?_
          refine WA_take 4 (l' := #[true, true, false, true, true, false, false, false, false, false]) rfl (by decide +kernel) (by decide +kernel) (by decide +kernel) (fun _ h => by cases h) (fun _ h => by cases h) (by decide +kernel) (X_nilCheck rfl) rfl ?_
          refine WA_take 5 (l' := #[true, true, false, true, true, true, false, false, false, false]) rfl (by decide +kernel) (by decide +kernel) (by decide +kernel) (fun _ h => by cases h) (fun _ h => by cases h) (by decide +kernel) (X_fieldAddr rfl fld86_0 (by decide)) rfl ?_
          refine WA_two 2 6 (l' := #[true, true, true, true, true, true, false, false, false, false]) (l'' := #[true, true, false, true, true, true, true, false, false, false]) (by decide +kernel) rfl rfl (by decide +kernel) (by decide +kernel) ?_ ?_
          · skip
            refine W_load rfl ty3 rfl (Cell.own zM rfl) rfl ?_
            refine W_nil ?_
            refine WA_goal ?_
            refine WA_one 6 (l' := #[true, true, true, true, true, true, true, false, false, false]) (by decide +kernel) rfl (by decide +kernel) (fun _ h => by cases h) ?_
            refine W_load (v := .pointer (some ⟨bf, 0, none⟩)) rfl ty81 rfl (Cell.own (b := br) zM rfl) rfl ?_
            refine W_nil ?_
            refine WA_goal ?_
            refine WA_one 7 (l' := #[true, true, true, true, true, true, true, true, false, false]) (by decide +kernel) rfl (by decide +kernel) (fun _ h => by cases h) ?_
            refine W_call (.cons rfl .nil) Tryd.call59 rfl ((args_L (H := (b2, .cells 59 5 [.int .i64 x.op, .int .i64 x.dst, .int .i64 x.src, .int .i64 x.off, .int .i64 x.imm]) :: (br, .cells 86 42 (runC bf ad n cap { r with fuel := r.fuel - 1 })) :: H) (V := r.V) hV).hsub zH) ?_
            rintro v H' ⟨rfl, rfl⟩
            refine W_nil ?_
            refine WA_goal ?_
            refine WA_take 8 (l' := #[true, true, true, true, true, true, true, true, true, false]) rfl (by decide +kernel) (by decide +kernel) (by decide +kernel) (fun _ h => by cases h) (fun _ h => by cases h) (by decide +kernel) (X_build (l := trC { argsT r.V with kind := 2, helper := x.imm }) ty44 pl44 (.cons rfl rfl rfl rfl rfl (.cons rfl rfl rfl rfl rfl (.cons rfl rfl rfl rfl rfl .nil))) rfl rfl) rfl ?_
            refine WA_one 9 (l' := #[true, true, true, true, true, true, true, true, true, true]) (by decide +kernel) rfl (by decide +kernel) (fun _ h => by cases h) ?_
            refine W_call (.cons rfl (.cons rfl .nil)) Tryd.call58 rfl ((rask_L (H := (b2, .cells 59 5 [.int .i64 x.op, .int .i64 x.dst, .int .i64 x.src, .int .i64 x.off, .int .i64 x.imm]) :: (bf, .cells 101 90 (vaRow r.V)) :: H) (r := { r with fuel := r.fuel - 1 }) (t := { argsT r.V with kind := 2, helper := x.imm })).hsub zH) ?_
            rintro v H' rfl
            refine W_nil ?_
            refine WA_goal ?_
            refine WA_done (by decide +kernel) ?_
            refine W_joined (sub_cons rfl (sub_nil _)) zH
          · skip
            refine W_load (v := .pointer (some ⟨bf, 0, none⟩)) rfl ty81 rfl (Cell.own (b := br) zM rfl) rfl ?_
            refine W_nil ?_
            refine WA_goal ?_
            refine WA_two 2 7 (l' := #[true, true, true, true, true, true, true, false, false, false]) (l'' := #[true, true, false, true, true, true, true, true, false, false]) (by decide +kernel) rfl rfl (by decide +kernel) (by decide +kernel) ?_ ?_
            · skip
              refine W_load rfl ty3 rfl (Cell.own zM rfl) rfl ?_
              refine W_nil ?_
              refine WA_goal ?_
              refine WA_one 7 (l' := #[true, true, true, true, true, true, true, true, false, false]) (by decide +kernel) rfl (by decide +kernel) (fun _ h => by cases h) ?_
              refine W_call (.cons rfl .nil) Tryd.call59 rfl ((args_L (H := (b2, .cells 59 5 [.int .i64 x.op, .int .i64 x.dst, .int .i64 x.src, .int .i64 x.off, .int .i64 x.imm]) :: (br, .cells 86 42 (runC bf ad n cap { r with fuel := r.fuel - 1 })) :: H) (V := r.V) hV).hsub zH) ?_
              rintro v H' ⟨rfl, rfl⟩
              refine W_nil ?_
              refine WA_goal ?_
              refine WA_take 8 (l' := #[true, true, true, true, true, true, true, true, true, false]) rfl (by decide +kernel) (by decide +kernel) (by decide +kernel) (fun _ h => by cases h) (fun _ h => by cases h) (by decide +kernel) (X_build (l := trC { argsT r.V with kind := 2, helper := x.imm }) ty44 pl44 (.cons rfl rfl rfl rfl rfl (.cons rfl rfl rfl rfl rfl (.cons rfl rfl rfl rfl rfl .nil))) rfl rfl) rfl ?_
              refine WA_one 9 (l' := #[true, true, true, true, true, true, true, true, true, true]) (by decide +kernel) rfl (by decide +kernel) (fun _ h => by cases h) ?_
              refine W_call (.cons rfl (.cons rfl .nil)) Tryd.call58 rfl ((rask_L (H := (b2, .cells 59 5 [.int .i64 x.op, .int .i64 x.dst, .int .i64 x.src, .int .i64 x.off, .int .i64 x.imm]) :: (bf, .cells 101 90 (vaRow r.V)) :: H) (r := { r with fuel := r.fuel - 1 }) (t := { argsT r.V with kind := 2, helper := x.imm })).hsub zH) ?_
              rintro v H' rfl
              refine W_nil ?_
              refine WA_goal ?_
              refine WA_done (by decide +kernel) ?_
              refine W_joined (sub_cons rfl (sub_nil _)) zH
            · skip
              refine W_call (.cons rfl .nil) Tryd.call59 rfl ((args_L (H := (b2, .cells 59 5 [.int .i64 x.op, .int .i64 x.dst, .int .i64 x.src, .int .i64 x.off, .int .i64 x.imm]) :: (br, .cells 86 42 (runC bf ad n cap { r with fuel := r.fuel - 1 })) :: H) (V := r.V) hV).hsub zH) ?_
              rintro v H' ⟨rfl, rfl⟩
              refine W_nil ?_
              refine WA_goal ?_
              refine WA_one 2 (l' := #[true, true, true, true, true, true, true, true, false, false]) (by decide +kernel) rfl (by decide +kernel) (fun _ h => by cases h) ?_
              refine W_load rfl ty3 rfl (Cell.own zM rfl) rfl ?_
              refine W_nil ?_
              refine WA_goal ?_
              refine WA_take 8 (l' := #[true, true, true, true, true, true, true, true, true, false]) rfl (by decide +kernel) (by decide +kernel) (by decide +kernel) (fun _ h => by cases h) (fun _ h => by cases h) (by decide +kernel) (X_build (l := trC { argsT r.V with kind := 2, helper := x.imm }) ty44 pl44 (.cons rfl rfl rfl rfl rfl (.cons rfl rfl rfl rfl rfl (.cons rfl rfl rfl rfl rfl .nil))) rfl rfl) rfl ?_
              refine WA_one 9 (l' := #[true, true, true, true, true, true, true, true, true, true]) (by decide +kernel) rfl (by decide +kernel) (fun _ h => by cases h) ?_
              refine W_call (.cons rfl (.cons rfl .nil)) Tryd.call58 rfl ((rask_L (H := (b2, .cells 59 5 [.int .i64 x.op, .int .i64 x.dst, .int .i64 x.src, .int .i64 x.off, .int .i64 x.imm]) :: (bf, .cells 101 90 (vaRow r.V)) :: H) (r := { r with fuel := r.fuel - 1 }) (t := { argsT r.V with kind := 2, helper := x.imm })).hsub zH) ?_
              rintro v H' rfl
              refine W_nil ?_
              refine WA_goal ?_
              refine WA_done (by decide +kernel) ?_
              refine W_joined (sub_cons rfl (sub_nil _)) zH
        refine W_blk ?_
        refine W_end0m (H2 := (br, .cells 86 42 (runC bf ad n cap (askF { r with fuel := r.fuel - 1 } { argsT r.V with kind := 2, helper := x.imm }))) :: (bf, .cells 101 90 (vaRow r.V)) :: H) Tryd.results38 (.nil _) zH ?_
        unfold oneX
        rw [if_neg c0, if_neg c1, if_pos c2]
        all_goals rfl
      · skip
        refine W_sr ?_
        refine W_fieldAddr rfl fld59_0 (by decide) rfl ?_
        refine W_load rfl ty3 rfl (Cell.own zM rfl) rfl ?_
        refine W_bin rfl rfl b_eql rfl ?_
        refine W_move rfl rfl ?_
        apply W_or
        iterate 4 exact rfl
        case h1 =>
          intro hg3
          refine W_gyes rfl rfl ?_
          refine W_fieldAddr rfl fld59_0 (by decide) rfl ?_
          refine W_gyes rfl rfl ?_
          refine W_load rfl ty3 rfl (Cell.own zM rfl) rfl ?_
          refine W_gyes rfl rfl ?_
          refine W_bin rfl rfl b_eql rfl ?_
          exact W_met rfl zR
        refine W_assign rfl rfl ?_
        refine W_nil ?_
        refine W_condPS (p := x.op = 66 ∨ x.op = 67) rfl (by simp) (fun c3 => ?_) (fun c3 => ?_)
        · skip
          refine W_region ?_
          refine W_move rfl rfl ?_
          refine W_loadB (vs := [.int .i64 x.op, .int .i64 x.dst, .int .i64 x.src, .int .i64 x.off, .int .i64 x.imm]) rfl ty59 rfl (b := b2) zM rfl rfl rfl ?_
          refine W_call (.cons rfl (.cons rfl .nil)) Tryd.call60 rfl ((rvalue_L (H := (b2, .cells 59 5 [.int .i64 x.op, .int .i64 x.dst, .int .i64 x.src, .int .i64 x.off, .int .i64 x.imm]) :: H) (r := { r with fuel := r.fuel - 1 }) (x := x) hV).hsub zH) ?_
          rintro v H' rfl
          refine W_nil ?_
          refine W_blk ?_
          refine W_end0m (H2 := (br, .cells 86 42 (runC bf ad n cap (valueF { r with fuel := r.fuel - 1 } x))) :: (bf, .cells 101 90 (vaRow r.V)) :: H) Tryd.results38 (.nil _) zH ?_
          unfold oneX
          rw [if_neg c0, if_neg c1, if_neg c2, if_pos c3]
          rw [valueF_V]
          all_goals rfl
        · skip
          refine W_sr ?_
          refine W_fieldAddr rfl fld59_0 (by decide) rfl ?_
          refine W_load rfl ty3 rfl (Cell.own zM rfl) rfl ?_
          refine W_callp (.cons rfl .nil) Tryd.call49 rfl hT (class_pure _) ?_
          refine W_bin rfl rfl b_eql rfl ?_
          refine W_assign rfl rfl ?_
          refine W_nil ?_
          refine W_condPS (p := cls x.op = 2) rfl (by simp) (fun c4 => ?_) (fun c4 => ?_)
          · skip
            refine W_region ?_
            refine W_move rfl rfl ?_
            refine W_loadB (vs := [.int .i64 x.op, .int .i64 x.dst, .int .i64 x.src, .int .i64 x.off, .int .i64 x.imm]) rfl ty59 rfl (b := b2) zM rfl rfl rfl ?_
            refine W_call (.cons rfl (.cons rfl .nil)) Tryd.call61 rfl ((rjump_L (H := (b2, .cells 59 5 [.int .i64 x.op, .int .i64 x.dst, .int .i64 x.src, .int .i64 x.off, .int .i64 x.imm]) :: H) (r := { r with fuel := r.fuel - 1 }) (x := x) hV hop hW (by dsimp only; omega) (hto c4) hT).hsub zH) ?_
            rintro v H' rfl
            refine W_nil ?_
            refine W_blk ?_
            refine W_end0m (H2 := (br, .cells 86 42 (runC bf ad n cap (jumpF { r with fuel := r.fuel - 1 } x))) :: (bf, .cells 101 90 (vaRow r.V)) :: H) Tryd.results38 (.nil _) zH ?_
            unfold oneX
            rw [if_neg c0, if_neg c1, if_neg c2, if_neg c3, if_pos c4]
            rw [jumpF_V]
            all_goals rfl
          · skip
            refine W_cut [(0, .pointer (some ⟨br, 0, none⟩))] ((br, .cells 86 42 (runC bf ad n cap (nextF { r with V := (doV r.V x).1, fuel := r.fuel - 1 } (doV r.V x).2))) :: (bf, .cells 101 90 (vaRow (doV r.V x).1)) :: H) ?_ ?_
            · skip
              refine W_any (by kernel_rfl) ?_
              refine WA_take 0 (l' := #[true, false, false, false, false, false, false, false]) rfl (by decide +kernel) (by decide +kernel) (by decide +kernel) (fun _ h => by cases h) (fun _ h => by cases h) (by decide +kernel) (X_move rfl) rfl ?_
              refine WA_take 1 (l' := #[true, true, false, false, false, false, false, false]) rfl (by decide +kernel) (by decide +kernel) (by decide +kernel) (fun _ h => by cases h) (fun _ h => by cases h) (by decide +kernel) (X_move rfl) rfl ?_
              refine WA_take 2 (l' := #[true, true, true, false, false, false, false, false]) rfl (by decide +kernel) (by decide +kernel) (by decide +kernel) (fun _ h => by cases h) (fun _ h => by cases h) (by decide +kernel) (X_nilCheck rfl) rfl ?_
              refine WA_take 3 (l' := #[true, true, true, true, false, false, false, false]) rfl (by decide +kernel) (by decide +kernel) (by decide +kernel) (fun _ h => by cases h) (fun _ h => by cases h) (by decide +kernel) (X_fieldAddr rfl fld86_0 (by decide)) rfl ?_
              refine WA_two 4 5 (l' := #[true, true, true, true, true, false, false, false]) (l'' := #[true, true, true, true, false, true, false, false]) (by decide +kernel) rfl rfl (by decide +kernel) (by decide +kernel) ?_ ?_
              · skip
                refine W_load (v := .pointer (some ⟨bf, 0, none⟩)) rfl ty81 rfl (Cell.own (b := br) zM rfl) rfl ?_
                refine W_nil ?_
                refine WA_goal ?_
                refine WA_one 5 (l' := #[true, true, true, true, true, true, false, false]) (by decide +kernel) rfl (by decide +kernel) (fun _ h => by cases h) ?_
                refine W_loadB (vs := [.int .i64 x.op, .int .i64 x.dst, .int .i64 x.src, .int .i64 x.off, .int .i64 x.imm]) rfl ty59 rfl (b := b2) zM rfl rfl rfl ?_
                refine W_nil ?_
                refine WA_goal ?_
                refine WA_one 6 (l' := #[true, true, true, true, true, true, true, false]) (by decide +kernel) rfl (by decide +kernel) (fun _ h => by cases h) ?_
                refine W_call (.cons rfl (.cons rfl .nil)) Tryd.call62 rfl ((Do_L (H := (b2, .cells 59 5 [.int .i64 x.op, .int .i64 x.dst, .int .i64 x.src, .int .i64 x.off, .int .i64 x.imm]) :: (br, .cells 86 42 (runC bf ad n cap { r with fuel := r.fuel - 1 })) :: H) (V := r.V) (x := x) hV hop hW hT).hsub zH) ?_
                rintro v H' ⟨rfl, rfl⟩
                refine W_nil ?_
                refine WA_goal ?_
                refine WA_one 7 (l' := #[true, true, true, true, true, true, true, true]) (by decide +kernel) rfl (by decide +kernel) (fun _ h => by cases h) ?_
                refine W_call (.cons rfl (.cons rfl .nil)) Tryd.call40 rfl ((rnext_L (H := (b2, .cells 59 5 [.int .i64 x.op, .int .i64 x.dst, .int .i64 x.src, .int .i64 x.off, .int .i64 x.imm]) :: (bf, .cells 101 90 (vaRow (doV r.V x).1)) :: H) (r := { r with V := (doV r.V x).1, fuel := r.fuel - 1 }) (e := (doV r.V x).2) (by dsimp only; omega)).hsub zH) ?_
                rintro v H' rfl
                refine W_nil ?_
                refine WA_goal ?_
                refine WA_done (by decide +kernel) ?_
                refine W_joined (sub_cons rfl (sub_nil _)) zH
              · skip
                refine W_loadB (vs := [.int .i64 x.op, .int .i64 x.dst, .int .i64 x.src, .int .i64 x.off, .int .i64 x.imm]) rfl ty59 rfl (b := b2) zM rfl rfl rfl ?_
                refine W_nil ?_
                refine WA_goal ?_
                refine WA_one 4 (l' := #[true, true, true, true, true, true, false, false]) (by decide +kernel) rfl (by decide +kernel) (fun _ h => by cases h) ?_
                refine W_load (v := .pointer (some ⟨bf, 0, none⟩)) rfl ty81 rfl (Cell.own (b := br) zM rfl) rfl ?_
                refine W_nil ?_
                refine WA_goal ?_
                refine WA_one 6 (l' := #[true, true, true, true, true, true, true, false]) (by decide +kernel) rfl (by decide +kernel) (fun _ h => by cases h) ?_
                refine W_call (.cons rfl (.cons rfl .nil)) Tryd.call62 rfl ((Do_L (H := (b2, .cells 59 5 [.int .i64 x.op, .int .i64 x.dst, .int .i64 x.src, .int .i64 x.off, .int .i64 x.imm]) :: (br, .cells 86 42 (runC bf ad n cap { r with fuel := r.fuel - 1 })) :: H) (V := r.V) (x := x) hV hop hW hT).hsub zH) ?_
                rintro v H' ⟨rfl, rfl⟩
                refine W_nil ?_
                refine WA_goal ?_
                refine WA_one 7 (l' := #[true, true, true, true, true, true, true, true]) (by decide +kernel) rfl (by decide +kernel) (fun _ h => by cases h) ?_
                refine W_call (.cons rfl (.cons rfl .nil)) Tryd.call40 rfl ((rnext_L (H := (b2, .cells 59 5 [.int .i64 x.op, .int .i64 x.dst, .int .i64 x.src, .int .i64 x.off, .int .i64 x.imm]) :: (bf, .cells 101 90 (vaRow (doV r.V x).1)) :: H) (r := { r with V := (doV r.V x).1, fuel := r.fuel - 1 }) (e := (doV r.V x).2) (by dsimp only; omega)).hsub zH) ?_
                rintro v H' rfl
                refine W_nil ?_
                refine WA_goal ?_
                refine WA_done (by decide +kernel) ?_
                refine W_joined (sub_cons rfl (sub_nil _)) zH
            refine W_blk ?_
            refine W_end0m (H2 := (br, .cells 86 42 (runC bf ad n cap (nextF { r with V := (doV r.V x).1, fuel := r.fuel - 1 } (doV r.V x).2))) :: (bf, .cells 101 90 (vaRow (doV r.V x).1)) :: H) Tryd.results38 (.nil _) zH ?_
            unfold oneX
            rw [if_neg c0, if_neg c1, if_neg c2, if_neg c3, if_neg c4]
            rw [nextF_V]
            all_goals rfl
end Go.Proofs.YtcmfldfeakmdoaaDoor
namespace Go.Proofs.YtcmfldfeakmdoaaDoor
open Go Go.Sl
attribute [local irreducible] W
structure CodeOk (l : List Ins) : Prop where
  len : l.length ≤ 64
  pos : 0 < l.length
  chk : ∀ {i : Nat} {x : Ins}, l[i]? = some x → isaChk x = 0
  within : ∀ {i : Nat} {x : Ins}, l[i]? = some x → withinB x l.length i = true
  last : ∀ {i : Nat} {x : Ins}, l[i]? = some x → i + 1 = l.length → x.op = 73 ∨ x.op = 32
theorem first_zero {f : Nat → Int} {n : Nat} (h : firstE f n = none) : ∀ i, i < n → f i = 0 := by
  unfold firstE at h
  rw [List.find?_eq_none] at h
  intro i hi
  simpa using h i (List.mem_range.2 hi)
theorem first_nz {f : Nat → Int} {n k : Nat} (h : firstE f n = some k) : f k ≠ 0 := by
  unfold firstE at h
  simpa using List.find?_some h
theorem chk_code {l : List Ins} {s : Bool} (h : (chkR l s).2 = 0) : CodeOk l := by
  unfold chkR at h
  by_cases hb : l.length = 0 ∨ 64 < l.length
  · rw [if_pos hb] at h; exact absurd h (by decide)
  rw [if_neg hb] at h
  cases e0 : firstE (lookE l s 0) l.length with
  | some k => rw [e0] at h; exact absurd h (first_nz e0)
  | none =>
    rw [e0] at h
    cases e1 : firstE (lookE l s 1) l.length with
    | some k => rw [e1] at h; exact absurd h (first_nz e1)
    | none =>
      have h0 := first_zero e0
      have h1 := first_zero e1
      have hw : ∀ {i : Nat} {x : Ins}, l[i]? = some x → wrongE x l.length i s = 0 := fun {i x} hx => by rw [← look1 hx]; exact h1 i (List.getElem?_eq_some_iff.1 hx).1
      refine ⟨by omega, by omega, fun {i x} hx => ?_, fun {i x} hx => ?_, fun {i x} hx hi => ?_⟩
      · rw [← look0 (s := s) hx]; exact h0 i (List.getElem?_eq_some_iff.1 hx).1
      · have h2 := hw hx
        unfold wrongE at h2
        by_cases c : (!withinB x l.length i) = true
        · rw [if_pos c] at h2; exact absurd h2 (by decide)
        · simpa using c
      · have h2 := hw hx
        unfold wrongE at h2
        by_cases c : (!withinB x l.length i) = true
        · rw [if_pos c] at h2; exact absurd h2 (by decide)
        rw [if_neg c] at h2
        split at h2
        · exact absurd h2 (by decide)
        split at h2
        · exact absurd h2 (by decide)
        split at h2
        · exact absurd h2 (by decide)
        · rename_i h3
          simp only [Bool.and_eq_true, decide_eq_true_eq, ne_eq, not_and, Decidable.not_not] at h3
          by_cases hx3 : x.op = 73
          · exact .inl hx3
          · exact .inr (h3 ⟨by omega, hx3⟩)
theorem toV_is {x : Ins} {k : Nat} (h : isaChk x = 0) (hk : k ≤ 1000000) : toV x k = (k : Int) + 1 + x.off ∧ -32768 ≤ x.off ∧ x.off ≤ 32768 := by
  have ho : -32768 ≤ x.off ∧ x.off ≤ 32768 := by
    unfold isaChk at h
    by_cases h0 : cls x.op = 0
    · rw [if_pos h0] at h; omega
    rw [if_neg h0] at h
    by_cases h1 : (outB x.dst 0 10 || outB x.src 0 10 || outB x.off (-32768) 32768 || outB x.imm (-2147483648) 2147483648) = true
    · rw [if_pos h1] at h; omega
    simp only [outB, Bool.or_eq_true, decide_eq_true_eq] at h1
    omega
  refine ⟨?_, ho⟩
  unfold toV
  rw [i64w (m := (k : Int) + 1) (by omega), i64w (by omega)]
structure RunOk (l : List Ins) (r : Vs) : Prop where
  len : r.V.length = 18
  wd : ∀ v ∈ r.V, Wd v.n
  at_ : ∃ k : Nat, r.at_ = k ∧ k < l.length
  fuel : 0 ≤ r.fuel ∧ r.fuel ≤ 256
  asks : r.asks = true → r.over = false ∧ (r.opn.kind = 2 ∨ r.opn.kind = 3 ∨ r.opn.kind = 4) ∧ r.at_ + 1 < l.length
theorem RunOk.pos {l : List Ins} {r : Vs} (h : RunOk l r) : ∀ v ∈ r.V, 0 ≤ v.n := fun v hv => (h.wd v hv).1
theorem RunOk.end_ {l : List Ins} {r : Vs} (h : RunOk l r) (e : Int) : RunOk l (endF r e) := ⟨h.len, h.wd, h.at_, h.fuel, fun hh => by cases hh⟩
theorem RunOk.next {l : List Ins} {r : Vs} (h : RunOk l r) (ha : r.asks = false) {e : Int} (hb : e = 0 → ∃ k : Nat, r.at_ + 1 = k ∧ k < l.length) : RunOk l (nextF r e) := by
  unfold nextF
  split
  · rename_i h0
    exact ⟨h.len, h.wd, hb h0, h.fuel, fun hh => by rw [show (_ : Vs).asks = r.asks from rfl, ha] at hh; cases hh⟩
  · exact h.end_ e
theorem plain32 : plainOf 32 = 32 := by decide +kernel
theorem step_ok {l : List Ins} {r : Vs} {x : Ins} {k : Nat} (hc : CodeOk l) (h : RunOk l r) (ho : r.over = false) (ha : r.asks = false) (hk : r.at_ = (k : Int)) (hx : l[k]? = some x) : RunOk l (oneX r x) := by
  have hkl : k < l.length := (List.getElem?_eq_some_iff.1 hx).1
  have hl64 := hc.len
  have hchk := hc.chk hx
  have hlast := hc.last hx
  have hwi := hc.within hx
  have hf := h.fuel
  obtain ⟨htv, ho1, ho2⟩ := toV_is (k := k) hchk (by omega)
  unfold oneX
  by_cases h0 : r.fuel = 0
  · rw [if_pos h0]; exact h.end_ 16
  rw [if_neg h0]
  have h1 : RunOk l { r with fuel := r.fuel - 1 } := ⟨h.len, h.wd, h.at_, ⟨by show 0 ≤ r.fuel - 1; omega, by show r.fuel - 1 ≤ 256; omega⟩, h.asks⟩
  by_cases h2 : x.op = 73
  · rw [if_pos h2]; exact ⟨h.len, h.wd, h.at_, h1.fuel, fun hh => by cases hh⟩
  rw [if_neg h2]
  have hask : ∀ t : Tr, (t.kind = 2 ∨ t.kind = 3 ∨ t.kind = 4) → x.op ≠ 32 → RunOk l (askF { r with fuel := r.fuel - 1 } t) := fun t ht hn =>
    ⟨h.len, h.wd, h.at_, h1.fuel, fun _ => ⟨ho, ht, by show r.at_ + 1 < l.length; have : ¬ k + 1 = l.length := fun e => by rcases hlast e with e | e <;> contradiction
                                                       omega⟩⟩
  by_cases h3 : x.op = 72
  · rw [if_pos h3]; exact hask _ (.inl rfl) (by omega)
  rw [if_neg h3]
  by_cases h4 : x.op = 66 ∨ x.op = 67
  · rw [if_pos h4]
    unfold valueF
    split
    · exact hask _ (.inr (.inl rfl)) (by omega)
    split
    · exact hask _ (.inr (.inr rfl)) (by omega)
    · exact h1.end_ 17
  rw [if_neg h4]
  by_cases h5 : cls x.op = 2
  · rw [if_pos h5]
    unfold jumpF
    have hto : 0 ≤ toV x k ∧ toV x k < (l.length : Int) := by
      have hn : ¬ (x.op = 64 ∨ x.op = 65) := by have := cls2.1 h5; omega
      unfold withinB at hwi
      rw [if_neg hn, if_neg h4, decide_eq_false (p := cls x.op ≠ 2) (by simpa using h5), Bool.false_or, Bool.and_eq_true, decide_eq_true_eq, decide_eq_true_eq] at hwi
      exact hwi
    have hj : jumpV r.V x = (jumpS (plainOf x.op) (r.V.getD x.dst.toNat zeroV).n (othr r.V x).n, 0) := by
      unfold jumpV; rw [if_neg (fun e => e hchk), if_pos h5]
    rw [show (jumpV ({ r with fuel := r.fuel - 1 } : Vs).V x) = jumpV r.V x from rfl, hj]
    dsimp only
    cases hg : jumpS (plainOf x.op) (r.V.getD x.dst.toNat zeroV).n (othr r.V x).n with
    | true =>
      unfold nextF
      rw [if_pos rfl, if_pos rfl]
      exact ⟨h.len, h.wd, ⟨(toV x k).toNat, by show r.at_ + x.off + 1 = _; omega, by omega⟩, h1.fuel, fun hh => by rw [show (_ : Vs).asks = r.asks from rfl, ha] at hh; cases hh⟩
    | false =>
      unfold nextF
      rw [if_pos rfl, if_neg (by decide)]
      have hn32 : x.op ≠ 32 := fun e => by
        rw [e, plain32] at hg
        exact absurd hg (by unfold jumpS; simp)
      have : ¬ k + 1 = l.length := fun e => by rcases hlast e with e | e <;> contradiction
      exact ⟨h.len, h.wd, ⟨k + 1, by show r.at_ + 1 = _; omega, by omega⟩, h1.fuel, fun hh => by rw [show (_ : Vs).asks = r.asks from rfl, ha] at hh; cases hh⟩
  rw [if_neg h5]
  have h32 : x.op ≠ 32 := fun e => h5 (cls2.2 (by omega))
  have : ¬ k + 1 = l.length := fun e => by rcases hlast e with e | e <;> contradiction
  refine RunOk.next (r := { r with V := (doV r.V x).1, fuel := r.fuel - 1 }) ⟨doV_len.trans h.len, doV_all (p := fun v => Wd v.n) (fun n hn => hn) (fun v hv => hv) h.wd, h.at_, h1.fuel, h.asks⟩ ha (fun _ => ⟨k + 1, by show r.at_ + 1 = _; omega, by omega⟩)
def stepX (l : List Ins) (r : Vs) : Vs := oneX r (l.getD r.at_.toNat ins0)
def goF (l : List Ins) : Nat → Vs → Vs
  | 0, r => r
  | n + 1, r => if r.over || r.asks then r else goF l n (stepX l r)
def trapOf (r : Vs) : Tr := if r.over then { trZ with kind := 1 } else if r.asks then r.opn else trZ
theorem getD_some {l : List Ins} {k : Nat} (h : k < l.length) : l[k]? = some (l.getD k ins0) := by simp [List.getD, h]
theorem step_ok' {l : List Ins} {r : Vs} (hc : CodeOk l) (h : RunOk l r) (ho : r.over = false) (ha : r.asks = false) : RunOk l (stepX l r) := by
  obtain ⟨k, hk, hkl⟩ := h.at_
  unfold stepX
  rw [hk]
  exact step_ok hc h ho ha hk (getD_some hkl)
theorem goF_done {l : List Ins} {r : Vs} (h : (r.over || r.asks) = true) : ∀ n, goF l n r = r
  | 0 => rfl
  | n + 1 => if_pos h
theorem goF_ok {l : List Ins} (hc : CodeOk l) : ∀ (n : Nat) {r : Vs}, RunOk l r → RunOk l (goF l n r)
  | 0, _, h => h
  | n + 1, r, h => by
    unfold goF
    split
    · exact h
    · rename_i hd
      simp only [Bool.or_eq_true, not_or, Bool.not_eq_true] at hd
      exact goF_ok hc n (step_ok' hc h hd.1 hd.2)
theorem goF_add {l : List Ins} : ∀ (m n : Nat) (r : Vs), goF l n (goF l m r) = goF l (m + n) r
  | 0, n, r => by rw [Nat.zero_add]; rfl
  | m + 1, n, r => by
    rw [show m + 1 + n = m + n + 1 by omega]
    by_cases hd : (r.over || r.asks) = true
    · rw [goF_done hd, goF_done hd, goF_done hd]
    · rw [show goF l (m + 1) r = goF l m (stepX l r) from if_neg hd, show goF l (m + n + 1) r = goF l (m + n) (stepX l r) from if_neg hd]
      exact goF_add m n _
theorem goF_snoc {l : List Ins} {n : Nat} {r : Vs} (h : ((goF l n r).over || (goF l n r).asks) = false) : goF l (n + 1) r = stepX l (goF l n r) := by
  rw [← goF_add n 1 r]
  exact if_neg (by rw [h]; decide)
theorem nextF_fuel (r : Vs) (e : Int) : (nextF r e).fuel = r.fuel := by unfold nextF endF; split <;> rfl
theorem step_fuel {r : Vs} {x : Ins} (h : r.fuel ≠ 0) : (oneX r x).fuel = r.fuel - 1 := by
  unfold oneX
  rw [if_neg h]
  repeat' split
  · rfl
  · rfl
  · unfold valueF askF endF; repeat' split
    all_goals rfl
  · unfold jumpF; rw [nextF_fuel]; split <;> rfl
  · rw [nextF_fuel]
theorem step_end {r : Vs} {x : Ins} (h : r.fuel = 0) : oneX r x = endF r 16 := if_pos h
theorem goF_ends {l : List Ins} (hc : CodeOk l) : ∀ (n : Nat) {r : Vs}, RunOk l r → r.fuel < n → ((goF l n r).over || (goF l n r).asks) = true
  | 0, r, h, hn => by have := h.fuel; omega
  | n + 1, r, h, hn => by
    by_cases hd : (r.over || r.asks) = true
    · rw [goF_done hd]; exact hd
    rw [show goF l (n + 1) r = goF l n (stepX l r) from if_neg hd]
    simp only [Bool.or_eq_true, not_or, Bool.not_eq_true] at hd
    by_cases h0 : r.fuel = 0
    · have e : stepX l r = endF r 16 := step_end h0
      rw [e, goF_done rfl]; rfl
    · refine goF_ends hc n (step_ok' hc h hd.1 hd.2) ?_
      unfold stepX
      rw [step_fuel h0]; omega
theorem goF_same {l : List Ins} {r : Vs} {m n : Nat} (hm : ((goF l m r).over || (goF l m r).asks) = true) (hn : ((goF l n r).over || (goF l n r).asks) = true) : goF l m r = goF l n r := by
  rcases Nat.le_total m n with h | h
  · obtain ⟨d, rfl⟩ := Nat.exists_eq_add_of_le h
    rw [← goF_add m d r, goF_done hm]
  · obtain ⟨d, rfl⟩ := Nat.exists_eq_add_of_le h
    rw [← goF_add n d r, goF_done hn]
theorem RunOk.trap {l : List Ins} {r : Vs} (h : RunOk l r) : (trapOf r).kind = 0 ↔ (r.over || r.asks) = false := by
  unfold trapOf
  cases ho : r.over with
  | true => simp
  | false =>
    cases ha : r.asks with
    | true =>
      obtain ⟨_, h2, _⟩ := h.asks ha
      simp only [Bool.false_eq_true, if_false, if_true, Bool.or_true]
      constructor
      · intro e; omega
      · intro e; cases e
    | false => simp [trZ]
def toF (l : List Ins) (r : Vs) : Int := if r.opn.kind = 2 then 0 else if r.opn.kind = 3 then (l.getD r.at_.toNat ins0).dst else -1
def giveV (l : List Ins) (r : Vs) (v : Va) (e : Int) : List Va := if e = 0 ∧ 0 ≤ toF l r then (wrV r.V false (toF l r) v).1 else r.V
def giveF (l : List Ins) (r : Vs) (v : Va) (e : Int) : Vs × Int := if r.asks = false then (r, 6) else (nextF { r with V := giveV l r v e, asks := false, opn := trZ } e, 0)
theorem giveF_ok {l : List Ins} {r : Vs} {v : Va} {e : Int} (h : RunOk l r) (hv : Wd v.n) : RunOk l (giveF l r v e).1 := by
  unfold giveF
  split
  · exact h
  rename_i ha
  have ha' : r.asks = true := by simpa using ha
  obtain ⟨_, _, h3⟩ := h.asks ha'
  obtain ⟨k, hk, hkl⟩ := h.at_
  refine RunOk.next (r := { r with V := _, asks := false, opn := trZ }) ⟨?_, ?_, h.at_, h.fuel, fun hh => by cases hh⟩ rfl (fun _ => ⟨k + 1, by show r.at_ + 1 = _; omega, by omega⟩)
  · show (giveV l r v e).length = 18
    unfold giveV
    split
    · rw [wrV_len]; exact h.len
    · exact h.len
  · show ∀ w ∈ giveV l r v e, Wd w.n
    unfold giveV
    split
    · unfold wrV
      split
      · exact h.wd
      · exact set_good (p := fun v => Wd v.n) h.wd hv
    · exact h.wd
end Go.Proofs.YtcmfldfeakmdoaaDoor
namespace Go.Proofs.YtcmfldfeakmdoaaDoor
open Go Go.Sl
attribute [local irreducible] W
set_option maxHeartbeats 1000000 in
theorem RFuel_L {w0 : World} {H : Heap} {br bf n cap : Nat} {ad : Option Addr} {r : Vs}   : LCalls Tryd.prog w0 13 #[.pointer (some ⟨br, 0, none⟩)] ((br, .cells 86 42 (runC bf ad n cap r)) :: H) (fun v H' => v = .int .i64 r.fuel ∧ H' = (br, .cells 86 42 (runC bf ad n cap r)) :: H) := by
  refine L_enter (l := [.pointer (some ⟨br, 0, none⟩)]) Tryd.func13 rfl Tryd.ntmps13 rfl rfl ?_
  refine W_sr ?_
  refine W_assign rfl rfl ?_
  refine W_nil ?_
  refine W_seq ?_
  refine W_sr ?_
  refine W_move rfl rfl ?_
  refine W_x (X_ptrNil rfl rfl ty29) (fun _ h => by cases h) rfl ?_
  refine W_nil ?_
  refine W_condF rfl rfl ?_
  refine W_skip ?_
  refine W_sr ?_
  refine W_move rfl rfl ?_
  refine W_nilCheck rfl rfl ?_
  refine W_fieldAddr rfl fld86_3 (by decide) rfl ?_
  refine W_load (v := .int .i64 r.fuel) rfl ty3 rfl (Cell.own (b := br) zM rfl) rfl ?_
  refine W_assign rfl rfl ?_
  refine W_nil ?_
  refine W_ret1m (H2 := (br, .cells 86 42 (runC bf ad n cap r)) :: H) Tryd.results13 rfl (.nil _) zH ?_
  exact ⟨rfl, rfl⟩
set_option maxHeartbeats 1000000 in
theorem RFuel_nil  : Pure Tryd.prog (fun _ => True) 13 [.pointer none] (.int .i64 0) := by
  intro w0 H hT
  refine L_enter Tryd.func13 rfl Tryd.ntmps13 rfl rfl ?_
  refine W_sr ?_
  refine W_assign rfl rfl ?_
  refine W_nil ?_
  refine W_seq ?_
  refine W_sr ?_
  refine W_move rfl rfl ?_
  refine W_x (X_ptrNil rfl rfl ty29) (fun _ h => by cases h) rfl ?_
  refine W_nil ?_
  refine W_condT rfl rfl ?_
  refine W_sr ?_
  refine W_assign rfl rfl ?_
  refine W_nil ?_
  refine W_ret1m (H2 := H) Tryd.results13 rfl (.nil _) zH ?_
  exact ⟨rfl, rfl⟩
set_option maxHeartbeats 1000000 in
theorem RAt_L {w0 : World} {H : Heap} {br bf n cap : Nat} {ad : Option Addr} {r : Vs}   : LCalls Tryd.prog w0 14 #[.pointer (some ⟨br, 0, none⟩)] ((br, .cells 86 42 (runC bf ad n cap r)) :: H) (fun v H' => v = .int .i64 r.at_ ∧ H' = (br, .cells 86 42 (runC bf ad n cap r)) :: H) := by
  refine L_enter (l := [.pointer (some ⟨br, 0, none⟩)]) Tryd.func14 rfl Tryd.ntmps14 rfl rfl ?_
  refine W_sr ?_
  refine W_assign rfl rfl ?_
  refine W_nil ?_
  refine W_seq ?_
  refine W_sr ?_
  refine W_move rfl rfl ?_
  refine W_x (X_ptrNil rfl rfl ty29) (fun _ h => by cases h) rfl ?_
  refine W_nil ?_
  refine W_condF rfl rfl ?_
  refine W_skip ?_
  refine W_sr ?_
  refine W_move rfl rfl ?_
  refine W_nilCheck rfl rfl ?_
  refine W_fieldAddr rfl fld86_2 (by decide) rfl ?_
  refine W_load (v := .int .i64 r.at_) rfl ty3 rfl (Cell.own (b := br) zM rfl) rfl ?_
  refine W_assign rfl rfl ?_
  refine W_nil ?_
  refine W_ret1m (H2 := (br, .cells 86 42 (runC bf ad n cap r)) :: H) Tryd.results14 rfl (.nil _) zH ?_
  exact ⟨rfl, rfl⟩
set_option maxHeartbeats 1000000 in
theorem RAt_nil  : Pure Tryd.prog (fun _ => True) 14 [.pointer none] (.int .i64 (-1)) := by
  intro w0 H hT
  refine L_enter Tryd.func14 rfl Tryd.ntmps14 rfl rfl ?_
  refine W_sr ?_
  refine W_assign rfl rfl ?_
  refine W_nil ?_
  refine W_seq ?_
  refine W_sr ?_
  refine W_move rfl rfl ?_
  refine W_x (X_ptrNil rfl rfl ty29) (fun _ h => by cases h) rfl ?_
  refine W_nil ?_
  refine W_condT rfl rfl ?_
  refine W_sr ?_
  refine W_assign rfl rfl ?_
  refine W_nil ?_
  refine W_ret1m (H2 := H) Tryd.results14 rfl (.nil _) zH ?_
  exact ⟨rfl, rfl⟩
set_option maxHeartbeats 1000000 in
theorem RCode_L {w0 : World} {H : Heap} {br bf n cap : Nat} {ad : Option Addr} {r : Vs}   : LCalls Tryd.prog w0 15 #[.pointer (some ⟨br, 0, none⟩)] ((br, .cells 86 42 (runC bf ad n cap r)) :: H) (fun v H' => v = .int .i64 r.why ∧ H' = (br, .cells 86 42 (runC bf ad n cap r)) :: H) := by
  refine L_enter (l := [.pointer (some ⟨br, 0, none⟩)]) Tryd.func15 rfl Tryd.ntmps15 rfl rfl ?_
  refine W_sr ?_
  refine W_assign rfl rfl ?_
  refine W_nil ?_
  refine W_seq ?_
  refine W_sr ?_
  refine W_move rfl rfl ?_
  refine W_x (X_ptrNil rfl rfl ty29) (fun _ h => by cases h) rfl ?_
  refine W_nil ?_
  refine W_condF rfl rfl ?_
  refine W_skip ?_
  refine W_sr ?_
  refine W_move rfl rfl ?_
  refine W_nilCheck rfl rfl ?_
  refine W_fieldAddr rfl fld86_7 (by decide) rfl ?_
  refine W_load (v := .int .i64 r.why) rfl ty30 rfl (Cell.own (b := br) zM rfl) rfl ?_
  refine W_assign rfl rfl ?_
  refine W_nil ?_
  refine W_ret1m (H2 := (br, .cells 86 42 (runC bf ad n cap r)) :: H) Tryd.results15 rfl (.nil _) zH ?_
  exact ⟨rfl, rfl⟩
set_option maxHeartbeats 1000000 in
theorem RCode_nil  : Pure Tryd.prog (fun _ => True) 15 [.pointer none] (.int .i64 0) := by
  intro w0 H hT
  refine L_enter Tryd.func15 rfl Tryd.ntmps15 rfl rfl ?_
  refine W_sr ?_
  refine W_assign rfl rfl ?_
  refine W_nil ?_
  refine W_seq ?_
  refine W_sr ?_
  refine W_move rfl rfl ?_
  refine W_x (X_ptrNil rfl rfl ty29) (fun _ h => by cases h) rfl ?_
  refine W_nil ?_
  refine W_condT rfl rfl ?_
  refine W_sr ?_
  refine W_assign rfl rfl ?_
  refine W_nil ?_
  refine W_ret1m (H2 := H) Tryd.results15 rfl (.nil _) zH ?_
  exact ⟨rfl, rfl⟩
set_option maxHeartbeats 1000000 in
theorem RResult_L {w0 : World} {H : Heap} {br bf n cap : Nat} {ad : Option Addr} {r : Vs}   : LCalls Tryd.prog w0 16 #[.pointer (some ⟨br, 0, none⟩)] ((br, .cells 86 42 (runC bf ad n cap r)) :: H) (fun v H' => v = .int .u64 r.res ∧ H' = (br, .cells 86 42 (runC bf ad n cap r)) :: H) := by
  refine L_enter (l := [.pointer (some ⟨br, 0, none⟩)]) Tryd.func16 rfl Tryd.ntmps16 rfl rfl ?_
  refine W_sr ?_
  refine W_assign rfl rfl ?_
  refine W_nil ?_
  refine W_seq ?_
  refine W_sr ?_
  refine W_move rfl rfl ?_
  refine W_x (X_ptrNil rfl rfl ty29) (fun _ h => by cases h) rfl ?_
  refine W_nil ?_
  refine W_condF rfl rfl ?_
  refine W_skip ?_
  refine W_sr ?_
  refine W_move rfl rfl ?_
  refine W_nilCheck rfl rfl ?_
  refine W_fieldAddr rfl fld86_8 (by decide) rfl ?_
  refine W_load (v := .int .u64 r.res) rfl ty28 rfl (Cell.own (b := br) zM rfl) rfl ?_
  refine W_assign rfl rfl ?_
  refine W_nil ?_
  refine W_ret1m (H2 := (br, .cells 86 42 (runC bf ad n cap r)) :: H) Tryd.results16 rfl (.nil _) zH ?_
  exact ⟨rfl, rfl⟩
set_option maxHeartbeats 1000000 in
theorem RResult_nil  : Pure Tryd.prog (fun _ => True) 16 [.pointer none] (.int .u64 0) := by
  intro w0 H hT
  refine L_enter Tryd.func16 rfl Tryd.ntmps16 rfl rfl ?_
  refine W_sr ?_
  refine W_assign rfl rfl ?_
  refine W_nil ?_
  refine W_seq ?_
  refine W_sr ?_
  refine W_move rfl rfl ?_
  refine W_x (X_ptrNil rfl rfl ty29) (fun _ h => by cases h) rfl ?_
  refine W_nil ?_
  refine W_condT rfl rfl ?_
  refine W_sr ?_
  refine W_assign rfl rfl ?_
  refine W_nil ?_
  refine W_ret1m (H2 := H) Tryd.results16 rfl (.nil _) zH ?_
  exact ⟨rfl, rfl⟩
set_option maxHeartbeats 1000000 in
theorem ROver_L {w0 : World} {H : Heap} {br bf n cap : Nat} {ad : Option Addr} {r : Vs}   : LCalls Tryd.prog w0 19 #[.pointer (some ⟨br, 0, none⟩)] ((br, .cells 86 42 (runC bf ad n cap r)) :: H) (fun v H' => v = .bool r.over ∧ H' = (br, .cells 86 42 (runC bf ad n cap r)) :: H) := by
  refine L_enter (l := [.pointer (some ⟨br, 0, none⟩)]) Tryd.func19 rfl Tryd.ntmps19 rfl rfl ?_
  refine W_sr ?_
  refine W_assign rfl rfl ?_
  refine W_nil ?_
  refine W_sr ?_
  refine W_move rfl rfl ?_
  refine W_x (X_ptrNil rfl rfl ty29) (fun _ h => by cases h) rfl ?_
  refine W_move rfl rfl ?_
  refine W_gyes rfl rfl ?_
  refine W_move rfl rfl ?_
  refine W_gyes rfl rfl ?_
  refine W_nilCheck rfl rfl ?_
  refine W_gyes rfl rfl ?_
  refine W_fieldAddr rfl fld86_5 (by decide) rfl ?_
  refine W_gyes rfl rfl ?_
  refine W_load (v := .bool r.over) rfl ty4 rfl (Cell.own (b := br) zM rfl) rfl ?_
  first | refine W_pickt rfl rfl rfl ?_ | refine W_pickf rfl rfl rfl ?_
  refine W_assign rfl rfl ?_
  refine W_nil ?_
  refine W_ret1m (H2 := (br, .cells 86 42 (runC bf ad n cap r)) :: H) Tryd.results19 rfl (.nil _) zH ?_
  exact ⟨by simp, rfl⟩
set_option maxHeartbeats 1000000 in
theorem ROver_nil  : Pure Tryd.prog (fun _ => True) 19 [.pointer none] (.bool true) := by
  intro w0 H hT
  refine L_enter Tryd.func19 rfl Tryd.ntmps19 rfl rfl ?_
  refine W_sr ?_
  refine W_assign rfl rfl ?_
  refine W_nil ?_
  refine W_sr ?_
  refine W_move rfl rfl ?_
  refine W_x (X_ptrNil rfl rfl ty29) (fun _ h => by cases h) rfl ?_
  refine W_move rfl rfl ?_
  refine W_gno rfl rfl rfl ?_
  refine W_gno rfl rfl rfl ?_
  refine W_gno rfl rfl rfl ?_
  refine W_gno rfl rfl rfl ?_
  first | refine W_pickt rfl rfl rfl ?_ | refine W_pickf rfl rfl rfl ?_
  refine W_assign rfl rfl ?_
  refine W_nil ?_
  refine W_ret1m (H2 := H) Tryd.results19 rfl (.nil _) zH ?_
  exact ⟨rfl, rfl⟩
set_option maxHeartbeats 1000000 in
theorem RAsks_L {w0 : World} {H : Heap} {br bf n cap : Nat} {ad : Option Addr} {r : Vs}   : LCalls Tryd.prog w0 20 #[.pointer (some ⟨br, 0, none⟩)] ((br, .cells 86 42 (runC bf ad n cap r)) :: H) (fun v H' => v = .bool r.asks ∧ H' = (br, .cells 86 42 (runC bf ad n cap r)) :: H) := by
  refine L_enter (l := [.pointer (some ⟨br, 0, none⟩)]) Tryd.func20 rfl Tryd.ntmps20 rfl rfl ?_
  refine W_sr ?_
  refine W_assign rfl rfl ?_
  refine W_nil ?_
  refine W_sr ?_
  refine W_move rfl rfl ?_
  refine W_x (X_ptrNotNil rfl rfl ty29) (fun _ h => by cases h) rfl ?_
  refine W_move rfl rfl ?_
  refine W_gyes rfl rfl ?_
  refine W_move rfl rfl ?_
  refine W_gyes rfl rfl ?_
  refine W_nilCheck rfl rfl ?_
  refine W_gyes rfl rfl ?_
  refine W_fieldAddr rfl fld86_4 (by decide) rfl ?_
  refine W_gyes rfl rfl ?_
  refine W_load (v := .bool r.asks) rfl ty4 rfl (Cell.own (b := br) zM rfl) rfl ?_
  first | refine W_pickt rfl rfl rfl ?_ | refine W_pickf rfl rfl rfl ?_
  refine W_assign rfl rfl ?_
  refine W_nil ?_
  refine W_ret1m (H2 := (br, .cells 86 42 (runC bf ad n cap r)) :: H) Tryd.results20 rfl (.nil _) zH ?_
  exact ⟨by simp, rfl⟩
set_option maxHeartbeats 1000000 in
theorem RAsks_nil  : Pure Tryd.prog (fun _ => True) 20 [.pointer none] (.bool false) := by
  intro w0 H hT
  refine L_enter Tryd.func20 rfl Tryd.ntmps20 rfl rfl ?_
  refine W_sr ?_
  refine W_assign rfl rfl ?_
  refine W_nil ?_
  refine W_sr ?_
  refine W_move rfl rfl ?_
  refine W_x (X_ptrNotNil rfl rfl ty29) (fun _ h => by cases h) rfl ?_
  refine W_move rfl rfl ?_
  refine W_gno rfl rfl rfl ?_
  refine W_gno rfl rfl rfl ?_
  refine W_gno rfl rfl rfl ?_
  refine W_gno rfl rfl rfl ?_
  first | refine W_pickt rfl rfl rfl ?_ | refine W_pickf rfl rfl rfl ?_
  refine W_assign rfl rfl ?_
  refine W_nil ?_
  refine W_ret1m (H2 := H) Tryd.results20 rfl (.nil _) zH ?_
  exact ⟨rfl, rfl⟩
set_option maxHeartbeats 1000000 in
theorem REnd_L {w0 : World} {H : Heap} {br bf n cap : Nat} {ad : Option Addr} {r : Vs} {e : Int}  : LCalls Tryd.prog w0 22 #[.pointer (some ⟨br, 0, none⟩), .int .i64 e] ((br, .cells 86 42 (runC bf ad n cap r)) :: H) (fun v H' => v = .int .i64 (if r.over = true then 6 else 0) ∧ H' = (br, .cells 86 42 (runC bf ad n cap (if r.over = true then r else endF r e))) :: H) := by
  refine L_enter (l := [.pointer (some ⟨br, 0, none⟩), .int .i64 e]) Tryd.func22 rfl Tryd.ntmps22 rfl rfl ?_
  refine W_sr ?_
  refine W_assign rfl rfl ?_
  refine W_nil ?_
  refine W_seq ?_
  refine W_sr ?_
  refine W_move rfl rfl ?_
  refine W_x (X_ptrNil rfl rfl ty29) (fun _ h => by cases h) rfl ?_
  refine W_move rfl rfl ?_
  refine W_gyes rfl rfl ?_
  refine W_move rfl rfl ?_
  refine W_gyes rfl rfl ?_
  refine W_nilCheck rfl rfl ?_
  refine W_gyes rfl rfl ?_
  refine W_fieldAddr rfl fld86_5 (by decide) rfl ?_
  refine W_gyes rfl rfl ?_
  refine W_load (v := .bool r.over) rfl ty4 rfl (Cell.own (b := br) zM rfl) rfl ?_
  first | refine W_pickt rfl rfl rfl ?_ | refine W_pickf rfl rfl rfl ?_
  refine W_nil ?_
  refine W_condPS (p := r.over = true) rfl (by simp) (fun c0 => ?_) (fun c0 => ?_)
  · skip
    refine W_sr ?_
    refine W_assign rfl rfl ?_
    refine W_nil ?_
    refine W_ret1m (H2 := (br, .cells 86 42 (runC bf ad n cap r)) :: H) Tryd.results22 rfl (.nil _) zH ?_
    exact ⟨by rw [if_pos c0], by rw [if_pos c0]⟩
  · skip
    refine W_skip ?_
    refine W_sr ?_
    refine W_move rfl rfl ?_
    refine W_move rfl rfl ?_
    refine W_call (.cons rfl (.cons rfl .nil)) Tryd.call41 rfl ((rend_L (H := H) (r := r) (e := e)).hsub zH) ?_
    rintro v H' rfl
    refine W_nil ?_
    refine W_sr ?_
    refine W_assign rfl rfl ?_
    refine W_nil ?_
    refine W_ret1m (H2 := (br, .cells 86 42 (runC bf ad n cap (endF r e))) :: H) Tryd.results22 rfl (.nil _) zH ?_
    exact ⟨by rw [if_neg c0], by rw [if_neg c0]⟩
set_option maxHeartbeats 1000000 in
theorem REnd_nil {e : Int} : Pure Tryd.prog (fun _ => True) 22 [.pointer none, .int .i64 e] (.int .i64 6) := by
  intro w0 H hT
  refine L_enter Tryd.func22 rfl Tryd.ntmps22 rfl rfl ?_
  refine W_sr ?_
  refine W_assign rfl rfl ?_
  refine W_nil ?_
  refine W_seq ?_
  refine W_sr ?_
  refine W_move rfl rfl ?_
  refine W_x (X_ptrNil rfl rfl ty29) (fun _ h => by cases h) rfl ?_
  refine W_move rfl rfl ?_
  refine W_gno rfl rfl rfl ?_
  refine W_gno rfl rfl rfl ?_
  refine W_gno rfl rfl rfl ?_
  refine W_gno rfl rfl rfl ?_
  first | refine W_pickt rfl rfl rfl ?_ | refine W_pickf rfl rfl rfl ?_
  refine W_nil ?_
  refine W_condT rfl rfl ?_
  refine W_sr ?_
  refine W_assign rfl rfl ?_
  refine W_nil ?_
  refine W_ret1m (H2 := H) Tryd.results22 rfl (.nil _) zH ?_
  exact ⟨rfl, rfl⟩
set_option maxHeartbeats 1000000 in
theorem inner_nil  : Pure Tryd.prog (fun _ => True) 43 [.pointer none] (.pointer none) := by
  intro w0 H hT
  refine L_enter Tryd.func43 rfl Tryd.ntmps43 rfl rfl ?_
  refine W_sr ?_
  refine W_assign rfl rfl ?_
  refine W_nil ?_
  refine W_seq ?_
  refine W_sr ?_
  refine W_move rfl rfl ?_
  refine W_x (X_ptrNil rfl rfl ty29) (fun _ h => by cases h) rfl ?_
  refine W_nil ?_
  refine W_condT rfl rfl ?_
  refine W_sr ?_
  refine W_assign rfl rfl ?_
  refine W_nil ?_
  refine W_ret1m (H2 := H) Tryd.results43 rfl (.nil _) zH ?_
  exact ⟨rfl, rfl⟩
set_option maxHeartbeats 1000000 in
theorem RReg_nil (at_ : Int) : Pure Tryd.prog (fun _ => True) 27 [.pointer none, .int .i64 at_] (.tuple #[.agg (vaC zeroV).toArray, .int .i64 6]) := by
  intro w0 H hT
  refine L_enter Tryd.func27 rfl Tryd.ntmps27 rfl rfl ?_
  refine W_sr ?_
  refine W_alloc (l := vaC zeroV) ty41 rfl rfl (fun b4 => ?_)
  refine W_assign rfl rfl ?_
  refine W_nil ?_
  refine W_sr ?_
  refine W_move rfl rfl ?_
  refine W_callp (.cons rfl .nil) Tryd.call43 rfl (T := fun _ => True) trivial (inner_nil ) ?_
  refine W_move rfl rfl ?_
  refine W_callp (.cons rfl (.cons rfl .nil)) Tryd.call46 rfl (T := fun _ => True) trivial (Reg_nil _) ?_
  refine W_extract rfl rfl rfl ?_
  refine W_extract rfl rfl rfl ?_
  refine W_storeA rfl rfl ty41 rfl rfl (b := b4) zM (by decide) rfl zU ?_
  refine W_assign rfl rfl ?_
  refine W_nil ?_
  refine W_ret2G (H2 := H) Tryd.results27 (.nil _) (.own rfl ty41 rfl zM rfl) (.tmp rfl) zH ?_
  exact ⟨rfl, rfl⟩
set_option maxHeartbeats 1000000 in
theorem RRead_nil (at_ n : Int) : Pure Tryd.prog (fun _ => True) 26 [.pointer none, .int .i64 at_, .int .i64 n] (.tuple #[.slice none 0 0, .int .i64 6]) := by
  intro w0 H hT
  refine L_enter Tryd.func26 rfl Tryd.ntmps26 rfl rfl ?_
  refine W_sr ?_
  refine W_assign rfl rfl ?_
  refine W_assign rfl rfl ?_
  refine W_nil ?_
  refine W_sr ?_
  refine W_move rfl rfl ?_
  refine W_callp (.cons rfl .nil) Tryd.call43 rfl (T := fun _ => True) trivial (inner_nil ) ?_
  refine W_move rfl rfl ?_
  refine W_move rfl rfl ?_
  refine W_callp (.cons rfl (.cons rfl (.cons rfl .nil))) Tryd.call45 rfl (T := fun _ => True) trivial (read_nil _ _) ?_
  refine W_extract rfl rfl rfl ?_
  refine W_extract rfl rfl rfl ?_
  refine W_assign rfl rfl ?_
  refine W_assign rfl rfl ?_
  refine W_nil ?_
  refine W_ret2m (H2 := H) Tryd.results26 rfl rfl (.nil _) zH ?_
  exact ⟨rfl, rfl⟩
set_option maxHeartbeats 1000000 in
theorem RWrite_nil (at_ : Int) (ad : Option Addr) (n cap : Nat) : Pure Tryd.prog (fun _ => True) 24 [.pointer none, .int .i64 at_, .slice ad n cap] (.int .i64 6) := by
  intro w0 H hT
  refine L_enter Tryd.func24 rfl Tryd.ntmps24 rfl rfl ?_
  refine W_sr ?_
  refine W_assign rfl rfl ?_
  refine W_nil ?_
  refine W_sr ?_
  refine W_move rfl rfl ?_
  refine W_callp (.cons rfl .nil) Tryd.call43 rfl (T := fun _ => True) trivial (inner_nil ) ?_
  refine W_move rfl rfl ?_
  refine W_move rfl rfl ?_
  refine W_callp (.cons rfl (.cons rfl (.cons rfl .nil))) Tryd.call44 rfl (T := fun _ => True) trivial (write_nil _ _ _ _) ?_
  refine W_assign rfl rfl ?_
  refine W_nil ?_
  refine W_ret1m (H2 := H) Tryd.results24 rfl (.nil _) zH ?_
  exact ⟨rfl, rfl⟩
set_option maxHeartbeats 1000000 in
theorem RGo_nil (n : Int) : Pure Tryd.prog (fun _ => True) 12 [.pointer none, .int .i64 n] (.agg (trC { trZ with kind := 1 }).toArray) := by
  intro w0 H hT
  refine L_enter Tryd.func12 rfl Tryd.ntmps12 rfl rfl ?_
  refine W_sr ?_
  refine W_alloc (l := trC trZ) ty44 rfl rfl (fun b4 => ?_)
  refine W_nil ?_
  refine W_scope (fun _ _ _ h => h) ?_
  refine W_seq ?_
  refine W_sr ?_
  refine W_move rfl rfl ?_
  refine W_x (X_ptrNil rfl rfl ty29) (fun _ h => by cases h) rfl ?_
  refine W_nil ?_
  refine W_condT rfl rfl ?_
  refine W_sr ?_
  refine W_build (l := trC { trZ with kind := 1 }) ty44 pl44 (.cons rfl rfl rfl rfl rfl .nil) rfl rfl rfl ?_
  refine W_storeA (l' := trC { trZ with kind := 1 }) rfl rfl ty44 rfl rfl (b := b4) zM (Nat.le_of_ble_eq_true rfl) rfl zU ?_
  refine W_nil ?_
  refine W_ret1cO (H2 := H) Tryd.results12 rfl (.nil _) ty44 rfl zM rfl zH ?_
  exact ⟨rfl, rfl⟩
set_option maxHeartbeats 1000000 in
theorem RGive_nil (v : Va) (e : Int) : Pure Tryd.prog (fun _ => True) 17 [.pointer none, .agg (vaC v).toArray, .int .i64 e] (.int .i64 6) := by
  intro w0 H hT
  refine L_enter Tryd.func17 rfl Tryd.ntmps17 rfl rfl ?_
  refine W_sr ?_
  refine W_box rfl rfl rfl (fun b4 => ?_)
  refine W_assign rfl rfl ?_
  refine W_nil ?_
  refine W_seq ?_
  refine W_sr ?_
  refine W_move rfl rfl ?_
  refine W_x (X_ptrNil rfl rfl ty29) (fun _ h => by cases h) rfl ?_
  refine W_move rfl rfl ?_
  refine W_gno rfl rfl rfl ?_
  refine W_gno rfl rfl rfl ?_
  refine W_gno rfl rfl rfl ?_
  refine W_gno rfl rfl rfl ?_
  refine W_gno rfl rfl rfl ?_
  first | refine W_pickt rfl rfl rfl ?_ | refine W_pickf rfl rfl rfl ?_
  refine W_nil ?_
  refine W_condT rfl rfl ?_
  refine W_sr ?_
  refine W_assign rfl rfl ?_
  refine W_nil ?_
  refine W_ret1m (H2 := H) Tryd.results17 rfl (.nil _) zH ?_
  exact ⟨rfl, rfl⟩
end Go.Proofs.YtcmfldfeakmdoaaDoor
namespace Go.Proofs.YtcmfldfeakmdoaaDoor
open Go Go.Sl
attribute [local irreducible] W
theorem rstep_L {w0 : World} {H : Heap} {br bf n cap : Nat} {ad : Option Addr} {r : Vs}  {l : List Ins} (hn : n = l.length) (hc : CodeOk l) (hi : InsOk l) (hr : RunOk l r) (hrow : Holds w0 H ad (insRow l)) (ho : r.over = false) (ha : r.asks = false) (hT : Tab w0) : LCalls Tryd.prog w0 38 #[.pointer (some ⟨br, 0, none⟩)] ((br, .cells 86 42 (runC bf ad n cap r)) :: (bf, .cells 101 90 (vaRow (r).V)) :: H) (fun _ H' => H' = (br, .cells 86 42 (runC bf ad n cap (stepX l r))) :: (bf, .cells 101 90 (vaRow (stepX l r).V)) :: H) := by
  obtain ⟨k, hk, hkl⟩ := hr.at_
  have hl64 := hc.len
  have hx := getD_some hkl
  have e : stepX l r = oneX r (l.getD k ins0) := by unfold stepX; rw [hk]; rfl
  rw [e]
  have hf := hr.fuel
  have hop := (hi _ (List.mem_of_getElem? hx)).op
  refine rone_L hn hr.len hk hx (by omega) hop hr.pos ⟨hf.1, by omega⟩ (fun h2 => ?_) hrow hT
  obtain ⟨htv, ho1, ho2⟩ := toV_is (k := k) (hc.chk hx) (by omega)
  have hwi := hc.within hx
  have hb := cls2.1 h2
  unfold withinB at hwi
  rw [if_neg (by omega), if_neg (by omega), decide_eq_false (p := cls (l.getD k ins0).op ≠ 2) (by simpa using h2), Bool.false_or, Bool.and_eq_true, decide_eq_true_eq, decide_eq_true_eq] at hwi
  omega
set_option maxHeartbeats 1000000 in
theorem RGo_L {w0 : World} {H : Heap} {br bf n cap : Nat} {ad : Option Addr} {r : Vs} {nn : Int} {l : List Ins} (hn : n = l.length) (hc : CodeOk l) (hi : InsOk l) (hr : RunOk l r) (hrow : Holds w0 H ad (insRow l)) (hnn : nn ≤ 9223372036854775807) (hT : Tab w0) : LCalls Tryd.prog w0 12 #[.pointer (some ⟨br, 0, none⟩), .int .i64 nn] ((br, .cells 86 42 (runC bf ad n cap r)) :: (bf, .cells 101 90 (vaRow (r).V)) :: H) (fun v H' => v = .agg (trC (trapOf (goF l nn.toNat r))).toArray ∧ H' = (br, .cells 86 42 (runC bf ad n cap (goF l nn.toNat r))) :: (bf, .cells 101 90 (vaRow (goF l nn.toNat r).V)) :: H) := by
  refine L_enter (l := [.pointer (some ⟨br, 0, none⟩), .int .i64 nn]) Tryd.func12 rfl Tryd.ntmps12 rfl rfl ?_
  refine W_sr ?_
  refine W_alloc (l := trC trZ) ty44 rfl rfl (fun b4 => ?_)
  refine W_nil ?_
  refine W_scope (fun _ _ _ h => h) ?_
  refine W_seq ?_
  refine W_sr ?_
  refine W_move rfl rfl ?_
  refine W_x (X_ptrNil rfl rfl ty29) (fun _ h => by cases h) rfl ?_
  refine W_nil ?_
  refine W_condF rfl rfl ?_
  refine W_skip ?_
  refine W_seq ?_
  refine W_label ?_
  refine W_seq ?_
  refine W_sr ?_
  refine W_assign rfl rfl ?_
  refine W_nil ?_
  refine W_cutX (X := Unit) (fun _ => [(0, .pointer (some ⟨br, 0, none⟩)), (4, .pointer (some ⟨b4, 0, none⟩))]) (fun _ => (b4, .cells 44 34 (trC trZ)) :: (br, .cells 86 42 (runC bf ad n cap (goF l nn.toNat r))) :: (bf, .cells 101 90 (vaRow (goF l nn.toNat r).V)) :: H) (fun _ => True) ?_ ?_
  · skip
    refine W_block ?_
    refine W_loopD (X := Nat) (fun k => [(0, .pointer (some ⟨br, 0, none⟩)), (1, .int .i64 nn), (4, .pointer (some ⟨b4, 0, none⟩)), (5, .int .i64 (k : Int))]) (fun _ => []) (fun k => (b4, .cells 44 34 (trC trZ)) :: (br, .cells 86 42 (runC bf ad n cap (goF l k r))) :: (bf, .cells 101 90 (vaRow (goF l k r).V)) :: H) (fun k => k ≤ nn.toNat) (fun k => nn.toNat - k) 0 (Nat.zero_le _) (sub_cons rfl (sub_cons rfl (sub_cons rfl (sub_cons rfl (sub_nil _))))) rfl zH ?_
    intro k hk
    have hrk := goF_ok hc k hr
    refine W_seq ?_
    refine W_sr ?_
    refine W_move rfl rfl ?_
    refine W_move rfl rfl ?_
    refine W_bin rfl rfl b_lss rfl ?_
    refine W_nil ?_
    refine W_condPS (p := (k : Int) < nn) rfl (by simp) (fun c0 => ?_) (fun c0 => ?_)
    · skip
      refine W_skip ?_
      refine W_seq ?_
      refine W_block ?_
      refine W_seq ?_
      refine W_sr ?_
      refine W_move rfl rfl ?_
      refine W_nilCheck rfl rfl ?_
      refine W_fieldAddr rfl fld86_5 (by decide) rfl ?_
      refine W_load (v := .bool (goF l k r).over) rfl ty4 rfl (Cell.own (b := br) zM rfl) rfl ?_
      refine W_move rfl rfl ?_
      apply W_or
      iterate 4 exact rfl
      case h1 =>
        intro hg4
        refine W_gyes rfl rfl ?_
        refine W_move rfl rfl ?_
        refine W_gyes rfl rfl ?_
        refine W_nilCheck rfl rfl ?_
        refine W_gyes rfl rfl ?_
        refine W_fieldAddr rfl fld86_4 (by decide) rfl ?_
        refine W_gyes rfl rfl ?_
        refine W_load (v := .bool (goF l k r).asks) rfl ty4 rfl (Cell.own (b := br) zM rfl) rfl ?_
        exact W_met rfl zR
      refine W_nil ?_
      refine W_condPS (p := ((goF l k r).over || (goF l k r).asks) = true) rfl (by simp) (fun c1 => ?_) (fun c1 => ?_)
      · skip
        refine W_exit rfl ?_
        have eg : goF l nn.toNat r = goF l k r := by
          obtain ⟨d, hd⟩ := Nat.exists_eq_add_of_le hk
          rw [hd, ← goF_add, goF_done (by simpa using c1)]
        refine W_joinX () trivial (sub_cons rfl (sub_cons rfl (sub_nil _))) (by first | exact hsubI | (rw [eg]; exact hsubI))
      · skip
        refine W_skip ?_
        refine W_region ?_
        refine W_move rfl rfl ?_
        have hd : ((goF l k r).over || (goF l k r).asks) = false := by simpa using c1
        refine W_call (.cons rfl .nil) Tryd.call38 rfl ((rstep_L (H := (b4, .cells 44 34 (trC trZ)) :: H) (r := (goF l k r)) hn hc hi hrk (hrow.up zH) (by simp at hd; exact hd.1) (by simp at hd; exact hd.2) hT).hsub zH) ?_
        rintro v H' rfl
        refine W_nil ?_
        refine W_blk ?_
        refine W_region ?_
        refine W_move rfl rfl ?_
        refine W_bin rfl rfl (b_add (m := ((k + 1 : Nat) : Int)) ((i64w (by omega)).trans (by omega))) rfl ?_
        refine W_assign rfl rfl ?_
        refine W_nil ?_
        refine W_again (k + 1) (by omega) (by omega) (sub_cons rfl (sub_cons rfl (sub_cons rfl (sub_cons rfl (sub_nil _))))) rfl (by rw [goF_snoc hd]; exact hsubI)
    · skip
      refine W_exit rfl ?_
      obtain rfl : k = nn.toNat := by omega
      refine W_joinX () trivial (sub_cons rfl (sub_cons rfl (sub_nil _))) (by first | exact hsubI | (rw [eg]; exact hsubI))
  rintro _ _
  refine W_seq ?_
  refine W_block ?_
  refine W_sr ?_
  refine W_move rfl rfl ?_
  refine W_nilCheck rfl rfl ?_
  refine W_fieldAddr rfl fld86_5 (by decide) rfl ?_
  refine W_load (v := .bool (goF l nn.toNat r).over) rfl ty4 rfl (Cell.own (b := br) zM rfl) rfl ?_
  refine W_assign rfl rfl ?_
  refine W_nil ?_
  refine W_condPS (p := (goF l nn.toNat r).over = true) rfl (by simp) (fun c0 => ?_) (fun c0 => ?_)
  · skip
    refine W_sr ?_
    refine W_build (l := trC { trZ with kind := 1 }) ty44 pl44 (.cons rfl rfl rfl rfl rfl .nil) rfl rfl rfl ?_
    refine W_storeA (l' := trC { trZ with kind := 1 }) rfl rfl ty44 rfl rfl (b := b4) zM (Nat.le_of_ble_eq_true rfl) rfl zU ?_
    refine W_nil ?_
    refine W_ret1cO (H2 := (br, .cells 86 42 (runC bf ad n cap (goF l nn.toNat r))) :: (bf, .cells 101 90 (vaRow (goF l nn.toNat r).V)) :: H) Tryd.results12 rfl (.nil _) ty44 rfl zM rfl zH ?_
    unfold trapOf
    rw [if_pos c0]
    exact ⟨rfl, rfl⟩
  · skip
    refine W_sr ?_
    refine W_move rfl rfl ?_
    refine W_nilCheck rfl rfl ?_
    refine W_fieldAddr rfl fld86_4 (by decide) rfl ?_
    refine W_load (v := .bool (goF l nn.toNat r).asks) rfl ty4 rfl (Cell.own (b := br) zM rfl) rfl ?_
    refine W_assign rfl rfl ?_
    refine W_nil ?_
    refine W_condPS (p := (goF l nn.toNat r).asks = true) rfl (by simp) (fun c1 => ?_) (fun c1 => ?_)
    · skip
      refine W_sr ?_
      refine W_move rfl rfl ?_
      refine W_nilCheck rfl rfl ?_
      refine W_fieldAddr rfl fld86_6 (by decide) rfl ?_
      refine W_loadB (vs := trC (goF l nn.toNat r).opn) rfl ty44 rfl (b := br) zM rfl rfl rfl ?_
      refine W_storeA (l' := trC (goF l nn.toNat r).opn) rfl rfl ty44 rfl rfl (b := b4) zM (Nat.le_of_ble_eq_true rfl) rfl zU ?_
      refine W_nil ?_
      refine W_ret1cO (H2 := (br, .cells 86 42 (runC bf ad n cap (goF l nn.toNat r))) :: (bf, .cells 101 90 (vaRow (goF l nn.toNat r).V)) :: H) Tryd.results12 rfl (.nil _) ty44 rfl zM rfl zH ?_
      unfold trapOf
      rw [if_neg c0, if_pos c1]
      exact ⟨rfl, rfl⟩
    · skip
      refine W_skip ?_
      refine W_blk ?_
      refine W_sr ?_
      refine W_build (l := trC trZ) ty44 pl44 .nil rfl rfl rfl ?_
      refine W_storeA (l' := trC trZ) rfl rfl ty44 rfl rfl (b := b4) zM (Nat.le_of_ble_eq_true rfl) rfl zU ?_
      refine W_nil ?_
      refine W_ret1cO (H2 := (br, .cells 86 42 (runC bf ad n cap (goF l nn.toNat r))) :: (bf, .cells 101 90 (vaRow (goF l nn.toNat r).V)) :: H) Tryd.results12 rfl (.nil _) ty44 rfl zM rfl zH ?_
      unfold trapOf
      rw [if_neg c0, if_neg c1]
      exact ⟨rfl, rfl⟩
end Go.Proofs.YtcmfldfeakmdoaaDoor
