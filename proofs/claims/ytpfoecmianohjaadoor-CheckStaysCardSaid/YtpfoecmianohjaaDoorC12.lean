/-
  Own work: contracts of functions that the statement reaches, and plain facts on what they compute; each theorem says its conditions.
-/
import Derived.Test.YtpfoecmianohjaaDoorC11
set_option linter.all false
set_option linter.unusedSimpArgs false
set_option linter.unusedVariables false
namespace Go.Proofs.YtpfoecmianohjaaDoor
open Go Go.Sl
attribute [local irreducible] W

/-! ## What is reached, by a list of what is to be done -/
def unset (m : Nat) : Nat := ((List.range 64).filter fun i => !m.testBit i).length
theorem filter_lt {α : Type} {p q : α → Bool} : ∀ {l : List α}, (∀ x ∈ l, q x = true → p x = true) → (∃ x ∈ l, p x = true ∧ q x = false) → (l.filter q).length < (l.filter p).length
  | [], _, ⟨x, hx, _⟩ => by cases hx
  | y :: l, h, ⟨x, hx, hp, hq⟩ => by
    have hle : ∀ {l : List α}, (∀ x ∈ l, q x = true → p x = true) → (l.filter q).length ≤ (l.filter p).length := by
      intro l
      induction l with
      | nil => intro _; exact Nat.le_refl _
      | cons z l ih =>
        intro h
        have h1 := ih (fun x hx => h x (List.mem_cons_of_mem _ hx))
        have h2 := h z List.mem_cons_self
        cases hz : q z <;> cases hz' : p z <;> simp_all <;> omega
    have htl : ∀ x ∈ l, q x = true → p x = true := fun x hx => h x (List.mem_cons_of_mem _ hx)
    rcases List.mem_cons.1 hx with rfl | hx
    · have := hle htl
      simp [hp, hq]; omega
    · have := filter_lt htl ⟨x, hx, hp, hq⟩
      have h2 := h y List.mem_cons_self
      cases hy : q y <;> cases hy' : p y <;> simp_all <;> omega
theorem unset_le (m : Nat) : unset m ≤ 64 := Nat.le_trans (List.length_filter_le _ _) (by simp)
theorem bit_or {m : Nat} {z : Int} (hz : 0 ≤ z ∧ z < 64) (i : Nat) : (m ||| bitN z).testBit i = (m.testBit i || decide (i = z.toNat)) := by
  unfold bitN
  rw [if_pos hz, Nat.testBit_or, Nat.testBit_two_pow]
  congr 1
  by_cases h : z.toNat = i
  · subst h; simp
  · rw [decide_eq_false h, decide_eq_false (fun e => h e.symm)]
theorem unset_or {m : Nat} {z : Int} (hz : 0 ≤ z ∧ z < 64) (h : m.testBit z.toNat = false) : unset (m ||| bitN z) + 1 ≤ unset m := by
  refine filter_lt (fun x _ hx => ?_) ⟨z.toNat, List.mem_range.2 (by omega), by simp [h], by rw [bit_or hz]; simp⟩
  rw [bit_or hz] at hx
  cases hm : m.testBit x <;> simp_all
theorem next_range {c : List Ins} {k z : Int} (h : z ∈ nextL c k) : 0 ≤ z ∧ z < (c.length : Int) := by
  unfold nextL at h
  split at h
  · cases h
  · split at h
    · simp only [List.mem_filter, inB, Bool.and_eq_true, decide_eq_true_eq] at h; exact h.2
    · cases h
theorem nextL_len (c : List Ins) (k : Int) : (nextL c k).length ≤ 3 := by
  unfold nextL
  split
  · simp
  · split
    · exact Nat.le_trans (List.length_filter_le _ _) (seqOf_len _ _ _ _ _ _)
    · simp
structure ReachI (c : List Ins) (m : Nat) (todo : List Int) : Prop where
  ok : MaskOk m
  sound : ∀ i, m.testBit i = true → Reach c i
  zero : 0 < c.length → m.testBit 0 = true
  has : ∀ z ∈ todo, ∃ i : Nat, z = i ∧ i < 64 ∧ (m.testBit i = true ∨ c.length = 0)
  closed : ∀ i : Nat, m.testBit i = true → (i : Int) ∈ todo ∨ ∀ z : Nat, (z : Int) ∈ nextL c i → m.testBit z = true
  room : todo.length + unset m ≤ 65
structure ReachJ (c : List Ins) (k : Nat) (B : Nat) (j : Nat) (m : Nat) (todo : List Int) : Prop where
  ok : MaskOk m
  sound : ∀ i, m.testBit i = true → Reach c i
  zero : 0 < c.length → m.testBit 0 = true
  has : ∀ z ∈ todo, ∃ i : Nat, z = i ∧ i < 64 ∧ (m.testBit i = true ∨ c.length = 0)
  here : Reach c k ∨ c.length = 0
  closed : ∀ i : Nat, m.testBit i = true → (i : Int) ∈ todo ∨ (∀ z : Nat, (z : Int) ∈ nextL c i → m.testBit z = true) ∨ i = k
  done : ∀ z : Nat, (z : Int) ∈ (nextL c k).take j → m.testBit z = true
  room : todo.length + unset m ≤ 64
  less : todo.length + 2 * unset m + 1 ≤ B
theorem ReachI.start {c : List Ins} (hc : c.length ≤ 64) : ReachI c (fullN ((min c.length 1 : Nat) : Int)) [0] := by
  by_cases h : c.length = 0
  · have e : fullN ((min c.length 1 : Nat) : Int) = 0 := by rw [h]; rfl
    rw [e]
    refine ⟨by unfold MaskOk; decide, fun i hi => by simp at hi, fun h' => by omega, fun z hz => ⟨0, by simpa using hz, by omega, .inr h⟩, fun i hi => by simp at hi, ?_⟩
    have := unset_le 0
    simp only [List.length_singleton]; omega
  · have e : fullN ((min c.length 1 : Nat) : Int) = 1 := by rw [show min c.length 1 = 1 by omega]; rfl
    rw [e]
    have h1 : ∀ i, (1 : Nat).testBit i = true → i = 0 := fun i hi => by
      have : (2 ^ 0 : Nat).testBit i = true := by simpa using hi
      rw [Nat.testBit_two_pow] at this
      simpa using (of_decide_eq_true this).symm
    refine ⟨by unfold MaskOk; decide, fun i hi => by rw [h1 i hi]; exact .zero (by omega), fun _ => by decide, fun z hz => ⟨0, by simpa using hz, by omega, .inl (by decide)⟩, fun i hi => by rw [h1 i hi]; exact .inl (by simp), ?_⟩
    have := unset_le 1
    simp only [List.length_singleton]; omega
theorem ReachI.pop {c : List Ins} {m : Nat} {t : List Int} {k : Nat} (h : ReachI c m (t ++ [(k : Int)])) : ReachJ c k ((t ++ [(k : Int)]).length + 2 * unset m) 0 m t := by
  have hr := h.room
  simp only [List.length_append, List.length_singleton] at hr
  refine ⟨h.ok, h.sound, h.zero, fun z hz => h.has z (List.mem_append_left _ hz), ?_, fun i hi => ?_, fun z hz => by simp at hz, by omega, by simp only [List.length_append, List.length_singleton]; omega⟩
  · obtain ⟨i, e, _, hi⟩ := h.has k (by simp)
    have : i = k := by omega
    subst this
    rcases hi with hi | hi
    · exact .inl (h.sound _ hi)
    · exact .inr hi
  · rcases h.closed i hi with h1 | h1
    · rcases List.mem_append.1 h1 with h2 | h2
      · exact .inl h2
      · right; right; simp at h2; omega
    · exact .inr (.inl h1)
theorem ReachJ.seen {c : List Ins} {k B j m : Nat} {t : List Int} {z : Int} (h : ReachJ c k B j m t) (hc : c.length ≤ 64) (hz : (nextL c k)[j]? = some z) (hs : hasN m z = true) : ReachJ c k B (j + 1) m t := by
  refine ⟨h.ok, h.sound, h.zero, h.has, h.here, h.closed, fun y hy => ?_, h.room, h.less⟩
  rw [takeAt hz] at hy
  rcases List.mem_append.1 hy with hy | hy
  · exact h.done y hy
  · simp at hy
    subst hy
    unfold hasN at hs
    simp only [Bool.and_eq_true] at hs
    simpa using hs.2
theorem ReachJ.new {c : List Ins} {k B j m : Nat} {t : List Int} {z : Int} (h : ReachJ c k B j m t) (hc : c.length ≤ 64) (hz : (nextL c k)[j]? = some z) (hs : hasN m z = false) : ReachJ c k B (j + 1) (m ||| bitN z) (t ++ [z]) := by
  have hr := next_range (List.mem_of_getElem? hz)
  have hz64 : 0 ≤ z ∧ z < 64 := by omega
  obtain ⟨y, rfl⟩ := Int.eq_ofNat_of_zero_le hr.1
  have hb : m.testBit y = false := by
    unfold hasN goodB at hs
    simpa [hz64.1, hz64.2] using hs
  have hu := unset_or (m := m) hz64 (by simpa using hb)
  have hm : ∀ i, m.testBit i = true → (m ||| bitN (y : Int)).testBit i = true := fun i hi => by rw [bit_or hz64, hi]; rfl
  have hy : (m ||| bitN (y : Int)).testBit y = true := by rw [bit_or hz64]; simp
  have hrk : Reach c k := by
    rcases h.here with h1 | h1
    · exact h1
    · omega
  refine ⟨or_ok h.ok _, fun i hi => ?_, fun h0 => hm 0 (h.zero h0), fun x hx => ?_, h.here, fun i hi => ?_, fun x hx => ?_, by have := h.room; simp only [List.length_append, List.length_singleton]; omega, by have := h.less; simp only [List.length_append, List.length_singleton]; omega⟩
  · rw [bit_or hz64] at hi
    rcases Bool.or_eq_true _ _ ▸ hi with h1 | h1
    · exact h.sound i h1
    · have : i = y := by simpa using of_decide_eq_true h1
      subst this
      exact hrk.step (List.mem_of_getElem? hz)
  · rcases List.mem_append.1 hx with hx | hx
    · obtain ⟨i, e, h6, hi⟩ := h.has x hx
      exact ⟨i, e, h6, hi.imp (hm i) id⟩
    · simp at hx; subst hx
      exact ⟨y, rfl, by omega, .inl hy⟩
  · rw [bit_or hz64] at hi
    rcases Bool.or_eq_true _ _ ▸ hi with h1 | h1
    · rcases h.closed i h1 with h2 | h2 | h2
      · exact .inl (List.mem_append_left _ h2)
      · exact .inr (.inl fun x hx => hm x (h2 x hx))
      · exact .inr (.inr h2)
    · have : i = y := by simpa using of_decide_eq_true h1
      subst this
      exact .inl (by simp)
  · rw [takeAt hz] at hx
    rcases List.mem_append.1 hx with hx | hx
    · exact hm x (h.done x hx)
    · simp at hx
      have : x = y := by omega
      subst this; exact hy
theorem ReachJ.over {c : List Ins} {k B m : Nat} {t : List Int} (h : ReachJ c k B (nextL c k).length m t) : ReachI c m t ∧ t.length + 2 * unset m < B := by
  refine ⟨⟨h.ok, h.sound, h.zero, h.has, fun i hi => ?_, by have := h.room; omega⟩, by have := h.less; omega⟩
  rcases h.closed i hi with h1 | h1 | h1
  · exact .inl h1
  · exact .inr h1
  · subst h1
    right
    intro z hz
    exact h.done z (by rwa [List.take_length])
theorem ReachI.all {l : List Ins} (hl : InsOk l) {m : Nat} (h : ReachI (l.take 64) m []) : m = reachN l := by
  refine reachN_unique hl fun i => ⟨h.sound i, fun hr => ?_⟩
  induction hr with
  | zero h0 => exact h.zero h0
  | @step k z _ hz ih =>
    rcases h.closed k ih with h1 | h1
    · cases h1
    · exact h1 z hz
theorem holds_left {w0 : World} {H : Heap} {ad : Option Addr} {a b : List Value} (h : Holds w0 H ad (a ++ b)) : Holds w0 H ad a := fun j x hx => h j x (by
  rw [List.getElem?_append_left (List.getElem?_eq_some_iff.1 hx).1]; exact hx)
theorem insRow_take {w0 : World} {H : Heap} {ad : Option Addr} {l : List Ins} (h : Holds w0 H ad (insRow l)) (k : Nat) : Holds w0 H ad (insRow (l.take k)) := by
  have e : insRow l = insRow (l.take k) ++ insRow (l.drop k) := by rw [← List.flatMap_append, List.take_append_drop]
  rw [e] at h
  exact holds_left h
theorem i64s_len (l : List Int) : (i64s l).length = l.length := by simp [i64s]
theorem i64s_take (l : List Int) (k : Nat) : (i64s l).take k = i64s (l.take k) := by simp [i64s, List.map_take]
set_option maxHeartbeats 4000000 in
theorem reached_q {w0 : World} {H : Heap} (l : List Ins) {ad : Option Addr} {cap : Nat} (hl : InsOk l) (hn : l.length ≤ 1000000) (hcap : l.length ≤ cap) (hrow : Holds w0 H ad (insRow l)) (hT : Tab w0) : PureAt Tryd.prog w0 H 30 [.slice ad l.length cap] (.int .u64 ((reachN l : Nat) : Int)) := by
  obtain ⟨c, hc⟩ : ∃ c, c = l.take 64 := ⟨_, rfl⟩
  have hcl : c.length = min 64 l.length := by rw [hc, List.length_take]
  have hc64 : c.length ≤ 64 := by omega
  have hrc : Holds w0 H ad (insRow c) := by rw [hc]; exact insRow_take hrow 64
  refine L_enter Tryd.func30 rfl Tryd.ntmps30 rfl rfl ?_
  refine W_sr ?_
  refine W_assign rfl rfl ?_
  refine W_nil ?_
  refine W_sr ?_
  refine W_move rfl rfl ?_
  refine W_move rfl rfl ?_
  refine W_len rfl ty48 rfl rfl ?_
  refine W_min2 rfl rfl (m := (c.length : Int)) (by rw [hcl]; split <;> omega) rfl ?_
  refine W_slice0 (hh := c.length) rfl ty48 ty67 rfl ⟨_, rfl⟩ (by omega) rfl ?_
  refine W_assign rfl rfl ?_
  refine W_nil ?_
  refine W_sr ?_
  refine W_move rfl rfl ?_
  refine W_len rfl ty48 rfl rfl ?_
  refine W_min2 rfl rfl (m := ((min c.length 1 : Nat) : Int)) (by split <;> omega) rfl ?_
  refine W_callp (.cons rfl .nil) Tryd.call56 rfl hT (full_pure _) ?_
  refine W_buildSlice (l := i64s [0]) ty54 ty3 (.cons rfl rfl rfl rfl rfl .nil) rfl rfl rfl rfl rfl rfl rfl (fun b17 => ?_)
  refine W_assign rfl rfl ?_
  refine W_assign rfl rfl ?_
  refine W_nil ?_
  refine W_seq ?_
  refine W_block ?_
  refine W_loopD (X := Nat × List Int × Value × Heap) (fun | (m, _, v, _) => [(0, .slice ad c.length cap), (3, .int .u64 (m : Int)), (4, v)]) (fun _ => []) (fun | (_, _, _, HB) => HB ++ H) (fun | (m, todo, v, HB) => ReachI c m todo ∧ OwnS 3 1 v todo.length (i64s todo) HB) (fun | (m, todo, _, _) => todo.length + 2 * unset m) (fullN ((min c.length 1 : Nat) : Int), [0], .slice (some ⟨b17, 0, none⟩) 1 1, [(b17, .cells 3 (1 * 1) (i64s [0]))]) ⟨.start hc64, .own rfl (by decide) (by decide)⟩ (sub_cons rfl (sub_cons rfl (sub_cons rfl (sub_nil _)))) rfl (by repeat (first | exact HSub.refl _ | refine HSub.cons (by repeat (first | exact Take.here _ | apply Take.next | apply Take.app)) ?_ | refine HSub.app (by repeat (first | exact TakeS.here _ | apply TakeS.next | apply TakeS.app)) ?_ | refine HSub.drop ?_ | refine HSub.dropS ?_ | exact HSub.nil _)) ?_
  rintro ⟨m, todo, v, HB⟩ ⟨hI, hO⟩
  simp only
  obtain ⟨ad4, cap4, rfl, _, _⟩ := hO.shape
  refine W_seq ?_
  refine W_sr ?_
  refine W_move rfl rfl ?_
  refine W_len rfl ty54 rfl rfl ?_
  refine W_bin rfl rfl b_gtr rfl ?_
  refine W_nil ?_
  refine W_condPS (p := 0 < (todo.length : Int)) rfl (by simp) (fun c0 => ?_) (fun c0 => ?_)
  · skip
    refine W_skip ?_
    refine W_block ?_
    refine W_sr ?_
    obtain ⟨b4, cp4, hv, rfl, hcp⟩ := hO.pos (by omega)
    cases hv
    obtain ⟨tds, z, rfl⟩ : ∃ tds z, todo = tds ++ [z] := ⟨todo.dropLast, todo.getLast (by intro e; rw [e] at c0; simp at c0), (List.dropLast_concat_getLast _).symm⟩
    obtain ⟨k, rfl, hk64, _⟩ := hI.has z (by simp)
    have hpop := hI.pop
    have hr65 := hpop.room
    obtain ⟨B, hB⟩ : ∃ B, B = (tds ++ [(k : Int)]).length + 2 * unset m := ⟨_, rfl⟩
    rw [← hB] at hpop ⊢
    have hln : (tds ++ [(k : Int)]).length = tds.length + 1 := by simp
    refine W_move rfl rfl ?_
    refine W_move rfl rfl ?_
    refine W_len rfl ty54 rfl rfl ?_
    refine W_bin rfl rfl (b_sub (m := (tds.length : Int)) ((i64w (by omega)).trans (by omega))) rfl ?_
    refine W_indexAddr (j := tds.length) rfl rfl ty54 ty3 rfl (by omega) rfl rfl ?_
    refine W_load rfl ty3 rfl (Cell.own (by repeat (first | exact List.mem_cons_self | apply List.mem_cons_of_mem | apply List.mem_append_right)) (by rw [Nat.zero_add, Nat.mul_one]; exact i64s_at (x := (k : Int)) (by simp))) rfl ?_
    refine W_assign rfl rfl ?_
    refine W_nil ?_
    refine W_sr ?_
    refine W_move rfl rfl ?_
    refine W_move rfl rfl ?_
    refine W_len rfl ty54 rfl rfl ?_
    refine W_bin rfl rfl (b_sub (m := (tds.length : Int)) ((i64w (by omega)).trans (by omega))) rfl ?_
    refine W_slice0 (hh := tds.length) rfl ty54 ty3 rfl ⟨_, rfl⟩ (by omega) rfl ?_
    refine W_assign rfl rfl ?_
    refine W_nil ?_
    refine W_sr ?_
    obtain ⟨HB', hO', hsub⟩ := hO.cut (j := tds.length) (by omega)
    rw [show (i64s (tds ++ [(k : Int)])).take (tds.length * 1) = i64s tds by rw [Nat.mul_one, i64s_take]; simp] at hO'
    refine W_hsub (hsub H) ?_
    obtain ⟨r, hr⟩ : ∃ r, r = nextL c k := ⟨_, rfl⟩
    refine W_move rfl rfl ?_
    refine W_move rfl rfl ?_
    refine W_call (.cons rfl (.cons rfl .nil)) Tryd.call28 rfl (next_L c k ⟨by omega, by omega⟩ (hrc.up (by repeat (first | exact HSub.refl _ | refine HSub.cons (by repeat (first | exact Take.here _ | apply Take.next | apply Take.app)) ?_ | refine HSub.app (by repeat (first | exact TakeS.here _ | apply TakeS.next | apply TakeS.app)) ?_ | refine HSub.drop ?_ | refine HSub.dropS ?_ | exact HSub.nil _))) hT) ?_
    rintro v34 H' ⟨HB34, hO34, rfl⟩
    rw [← hr] at hO34
    obtain ⟨ad34, cap34, rfl, hcap34, hmax34, hH34⟩ := Holds.of_own (w0 := w0) (H := HB34 ++ (HB' ++ H)) hO34 (fun p hp => List.mem_append_left _ hp)
    have hr62 : r.length ≤ 3 := by rw [hr]; exact nextL_len _ _
    refine W_len rfl ty54 rfl rfl ?_
    refine W_move rfl rfl ?_
    refine W_nil ?_
    refine W_block ?_
    refine W_loopD (X := Nat × Nat × List Int × Value × Heap) (fun | (j, m, _, v, _) => [(0, .slice ad c.length cap), (3, .int .u64 (m : Int)), (4, v), (34, .slice ad34 r.length cap34), (35, .int .i64 (r.length : Int)), (36, .int .i64 (j : Int))]) (fun _ => []) (fun | (_, _, _, _, HB) => HB34 ++ (HB ++ H)) (fun | (j, m, todo, v, HB) => j ≤ r.length ∧ ReachJ c k B j m todo ∧ OwnS 3 1 v todo.length (i64s todo) HB) (fun | (j, _, _, _, _) => r.length - j) (0, m, tds, .slice (some ⟨b4, 0, none⟩) tds.length cap4, HB') ⟨Nat.zero_le _, hpop, hO'⟩ (sub_cons rfl (sub_cons rfl (sub_cons rfl (sub_cons rfl (sub_cons rfl (sub_cons rfl (sub_nil _))))))) rfl (by repeat (first | exact HSub.refl _ | refine HSub.cons (by repeat (first | exact Take.here _ | apply Take.next | apply Take.app)) ?_ | refine HSub.app (by repeat (first | exact TakeS.here _ | apply TakeS.next | apply TakeS.app)) ?_ | refine HSub.drop ?_ | refine HSub.dropS ?_ | exact HSub.nil _)) ?_
    rintro ⟨j, m2, todo, v, HB2⟩ ⟨hj, hJ, hO2⟩
    simp only
    obtain ⟨ad2, cap2, rfl, _, _⟩ := hO2.shape
    have hroom := hJ.room
    refine W_sr ?_
    refine W_bin rfl rfl b_lss rfl ?_
    refine W_nil ?_
    refine W_seq ?_
    refine W_condPS (p := (j : Int) < (r.length : Int)) rfl (by simp) (fun c1 => ?_) (fun c1 => ?_)
    · skip
      refine W_skip ?_
      refine W_seq ?_
      refine W_block ?_
      refine W_sr ?_
      obtain ⟨z, hz⟩ : ∃ z, r[j]? = some z := ⟨_, List.getElem?_eq_getElem (by omega)⟩
      obtain ⟨b, o, rfl, _⟩ := hH34 j _ (i64s_at hz)
      have hH34' := Holds.of_own (w0 := w0) (H := HB34 ++ (HB2 ++ H)) hO34 (fun p hp => List.mem_append_left _ hp)
      obtain ⟨ad', cap', he, _, _, hH⟩ := hH34'
      cases he
      obtain ⟨b', o', he, hcz⟩ := hH j _ (i64s_at hz)
      cases he
      refine W_indexAddr (j := j) rfl rfl ty54 ty3 rfl (by omega) rfl rfl ?_
      refine W_load rfl ty3 rfl (by rw [Nat.mul_one]; exact hcz) rfl ?_
      refine W_assign rfl rfl ?_
      refine W_nil ?_
      refine W_sr ?_
      refine W_move rfl rfl ?_
      refine W_move rfl rfl ?_
      refine W_callp (.cons rfl (.cons rfl .nil)) Tryd.call34 rfl hT (has_m _ _ hJ.ok) ?_
      refine W_not rfl rfl ?_
      refine W_nil ?_
      refine W_condS rfl (fun c2 => ?_) (fun c2 => ?_)
      · skip
        refine W_sr ?_
        refine W_move rfl rfl ?_
        refine W_move rfl rfl ?_
        refine W_buildSlice ty54 ty3 (.cons rfl rfl rfl rfl rfl .nil) rfl rfl rfl rfl rfl rfl rfl (fun b46 => ?_)
        refine W_callq (.cons rfl (.cons rfl .nil)) Tryd.call57 rfl (with_q _ [z] hJ.ok (by simp) (Holds.own (by repeat (first | exact List.mem_cons_self | apply List.mem_cons_of_mem | apply List.mem_append_right))) hT) ?_
        refine W_assign rfl rfl ?_
        refine W_nil ?_
        refine W_region ?_
        refine W_move rfl rfl ?_
        refine W_move rfl rfl ?_
        refine W_buildSlice ty54 ty3 (.cons rfl rfl rfl rfl rfl .nil) rfl rfl rfl rfl rfl rfl rfl (fun b50 => ?_)
        refine W_append (news := [.int .i64 z]) (m := 1) (HB := HB2) (H0 := HB34 ++ H) rfl rfl ty54 ty3 rfl (by decide) hO2 rfl (Holds.own List.mem_cons_self) rfl (by simp only [maxLen]; omega) (by omega) (by repeat (first | exact HSub.refl _ | refine HSub.cons (by repeat (first | exact Take.here _ | apply Take.next | apply Take.app)) ?_ | refine HSub.app (by repeat (first | exact TakeS.here _ | apply TakeS.next | apply TakeS.app)) ?_ | refine HSub.drop ?_ | refine HSub.dropS ?_ | exact HSub.nil _)) rfl (fun v3 HB3 hO3 => ?_)
        obtain ⟨ad3, cap3, rfl, _, _⟩ := hO3.shape
        refine W_assign rfl rfl ?_
        refine W_nil ?_
        refine W_blk ?_
        refine W_region ?_
        refine W_bin rfl rfl (b_add (m := ((j + 1 : Nat) : Int)) ((i64w (by omega)).trans (by omega))) rfl ?_
        refine W_move rfl rfl ?_
        refine W_nil ?_
        refine W_again (j + 1, m2 ||| bitN z, todo ++ [z], _, HB3) ⟨by omega, hJ.new hc64 (hr ▸ hz) (by simpa using c2), by simpa [i64s_append, i64s] using hO3⟩ (by dsimp only; omega) (sub_cons rfl (sub_cons rfl (sub_cons rfl (sub_cons rfl (sub_cons rfl (sub_cons rfl (sub_nil _))))))) rfl (by repeat (first | exact HSub.refl _ | refine HSub.cons (by repeat (first | exact Take.here _ | apply Take.next | apply Take.app)) ?_ | refine HSub.app (by repeat (first | exact TakeS.here _ | apply TakeS.next | apply TakeS.app)) ?_ | refine HSub.drop ?_ | refine HSub.dropS ?_ | exact HSub.nil _))
      · skip
        refine W_skip ?_
        refine W_blk ?_
        refine W_region ?_
        refine W_bin rfl rfl (b_add (m := ((j + 1 : Nat) : Int)) ((i64w (by omega)).trans (by omega))) rfl ?_
        refine W_move rfl rfl ?_
        refine W_nil ?_
        refine W_again (j + 1, m2, todo, _, HB2) ⟨by omega, hJ.seen hc64 (hr ▸ hz) (by simpa using c2), hO2⟩ (by dsimp only; omega) (sub_cons rfl (sub_cons rfl (sub_cons rfl (sub_cons rfl (sub_cons rfl (sub_cons rfl (sub_nil _))))))) rfl (by repeat (first | exact HSub.refl _ | refine HSub.cons (by repeat (first | exact Take.here _ | apply Take.next | apply Take.app)) ?_ | refine HSub.app (by repeat (first | exact TakeS.here _ | apply TakeS.next | apply TakeS.app)) ?_ | refine HSub.drop ?_ | refine HSub.dropS ?_ | exact HSub.nil _))
    · skip
      refine W_exit rfl ?_
      refine W_blk ?_
      obtain rfl : j = r.length := by omega
      have hov := ReachJ.over (hr ▸ hJ)
      refine W_again (m2, todo, _, HB2) ⟨hov.1, hO2⟩ hov.2 (sub_cons rfl (sub_cons rfl (sub_cons rfl (sub_nil _)))) rfl (by repeat (first | exact HSub.refl _ | refine HSub.cons (by repeat (first | exact Take.here _ | apply Take.next | apply Take.app)) ?_ | refine HSub.app (by repeat (first | exact TakeS.here _ | apply TakeS.next | apply TakeS.app)) ?_ | refine HSub.drop ?_ | refine HSub.dropS ?_ | exact HSub.nil _))
  · skip
    refine W_exit rfl ?_
    refine W_sr ?_
    refine W_move rfl rfl ?_
    refine W_assign rfl rfl ?_
    refine W_nil ?_
    refine W_ret1m (H2 := H) Tryd.results30 rfl (.nil _) (by repeat (first | exact HSub.refl _ | refine HSub.cons (by repeat (first | exact Take.here _ | apply Take.next | apply Take.app)) ?_ | refine HSub.app (by repeat (first | exact TakeS.here _ | apply TakeS.next | apply TakeS.app)) ?_ | refine HSub.drop ?_ | refine HSub.dropS ?_ | exact HSub.nil _)) ?_
    obtain rfl : todo = [] := List.eq_nil_of_length_eq_zero (by omega)
    have hIl : ReachI (l.take 64) m [] := by rw [← hc]; exact hI
    exact ⟨by rw [ReachI.all hl hIl], rfl⟩
end Go.Proofs.YtpfoecmianohjaaDoor
