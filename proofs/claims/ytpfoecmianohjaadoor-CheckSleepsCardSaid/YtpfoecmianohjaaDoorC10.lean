/-
  Own work: contracts of functions that the statement reaches, and plain facts on what they compute; each theorem says its conditions.
-/
import Derived.Test.YtpfoecmianohjaaDoorC9
set_option linter.all false
set_option linter.unusedSimpArgs false
set_option linter.unusedVariables false
namespace Go.Proofs.YtpfoecmianohjaaDoor
open Go Go.Sl

/-! ## What is reached, by sweeps over a list of marks -/
def stepB (E : Nat → Nat → Bool) (k : Nat) (o : List Bool) (t : Nat) : List Bool := bif o.getD k false && E k t then o.set t true else o
def rowB (E : Nat → Nat → Bool) (n : Nat) (o : List Bool) (k : Nat) : List Bool := (List.range n).foldl (stepB E k) o
def sweepB (E : Nat → Nat → Bool) (n : Nat) (o : List Bool) : List Bool := (List.range n).foldl (rowB E n) o
def roundsB (E : Nat → Nat → Bool) (n : Nat) : Nat → List Bool → List Bool
  | 0, o => o
  | r + 1, o => sweepB E n (roundsB E n r o)
/-- all that is marked here is marked there -/
def SubB (o p : List Bool) : Prop := o.length = p.length ∧ ∀ i, o.getD i false = true → p.getD i false = true
theorem SubB.refl (o : List Bool) : SubB o o := ⟨rfl, fun _ h => h⟩
theorem SubB.trans {o p q : List Bool} (h : SubB o p) (k : SubB p q) : SubB o q := ⟨h.1.trans k.1, fun i hi => k.2 i (h.2 i hi)⟩
theorem SubB.tail {a b : Bool} {o p : List Bool} (h : SubB (a :: o) (b :: p)) : (a = true → b = true) ∧ SubB o p :=
  ⟨fun ha => by have := h.2 0; simpa [ha] using this, by have := h.1; simpa using this, fun i hi => by have := h.2 (i + 1); simpa using this (by simpa using hi)⟩
theorem SubB.antisymm : ∀ {o p : List Bool}, SubB o p → SubB p o → o = p
  | [], [], _, _ => rfl
  | [], _ :: _, h, _ => by have := h.1; simp at this
  | _ :: _, [], h, _ => by have := h.1; simp at this
  | a :: o, b :: p, h, k => by
    obtain ⟨h1, h2⟩ := h.tail
    obtain ⟨k1, k2⟩ := k.tail
    rw [SubB.antisymm h2 k2]
    cases a <;> cases b <;> simp_all
def cntB : List Bool → Nat
  | [] => 0
  | b :: l => (if b = true then 1 else 0) + cntB l
theorem SubB.cnt : ∀ {o p : List Bool}, SubB o p → cntB o ≤ cntB p
  | [], [], _ => Nat.le_refl _
  | [], _ :: _, h => by have := h.1; simp at this
  | _ :: _, [], h => by have := h.1; simp at this
  | a :: o, b :: p, h => by
    obtain ⟨h1, h2⟩ := h.tail
    have := h2.cnt
    simp only [cntB]
    cases a <;> cases b <;> simp_all <;> omega
theorem SubB.cnt_lt : ∀ {o p : List Bool}, SubB o p → o ≠ p → cntB o < cntB p
  | [], [], _, hne => absurd rfl hne
  | [], _ :: _, h, _ => by have := h.1; simp at this
  | _ :: _, [], h, _ => by have := h.1; simp at this
  | a :: o, b :: p, h, hne => by
    obtain ⟨h1, h2⟩ := h.tail
    by_cases e : o = p
    · subst e
      cases a <;> cases b <;> simp_all [cntB] <;> omega
    · have := h2.cnt_lt e
      simp only [cntB]
      cases a <;> cases b <;> simp_all <;> omega
theorem cnt_bound : ∀ (o : List Bool) (n : Nat), (∀ i, o.getD i false = true → i < n) → cntB o ≤ n
  | [], _, _ => Nat.zero_le _
  | b :: o, 0, h => by
    have hb : b = false := by cases b with
      | false => rfl
      | true => exact absurd (h 0 rfl) (by omega)
    subst hb
    have := cnt_bound o 0 (fun i hi => by have := h (i + 1) (by simpa using hi); omega)
    simpa [cntB] using this
  | b :: o, n + 1, h => by
    have := cnt_bound o n (fun i hi => by have := h (i + 1) (by simpa using hi); omega)
    simp only [cntB]; split <;> omega
theorem getD_set {o : List Bool} {t i : Nat} : (o.set t true).getD i false = (bif decide (i = t) && decide (t < o.length) then true else o.getD i false) := by
  simp only [List.getD, List.getElem?_set]
  by_cases h : t = i
  · subst h
    by_cases h2 : t < o.length
    · simp [h2]
    · simp [h2, List.getElem?_eq_none (Nat.le_of_not_lt h2)]
  · have : ¬ i = t := fun e => h e.symm
    simp [h, this]
theorem step_sub {E : Nat → Nat → Bool} {k t : Nat} (o : List Bool) : SubB o (stepB E k o t) := by
  unfold stepB
  cases o.getD k false && E k t with
  | false => exact .refl _
  | true => exact ⟨by simp, fun i hi => by
      show (o.set t true).getD i false = true
      rw [getD_set, hi]; cases decide (i = t) && decide (t < o.length) <;> rfl⟩
theorem fold_sub {f : List Bool → Nat → List Bool} (hf : ∀ o x, SubB o (f o x)) : ∀ (l : List Nat) (o : List Bool), SubB o (l.foldl f o)
  | [], o => .refl o
  | x :: l, o => (hf o x).trans (fold_sub hf l (f o x))
theorem fold_fix {f : List Bool → Nat → List Bool} (hf : ∀ o x, SubB o (f o x)) : ∀ (l : List Nat) (o : List Bool), l.foldl f o = o → ∀ x ∈ l, f o x = o
  | [], _, _, _, h => by cases h
  | y :: l, o, he, x, hx => by
    have h1 : SubB (f o y) o := by
      have := fold_sub hf l (f o y)
      rw [show l.foldl f (f o y) = o from he] at this
      exact this
    have h2 : f o y = o := h1.antisymm (hf o y)
    rcases List.mem_cons.1 hx with rfl | hx
    · exact h2
    · exact fold_fix hf l o (by rw [← h2]; rw [List.foldl_cons] at he; rw [he, h2]) x hx
theorem row_sub {E : Nat → Nat → Bool} {n k : Nat} (o : List Bool) : SubB o (rowB E n o k) := fold_sub (fun o _ => step_sub o) _ o
theorem sweep_sub {E : Nat → Nat → Bool} {n : Nat} (o : List Bool) : SubB o (sweepB E n o) := fold_sub (fun o _ => row_sub o) _ o
/-- what a sweep leaves as it is, is closed -/
theorem closed_of_fix {E : Nat → Nat → Bool} {n : Nat} {o : List Bool} (h : sweepB E n o = o) (hl : n ≤ o.length) {k t : Nat} (hk : k < n) (ht : t < n) (hm : o.getD k false = true) (he : E k t = true) : o.getD t false = true := by
  have h1 : rowB E n o k = o := fold_fix (fun o _ => row_sub o) _ o h k (List.mem_range.2 hk)
  have h2 : stepB E k o t = o := fold_fix (fun o _ => step_sub o) _ o h1 t (List.mem_range.2 ht)
  unfold stepB at h2
  rw [hm, he] at h2
  have h3 : o.set t true = o := h2
  rw [← h3, getD_set]
  have : decide (t < o.length) = true := decide_eq_true (by omega)
  rw [this]; simp
theorem fold_sound {P : Nat → Prop} {f : List Bool → Nat → List Bool} : ∀ (l : List Nat) (o : List Bool), (∀ o, ∀ x ∈ l, (∀ i, o.getD i false = true → P i) → ∀ i, (f o x).getD i false = true → P i) → (∀ i, o.getD i false = true → P i) → ∀ i, (l.foldl f o).getD i false = true → P i
  | [], _, _, h => h
  | x :: l, o, hf, h => fold_sound l (f o x) (fun o y hy => hf o y (List.mem_cons_of_mem _ hy)) (hf o x List.mem_cons_self h)
theorem sweep_sound {E : Nat → Nat → Bool} {n : Nat} {P : Nat → Prop} (hE : ∀ k t, k < n → t < n → P k → E k t = true → P t) (o : List Bool) (h : ∀ i, o.getD i false = true → P i) : ∀ i, (sweepB E n o).getD i false = true → P i :=
  fold_sound _ _ (fun o k hk h => fold_sound _ _ (fun o t ht h i hi => by
    unfold stepB at hi
    cases hc : o.getD k false && E k t with
    | false => rw [hc] at hi; exact h i hi
    | true =>
      rw [hc] at hi
      simp only [Bool.and_eq_true] at hc
      have hi' : (o.set t true).getD i false = true := hi
      rw [getD_set] at hi'
      by_cases e : i = t
      · subst e; exact hE k i (List.mem_range.1 hk) (List.mem_range.1 ht) (h k hc.1) hc.2
      · rw [decide_eq_false e] at hi'; exact h i hi') h) h
theorem rounds_sub {E : Nat → Nat → Bool} {n : Nat} (o : List Bool) : ∀ r, SubB o (roundsB E n r o)
  | 0 => .refl o
  | r + 1 => (rounds_sub o r).trans (sweep_sub _)
theorem rounds_sound {E : Nat → Nat → Bool} {n : Nat} {P : Nat → Prop} (hE : ∀ k t, k < n → t < n → P k → E k t = true → P t) (o : List Bool) (h : ∀ i, o.getD i false = true → P i) : ∀ r i, (roundsB E n r o).getD i false = true → P i
  | 0, i, hi => h i hi
  | r + 1, i, hi => sweep_sound hE _ (rounds_sound hE o h r) i hi
theorem rounds_cnt {E : Nat → Nat → Bool} {n : Nat} (o : List Bool) (h1 : 1 ≤ cntB o) : ∀ r, sweepB E n (roundsB E n r o) = roundsB E n r o ∨ r + 1 ≤ cntB (roundsB E n r o)
  | 0 => .inr (by simpa [roundsB] using h1)
  | r + 1 => by
    rcases rounds_cnt (E := E) (n := n) o h1 r with h | h
    · left
      show sweepB E n (sweepB E n (roundsB E n r o)) = sweepB E n (roundsB E n r o)
      rw [h, h]
    · by_cases e : roundsB E n r o = sweepB E n (roundsB E n r o)
      · left
        show sweepB E n (sweepB E n (roundsB E n r o)) = sweepB E n (roundsB E n r o)
        rw [← e, ← e]
      · right
        have := (sweep_sub (E := E) (n := n) (roundsB E n r o)).cnt_lt e
        show r + 1 + 1 ≤ cntB (sweepB E n (roundsB E n r o))
        omega
theorem rounds_fix {E : Nat → Nat → Bool} {n : Nat} {o : List Bool} (h1 : 1 ≤ cntB o) (hb : ∀ i, o.getD i false = true → i < n) : sweepB E n (roundsB E n n o) = roundsB E n n o := by
  rcases rounds_cnt (E := E) (n := n) o h1 n with h | h
  · exact h
  · have := cnt_bound (roundsB E n n o) n (rounds_sound (P := fun i => i < n) (fun _ _ _ ht _ _ => ht) o hb n)
    omega
theorem rounds_len {E : Nat → Nat → Bool} {n r : Nat} {o : List Bool} : (roundsB E n r o).length = o.length := (rounds_sub o r).1.symm
/-! ## A word's bits -/
theorem word_bit : ∀ (l : List Bool) (i : Nat), (wordN l).testBit i = l.getD i false
  | [], i => by simp [wordN]
  | b :: l, 0 => by
    rw [Nat.testBit_zero]
    simp only [wordN, List.getD_cons_zero]
    cases b <;> simp <;> omega
  | b :: l, i + 1 => by
    rw [Nat.testBit_succ, show wordN (b :: l) / 2 = wordN l by simp only [wordN]; split <;> omega, word_bit l i]
    simp
/-! ## What comes behind an instruction -/
inductive Reach (l : List Ins) : Nat → Prop
  | zero (h : 0 < l.length) : Reach l 0
  | step {k z : Nat} (h : Reach l k) (hz : (z : Int) ∈ nextL l k) : Reach l z
theorem mem_seqOf {j n le gt : Bool} {t a z : Int} : z ∈ seqOf j n t a le gt ↔ (j = true ∧ (le = true ∨ n = false) ∧ z = t) ∨ (n = true ∧ z = a) ∨ (j = true ∧ n = true ∧ gt = true ∧ z = t) := by
  cases j <;> cases n <;> cases le <;> cases gt <;> simp [seqOf]
theorem beh_mem {x : Ins} (hx : x.Ok) {k t n : Nat} (hk : k < n) (ht : t < n) (hn : n ≤ 1000000) : rbehB x k t = true ↔ (t : Int) ∈ seqB x k := by
  have h1 := hx.off.1; have h2 := hx.off.2
  have hc : x.op = 73 → cls x.op = 4 := fun e => by rw [e]; decide
  have hj : x.op = 32 → cls x.op = 2 := fun e => by rw [e]; decide
  unfold seqB rbehB toV
  rw [mem_seqOf, iw, iw, iw, iw]
  unfold jumpB nextB
  simp only [decide_eq_true_eq, Bool.and_eq_true, Bool.and_eq_false_iff, decide_eq_false_iff_not, Decidable.not_not, ne_eq]
  by_cases h73 : x.op = 73
  · rw [if_pos h73]
    have h4 := hc h73
    refine ⟨fun h => by simp at h, ?_⟩
    rintro (⟨hj2, _⟩ | ⟨⟨h, _⟩, _⟩ | ⟨hj2, _⟩)
    · omega
    · exact absurd h73 h
    · omega
  · rw [if_neg h73]
    by_cases hjmp : cls x.op = 2 ∧ (((t : Int) - k + 9223372036854775808) % 18446744073709551616 - 9223372036854775808 - 1 + 9223372036854775808) % 18446744073709551616 - 9223372036854775808 = x.off
    · rw [if_pos hjmp]
      obtain ⟨hj2, hof⟩ := hjmp
      simp only [true_iff]
      by_cases h32 : x.op = 32
      · left; exact ⟨hj2, .inr (.inr h32), by omega⟩
      · by_cases hle : (t : Int) ≤ k
        · left; exact ⟨hj2, .inl (by omega), by omega⟩
        · by_cases hgt : (t : Int) = k + 1
          · right; left; exact ⟨⟨h73, h32⟩, by omega⟩
          · right; right; exact ⟨hj2, ⟨h73, h32⟩, by omega, by omega⟩
    · rw [if_neg hjmp]
      simp only [Bool.and_eq_true, decide_eq_true_eq]
      constructor
      · rintro ⟨h32, he⟩
        right; left
        exact ⟨⟨h73, h32⟩, by omega⟩
      · rintro (⟨hj2, _, he⟩ | ⟨⟨_, h32⟩, he⟩ | ⟨hj2, _, _, he⟩)
        · exact absurd ⟨hj2, by omega⟩ hjmp
        · exact ⟨h32, by omega⟩
        · exact absurd ⟨hj2, by omega⟩ hjmp
theorem sorted_ext : ∀ {a b : List Int}, a.Pairwise (· < ·) → b.Pairwise (· < ·) → (∀ z, z ∈ a ↔ z ∈ b) → a = b
  | [], [], _, _, _ => rfl
  | [], y :: b, _, _, h => absurd ((h y).2 List.mem_cons_self) (by simp)
  | x :: a, [], _, _, h => absurd ((h x).1 List.mem_cons_self) (by simp)
  | x :: a, y :: b, ha, hb, h => by
    have ha' := List.pairwise_cons.1 ha
    have hb' := List.pairwise_cons.1 hb
    have e : x = y := by
      rcases List.mem_cons.1 ((h x).1 List.mem_cons_self) with e | e
      · exact e
      · rcases List.mem_cons.1 ((h y).2 List.mem_cons_self) with e2 | e2
        · exact e2.symm
        · have := hb'.1 x e; have := ha'.1 y e2; omega
    subst e
    rw [sorted_ext ha'.2 hb'.2 (fun z => by
      constructor
      · intro hz
        rcases List.mem_cons.1 ((h z).1 (List.mem_cons_of_mem _ hz)) with e | e
        · subst e; exact absurd (ha'.1 z hz) (by omega)
        · exact e
      · intro hz
        rcases List.mem_cons.1 ((h z).2 (List.mem_cons_of_mem _ hz)) with e | e
        · subst e; exact absurd (hb'.1 z hz) (by omega)
        · exact e)]
theorem idx_mem {n : Nat} {z : Int} : z ∈ idx n ↔ 0 ≤ z ∧ z < (n : Int) := by
  simp only [idx, List.mem_map, List.mem_range]
  constructor
  · rintro ⟨i, hi, rfl⟩; omega
  · rintro ⟨h0, h1⟩; exact ⟨z.toNat, by omega, by omega⟩
theorem idx_sorted : ∀ n : Nat, (idx n).Pairwise (· < ·)
  | 0 => by simp [idx]
  | n + 1 => by
    rw [idx_succ, List.pairwise_append]
    refine ⟨idx_sorted n, by simp, fun a ha b hb => ?_⟩
    have := (idx_mem.1 ha).2
    simp at hb
    omega
theorem seq_sorted {x : Ins} {k : Int} (hk : I64 k) (hk1 : k < 1000000) : (seqB x k).Pairwise (· < ·) := by
  have e : IntKind.i64.wrap (k + 1) = k + 1 := i64w ⟨by have := hk.1; omega, by omega⟩
  unfold seqB
  rw [e]
  unfold seqOf
  cases hj : jumpB x <;> cases hn : nextB x <;> by_cases hle : toV x k ≤ k <;> by_cases hgt : k + 1 < toV x k <;> simp [hle, hgt] <;> omega
theorem mem_next {l : List Ins} (hl : InsOk l) {k : Nat} (hk : k < l.length) (hn : l.length ≤ 1000000) {t : Int} : t ∈ nextL l k ↔ 0 ≤ t ∧ t < (l.length : Int) ∧ ∃ x, l[k]? = some x ∧ rbehB x k t = true := by
  have hx : l[k]? = some (l[k]'hk) := List.getElem?_eq_getElem hk
  have hok := hl _ (List.mem_of_getElem? hx)
  rw [nextL_at hk hx]
  simp only [List.mem_filter, inB, Bool.and_eq_true, decide_eq_true_eq]
  constructor
  · rintro ⟨h1, h2, h3⟩
    refine ⟨h2, h3, _, hx, ?_⟩
    obtain ⟨m, rfl⟩ := Int.eq_ofNat_of_zero_le h2
    exact (beh_mem hok (n := l.length) hk (by omega) hn).2 h1
  · rintro ⟨h2, h3, x, hx', hb⟩
    have : x = l[k] := Option.some.inj (hx'.symm.trans hx)
    subst this
    obtain ⟨m, rfl⟩ := Int.eq_ofNat_of_zero_le h2
    exact ⟨(beh_mem hok (n := l.length) hk (by omega) hn).1 hb, h2, h3⟩
theorem next_eq {l : List Ins} (hl : InsOk l) (hn : l.length ≤ 1000000) (a : Int) : nextL l a = rnextL l a := by
  by_cases ha : a < 0 ∨ (l.length : Int) ≤ a
  · unfold nextL rnextL; rw [if_pos ha, if_pos ha]
  · obtain ⟨k, rfl⟩ := Int.eq_ofNat_of_zero_le (show 0 ≤ a by omega)
    have hk : k < l.length := by omega
    have hx : l[k]? = some (l[k]'hk) := List.getElem?_eq_getElem hk
    refine sorted_ext ?_ ?_ fun t => ?_
    · rw [nextL_at hk hx]
      exact (seq_sorted ⟨by omega, by omega⟩ (by omega)).sublist List.filter_sublist
    · rw [rnextL_at hk hx]
      exact (idx_sorted _).sublist List.filter_sublist
    · rw [mem_next hl hk hn, rnextL_at hk hx, List.mem_filter, idx_mem]
      constructor
      · rintro ⟨h1, h2, x, hx', hb⟩
        have : x = l[k] := Option.some.inj (hx'.symm.trans hx)
        subst this
        exact ⟨⟨h1, h2⟩, hb⟩
      · rintro ⟨⟨h1, h2⟩, hb⟩
        exact ⟨h1, h2, _, hx, hb⟩
/-! ## The set that is reached -/
def edge (l : List Ins) (k t : Nat) : Bool := match l[k]? with
  | some x => rbehB x k t
  | none => false
def initB (n : Nat) : List Bool := bif decide (0 < n) then (List.replicate 64 false).set 0 true else List.replicate 64 false
/-- which of the first 64 are reached -/
def reachB (l : List Ins) : List Bool := roundsB (edge l) (min l.length 64) (min l.length 64) (initB (min l.length 64))
def reachN (l : List Ins) : Nat := wordN (reachB l)
theorem initB_len (n : Nat) : (initB n).length = 64 := by unfold initB; cases decide (0 < n) <;> simp
theorem reachB_len (l : List Ins) : (reachB l).length = 64 := by unfold reachB; rw [rounds_len, initB_len]
theorem repl_getD (n i : Nat) : (List.replicate n false).getD i false = false := by
  rw [List.getD, List.getElem?_replicate]; split <;> rfl
theorem initB_at {n i : Nat} : (initB n).getD i false = true ↔ 0 < n ∧ i = 0 := by
  unfold initB
  by_cases h : 0 < n
  · rw [decide_eq_true h]
    show ((List.replicate 64 false).set 0 true).getD i false = true ↔ _
    rw [getD_set]
    by_cases hi : i = 0
    · subst hi; simp [h]
    · simp only [hi, decide_false, Bool.false_and, cond_false, and_false, iff_false]
      rw [repl_getD]; simp
  · rw [decide_eq_false h]
    show (List.replicate 64 false).getD i false = true ↔ _
    rw [repl_getD]; simp [h]
theorem Reach.lt {l : List Ins} {k : Nat} (h : Reach l k) : k < l.length := by
  cases h with
  | zero h => exact h
  | step h hz =>
    unfold nextL at hz
    split at hz
    · cases hz
    · split at hz
      · simp only [List.mem_filter, inB, Bool.and_eq_true, decide_eq_true_eq] at hz; omega
      · cases hz
theorem reach_edge {l : List Ins} (hl : InsOk l) {n : Nat} (hn : n = min l.length 64) {k t : Nat} (hk : k < n) (ht : t < n) : edge l k t = true ↔ (t : Int) ∈ nextL (l.take 64) k := by
  have hlen : (l.take 64).length = n := by rw [List.length_take]; omega
  have hl' : InsOk (l.take 64) := fun x hx => hl x (List.mem_of_mem_take hx)
  rw [mem_next hl' (by omega) (by omega), hlen]
  unfold edge
  have e : (l.take 64)[k]? = l[k]? := by rw [List.getElem?_take_of_lt (by omega)]
  rw [e]
  have hx : l[k]? = some (l[k]'(by omega)) := List.getElem?_eq_getElem (by omega)
  rw [hx]
  constructor
  · intro h; exact ⟨by omega, by omega, _, rfl, h⟩
  · rintro ⟨_, _, x, hx', hb⟩
    cases hx'
    exact hb
theorem cnt_init {n : Nat} (h : 0 < n) : 1 ≤ cntB (initB n) := by
  unfold initB; rw [decide_eq_true h]; decide
/-- the marks are those of what is reached -/
theorem reachB_iff {l : List Ins} (hl : InsOk l) (i : Nat) : (reachB l).getD i false = true ↔ Reach (l.take 64) i := by
  have hlen : (l.take 64).length = min l.length 64 := by rw [List.length_take]; omega
  unfold reachB
  generalize hn : min l.length 64 = n at *
  constructor
  · refine rounds_sound (P := Reach (l.take 64)) (fun k t hk ht hr he => ?_) _ (fun i hi => ?_) n i
    · exact hr.step ((reach_edge hl hn.symm hk ht).1 he)
    · obtain ⟨h0, rfl⟩ := initB_at.1 hi
      exact .zero (by omega)
  · intro h
    have h0 : 0 < n := by have := h.lt; omega
    have hfix := rounds_fix (E := edge l) (n := n) (o := initB n) (cnt_init h0) (fun i hi => by have := initB_at.1 hi; omega)
    induction h with
    | zero _ => exact (rounds_sub (initB n) n).2 0 (initB_at.2 ⟨h0, rfl⟩)
    | @step k z hr hz ih =>
      have hk : k < n := by have := hr.lt; omega
      have hz2 : z < n := by have := (Reach.step hr hz).lt; omega
      exact closed_of_fix hfix (by rw [rounds_len, initB_len]; omega) hk hz2 ih ((reach_edge hl hn.symm hk hz2).2 hz)
theorem reachN_bit {l : List Ins} (hl : InsOk l) (i : Nat) : (reachN l).testBit i = true ↔ Reach (l.take 64) i := by
  unfold reachN; rw [word_bit]; exact reachB_iff hl i
theorem reachN_ok (l : List Ins) : MaskOk (reachN l) := by
  have := wordN_lt (reachB l)
  rw [reachB_len] at this
  exact this
theorem reachN_unique {l : List Ins} (hl : InsOk l) {m : Nat} (h : ∀ i, m.testBit i = true ↔ Reach (l.take 64) i) : m = reachN l :=
  Nat.eq_of_testBit_eq fun i => by
    have h1 := h i
    have h2 := reachN_bit hl i
    cases ha : m.testBit i <;> cases hb : (reachN l).testBit i <;> simp_all
end Go.Proofs.YtpfoecmianohjaaDoor
