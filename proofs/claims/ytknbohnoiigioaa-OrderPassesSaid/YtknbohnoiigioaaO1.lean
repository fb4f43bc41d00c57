/-
  Own work: contracts of functions that the statement reaches, and plain facts on what they compute; each theorem says its conditions.
-/
import Derived.Test.YtknbohnoiigioaaTy
import Derived.Test.YtknbohnoiigioaaSlMap
set_option linter.all false
set_option linter.unusedSimpArgs false
set_option linter.unusedVariables false
namespace Go.Proofs.Ytknbohnoiigioaa
open Go Go.Sl
attribute [local irreducible] W

section
variable {K : Type} [DecidableEq K]
/-- an order: the keys from the oldest to the newest -/
def inO (m : List K) (k : K) : Bool := m.any fun x => decide (x = k)
theorem inO_iff {m : List K} {k : K} : inO m k = true ↔ k ∈ m := by
  unfold inO
  rw [List.any_eq_true]
  exact ⟨fun ⟨x, hx, e⟩ => of_decide_eq_true e ▸ hx, fun h => ⟨k, h, decide_eq_true rfl⟩⟩
theorem inO_not {m : List K} {k : K} : inO m k = false ↔ k ∉ m := by
  rw [← inO_iff]; simp
def drop1 (m : List K) (k : K) : List K := m.filter (fun x => decide (x ≠ k))
def touch1 (m : List K) (room : Nat) (k : K) : List K × Int := if k ∉ m ∧ m.length = room then (m, 3) else (drop1 m k ++ [k], 0)
def touchL (m : List K) (room : Nat) : List K → List K × Int
  | [] => (m, 0)
  | k :: ks => if (touch1 m room k).2 = 0 then touchL (touch1 m room k).1 room ks else (m, 3)
structure OrdIs (room : Nat) (m : List K) (last : Nat) (l : Ents K) (c : Nat) (τ : K → Nat) : Prop where
  ok : MapOk l c
  keys : (l.map (·.1)).Perm m
  val : ∀ p ∈ l, p.2.1 = .int .i64 (τ p.1 : Int)
  asc : m.Pairwise (fun x y => τ x < τ y)
  bd : ∀ k ∈ m, 0 < τ k ∧ τ k ≤ last
  le : m.length ≤ room
variable {room last c : Nat} {m : List K} {l : Ents K} {τ : K → Nat}
theorem OrdIs.nodup (h : OrdIs room m last l c τ) : m.Nodup := h.keys.nodup_iff.1 h.ok.keys
theorem OrdIs.len (h : OrdIs room m last l c τ) : l.length = m.length := by have := h.keys.length_eq; simpa using this
theorem OrdIs.nil (room c : Nat) (τ : K → Nat) : OrdIs room ([] : List K) 0 [] c τ := ⟨MapOk.nil c, .nil, (fun _ h => by cases h), .nil, (fun _ h => by cases h), Nat.zero_le _⟩
theorem OrdIs.has (h : OrdIs room m last l c τ) (k : K) : mHas l k = inO m k := by
  rw [Bool.eq_iff_iff, mHas_iff, h.keys.mem_iff, inO_iff]
theorem OrdIs.get (h : OrdIs room m last l c τ) (k : K) : (mGet l k).getD (.int .i64 0) = .int .i64 (if inO m k then (τ k : Int) else 0) := by
  unfold mGet
  cases hf : l.find? (fun p => decide (k = p.1)) with
  | none =>
    have : k ∉ m := fun hm => by
      obtain ⟨p, hp, e⟩ := List.mem_map.1 (h.keys.mem_iff.2 hm)
      have := List.find?_eq_none.1 hf p hp
      exact this (decide_eq_true e.symm)
    rw [if_neg (by rw [inO_not.2 this]; simp)]; rfl
  | some p =>
    have hp := List.mem_of_find?_eq_some hf
    have e : k = p.1 := of_decide_eq_true (by simpa using List.find?_some hf)
    have hm : k ∈ m := h.keys.mem_iff.1 (e ▸ List.mem_map.2 ⟨p, hp, rfl⟩)
    rw [if_pos (inO_iff.2 hm), e]
    exact h.val p hp
theorem drop1_not {m : List K} {k : K} (h : k ∉ m) : drop1 m k = m := by
  unfold drop1
  rw [List.filter_eq_self]
  intro x hx
  exact decide_eq_true fun e => h (e ▸ hx)
theorem drop1_mem {m : List K} {k x : K} : x ∈ drop1 m k ↔ x ∈ m ∧ x ≠ k := by simp [drop1]
theorem drop1_perm : ∀ {m : List K} {k : K}, m.Nodup → k ∈ m → m.Perm (drop1 m k ++ [k])
  | y :: m, k, hn, h => by
    have hn' := List.nodup_cons.1 hn
    by_cases e : y = k
    · subst e
      have : drop1 (y :: m) y = m := by
        unfold drop1
        rw [List.filter_cons_of_neg (by simp)]
        exact drop1_not hn'.1
      rw [this]
      exact (List.perm_append_singleton y m).symm
    · have : drop1 (y :: m) k = y :: drop1 m k := by
        unfold drop1
        rw [List.filter_cons_of_pos (by simpa using e)]
      rw [this]
      have hk : k ∈ m := by rcases List.mem_cons.1 h with h | h; exact absurd h.symm e; exact h
      exact (drop1_perm hn'.2 hk).cons y
theorem OrdIs.put (h : OrdIs room m last l c τ) (k : K) (hr : k ∈ m ∨ m.length < room) :
    OrdIs room (drop1 m k ++ [k]) (last + 1) (mPut l c k (.int .i64 ((last + 1 : Nat) : Int))) (mClk l c k) (fun x => if x = k then last + 1 else τ x) where
  ok := h.ok.put k _
  keys := by
    unfold mPut
    cases hh : mHas l k with
    | true =>
      have hm : k ∈ m := by rw [h.has] at hh; exact inO_iff.1 hh
      simp only [if_true]
      have e1 : (l.map (fun p => if k = p.1 then (p.1, Value.int .i64 ((last + 1 : Nat) : Int), p.2.2) else p)).map (·.1) = l.map (·.1) := by
        rw [List.map_map]; apply List.map_congr_left; intro p _; simp only [Function.comp]; split <;> rfl
      rw [e1]
      exact h.keys.trans (drop1_perm h.nodup hm)
    | false =>
      have hm : k ∉ m := by rw [h.has] at hh; exact inO_not.1 hh
      simp only [Bool.false_eq_true, if_false]
      rw [drop1_not hm, List.map_append]
      exact h.keys.append_right _
  val p hp := by
    unfold mPut at hp
    cases hh : mHas l k with
    | true =>
      rw [hh] at hp
      simp only [if_true] at hp
      obtain ⟨q, hq, rfl⟩ := List.mem_map.1 hp
      by_cases e : k = q.1
      · simp only [if_pos e, if_pos e.symm]
      · simp only [if_neg e, if_neg (fun e' => e (Eq.symm e'))]; exact h.val q hq
    | false =>
      have hm : k ∉ m := by rw [h.has] at hh; exact inO_not.1 hh
      rw [hh] at hp
      simp only [Bool.false_eq_true, if_false] at hp
      rcases List.mem_append.1 hp with hp | hp
      · have : p.1 ≠ k := fun e => hm (h.keys.mem_iff.1 (e ▸ List.mem_map.2 ⟨p, hp, rfl⟩))
        simp only [if_neg this]; exact h.val p hp
      · obtain rfl : p = (k, .int .i64 ((last + 1 : Nat) : Int), c) := by simpa using hp
        simp
  asc := by
    refine List.pairwise_append.2 ⟨?_, List.pairwise_singleton _ _, fun x hx y hy => ?_⟩
    · have h1 : (drop1 m k).Pairwise (fun x y => τ x < τ y) := h.asc.sublist List.filter_sublist
      refine List.Pairwise.imp_of_mem (fun {x y} hx hy hxy => ?_) h1
      simp only [if_neg (drop1_mem.1 hx).2, if_neg (drop1_mem.1 hy).2]; exact hxy
    · obtain rfl : y = k := by simpa using hy
      have hx' := drop1_mem.1 hx
      simp only [if_neg hx'.2, if_true]
      have := (h.bd x hx'.1).2
      omega
  bd x hx := by
    rcases List.mem_append.1 hx with hx | hx
    · have hx' := drop1_mem.1 hx
      simp only [if_neg hx'.2]
      have := h.bd x hx'.1
      omega
    · obtain rfl : x = k := by simpa using hx
      simp
  le := by
    rcases hr with hm | hm
    · rw [← (drop1_perm h.nodup hm).length_eq]; exact h.le
    · have : (drop1 m k).length ≤ m.length := List.length_filter_le _ _
      rw [List.length_append, List.length_singleton]; omega
theorem mDel_keys (l : Ents K) (k : K) : (mDel l k).map (·.1) = drop1 (l.map (·.1)) k := by
  unfold mDel drop1
  rw [List.filter_map]
  congr 1
  apply List.filter_congr
  intro p _
  simp only [Function.comp, ne_eq]
  congr 1
  exact propext ⟨fun h e => h e.symm, fun h e => h e.symm⟩
theorem OrdIs.del (h : OrdIs room m last l c τ) (k : K) : OrdIs room (drop1 m k) last (mDel l k) c τ where
  ok := h.ok.del k
  keys := by rw [mDel_keys]; exact h.keys.filter _
  val p hp := h.val p (List.mem_filter.1 hp).1
  asc := h.asc.sublist List.filter_sublist
  bd x hx := h.bd x (drop1_mem.1 hx).1
  le := Nat.le_trans (List.length_filter_le _ _) h.le
/-- what is sorted by when it was touched is the order -/
theorem asc_unique {τ : K → Nat} : ∀ {a b : List K}, a.Perm b → a.Pairwise (fun x y => τ x < τ y) → b.Pairwise (fun x y => τ x < τ y) → a = b
  | [], b, hp, _, _ => (List.Perm.nil_eq hp)
  | x :: a, b, hp, ha, hb => by
    cases b with
    | nil => exact absurd hp.length_eq (by simp)
    | cons y b =>
      have ha' := List.pairwise_cons.1 ha
      have hb' := List.pairwise_cons.1 hb
      have hxy : x = y := by
        rcases List.mem_cons.1 (hp.mem_iff.1 List.mem_cons_self) with h | h
        · exact h
        · rcases List.mem_cons.1 (hp.mem_iff.2 List.mem_cons_self) with h' | h'
          · exact h'.symm
          · have := hb'.1 x h; have := ha'.1 y h'; omega
      subst hxy
      rw [asc_unique (List.Perm.cons_inv hp) ha'.2 hb'.2]
end
end Go.Proofs.Ytknbohnoiigioaa
