/-
  Own work: contracts of functions that the statement reaches, and plain facts on what they compute; each theorem says its conditions.
-/
import Derived.Test.YtknbohnoiigioaaO10
set_option linter.all false
set_option linter.unusedSimpArgs false
set_option linter.unusedVariables false
namespace Go.Proofs.Ytknbohnoiigioaa
open Go Go.Sl
attribute [local irreducible] W
section
variable {K : Type} [DecidableEq K]
/-- was the i-th one dropped? -/
def dAt (dr : List Bool) (i : Nat) : Bool := (dr[i]?).getD false
def pm (q : List K) (dr : List Bool) : Nat → List K
  | 0 => []
  | i + 1 => match q[i]? with
    | none => pm q dr i
    | some k => if dAt dr i then drop1 (pm q dr i) k else drop1 (pm q dr i) k ++ [k]
def sel (q : List K) (dr : List Bool) (j i : Nat) : Bool := !dAt dr i && (List.range j).all (fun k => decide (k ≤ i) || decide (q[k]? ≠ q[i]?))
theorem sel_iff {q : List K} {dr : List Bool} {j i : Nat} : sel q dr j i = true ↔ dAt dr i = false ∧ ∀ k, k < j → i < k → q[k]? ≠ q[i]? := by
  unfold sel
  rw [Bool.and_eq_true, Bool.not_eq_true', List.all_eq_true]
  refine and_congr_right fun _ => ⟨fun h k hk hik => ?_, fun h k hk => ?_⟩
  · have := h k (List.mem_range.2 hk)
    rcases (Bool.or_eq_true _ _).mp this with h' | h'
    · exact absurd (of_decide_eq_true h') (by omega)
    · exact of_decide_eq_true h'
  · by_cases e : k ≤ i
    · rw [decide_eq_true e]; rfl
    · rw [decide_eq_true (h k (List.mem_range.1 hk) (by omega)), Bool.or_true]
theorem drop1_some (m : List K) (k : K) : (drop1 m k).map some = (m.map some).filter (fun x => decide (x ≠ some k)) := by
  unfold drop1
  rw [List.filter_map]
  congr 1
  refine List.filter_congr fun x _ => ?_
  simp
theorem pm_is (q : List K) (dr : List Bool) : ∀ j, j ≤ q.length → (pm q dr j).map some = ((List.range j).filter (sel q dr j)).map (fun i => q[i]?)
  | 0, _ => rfl
  | j + 1, h => by
    obtain ⟨k, hk⟩ : ∃ k, q[j]? = some k := ⟨_, List.getElem?_eq_getElem (by omega)⟩
    have ih := pm_is q dr j (by omega)
    have e1 : (List.range j).filter (sel q dr (j + 1)) = ((List.range j).filter (sel q dr j)).filter (fun i => decide (q[i]? ≠ some k)) := by
      rw [List.filter_filter]
      refine List.filter_congr fun i hi => ?_
      have hij := List.mem_range.1 hi
      rw [Bool.eq_iff_iff, Bool.and_eq_true, sel_iff, sel_iff, decide_eq_true_eq]
      refine ⟨fun ⟨h1, h2⟩ => ⟨fun e => h2 j (by omega) hij (by rw [hk, e]), h1, fun r hr => h2 r (by omega)⟩, fun ⟨h0, h1, h2⟩ => ⟨h1, fun r hr hir => ?_⟩⟩
      by_cases e : r = j
      · subst e; rw [hk]; exact fun e => h0 e.symm
      · exact h2 r (by omega) hir
    have e2 : sel q dr (j + 1) j = !dAt dr j := by
      rw [Bool.eq_iff_iff, sel_iff, Bool.not_eq_true']
      exact ⟨fun h => h.1, fun h => ⟨h, fun r hr hjr => by omega⟩⟩
    have e3 : (drop1 (pm q dr j) k).map some = ((List.range j).filter (sel q dr (j + 1))).map (fun i => q[i]?) := by
      rw [drop1_some, ih, e1, List.filter_map]; rfl
    show ((match q[j]? with | none => pm q dr j | some k => if dAt dr j then drop1 (pm q dr j) k else drop1 (pm q dr j) k ++ [k])).map some = _
    rw [hk, List.range_succ, List.filter_append, List.map_append]
    dsimp only
    cases hd : dAt dr j with
    | true => rw [if_pos rfl, e3, List.filter_cons_of_neg (by rw [e2, hd]; decide)]; simp
    | false => rw [if_neg (by decide), List.map_append, e3, List.filter_cons_of_pos (by rw [e2, hd]; rfl)]; simp [hk]
theorem pm_len {q : List K} {dr : List Bool} {j : Nat} (h : j ≤ q.length) : (pm q dr j).length ≤ j := by
  have := congrArg List.length (pm_is q dr j h)
  rw [List.length_map, List.length_map] at this
  rw [this]
  exact Nat.le_trans (List.length_filter_le _ _) (Nat.le_of_eq List.length_range)
def cnt (q : List K) (dr : List Bool) (i : Nat) : Nat := ((List.range i).filter (sel q dr q.length)).length
theorem cnt_le (q : List K) (dr : List Bool) (i : Nat) : cnt q dr i ≤ i := Nat.le_trans (List.length_filter_le _ _) (Nat.le_of_eq List.length_range)
theorem pm_cnt (q : List K) (dr : List Bool) : (pm q dr q.length).length = cnt q dr q.length := by
  have := congrArg List.length (pm_is q dr q.length (Nat.le_refl _))
  rwa [List.length_map, List.length_map] at this
theorem cnt_succ (q : List K) (dr : List Bool) (i : Nat) : cnt q dr (i + 1) = cnt q dr i + (if sel q dr q.length i then 1 else 0) := by
  unfold cnt
  rw [List.range_succ, List.filter_append, List.length_append]
  cases h : sel q dr q.length i with
  | true => rw [List.filter_cons_of_pos h]; rfl
  | false => rw [List.filter_cons_of_neg (by rw [h]; decide)]; rfl
theorem pm_at {q : List K} {dr : List Bool} {i : Nat} (hi : i < q.length) (hs : sel q dr q.length i = true) : (pm q dr q.length)[cnt q dr i]? = q[i]? := by
  have e := congrArg (fun l => l[cnt q dr i]?) (pm_is q dr q.length (Nat.le_refl _))
  obtain ⟨r, hr⟩ : ∃ r, q.length = i + (r + 1) := ⟨q.length - i - 1, by omega⟩
  have e2 : (List.range q.length).filter (sel q dr q.length) = (List.range i).filter (sel q dr q.length) ++ i :: (((List.range r).map Nat.succ).map (i + ·)).filter (sel q dr q.length) := by
    have e3 : List.range q.length = List.range i ++ i :: ((List.range r).map Nat.succ).map (i + ·) := by
      rw [hr, List.range_add, List.range_succ_eq_map]; rfl
    rw [e3, List.filter_append, List.filter_cons_of_pos hs]
  rw [e2, List.map_append, List.getElem?_append_right (by rw [List.length_map]; exact Nat.le_refl _), List.length_map, show cnt q dr i - ((List.range i).filter (sel q dr q.length)).length = 0 from Nat.sub_self _, List.getElem?_map] at e
  obtain ⟨k, hk⟩ : ∃ k, q[i]? = some k := ⟨_, List.getElem?_eq_getElem hi⟩
  cases hp : (pm q dr q.length)[cnt q dr i]? with
  | none => rw [hp] at e; simp at e
  | some y => rw [hp] at e; simp at e; exact e
theorem pm_mem {q : List K} {dr : List Bool} {k : K} : k ∈ pm q dr q.length ↔ ∃ r, r < q.length ∧ sel q dr q.length r = true ∧ q[r]? = some k := by
  have e : k ∈ pm q dr q.length ↔ some k ∈ (pm q dr q.length).map some := by simp
  rw [e, pm_is q dr q.length (Nat.le_refl _), List.mem_map]
  exact ⟨fun ⟨r, hr, he⟩ => ⟨r, List.mem_range.1 (List.mem_filter.1 hr).1, (List.mem_filter.1 hr).2, he⟩, fun ⟨r, h1, h2, h3⟩ => ⟨r, List.mem_filter.2 ⟨List.mem_range.2 h1, h2⟩, h3⟩⟩
theorem last_is {q : List K} {dr : List Bool} {k : K} {i last : Nat} (hi : q[i]? = some k) (h1 : i ≤ last) (h2 : last < q.length) (h3 : q[last]? = some k) (h4 : ∀ r, last < r → r < q.length → q[r]? ≠ some k) :
    inO (pm q dr q.length) k = !dAt dr last ∧ (sel q dr q.length i = true ↔ last = i ∧ dAt dr last = false) := by
  constructor
  · rw [Bool.eq_iff_iff, inO_iff, pm_mem, Bool.not_eq_true']
    constructor
    · rintro ⟨r, hr, hs, he⟩
      obtain ⟨hd, hs⟩ := sel_iff.1 hs
      by_cases c1 : r < last
      · exact absurd (by rw [h3, he]) (hs last h2 c1)
      · by_cases c2 : last < r
        · exact absurd he (h4 r c2 hr)
        · obtain rfl : r = last := by omega
          exact hd
    · exact fun hd => ⟨last, h2, sel_iff.2 ⟨hd, fun r hr hlr => by rw [h3]; exact h4 r hlr hr⟩, h3⟩
  · rw [sel_iff]
    constructor
    · rintro ⟨hd, hs⟩
      obtain rfl : last = i := by
        by_cases c : i < last
        · exact absurd (by rw [h3, hi]) (hs last h2 c)
        · omega
      exact ⟨rfl, hd⟩
    · rintro ⟨rfl, hd⟩
      exact ⟨hd, fun r hr hlr => by rw [hi]; exact h4 r hlr hr⟩
theorem dr_or (dr : List Bool) (i : Nat) : (dr.length ≤ i ∧ dAt dr i = false) ∨ (i < dr.length ∧ dr[i]? = some false ∧ dAt dr i = false) ∨ (i < dr.length ∧ dr[i]? = some true ∧ dAt dr i = true) := by
  unfold dAt
  by_cases h : i < dr.length
  · have e : dr[i]? = some dr[i] := List.getElem?_eq_getElem h
    rw [e]
    cases dr[i] with
    | false => exact .inr (.inl ⟨h, rfl, rfl⟩)
    | true => exact .inr (.inr ⟨h, rfl, rfl⟩)
  · exact .inl ⟨by omega, by rw [List.getElem?_eq_none (by omega)]; rfl⟩
theorem drop1_in (m : List K) (k : K) : inO (drop1 m k ++ [k]) k = true := inO_iff.2 (by simp)
theorem drop1_out (m : List K) (k : K) : inO (drop1 m k) k = false := inO_not.2 (fun h => (drop1_mem.1 h).2 rfl)
theorem drop1_dd (m : List K) (k : K) : drop1 (drop1 m k ++ [k]) k = drop1 m k := by
  unfold drop1
  rw [List.filter_append, List.filter_filter, List.filter_cons_of_neg (by simp)]
  simp
theorem drop1_two (m : List K) (k : K) : drop1 (drop1 m k) k = drop1 m k := drop1_not (fun h => (drop1_mem.1 h).2 rfl)
end
structure QS where
  i : Nat
  last : Nat
  l : Ents ByteArray
  c : Nat
  τ : ByteArray → Nat

theorem touchL_1 {K : Type} [DecidableEq K] (m : List K) (room : Nat) (k : K) : touchL m room [k] = if (touch1 m room k).2 = 0 then ((touch1 m room k).1, 0) else (m, 3) := rfl
theorem pm_t {K : Type} [DecidableEq K] {q : List K} {dr : List Bool} {i : Nat} {z : K} (hz : q[i]? = some z) (hd : dAt dr i = true) : pm q dr (i + 1) = drop1 (pm q dr i) z := by
  show (match q[i]? with | none => pm q dr i | some k => if dAt dr i then drop1 (pm q dr i) k else drop1 (pm q dr i) k ++ [k]) = _
  rw [hz]; exact if_pos hd
theorem pm_f {K : Type} [DecidableEq K] {q : List K} {dr : List Bool} {i : Nat} {z : K} (hz : q[i]? = some z) (hd : dAt dr i = false) : pm q dr (i + 1) = drop1 (pm q dr i) z ++ [z] := by
  show (match q[i]? with | none => pm q dr i | some k => if dAt dr i then drop1 (pm q dr i) k else drop1 (pm q dr i) k ++ [k]) = _
  rw [hz]; exact if_neg (by rw [hd]; decide)
/-- the last place of a key up to k, and was it dropped there? -/
def LastAt {K : Type} (q : List K) (dr : List Bool) (i : Nat) (z : K) (k last : Nat) (out : Bool) : Prop :=
  (k = i ∧ last = i ∧ out = false) ∨ (i < k ∧ i ≤ last ∧ last < k ∧ q[last]? = some z ∧ (∀ r, last < r → r < k → q[r]? ≠ some z) ∧ out = dAt dr last)
theorem LastAt.skip {K : Type} {q : List K} {dr : List Bool} {i : Nat} {z y : K} {k last : Nat} {out : Bool} (h : LastAt q dr i z k last out) (hz : q[i]? = some z) (hk : q[k]? = some y) (hne : ¬ y = z) : LastAt q dr i z (k + 1) last out := by
  rcases h with ⟨rfl, _, _⟩ | ⟨h1, h2, h3, h4, h5, h6⟩
  · rw [hz] at hk; exact absurd (Option.some.inj hk).symm hne
  · refine .inr ⟨by omega, h2, by omega, h4, fun r hr hrk => ?_, h6⟩
    by_cases e : r = k
    · subst e; rw [hk]; exact fun e => hne (Option.some.inj e)
    · exact h5 r hr (by omega)
theorem LastAt.hit {K : Type} {q : List K} {dr : List Bool} {i : Nat} {z : K} {k : Nat} (hik : i ≤ k) (hk : q[k]? = some z) : LastAt q dr i z (k + 1) k (dAt dr k) :=
  .inr ⟨by omega, hik, by omega, hk, fun r hr hrk => by omega, rfl⟩
theorem LastAt.done {K : Type} {q : List K} {dr : List Bool} {i : Nat} {z : K} {n last : Nat} {out : Bool} (h : LastAt q dr i z n last out) (hi : i < n) : i ≤ last ∧ last < n ∧ q[last]? = some z ∧ (∀ r, last < r → r < n → q[r]? ≠ some z) ∧ out = dAt dr last := by
  rcases h with ⟨rfl, _, _⟩ | ⟨_, h2, h3, h4, h5, h6⟩
  · omega
  · exact ⟨h2, h3, h4, h5, h6⟩
theorem ba_iff {a b : ByteArray} : (a.toList == b.toList) = true ↔ a = b := by
  rw [beq_iff_eq, ByteArray.toList_eq, ByteArray.toList_eq]
  exact ⟨fun h => by cases a; cases b; congr 1; exact Array.ext' h, fun h => by rw [h]⟩
theorem not_beq (b : Bool) : ((!b) == b) = false := by cases b <;> rfl
theorem ba_self (a : ByteArray) : (!(a.toList == a.toList)) = false := by simp
theorem X_sne_s {P : Program} {n : Nat} {env : Env} {a b : ByteArray} {x y : Operand} {t u ty : TypeId} {C : World → Prop} (hx : opv env x = some (.string a)) (hy : opv env y = some (.string b)) : Ex P n env C (.binOp .neq t x y u) ty (.bool (!(a.toList == b.toList))) := fun a' w d pos aft g ha _ => by
  have he : (eqGuard .neq t x y (.string a) (.string b)).run P w = .ok () w := by simp [eqGuard]
  simp [execOp, ha.opv hx, ha.opv hy, he, Go.binOp, Op.stringOp, Result.andThen]
set_option maxHeartbeats 4000000 in
theorem orderPasses_pure {l : List ByteArray} {dr : List Bool} {ad cd : Option Addr} {cap cap2 : Nat} (hcap : l.length ≤ cap) (hdr : dr.length ≤ maxLen) : Pure Try.prog (fun w => InRow w ad (l.map Value.string) ∧ InRow w cd (dr.map Value.bool)) 4 [.slice ad l.length cap, .slice cd dr.length cap2] (.bool true) := by
  intro w0 H hT
  have hrow : Holds w0 H ad (l.map Value.string) := Holds.old hT.1
  have hdr1 : Holds w0 H cd (dr.map Value.bool) := Holds.old hT.2
  have hdr0 : dr.length ≤ 9223372036854775807 := by simp only [maxLen] at hdr; omega
  refine L_enter Try.func4 rfl Try.ntmps4 rfl rfl ?_
  refine W_sr ?_
  refine W_assign rfl rfl ?_
  refine W_nil ?_
  refine W_sr ?_
  refine W_call (.cons rfl .nil) Try.call13 rfl (newS_L (H := H) (room := 64) (by decide)) ?_
  rintro v H' ⟨bo, bm, rfl, rfl⟩
  refine W_move rfl rfl ?_
  refine W_extract rfl rfl rfl ?_
  refine W_extract rfl rfl rfl ?_
  refine W_assign rfl rfl ?_
  refine W_assign rfl rfl ?_
  refine W_nil ?_
  refine W_seq ?_
  refine W_sr ?_
  refine W_move rfl rfl ?_
  refine W_bin rfl rfl b_neq rfl ?_
  refine W_nil ?_
  refine W_condF rfl rfl ?_
  refine W_skip ?_
  refine W_sr ?_
  refine W_move rfl rfl ?_
  refine W_move rfl rfl ?_
  refine W_len rfl ty35 rfl rfl ?_
  refine W_min2 rfl rfl (m := ((min l.length 60 : Nat) : Int)) (by split <;> omega) rfl ?_
  refine W_slice0 (hh := min l.length 60) rfl ty35 ty9 rfl ⟨_, rfl⟩ (by omega) rfl ?_
  obtain ⟨q, hq⟩ : ∃ q, q = l.take 60 := ⟨_, rfl⟩
  have hql : min l.length 60 = q.length := by rw [hq, List.length_take, Nat.min_comm]
  have hq60 : q.length ≤ 60 := by omega
  have hr1 : Holds w0 H ad (q.map Value.string) := by rw [hq, List.map_take]; exact hrow.take _
  rw [hql]
  refine W_assign rfl rfl ?_
  refine W_nil ?_
  refine W_seq ?_
  refine W_sr ?_
  refine W_assign rfl rfl ?_
  refine W_nil ?_
  refine W_block ?_
  refine W_loopC (X := QS) [(0, _), (1, _), (5, _)] (fun (x : QS) => [(7, .int .i64 (x.i : Int))]) (fun _ => _) (fun (x : QS) => (bo, .cells 63 3 [.int .i64 ((64 : Nat) : Int), .int .i64 ((x.last : Nat) : Int), .map (some bm)]) :: (bm, .obj (mapO Value.string x.l x.c)) :: H) (fun (x : QS) => x.i ≤ q.length ∧ x.last ≤ x.i ∧ OrdIs 64 (pm q dr x.i) x.last x.l x.c x.τ) (fun (x : QS) => q.length - x.i) ⟨0, 0, [], 0, fun _ => 0⟩ ⟨Nat.zero_le _, Nat.zero_le _, OrdIs.nil 64 0 _⟩ (sub_cons rfl (sub_cons rfl (sub_cons rfl (sub_nil _)))) (sub_cons rfl (sub_nil _)) rfl (by repeat (first | with_reducible exact HSub.refl _ | refine HSub.cons (by repeat (first | exact Take.here _ | apply Take.next | apply Take.app)) ?_ | refine HSub.app (by repeat (first | with_reducible exact TakeS.here _ | apply TakeS.next | apply TakeS.app)) ?_ | exact HSub.nil _ | exact HSub.refl _ | refine HSub.drop ?_ | refine HSub.dropS ?_)) ?_
  rintro ⟨i, last, l, c, τ⟩ ⟨hi, hll, hO⟩
  dsimp only at hi hll hO ⊢
  simp only [List.cons_append, List.nil_append]
  refine W_seq ?_
  refine W_sr ?_
  refine W_move rfl rfl ?_
  refine W_move rfl rfl ?_
  refine W_len rfl ty35 rfl rfl ?_
  refine W_bin rfl rfl b_lss rfl ?_
  refine W_nil ?_
  refine W_condPS (p := (i : Int) < (q.length : Int)) rfl (by simp) (fun g0 => ?_) (fun g0 => ?_)
  · skip
    refine W_skip ?_
    refine W_seq ?_
    refine W_block ?_
    refine W_seq ?_
    refine W_sr ?_
    obtain ⟨z, hz⟩ : ∃ z, q[i]? = some z := ⟨_, List.getElem?_eq_getElem (by omega)⟩
    obtain ⟨q0, p0, ee, hc⟩ := hr1.at (i := i) (v := .string z) (by rw [List.getElem?_map, hz]; rfl)
    subst ee
    refine W_move rfl rfl ?_
    refine W_move rfl rfl ?_
    refine W_move rfl rfl ?_
    refine W_indexAddr (j := i) rfl rfl ty35 ty9 (by first | rfl | omega) (by omega) rfl rfl ?_
    refine W_load (v := .string z) rfl ty9 rfl (by rw [Nat.mul_one (i)]; exact hc.up (by repeat (first | with_reducible exact HSub.refl _ | refine HSub.cons (by repeat (first | exact Take.here _ | apply Take.next | apply Take.app)) ?_ | refine HSub.app (by repeat (first | with_reducible exact TakeS.here _ | apply TakeS.next | apply TakeS.app)) ?_ | exact HSub.nil _ | exact HSub.refl _ | refine HSub.drop ?_ | refine HSub.dropS ?_))) rfl ?_
    refine W_buildSlice (l := (([z] : List ByteArray).map Value.string)) ty35 ty9 (.cons rfl rfl rfl rfl rfl .nil) rfl rfl rfl rfl rfl rfl rfl (fun b36 => ?_)
    refine W_call (.cons rfl (.cons rfl .nil)) Try.call14 rfl ((touchS_L (bm := bm) (H := (b36, .cells 9 (1 * 1) (([z] : List ByteArray).map Value.string)) :: H) (ks := [z]) hO (by show last + 1 ≤ _; omega) (Holds.own (b := b36) (by repeat (first | exact List.mem_cons_self | apply List.mem_cons_of_mem | apply List.mem_append_right)))).hsub (by repeat (first | with_reducible exact HSub.refl _ | refine HSub.cons (by repeat (first | exact Take.here _ | apply Take.next | apply Take.app)) ?_ | refine HSub.app (by repeat (first | with_reducible exact TakeS.here _ | apply TakeS.next | apply TakeS.app)) ?_ | exact HSub.nil _ | exact HSub.refl _ | refine HSub.drop ?_ | refine HSub.dropS ?_))) ?_
    rintro v H' ⟨last2, l2, c2, τ2, rfl, hO2, hl2, rfl⟩
    have ht : touch1 (pm q dr i) 64 z = (drop1 (pm q dr i) z ++ [z], 0) := if_neg (fun h => by have := pm_len (q := q) (dr := dr) hi; omega)
    rw [touchL_1, ht] at hO2 ⊢
    replace hl2 : last2 ≤ last + 1 := hl2
    replace hO2 : OrdIs 64 (drop1 (pm q dr i) z ++ [z]) last2 l2 c2 τ2 := hO2
    refine W_bin rfl rfl b_neq rfl ?_
    refine W_nil ?_
    refine W_condF rfl rfl ?_
    refine W_skip ?_
    refine W_sr ?_
    rcases dr_or dr i with ⟨hd, hda⟩ | ⟨hd, hd1, hda⟩ | ⟨hd, hd1, hda⟩
    · skip
      refine W_move rfl rfl ?_
      refine W_move rfl rfl ?_
      refine W_len rfl ty36 rfl rfl ?_
      refine W_bin rfl rfl b_lss rfl ?_
      first | rw [decide_eq_true (by omega)] | rw [decide_eq_false (by omega)]
      refine W_move rfl rfl ?_
      refine W_gno rfl rfl rfl ?_
      refine W_gno rfl rfl rfl ?_
      refine W_gno rfl rfl rfl ?_
      refine W_gno rfl rfl rfl ?_
      first | refine W_pickt rfl rfl rfl ?_ | refine W_pickf rfl rfl rfl ?_
      refine W_move rfl rfl ?_
      refine W_gno rfl rfl rfl ?_
      refine W_gno rfl rfl rfl ?_
      refine W_gno rfl rfl rfl ?_
      refine W_gno rfl rfl rfl ?_
      refine W_gno rfl rfl rfl ?_
      refine W_gno rfl rfl rfl ?_
      refine W_gno rfl rfl rfl ?_
      refine W_gno rfl rfl rfl ?_
      refine W_gnou rfl rfl rfl ?_
      refine W_gnou rfl rfl rfl ?_
      refine W_gnou rfl rfl rfl ?_
      refine W_gnou rfl rfl rfl ?_
      refine W_gnou rfl rfl rfl ?_
      refine W_gnou rfl rfl rfl ?_
      refine W_gno rfl rfl rfl ?_
      first | refine W_pickt rfl rfl rfl ?_ | refine W_pickf rfl rfl rfl ?_
      refine W_nil ?_
      refine W_condF rfl rfl ?_
      refine W_skip ?_
      refine W_blk ?_
      refine W_region ?_
      refine W_move rfl rfl ?_
      refine W_bin rfl rfl (b_add (m := ((i + 1 : Nat) : Int)) ((i64w (by omega)).trans (by omega))) rfl ?_
      refine W_assign rfl rfl ?_
      refine W_nil ?_
      refine W_again ⟨i + 1, last2, l2, c2, τ2⟩ ⟨by show i + 1 ≤ q.length; omega, by show last2 ≤ i + 1; omega, by show OrdIs 64 (pm q dr (i + 1)) _ _ _ _; rw [pm_f hz hda]; exact hO2⟩ (by show q.length - (i + 1) < q.length - i; omega) (sub_cons rfl (sub_cons rfl (sub_cons rfl (sub_cons rfl (sub_nil _))))) rfl (by repeat (first | with_reducible exact HSub.refl _ | refine HSub.cons (by repeat (first | exact Take.here _ | apply Take.next | apply Take.app)) ?_ | refine HSub.app (by repeat (first | with_reducible exact TakeS.here _ | apply TakeS.next | apply TakeS.app)) ?_ | exact HSub.nil _ | exact HSub.refl _ | refine HSub.drop ?_ | refine HSub.dropS ?_))
    · skip
      obtain ⟨q2, p2, rfl, hcd⟩ := hdr1.at (i := i) (v := .bool false) (by rw [List.getElem?_map, hd1]; rfl)
      refine W_move rfl rfl ?_
      refine W_move rfl rfl ?_
      refine W_len rfl ty36 rfl rfl ?_
      refine W_bin rfl rfl b_lss rfl ?_
      first | rw [decide_eq_true (by omega)] | rw [decide_eq_false (by omega)]
      refine W_move rfl rfl ?_
      refine W_gyes rfl rfl ?_
      refine W_move rfl rfl ?_
      refine W_gyes rfl rfl ?_
      refine W_move rfl rfl ?_
      refine W_gyes rfl rfl ?_
      refine W_indexAddr (j := i) rfl rfl ty36 ty4 (by first | rfl | omega) (by omega) rfl rfl ?_
      refine W_gyes rfl rfl ?_
      refine W_load (v := .bool false) rfl ty4 rfl (by rw [Nat.mul_one (i)]; exact hcd.up (by repeat (first | with_reducible exact HSub.refl _ | refine HSub.cons (by repeat (first | exact Take.here _ | apply Take.next | apply Take.app)) ?_ | refine HSub.app (by repeat (first | with_reducible exact TakeS.here _ | apply TakeS.next | apply TakeS.app)) ?_ | exact HSub.nil _ | exact HSub.refl _ | refine HSub.drop ?_ | refine HSub.dropS ?_))) rfl ?_
      first | refine W_pickt rfl rfl rfl ?_ | refine W_pickf rfl rfl rfl ?_
      refine W_move rfl rfl ?_
      refine W_gno rfl rfl rfl ?_
      refine W_gno rfl rfl rfl ?_
      refine W_gno rfl rfl rfl ?_
      refine W_gno rfl rfl rfl ?_
      refine W_gno rfl rfl rfl ?_
      refine W_gno rfl rfl rfl ?_
      refine W_gno rfl rfl rfl ?_
      refine W_gno rfl rfl rfl ?_
      refine W_gnou rfl rfl rfl ?_
      refine W_gnou rfl rfl rfl ?_
      refine W_gnou rfl rfl rfl ?_
      refine W_gnou rfl rfl rfl ?_
      refine W_gnou rfl rfl rfl ?_
      refine W_gnou rfl rfl rfl ?_
      refine W_gno rfl rfl rfl ?_
      first | refine W_pickt rfl rfl rfl ?_ | refine W_pickf rfl rfl rfl ?_
      refine W_nil ?_
      refine W_condF rfl rfl ?_
      refine W_skip ?_
      refine W_blk ?_
      refine W_region ?_
      refine W_move rfl rfl ?_
      refine W_bin rfl rfl (b_add (m := ((i + 1 : Nat) : Int)) ((i64w (by omega)).trans (by omega))) rfl ?_
      refine W_assign rfl rfl ?_
      refine W_nil ?_
      refine W_again ⟨i + 1, last2, l2, c2, τ2⟩ ⟨by show i + 1 ≤ q.length; omega, by show last2 ≤ i + 1; omega, by show OrdIs 64 (pm q dr (i + 1)) _ _ _ _; rw [pm_f hz hda]; exact hO2⟩ (by show q.length - (i + 1) < q.length - i; omega) (sub_cons rfl (sub_cons rfl (sub_cons rfl (sub_cons rfl (sub_nil _))))) rfl (by repeat (first | with_reducible exact HSub.refl _ | refine HSub.cons (by repeat (first | exact Take.here _ | apply Take.next | apply Take.app)) ?_ | refine HSub.app (by repeat (first | with_reducible exact TakeS.here _ | apply TakeS.next | apply TakeS.app)) ?_ | exact HSub.nil _ | exact HSub.refl _ | refine HSub.drop ?_ | refine HSub.dropS ?_))
    · skip
      obtain ⟨q2, p2, rfl, hcd⟩ := hdr1.at (i := i) (v := .bool true) (by rw [List.getElem?_map, hd1]; rfl)
      refine W_move rfl rfl ?_
      refine W_move rfl rfl ?_
      refine W_len rfl ty36 rfl rfl ?_
      refine W_bin rfl rfl b_lss rfl ?_
      first | rw [decide_eq_true (by omega)] | rw [decide_eq_false (by omega)]
      refine W_move rfl rfl ?_
      refine W_gyes rfl rfl ?_
      refine W_move rfl rfl ?_
      refine W_gyes rfl rfl ?_
      refine W_move rfl rfl ?_
      refine W_gyes rfl rfl ?_
      refine W_indexAddr (j := i) rfl rfl ty36 ty4 (by first | rfl | omega) (by omega) rfl rfl ?_
      refine W_gyes rfl rfl ?_
      refine W_load (v := .bool true) rfl ty4 rfl (by rw [Nat.mul_one (i)]; exact hcd.up (by repeat (first | with_reducible exact HSub.refl _ | refine HSub.cons (by repeat (first | exact Take.here _ | apply Take.next | apply Take.app)) ?_ | refine HSub.app (by repeat (first | with_reducible exact TakeS.here _ | apply TakeS.next | apply TakeS.app)) ?_ | exact HSub.nil _ | exact HSub.refl _ | refine HSub.drop ?_ | refine HSub.dropS ?_))) rfl ?_
      first | refine W_pickt rfl rfl rfl ?_ | refine W_pickf rfl rfl rfl ?_
      refine W_move rfl rfl ?_
      refine W_gyes rfl rfl ?_
      refine W_move rfl rfl ?_
      refine W_gyes rfl rfl ?_
      refine W_move rfl rfl ?_
      refine W_gyes rfl rfl ?_
      refine W_move rfl rfl ?_
      refine W_gyes rfl rfl ?_
      refine W_indexAddr (j := i) rfl rfl ty35 ty9 (by first | rfl | omega) (by omega) rfl rfl ?_
      refine W_gyes rfl rfl ?_
      refine W_load (v := .string z) rfl ty9 rfl (by rw [Nat.mul_one (i)]; exact hc.up (by repeat (first | with_reducible exact HSub.refl _ | refine HSub.cons (by repeat (first | exact Take.here _ | apply Take.next | apply Take.app)) ?_ | refine HSub.app (by repeat (first | with_reducible exact TakeS.here _ | apply TakeS.next | apply TakeS.app)) ?_ | exact HSub.nil _ | exact HSub.refl _ | refine HSub.drop ?_ | refine HSub.dropS ?_))) rfl ?_
      refine W_gyes rfl rfl ?_
      refine W_call (.cons rfl (.cons rfl .nil)) Try.call15 rfl ((dropS_L (bm := bm) (H := H) hO2 z).hsub (by repeat (first | with_reducible exact HSub.refl _ | refine HSub.cons (by repeat (first | exact Take.here _ | apply Take.next | apply Take.app)) ?_ | refine HSub.app (by repeat (first | with_reducible exact TakeS.here _ | apply TakeS.next | apply TakeS.app)) ?_ | exact HSub.nil _ | exact HSub.refl _ | refine HSub.drop ?_ | refine HSub.dropS ?_))) ?_
      rintro v H' ⟨l3, rfl, hO3, rfl⟩
      rw [drop1_dd] at hO3
      rw [drop1_in]
      refine W_gyes rfl rfl ?_
      refine W_not rfl rfl ?_
      refine W_gyes rfl rfl ?_
      refine W_move rfl rfl ?_
      refine W_gyes rfl rfl ?_
      refine W_move rfl rfl ?_
      refine W_gyes rfl rfl ?_
      refine W_move rfl rfl ?_
      refine W_gyes rfl rfl ?_
      refine W_move rfl rfl ?_
      refine W_gyes rfl rfl ?_
      refine W_indexAddr (j := i) rfl rfl ty35 ty9 (by first | rfl | omega) (by omega) rfl rfl ?_
      refine W_gyes rfl rfl ?_
      refine W_load (v := .string z) rfl ty9 rfl (by rw [Nat.mul_one (i)]; exact hc.up (by repeat (first | with_reducible exact HSub.refl _ | refine HSub.cons (by repeat (first | exact Take.here _ | apply Take.next | apply Take.app)) ?_ | refine HSub.app (by repeat (first | with_reducible exact TakeS.here _ | apply TakeS.next | apply TakeS.app)) ?_ | exact HSub.nil _ | exact HSub.refl _ | refine HSub.drop ?_ | refine HSub.dropS ?_))) rfl ?_
      refine W_gyes rfl rfl ?_
      refine W_call (.cons rfl (.cons rfl .nil)) Try.call15 rfl ((dropS_L (bm := bm) (H := H) hO3 z).hsub (by repeat (first | with_reducible exact HSub.refl _ | refine HSub.cons (by repeat (first | exact Take.here _ | apply Take.next | apply Take.app)) ?_ | refine HSub.app (by repeat (first | with_reducible exact TakeS.here _ | apply TakeS.next | apply TakeS.app)) ?_ | exact HSub.nil _ | exact HSub.refl _ | refine HSub.drop ?_ | refine HSub.dropS ?_))) ?_
      rintro v H' ⟨l4, rfl, hO4, rfl⟩
      rw [drop1_two] at hO4
      rw [drop1_out]
      refine W_gyes rfl rfl ?_
      first | refine W_pickt rfl rfl rfl ?_ | refine W_pickf rfl rfl rfl ?_
      first | refine W_pickt rfl rfl rfl ?_ | refine W_pickf rfl rfl rfl ?_
      refine W_nil ?_
      refine W_condF rfl rfl ?_
      refine W_skip ?_
      refine W_blk ?_
      refine W_region ?_
      refine W_move rfl rfl ?_
      refine W_bin rfl rfl (b_add (m := ((i + 1 : Nat) : Int)) ((i64w (by omega)).trans (by omega))) rfl ?_
      refine W_assign rfl rfl ?_
      refine W_nil ?_
      refine W_again ⟨i + 1, last2, l4, c2, τ2⟩ ⟨by show i + 1 ≤ q.length; omega, by show last2 ≤ i + 1; omega, by show OrdIs 64 (pm q dr (i + 1)) _ _ _ _; rw [pm_t hz hda]; exact hO4⟩ (by show q.length - (i + 1) < q.length - i; omega) (sub_cons rfl (sub_cons rfl (sub_cons rfl (sub_cons rfl (sub_nil _))))) rfl (by repeat (first | with_reducible exact HSub.refl _ | refine HSub.cons (by repeat (first | exact Take.here _ | apply Take.next | apply Take.app)) ?_ | refine HSub.app (by repeat (first | with_reducible exact TakeS.here _ | apply TakeS.next | apply TakeS.app)) ?_ | exact HSub.nil _ | exact HSub.refl _ | refine HSub.drop ?_ | refine HSub.dropS ?_))
  · skip
    refine W_exit rfl ?_
    refine W_sr ?_
    refine W_move rfl rfl ?_
    obtain rfl : i = q.length := by omega
    obtain ⟨M, hM⟩ : ∃ M, M = pm q dr q.length := ⟨_, rfl⟩
    rw [← hM] at hO
    refine W_call (.cons rfl .nil) Try.call16 rfl ((ListS_L (bm := bm) (H := H) hO (by decide)).hsub (by repeat (first | with_reducible exact HSub.refl _ | refine HSub.cons (by repeat (first | exact Take.here _ | apply Take.next | apply Take.app)) ?_ | refine HSub.app (by repeat (first | with_reducible exact TakeS.here _ | apply TakeS.next | apply TakeS.app)) ?_ | exact HSub.nil _ | exact HSub.refl _ | refine HSub.drop ?_ | refine HSub.dropS ?_))) ?_
    rintro v H' ⟨sv, XB, rfl, hS, rfl⟩
    obtain ⟨ax, cx, rfl, _, _, hx⟩ := Holds.of_own (w0 := w0) (H := XB ++ []) hS (fun p hp => List.mem_append_left _ hp)
    refine W_assign rfl rfl ?_
    refine W_nil ?_
    refine W_sr ?_
    refine W_assign rfl rfl ?_
    refine W_nil ?_
    refine W_seq ?_
    refine W_sr ?_
    refine W_assign rfl rfl ?_
    refine W_nil ?_
    refine W_block ?_
    refine W_loopC (X := Nat) [(0, _), (1, _), (5, _), (8, _)] (fun (i : Nat) => [(9, .int .i64 (((cnt q dr i : Nat) : Int) - 1)), (10, .int .i64 (i : Int))]) (fun _ => _) (fun _ => _) (fun (i : Nat) => i ≤ q.length) (fun (i : Nat) => q.length - i) 0 (Nat.zero_le _) (sub_cons rfl (sub_cons rfl (sub_cons rfl (sub_cons rfl (sub_nil _))))) (sub_cons rfl (sub_cons rfl (sub_nil _))) rfl (by repeat (first | with_reducible exact HSub.refl _ | refine HSub.cons (by repeat (first | exact Take.here _ | apply Take.next | apply Take.app)) ?_ | refine HSub.app (by repeat (first | with_reducible exact TakeS.here _ | apply TakeS.next | apply TakeS.app)) ?_ | exact HSub.nil _ | exact HSub.refl _ | refine HSub.drop ?_ | refine HSub.dropS ?_)) ?_
    intro i hi
    simp only [List.cons_append, List.nil_append]
    refine W_seq ?_
    refine W_sr ?_
    refine W_move rfl rfl ?_
    refine W_move rfl rfl ?_
    refine W_len rfl ty35 rfl rfl ?_
    refine W_bin rfl rfl b_lss rfl ?_
    refine W_nil ?_
    refine W_condPS (p := (i : Int) < (q.length : Int)) rfl (by simp) (fun g1 => ?_) (fun g1 => ?_)
    · skip
      refine W_skip ?_
      refine W_seq ?_
      refine W_block ?_
      refine W_sr ?_
      obtain ⟨z, hz⟩ : ∃ z, q[i]? = some z := ⟨_, List.getElem?_eq_getElem (by omega)⟩
      obtain ⟨q0, p0, ee, hc⟩ := hr1.at (i := i) (v := .string z) (by rw [List.getElem?_map, hz]; rfl)
      subst ee
      refine W_move rfl rfl ?_
      refine W_assign rfl rfl ?_
      refine W_assign rfl rfl ?_
      refine W_nil ?_
      refine W_seq ?_
      refine W_sr ?_
      refine W_move rfl rfl ?_
      refine W_assign rfl rfl ?_
      refine W_nil ?_
      refine W_block ?_
      refine W_loopC (X := (Nat × Nat × Bool)) [(0, _), (1, _), (5, _), (8, _), (9, _), (10, _)] (fun (x : (Nat × Nat × Bool)) => [(11, .int .i64 (x.2.1 : Int)), (12, .bool x.2.2), (13, .int .i64 (x.1 : Int))]) (fun _ => _) (fun _ => _) (fun (x : (Nat × Nat × Bool)) => i ≤ x.1 ∧ x.1 ≤ q.length ∧ LastAt q dr i z x.1 x.2.1 x.2.2) (fun (x : (Nat × Nat × Bool)) => q.length - x.1) (i, i, false) ⟨Nat.le_refl _, hi, .inl ⟨rfl, rfl, rfl⟩⟩ (sub_cons rfl (sub_cons rfl (sub_cons rfl (sub_cons rfl (sub_cons rfl (sub_cons rfl (sub_nil _))))))) (sub_cons rfl (sub_cons rfl (sub_cons rfl (sub_nil _)))) rfl (by repeat (first | with_reducible exact HSub.refl _ | refine HSub.cons (by repeat (first | exact Take.here _ | apply Take.next | apply Take.app)) ?_ | refine HSub.app (by repeat (first | with_reducible exact TakeS.here _ | apply TakeS.next | apply TakeS.app)) ?_ | exact HSub.nil _ | exact HSub.refl _ | refine HSub.drop ?_ | refine HSub.dropS ?_)) ?_
      rintro ⟨k, last, out⟩ ⟨hik, hk, hj⟩
      dsimp only at hik hk hj ⊢
      simp only [List.cons_append, List.nil_append]
      refine W_seq ?_
      refine W_sr ?_
      refine W_move rfl rfl ?_
      refine W_move rfl rfl ?_
      refine W_len rfl ty35 rfl rfl ?_
      refine W_bin rfl rfl b_lss rfl ?_
      refine W_nil ?_
      refine W_condPS (p := (k : Int) < (q.length : Int)) rfl (by simp) (fun g2 => ?_) (fun g2 => ?_)
      · skip
        refine W_skip ?_
        refine W_seq ?_
        refine W_block ?_
        refine W_quietsr (by kernel_rfl) (by decide +kernel) ?_
        obtain ⟨y, hy⟩ : ∃ y, q[k]? = some y := ⟨_, List.getElem?_eq_getElem (by omega)⟩
        obtain ⟨q3, p3, ee, hck⟩ := hr1.at (i := k) (v := .string y) (by rw [List.getElem?_map, hy]; rfl)
        cases ee
        refine WQ_x (X_move rfl) rfl ?_
        refine WQ_x (X_move rfl) rfl ?_
        refine WQ_x (X_indexAddr (j := k) rfl rfl ty35 ty9 (by first | rfl | omega) (by omega) rfl) rfl ?_
        refine WQ_x (X_load (v := .string y) rfl ty9 rfl (by rw [Nat.mul_one (k)]; exact hck.up (by repeat (first | with_reducible exact HSub.refl _ | refine HSub.cons (by repeat (first | exact Take.here _ | apply Take.next | apply Take.app)) ?_ | refine HSub.app (by repeat (first | with_reducible exact TakeS.here _ | apply TakeS.next | apply TakeS.app)) ?_ | exact HSub.nil _ | exact HSub.refl _ | refine HSub.drop ?_ | refine HSub.dropS ?_)))) rfl ?_
        refine WQ_x (X_move rfl) rfl ?_
        refine WQ_x (X_move rfl) rfl ?_
        refine WQ_x (X_indexAddr (j := i) rfl rfl ty35 ty9 (by first | rfl | omega) (by omega) rfl) rfl ?_
        refine WQ_x (X_load (v := .string z) rfl ty9 rfl (by rw [Nat.mul_one (i)]; exact hc.up (by repeat (first | with_reducible exact HSub.refl _ | refine HSub.cons (by repeat (first | exact Take.here _ | apply Take.next | apply Take.app)) ?_ | refine HSub.app (by repeat (first | with_reducible exact TakeS.here _ | apply TakeS.next | apply TakeS.app)) ?_ | exact HSub.nil _ | exact HSub.refl _ | refine HSub.drop ?_ | refine HSub.dropS ?_)))) rfl ?_
        refine WQ_x (X_seq_s rfl rfl) rfl ?_
        refine WQ_nil ?_
        refine W_condPS (p := y = z) rfl ba_iff (fun g3 => ?_) (fun g3 => ?_)
        · skip
          rcases dr_or dr k with ⟨hd, hda⟩ | ⟨hd, hd1, hda⟩ | ⟨hd, hd1, hda⟩
          · skip
            refine W_quiet (by kernel_rfl) (by decide +kernel) ?_
            refine WQ_x (X_move rfl) rfl ?_
            refine WQ_x (X_move rfl) rfl ?_
            refine WQ_x (X_move rfl) rfl ?_
            refine WQ_x (X_len rfl ty36 rfl) rfl ?_
            refine WQ_x (X_bin rfl rfl b_lss) rfl ?_
            first | rw [decide_eq_true (by omega)] | rw [decide_eq_false (by omega)]
            refine WQ_x (X_move rfl) rfl ?_
            refine WQ_gno rfl rfl rfl rfl ?_
            refine WQ_gno rfl rfl rfl rfl ?_
            refine WQ_gno rfl rfl rfl rfl ?_
            refine WQ_gno rfl rfl rfl rfl ?_
            first | refine WQ_x (X_pickt rfl rfl) rfl ?_ | refine WQ_x (X_pickf rfl rfl) rfl ?_
            refine WQ_x (X_assign rfl) rfl ?_
            refine WQ_x (X_assign rfl) rfl ?_
            refine WQ_nil ?_
            refine W_blk ?_
            refine W_region ?_
            refine W_move rfl rfl ?_
            refine W_bin rfl rfl (b_add (m := ((k + 1 : Nat) : Int)) ((i64w (by omega)).trans (by omega))) rfl ?_
            refine W_assign rfl rfl ?_
            refine W_nil ?_
            refine W_again (k + 1, k, false) ⟨by show i ≤ k + 1; omega, by show k + 1 ≤ q.length; omega, by have h := LastAt.hit (dr := dr) hik (hy.trans (congrArg some g3)); rw [hda] at h; exact h⟩ (by show q.length - (k + 1) < q.length - k; omega) (sub_cons rfl (sub_cons rfl (sub_cons rfl (sub_cons rfl (sub_cons rfl (sub_cons rfl (sub_cons rfl (sub_cons rfl (sub_cons rfl (sub_nil _)))))))))) rfl (by repeat (first | with_reducible exact HSub.refl _ | refine HSub.cons (by repeat (first | exact Take.here _ | apply Take.next | apply Take.app)) ?_ | refine HSub.app (by repeat (first | with_reducible exact TakeS.here _ | apply TakeS.next | apply TakeS.app)) ?_ | exact HSub.nil _ | exact HSub.refl _ | refine HSub.drop ?_ | refine HSub.dropS ?_))
          · skip
            obtain ⟨q2, p2, rfl, hcd⟩ := hdr1.at (i := k) (v := .bool false) (by rw [List.getElem?_map, hd1]; rfl)
            refine W_quiet (by kernel_rfl) (by decide +kernel) ?_
            refine WQ_x (X_move rfl) rfl ?_
            refine WQ_x (X_move rfl) rfl ?_
            refine WQ_x (X_move rfl) rfl ?_
            refine WQ_x (X_len rfl ty36 rfl) rfl ?_
            refine WQ_x (X_bin rfl rfl b_lss) rfl ?_
            first | rw [decide_eq_true (by omega)] | rw [decide_eq_false (by omega)]
            refine WQ_x (X_move rfl) rfl ?_
            refine WQ_gyes rfl rfl ?_
            refine WQ_x (X_move rfl) rfl ?_
            refine WQ_gyes rfl rfl ?_
            refine WQ_x (X_move rfl) rfl ?_
            refine WQ_gyes rfl rfl ?_
            refine WQ_x (X_indexAddr (j := k) rfl rfl ty36 ty4 (by first | rfl | omega) (by omega) rfl) rfl ?_
            refine WQ_gyes rfl rfl ?_
            refine WQ_x (X_load (v := .bool false) rfl ty4 rfl (by rw [Nat.mul_one (k)]; exact hcd.up (by repeat (first | with_reducible exact HSub.refl _ | refine HSub.cons (by repeat (first | exact Take.here _ | apply Take.next | apply Take.app)) ?_ | refine HSub.app (by repeat (first | with_reducible exact TakeS.here _ | apply TakeS.next | apply TakeS.app)) ?_ | exact HSub.nil _ | exact HSub.refl _ | refine HSub.drop ?_ | refine HSub.dropS ?_)))) rfl ?_
            first | refine WQ_x (X_pickt rfl rfl) rfl ?_ | refine WQ_x (X_pickf rfl rfl) rfl ?_
            refine WQ_x (X_assign rfl) rfl ?_
            refine WQ_x (X_assign rfl) rfl ?_
            refine WQ_nil ?_
            refine W_blk ?_
            refine W_region ?_
            refine W_move rfl rfl ?_
            refine W_bin rfl rfl (b_add (m := ((k + 1 : Nat) : Int)) ((i64w (by omega)).trans (by omega))) rfl ?_
            refine W_assign rfl rfl ?_
            refine W_nil ?_
            refine W_again (k + 1, k, false) ⟨by show i ≤ k + 1; omega, by show k + 1 ≤ q.length; omega, by have h := LastAt.hit (dr := dr) hik (hy.trans (congrArg some g3)); rw [hda] at h; exact h⟩ (by show q.length - (k + 1) < q.length - k; omega) (sub_cons rfl (sub_cons rfl (sub_cons rfl (sub_cons rfl (sub_cons rfl (sub_cons rfl (sub_cons rfl (sub_cons rfl (sub_cons rfl (sub_nil _)))))))))) rfl (by repeat (first | with_reducible exact HSub.refl _ | refine HSub.cons (by repeat (first | exact Take.here _ | apply Take.next | apply Take.app)) ?_ | refine HSub.app (by repeat (first | with_reducible exact TakeS.here _ | apply TakeS.next | apply TakeS.app)) ?_ | exact HSub.nil _ | exact HSub.refl _ | refine HSub.drop ?_ | refine HSub.dropS ?_))
          · skip
            obtain ⟨q2, p2, rfl, hcd⟩ := hdr1.at (i := k) (v := .bool true) (by rw [List.getElem?_map, hd1]; rfl)
            refine W_quiet (by kernel_rfl) (by decide +kernel) ?_
            refine WQ_x (X_move rfl) rfl ?_
            refine WQ_x (X_move rfl) rfl ?_
            refine WQ_x (X_move rfl) rfl ?_
            refine WQ_x (X_len rfl ty36 rfl) rfl ?_
            refine WQ_x (X_bin rfl rfl b_lss) rfl ?_
            first | rw [decide_eq_true (by omega)] | rw [decide_eq_false (by omega)]
            refine WQ_x (X_move rfl) rfl ?_
            refine WQ_gyes rfl rfl ?_
            refine WQ_x (X_move rfl) rfl ?_
            refine WQ_gyes rfl rfl ?_
            refine WQ_x (X_move rfl) rfl ?_
            refine WQ_gyes rfl rfl ?_
            refine WQ_x (X_indexAddr (j := k) rfl rfl ty36 ty4 (by first | rfl | omega) (by omega) rfl) rfl ?_
            refine WQ_gyes rfl rfl ?_
            refine WQ_x (X_load (v := .bool true) rfl ty4 rfl (by rw [Nat.mul_one (k)]; exact hcd.up (by repeat (first | with_reducible exact HSub.refl _ | refine HSub.cons (by repeat (first | exact Take.here _ | apply Take.next | apply Take.app)) ?_ | refine HSub.app (by repeat (first | with_reducible exact TakeS.here _ | apply TakeS.next | apply TakeS.app)) ?_ | exact HSub.nil _ | exact HSub.refl _ | refine HSub.drop ?_ | refine HSub.dropS ?_)))) rfl ?_
            first | refine WQ_x (X_pickt rfl rfl) rfl ?_ | refine WQ_x (X_pickf rfl rfl) rfl ?_
            refine WQ_x (X_assign rfl) rfl ?_
            refine WQ_x (X_assign rfl) rfl ?_
            refine WQ_nil ?_
            refine W_blk ?_
            refine W_region ?_
            refine W_move rfl rfl ?_
            refine W_bin rfl rfl (b_add (m := ((k + 1 : Nat) : Int)) ((i64w (by omega)).trans (by omega))) rfl ?_
            refine W_assign rfl rfl ?_
            refine W_nil ?_
            refine W_again (k + 1, k, true) ⟨by show i ≤ k + 1; omega, by show k + 1 ≤ q.length; omega, by have h := LastAt.hit (dr := dr) hik (hy.trans (congrArg some g3)); rw [hda] at h; exact h⟩ (by show q.length - (k + 1) < q.length - k; omega) (sub_cons rfl (sub_cons rfl (sub_cons rfl (sub_cons rfl (sub_cons rfl (sub_cons rfl (sub_cons rfl (sub_cons rfl (sub_cons rfl (sub_nil _)))))))))) rfl (by repeat (first | with_reducible exact HSub.refl _ | refine HSub.cons (by repeat (first | exact Take.here _ | apply Take.next | apply Take.app)) ?_ | refine HSub.app (by repeat (first | with_reducible exact TakeS.here _ | apply TakeS.next | apply TakeS.app)) ?_ | exact HSub.nil _ | exact HSub.refl _ | refine HSub.drop ?_ | refine HSub.dropS ?_))
        · skip
          refine W_skip ?_
          refine W_blk ?_
          refine W_region ?_
          refine W_move rfl rfl ?_
          refine W_bin rfl rfl (b_add (m := ((k + 1 : Nat) : Int)) ((i64w (by omega)).trans (by omega))) rfl ?_
          refine W_assign rfl rfl ?_
          refine W_nil ?_
          refine W_again (k + 1, last, out) ⟨by show i ≤ k + 1; omega, by show k + 1 ≤ q.length; omega, hj.skip hz hy g3⟩ (by show q.length - (k + 1) < q.length - k; omega) (sub_cons rfl (sub_cons rfl (sub_cons rfl (sub_cons rfl (sub_cons rfl (sub_cons rfl (sub_cons rfl (sub_cons rfl (sub_cons rfl (sub_nil _)))))))))) rfl (by repeat (first | with_reducible exact HSub.refl _ | refine HSub.cons (by repeat (first | exact Take.here _ | apply Take.next | apply Take.app)) ?_ | refine HSub.app (by repeat (first | with_reducible exact TakeS.here _ | apply TakeS.next | apply TakeS.app)) ?_ | exact HSub.nil _ | exact HSub.refl _ | refine HSub.drop ?_ | refine HSub.dropS ?_))
      · skip
        refine W_exit rfl ?_
        refine W_seq ?_
        refine W_sr ?_
        obtain rfl : k = q.length := by omega
        obtain ⟨hl1, hl2, hl3, hl4, rfl⟩ := hj.done (by omega)
        obtain ⟨hA, hB⟩ := last_is (dr := dr) hz hl1 hl2 hl3 hl4
        rw [← hM] at hA
        refine W_move rfl rfl ?_
        refine W_move rfl rfl ?_
        refine W_move rfl rfl ?_
        refine W_indexAddr (j := i) rfl rfl ty35 ty9 (by first | rfl | omega) (by omega) rfl rfl ?_
        refine W_load (v := .string z) rfl ty9 rfl (by rw [Nat.mul_one (i)]; exact hc.up (by repeat (first | with_reducible exact HSub.refl _ | refine HSub.cons (by repeat (first | exact Take.here _ | apply Take.next | apply Take.app)) ?_ | refine HSub.app (by repeat (first | with_reducible exact TakeS.here _ | apply TakeS.next | apply TakeS.app)) ?_ | exact HSub.nil _ | exact HSub.refl _ | refine HSub.drop ?_ | refine HSub.dropS ?_))) rfl ?_
        refine W_callq (.cons rfl (.cons rfl .nil)) Try.call17 rfl (hasS_q (bm := bm) hO (by repeat (first | exact List.mem_cons_self | apply List.mem_cons_of_mem | apply List.mem_append_right)) (by repeat (first | exact List.mem_cons_self | apply List.mem_cons_of_mem | apply List.mem_append_right)) z) ?_
        rw [hA]
        refine W_move rfl rfl ?_
        refine W_beq rfl rfl ty4 rfl ?_
        rw [not_beq]
        refine W_nil ?_
        refine W_condF rfl rfl ?_
        refine W_skip ?_
        refine W_sr ?_
        refine W_move rfl rfl ?_
        refine W_move rfl rfl ?_
        refine W_bin rfl rfl b_eql rfl ?_
        refine W_move rfl rfl ?_
        apply W_and
        iterate 4 exact rfl
        case h1 =>
          intro hg3
          refine W_gyes rfl rfl ?_
          refine W_move rfl rfl ?_
          refine W_gyes rfl rfl ?_
          refine W_not rfl rfl ?_
          exact W_met rfl (by repeat (first | exact .refl | refine .cons rfl ?_))
        refine W_nil ?_
        refine W_condPS (p := sel q dr q.length i = true) rfl (by rw [hB]; simp; intro _; omega) (fun g3 => ?_) (fun g3 => ?_)
        · skip
          refine W_sr ?_
          have hcs : cnt q dr (i + 1) = cnt q dr i + 1 := by rw [cnt_succ, if_pos g3]
          have hcl0 := cnt_le q dr i
          refine W_move rfl rfl ?_
          refine W_bin rfl rfl (b_add (m := ((cnt q dr (i + 1) : Nat) : Int) - 1) ((i64w (by omega)).trans (by omega))) rfl ?_
          refine W_assign rfl rfl ?_
          refine W_nil ?_
          refine W_quietsr (by kernel_rfl) (by decide +kernel) ?_
          have hcx := pm_at (by omega) g3
          rw [← hM, hz] at hcx
          have hcl := (List.getElem?_eq_some_iff.1 hcx).1
          obtain ⟨q4, p4, rfl, hc4⟩ := hx.at (i := cnt q dr i) (v := .string z) (by rw [List.getElem?_map, hcx]; rfl)
          refine WQ_x (X_move rfl) rfl ?_
          refine WQ_x (X_move rfl) rfl ?_
          refine WQ_x (X_len rfl ty35 rfl) rfl ?_
          refine WQ_x (X_bin rfl rfl b_geq) rfl ?_
          rw [decide_eq_false (by omega)]
          refine WQ_x (X_move rfl) rfl ?_
          refine WQ_gyes rfl rfl ?_
          refine WQ_x (X_move rfl) rfl ?_
          refine WQ_gyes rfl rfl ?_
          refine WQ_x (X_move rfl) rfl ?_
          refine WQ_gyes rfl rfl ?_
          refine WQ_x (X_indexAddr (j := cnt q dr i) rfl rfl ty35 ty9 (by first | rfl | omega) (by omega) rfl) rfl ?_
          refine WQ_gyes rfl rfl ?_
          refine WQ_x (X_load (v := .string z) rfl ty9 rfl (by rw [Nat.mul_one (cnt q dr i)]; exact hc4.up (by repeat (first | with_reducible exact HSub.refl _ | refine HSub.cons (by repeat (first | exact Take.here _ | apply Take.next | apply Take.app)) ?_ | refine HSub.app (by repeat (first | with_reducible exact TakeS.here _ | apply TakeS.next | apply TakeS.app)) ?_ | exact HSub.nil _ | exact HSub.refl _ | refine HSub.drop ?_ | refine HSub.dropS ?_)))) rfl ?_
          refine WQ_gyes rfl rfl ?_
          refine WQ_x (X_move rfl) rfl ?_
          refine WQ_gyes rfl rfl ?_
          refine WQ_x (X_move rfl) rfl ?_
          refine WQ_gyes rfl rfl ?_
          refine WQ_x (X_indexAddr (j := i) rfl rfl ty35 ty9 (by first | rfl | omega) (by omega) rfl) rfl ?_
          refine WQ_gyes rfl rfl ?_
          refine WQ_x (X_load (v := .string z) rfl ty9 rfl (by rw [Nat.mul_one (i)]; exact hc.up (by repeat (first | with_reducible exact HSub.refl _ | refine HSub.cons (by repeat (first | exact Take.here _ | apply Take.next | apply Take.app)) ?_ | refine HSub.app (by repeat (first | with_reducible exact TakeS.here _ | apply TakeS.next | apply TakeS.app)) ?_ | exact HSub.nil _ | exact HSub.refl _ | refine HSub.drop ?_ | refine HSub.dropS ?_)))) rfl ?_
          refine WQ_gyes rfl rfl ?_
          refine WQ_x (X_sne_s rfl rfl) rfl ?_
          rw [ba_self]
          first | refine WQ_x (X_pickt rfl rfl) rfl ?_ | refine WQ_x (X_pickf rfl rfl) rfl ?_
          refine WQ_nil ?_
          refine W_condF rfl rfl ?_
          refine W_skip ?_
          refine W_blk ?_
          refine W_region ?_
          refine W_move rfl rfl ?_
          refine W_bin rfl rfl (b_add (m := ((i + 1 : Nat) : Int)) ((i64w (by omega)).trans (by omega))) rfl ?_
          refine W_assign rfl rfl ?_
          refine W_nil ?_
          refine W_again (i + 1) (by omega) (by omega) (sub_cons rfl (sub_cons rfl (sub_cons rfl (sub_cons rfl (sub_cons rfl (sub_cons rfl (sub_nil _))))))) rfl (by repeat (first | with_reducible exact HSub.refl _ | refine HSub.cons (by repeat (first | exact Take.here _ | apply Take.next | apply Take.app)) ?_ | refine HSub.app (by repeat (first | with_reducible exact TakeS.here _ | apply TakeS.next | apply TakeS.app)) ?_ | exact HSub.nil _ | exact HSub.refl _ | refine HSub.drop ?_ | refine HSub.dropS ?_))
        · skip
          refine W_skip ?_
          refine W_blk ?_
          refine W_region ?_
          have hcs : cnt q dr (i + 1) = cnt q dr i := by rw [cnt_succ, if_neg g3]; rfl
          rw [← hcs]
          refine W_move rfl rfl ?_
          refine W_bin rfl rfl (b_add (m := ((i + 1 : Nat) : Int)) ((i64w (by omega)).trans (by omega))) rfl ?_
          refine W_assign rfl rfl ?_
          refine W_nil ?_
          refine W_again (i + 1) (by omega) (by omega) (sub_cons rfl (sub_cons rfl (sub_cons rfl (sub_cons rfl (sub_cons rfl (sub_cons rfl (sub_nil _))))))) rfl (by repeat (first | with_reducible exact HSub.refl _ | refine HSub.cons (by repeat (first | exact Take.here _ | apply Take.next | apply Take.app)) ?_ | refine HSub.app (by repeat (first | with_reducible exact TakeS.here _ | apply TakeS.next | apply TakeS.app)) ?_ | exact HSub.nil _ | exact HSub.refl _ | refine HSub.drop ?_ | refine HSub.dropS ?_))
    · skip
      refine W_exit rfl ?_
      refine W_sr ?_
      refine W_callp .nil Try.call9 rfl (T := fun _ => True) trivial known_pure ?_
      obtain rfl : i = q.length := by omega
      have hpc : M.length = cnt q dr q.length := by rw [hM]; exact pm_cnt q dr
      refine W_move rfl rfl ?_
      refine W_gyes rfl rfl ?_
      refine W_move rfl rfl ?_
      refine W_gyes rfl rfl ?_
      refine W_bin rfl rfl (b_add (m := ((cnt q dr q.length : Nat) : Int)) ((i64w (by have := cnt_le q dr q.length; omega)).trans (by omega))) rfl ?_
      refine W_gyes rfl rfl ?_
      refine W_move rfl rfl ?_
      refine W_gyes rfl rfl ?_
      refine W_len rfl ty35 rfl rfl ?_
      refine W_gyes rfl rfl ?_
      refine W_bin rfl rfl b_eql rfl ?_
      rw [decide_eq_true (by rw [hpc])]
      first | refine W_pickt rfl rfl rfl ?_ | refine W_pickf rfl rfl rfl ?_
      refine W_move rfl rfl ?_
      refine W_gyes rfl rfl ?_
      refine W_move rfl rfl ?_
      refine W_gyes rfl rfl ?_
      refine W_callq (.cons rfl .nil) Try.call18 rfl (lenS_q (bm := bm) hO (by repeat (first | exact List.mem_cons_self | apply List.mem_cons_of_mem | apply List.mem_append_right)) (by repeat (first | exact List.mem_cons_self | apply List.mem_cons_of_mem | apply List.mem_append_right))) ?_
      refine W_gyes rfl rfl ?_
      refine W_move rfl rfl ?_
      refine W_gyes rfl rfl ?_
      refine W_len rfl ty35 rfl rfl ?_
      refine W_gyes rfl rfl ?_
      refine W_bin rfl rfl b_eql rfl ?_
      rw [decide_eq_true rfl]
      first | refine W_pickt rfl rfl rfl ?_ | refine W_pickf rfl rfl rfl ?_
      refine W_assign rfl rfl ?_
      refine W_nil ?_
      refine W_ret1m (H2 := H) Try.results4 rfl (.nil _) (by repeat (first | with_reducible exact HSub.refl _ | refine HSub.cons (by repeat (first | exact Take.here _ | apply Take.next | apply Take.app)) ?_ | refine HSub.app (by repeat (first | with_reducible exact TakeS.here _ | apply TakeS.next | apply TakeS.app)) ?_ | exact HSub.nil _ | exact HSub.refl _ | refine HSub.drop ?_ | refine HSub.dropS ?_)) ?_
      exact ⟨rfl, rfl⟩
end Go.Proofs.Ytknbohnoiigioaa
