/-
  Own work: contracts of functions that the statement reaches, and plain facts on what they compute; each theorem says its conditions.
-/
import Derived.Test.YtkcaakkaioingaaDoorBpT1
import Derived.Test.YtkcaakkaioingaaDoorBpS2
import Derived.Test.YtkcaakkaioingaaDoorShelf
import Derived.Test.YtkcaakkaioingaaDoorBpA
set_option linter.all false
set_option linter.unusedSimpArgs false
set_option linter.unusedVariables false
namespace Go.Proofs.YtkcaakkaioingaaDoor
open Go Go.Sl
attribute [local irreducible] W
theorem bit_or {z s j : Nat} (hj : j < 64) : (z ||| bitN (j : Int)).testBit s = (z.testBit s || decide (s = j)) := by
  have e : bitN (j : Int) = 2 ^ j := by unfold bitN; rw [if_pos (by omega)]; rfl
  rw [e, Nat.testBit_or, Nat.testBit_two_pow]
  congr 1
  exact decide_eq_decide.2 ⟨fun h => h.symm, fun h => h.symm⟩
theorem WhIs.put {now turn c z : Nat} {L : List Tm} {sl : List Value} {XS : List Heap} {bs : List Nat} {l : Ents Int} (h : WhIs now L sl XS bs l c turn) {id : Int} {e : Spot} {v' : Value} {X' : Heap} (hid : 0 ≤ id ∧ id < 256) (hnew : id ∉ L.map (·.id)) (hlv : e.lv < 8 ∧ e.slot < 64)
    (htm : ∃ num, e.slot = num % 64 ∧ e.due = tickT num e.lv ∧ now / 8 ^ e.lv < num ∧ num ≤ now / 8 ^ e.lv + 64 ∧ num * 8 ^ e.lv < 18446744073709551615 + 8 ^ e.lv) (hO : OwnS 3 1 v' (idsAt L (e.lv * 64 + e.slot) ++ [id]).length ((idsAt L (e.lv * 64 + e.slot) ++ [id]).map (Value.int .i64)) X') (hz : bs[e.lv]? = some z) :
    WhIs now (L ++ [⟨id, e, turn + 1⟩]) (sl.set (e.lv * 64 + e.slot) v') (XS.set (e.lv * 64 + e.slot) X') (bs.set e.lv (withL z [(e.slot : Int)])) (mPut l c id (.agg (e.v ++ [Value.int .i64 (((turn + 1) : Nat) : Int)]).toArray)) (mClk l c id) (turn + 1) := by
  have hk : e.lv * 64 + e.slot < 512 := by omega
  have hid' : ∀ k, idsAt (L ++ [⟨id, e, turn + 1⟩]) k = idsAt L k ++ (if e.lv * 64 + e.slot = k then [id] else []) := fun k => idsAt_snoc L ⟨id, e, turn + 1⟩ k
  have hno : mHas l id = false := by
    cases hh : mHas l id with
    | false => rfl
    | true => exact absurd (h.keys.mem_iff.1 (mHas_iff.1 hh)) hnew
  have hpl : mPut l c id (.agg (e.v ++ [Value.int .i64 (((turn + 1) : Nat) : Int)]).toArray) = l ++ [(id, .agg (e.v ++ [Value.int .i64 (((turn + 1) : Nat) : Int)]).toArray, c)] := by unfold mPut; rw [hno]; rfl
  have all : ∀ {p : Tm → Prop}, (∀ t ∈ L, p t) → p ⟨id, e, turn + 1⟩ → ∀ t ∈ L ++ [⟨id, e, turn + 1⟩], p t := fun h1 h2 t ht => by
    rcases List.mem_append.1 ht with ht | ht
    · exact h1 t ht
    · rw [List.mem_singleton.1 ht]; exact h2
  refine ⟨(h.row.setSl _ _).setBs _ _, by rw [List.length_set, h.xs], fun k hk2 => ?_, fun n hn => ?_, h.map.put id _, ?_, ?_, ?_, ?_, all (fun t ht => Nat.le_succ_of_le (h.last t ht)) (Nat.le_refl _), all h.range hid, all h.spot hlv, all h.time htm⟩
  · rw [hid']
    by_cases ek : e.lv * 64 + e.slot = k
    · subst ek
      rw [if_pos rfl]
      exact ⟨v', X', List.getElem?_set_self (by rw [h.row.sl]; exact hk), List.getElem?_set_self (by rw [h.xs]; exact hk), hO⟩
    · rw [if_neg ek, List.append_nil]
      obtain ⟨v, X, h1, h2, h3⟩ := h.own k hk2
      exact ⟨v, X, by rw [List.getElem?_set_ne ek]; exact h1, by rw [List.getElem?_set_ne ek]; exact h2, h3⟩
  · obtain ⟨zn, h1, h2, h3⟩ := h.busy n hn
    by_cases en : e.lv = n
    · subst en
      obtain rfl : z = zn := Option.some.inj (hz.symm.trans h1)
      refine ⟨_, List.getElem?_set_self (by rw [h.row.bs]; exact hn), withL_ok _ h2, fun s hs => ?_⟩
      show (z ||| bitN (e.slot : Int)).testBit s = true ↔ _
      rw [bit_or hlv.2, hid', Bool.or_eq_true, h3 s hs, decide_eq_true_eq]
      by_cases es : s = e.slot
      · subst es; rw [if_pos rfl]; simp
      · rw [if_neg (by omega), List.append_nil]; exact ⟨fun h => h.resolve_right es, .inl⟩
    · refine ⟨zn, by rw [List.getElem?_set_ne en]; exact h1, h2, fun s hs => ?_⟩
      rw [hid', if_neg (by omega), List.append_nil]
      exact h3 s hs
  · rw [hpl, List.map_append, List.map_append]
    exact h.keys.append (.refl _)
  · rw [hpl]
    intro p hp
    rcases List.mem_append.1 hp with hp | hp
    · obtain ⟨t, ht, h1, h2⟩ := h.val p hp
      exact ⟨t, List.mem_append_left _ ht, h1, h2⟩
    · rw [List.mem_singleton.1 hp]
      exact ⟨_, List.mem_append_right _ List.mem_cons_self, rfl, rfl⟩
  · rw [List.map_append, List.nodup_append]
    refine ⟨h.nodup, by simp, fun a ha b hb => ?_⟩
    rw [List.mem_singleton.1 hb]
    exact fun (e : a = id) => hnew (e ▸ ha)
  · rw [List.pairwise_append]
    refine ⟨h.turns, List.pairwise_singleton _ _, fun a ha b hb => ?_⟩
    rw [List.mem_singleton.1 hb]
    exact Nat.lt_succ_of_le (h.last a ha)
end Go.Proofs.YtkcaakkaioingaaDoor
namespace Go.Proofs.YtkcaakkaioingaaDoor
open Go Go.Sl
attribute [local irreducible] W
theorem tm_uniq : ∀ {L : List Tm} {t u : Tm}, (L.map (·.id)).Nodup → t ∈ L → u ∈ L → t.id = u.id → t = u
  | x :: L, t, u, hn, ht, hu, e => by
    rw [List.map_cons, List.nodup_cons] at hn
    rcases List.mem_cons.1 ht with rfl | ht' <;> rcases List.mem_cons.1 hu with rfl | hu'
    · rfl
    · exact absurd (e ▸ List.mem_map_of_mem hu') hn.1
    · exact absurd (e ▸ List.mem_map_of_mem ht') hn.1
    · exact tm_uniq hn.2 ht' hu' e
theorem bit_out {z s j : Nat} (hj : j < 64) (hs : s < 64) : (z &&& (18446744073709551615 - bitN (j : Int))).testBit s = (z.testBit s && decide (s ≠ j)) := by
  have e : bitN (j : Int) = 2 ^ j := by unfold bitN; rw [if_pos (by omega)]; rfl
  have hp := pow64 hj
  have e2 : 18446744073709551615 - 2 ^ j = 2 ^ 64 - (2 ^ j + 1) := by omega
  rw [e, Nat.testBit_and, e2, Nat.testBit_two_pow_sub_succ (by omega), Nat.testBit_two_pow, decide_eq_true hs]
  congr 1
  rw [Bool.true_and, ← decide_not]
  exact decide_eq_decide.2 ⟨fun h e => h e.symm, fun h e => h e.symm⟩
theorem WhIs.del {now turn c z : Nat} {L : List Tm} {sl : List Value} {XS : List Heap} {bs bs' : List Nat} {l : Ents Int} (h : WhIs now L sl XS bs l c turn) {t : Tm} (ht : t ∈ L) {v' : Value} {X' : Heap}
    (hO : OwnS 3 1 v' (del1 (idsAt L t.key) t.id).length ((del1 (idsAt L t.key) t.id).map (Value.int .i64)) X') (hz : bs[t.s.lv]? = some z) (hb : bs' = if (del1 (idsAt L t.key) t.id).length = 0 then bs.set t.s.lv (outL z [(t.s.slot : Int)]) else bs) :
    WhIs now (delT L t.id) (sl.set t.key v') (XS.set t.key X') bs' (mDel l t.id) c turn := by
  have hs := h.spot t ht
  have hk : t.key < 512 := by unfold Tm.key; omega
  have hoth : ∀ k, k ≠ t.key → del1 (idsAt L k) t.id = idsAt L k := fun k hne => del1_out (fun hin => by
    obtain ⟨u, hu, h1, h2⟩ := idsAt_mem.1 hin
    exact hne (h1 ▸ tm_uniq h.nodup hu ht h2 ▸ rfl))
  have hin : ∀ {p : Tm → Prop}, (∀ t ∈ L, p t) → ∀ u ∈ delT L t.id, p u := fun h1 u hu => h1 u (List.mem_filter.1 hu).1
  have hrow : RowOk (sl.set t.key v') bs' := by rw [hb]; split; exact (h.row.setSl _ _).setBs _ _; exact h.row.setSl _ _
  refine ⟨hrow, by rw [List.length_set, h.xs], fun k hk2 => ?_, fun n hn => ?_, h.map.del t.id, ?_, ?_, ?_, h.turns.filter _, hin h.last, hin h.range, hin h.spot, hin h.time⟩
  · rw [idsAt_del]
    by_cases ek : t.key = k
    · subst ek
      exact ⟨v', X', List.getElem?_set_self (by rw [h.row.sl]; exact hk), List.getElem?_set_self (by rw [h.xs]; exact hk), hO⟩
    · rw [hoth k (fun e => ek e.symm)]
      obtain ⟨v, X, h1, h2, h3⟩ := h.own k hk2
      exact ⟨v, X, by rw [List.getElem?_set_ne ek]; exact h1, by rw [List.getElem?_set_ne ek]; exact h2, h3⟩
  · obtain ⟨zn, h1, h2, h3⟩ := h.busy n hn
    have keep : ∀ s, s < 64 → n * 64 + s ≠ t.key → (zn.testBit s = true ↔ idsAt (delT L t.id) (n * 64 + s) ≠ []) := fun s hs64 hne => by rw [idsAt_del, hoth _ hne]; exact h3 s hs64
    by_cases he : (del1 (idsAt L t.key) t.id).length = 0
    · rw [hb, if_pos he]
      have hnil := List.eq_nil_of_length_eq_zero he
      by_cases en : t.s.lv = n
      · subst en
        obtain rfl : z = zn := Option.some.inj (hz.symm.trans h1)
        refine ⟨_, List.getElem?_set_self (by rw [h.row.bs]; exact hn), outL_ok _ h2, fun s hs64 => ?_⟩
        show (z &&& (18446744073709551615 - bitN (t.s.slot : Int))).testBit s = true ↔ _
        rw [bit_out hs.2 hs64]
        by_cases es : s = t.s.slot
        · subst es
          rw [idsAt_del, show t.s.lv * 64 + t.s.slot = t.key from rfl, hnil]; simp
        · rw [decide_eq_true es, Bool.and_true]
          exact keep s hs64 (by unfold Tm.key; omega)
      · exact ⟨zn, by rw [List.getElem?_set_ne en]; exact h1, h2, fun s hs64 => keep s hs64 (by unfold Tm.key; omega)⟩
    · rw [hb, if_neg he]
      refine ⟨zn, h1, h2, fun s hs64 => ?_⟩
      by_cases ek : n * 64 + s = t.key
      · rw [h3 s hs64, ek, idsAt_del]
        exact ⟨fun _ e => he (by rw [e]; rfl), fun _ e => he (by rw [e]; rfl)⟩
      · exact keep s hs64 ek
  · have e1 : (mDel l t.id).map (·.1) = (l.map (·.1)).filter (fun x => decide (t.id ≠ x)) := by unfold mDel; rw [List.filter_map]; rfl
    have e2 : (delT L t.id).map (·.id) = (L.map (·.id)).filter (fun x => decide (t.id ≠ x)) := by
      unfold delT; rw [List.filter_map]; congr 1
      exact List.filter_congr fun u _ => decide_eq_decide.2 ⟨fun h e => h e.symm, fun h e => h e.symm⟩
    rw [e1, e2]; exact h.keys.filter _
  · intro p hp
    obtain ⟨hp1, hp2⟩ := List.mem_filter.1 hp
    obtain ⟨u, hu, h1, h2⟩ := h.val p hp1
    exact ⟨u, List.mem_filter.2 ⟨hu, decide_eq_true (fun e => of_decide_eq_true hp2 (e ▸ h1))⟩, h1, h2⟩
  · exact h.nodup.sublist (List.Sublist.map _ List.filter_sublist)
end Go.Proofs.YtkcaakkaioingaaDoor
namespace Go.Proofs.YtkcaakkaioingaaDoor
open Go Go.Sl
attribute [local irreducible] W
theorem moreT_is {x s : Nat} (hx : x ≤ 18446744073709551615) (hs : s < 64) : moreT x s = if (x + 1) % 64 ≤ s then s - (x + 1) % 64 + 1 else s + 65 - (x + 1) % 64 := by
  unfold moreT
  split <;> split <;> omega
theorem around_least {x z s : Nat} (hx : x ≤ 18446744073709551615) (h : aroundN z (((x + 1) % 64 : Nat) : Int) = some s) : s < 64 ∧ z.testBit s = true ∧ ∀ r, r < 64 → z.testBit r = true → moreT x s ≤ moreT x r := by
  obtain ⟨h1, h2⟩ := aroundN_is h
  refine ⟨h1, h2, fun r hr hb => ?_⟩
  rw [moreT_is hx h1, moreT_is hx hr]
  unfold aroundN at h
  cases hn : nextN z (((x + 1) % 64 : Nat) : Int) with
  | some i =>
    rw [hn] at h
    obtain rfl : i = s := Option.some.inj h
    obtain ⟨_, _, h3, h4⟩ := nextN_is hn
    have h5 := h4 r
    by_cases c : r < i
    · have := h5 c hb
      split <;> split <;> omega
    · split <;> split <;> omega
  | none =>
    rw [hn] at h
    obtain ⟨_, _, h3, h4⟩ := nextN_is h
    have lt : ∀ j, z.testBit j = true → j < 64 → (j : Int) < (((x + 1) % 64 : Nat) : Int) := fun j hj hj64 => by
      by_cases c : (j : Int) < (((x + 1) % 64 : Nat) : Int)
      · exact c
      · exfalso
        unfold nextN at hn
        rw [List.find?_eq_none] at hn
        exact hn j (List.mem_range.2 hj64) (by rw [hj, decide_eq_true (by omega)]; rfl)
    have l1 := lt s h2 h1
    have l2 := lt r hb hr
    have h5 : ¬ r < s := fun c => by have := h4 r c hb; omega
    split <;> split <;> omega
theorem around_none {z : Nat} {f : Int} (h : aroundN z f = none) : ∀ r, r < 64 → z.testBit r = false := fun r hr => by
  cases hb : z.testBit r with
  | false => rfl
  | true =>
    exfalso
    unfold aroundN at h
    have h0 : nextN z 0 = none := by
      cases hn : nextN z f with
      | some i => rw [hn] at h; cases h
      | none => rw [hn] at h; exact h
    unfold nextN at h0
    rw [List.find?_eq_none] at h0
    exact h0 r (List.mem_range.2 hr) (by rw [hb, decide_eq_true (by omega)]; rfl)
theorem tickT_mono {a b n : Nat} (h : a ≤ b) : tickT a n ≤ tickT b n := by
  have hm := Nat.mul_le_mul_right (8 ^ n) h
  have h0 : ¬ 18446744073709551615 / 8 ^ n < a → a * 8 ^ n ≤ 18446744073709551615 := fun hh => (Nat.le_div_iff_mul_le (Nat.pow_pos (by omega))).1 (by omega)
  unfold tickT
  by_cases ha : 18446744073709551615 / 8 ^ n < a
  · rw [if_pos ha, if_pos (by omega)]; exact Nat.le_refl _
  · rw [if_neg ha]
    have := h0 ha
    split <;> omega
end Go.Proofs.YtkcaakkaioingaaDoor
namespace Go.Proofs.YtkcaakkaioingaaDoor
open Go Go.Sl
attribute [local irreducible] W
theorem nx_least {now turn c : Nat} {L : List Tm} {sl : List Value} {XS : List Heap} {bs : List Nat} {l : Ents Int} (h : WhIs now L sl XS bs l c turn) (hnow : now ≤ 18446744073709551615) : ∀ n, n ≤ 8 →
    (nx now bs n = none ∧ ∀ t ∈ L, n ≤ t.s.lv) ∨ ∃ a, nx now bs n = some a ∧ (∃ t ∈ L, t.s.lv < n ∧ t.s.due = a) ∧ ∀ t ∈ L, t.s.lv < n → a ≤ t.s.due
  | 0, _ => .inl ⟨rfl, fun _ _ => Nat.zero_le _⟩
  | n + 1, hn => by
    have ih := nx_least h hnow n (by omega)
    obtain ⟨z, hz, hz2, hz3⟩ := h.busy n (by omega)
    have hx : now / 8 ^ n ≤ 18446744073709551615 := Nat.le_trans (Nat.div_le_self _ _) hnow
    cases ha : aroundN z ((fromT now n : Nat) : Int) with
    | none =>
      have hno : ∀ t ∈ L, t.s.lv ≠ n := fun t ht e => by
        subst e
        have h1 := around_none ha t.s.slot (h.spot t ht).2
        have h2 := (hz3 t.s.slot (h.spot t ht).2).2 (fun e => by have := idsAt_mem.2 ⟨t, ht, rfl, rfl⟩; rw [show t.key = t.s.lv * 64 + t.s.slot from rfl, e] at this; cases this)
        rw [h1] at h2; cases h2
      rw [nx_skip hz ha]
      rcases ih with ⟨h1, h2⟩ | ⟨a, h1, ⟨t, h2, h3, h4⟩, h5⟩
      · exact .inl ⟨h1, fun t ht => by have := h2 t ht; have := hno t ht; omega⟩
      · exact .inr ⟨a, h1, ⟨t, h2, by omega, h4⟩, fun u hu hl => h5 u hu (by have := hno u hu; omega)⟩
    | some s =>
      obtain ⟨g1, g2, g3⟩ := around_least hx ha
      obtain ⟨id, hid⟩ : ∃ id, id ∈ idsAt L (n * 64 + s) := List.exists_mem_of_ne_nil _ ((hz3 s g1).1 g2)
      obtain ⟨t, ht, hk, _⟩ := idsAt_mem.1 hid
      have hsp := h.spot t ht
      have hk2 : t.s.lv * 64 + t.s.slot = n * 64 + s := hk
      have hlv : t.s.lv = n := by omega
      have hsl : t.s.slot = s := by omega
      have dueOf : ∀ u ∈ L, u.s.lv = n → u.s.due = timeT now n u.s.slot := fun u hu e => by
        obtain ⟨num, m1, m2, m3, m4, _⟩ := h.time u hu
        subst e
        rw [m2, time_is hnow m3 m4 m1.symm]
      have hd := dueOf t ht hlv
      rw [hsl] at hd
      have le1 : ∀ u ∈ L, u.s.lv = n → timeT now n s ≤ u.s.due := fun u hu e => by
        rw [dueOf u hu e]
        have hm := g3 u.s.slot (h.spot u hu).2 ((e ▸ hz3 u.s.slot (h.spot u hu).2).2 (fun e2 => by have := idsAt_mem.2 ⟨u, hu, rfl, rfl⟩; rw [show u.key = u.s.lv * 64 + u.s.slot from rfl, e2] at this; cases this))
        unfold timeT
        have hmo := tickT_mono (n := n) (Nat.add_le_add_left hm (now / 8 ^ n))
        have hle := tickT_le (now / 8 ^ n + moreT (now / 8 ^ n) s) n
        split <;> split <;> omega
      right
      rcases ih with ⟨h1, h2⟩ | ⟨a, h1, ⟨t2, h2, h3, h4⟩, h5⟩
      · exact ⟨_, nx_first hz ha h1, ⟨t, ht, by omega, hd⟩, fun u hu hl => le1 u hu (by have := h2 u hu; omega)⟩
      · refine ⟨_, nx_more hz ha h1, ?_, fun u hu hl => ?_⟩
        · by_cases c : timeT now n s < a
          · rw [if_pos c]; exact ⟨t, ht, by omega, hd⟩
          · rw [if_neg c]; exact ⟨t2, h2, by omega, h4⟩
        · by_cases e : u.s.lv = n
          · have := le1 u hu e; split <;> omega
          · have := h5 u hu (by omega); split <;> omega
end Go.Proofs.YtkcaakkaioingaaDoor
namespace Go.Proofs.YtkcaakkaioingaaDoor
open Go Go.Sl
attribute [local irreducible] W
theorem tickT_up {x n : Nat} : tickT x n ≤ x * 8 ^ n := by
  unfold tickT
  split
  · rename_i h
    have := (Nat.div_lt_iff_lt_mul (Nat.pow_pos (by omega : 0 < 8))).1 h
    omega
  · exact Nat.le_refl _
theorem WhIs.later {now now' turn c : Nat} {L : List Tm} {sl : List Value} {XS : List Heap} {bs : List Nat} {l : Ents Int} (h : WhIs now L sl XS bs l c turn) (hle : now ≤ now') (hd : ∀ t ∈ L, now' < t.s.due) : WhIs now' L sl XS bs l c turn :=
  { h with
    time := fun t ht => by
      obtain ⟨num, h1, h2, h3, h4, h5a⟩ := h.time t ht
      have h5 := hd t ht
      rw [h2] at h5
      have h6 : now' < num * 8 ^ t.s.lv := Nat.lt_of_lt_of_le h5 tickT_up
      have h7 : now / 8 ^ t.s.lv ≤ now' / 8 ^ t.s.lv := Nat.div_le_div_right hle
      exact ⟨num, h1, h2, (Nat.div_lt_iff_lt_mul (Nat.pow_pos (by omega))).2 h6, by omega, h5a⟩ }
end Go.Proofs.YtkcaakkaioingaaDoor
namespace Go.Proofs.YtkcaakkaioingaaDoor
open Go Go.Sl
attribute [local irreducible] W
set_option maxHeartbeats 1000000 in
theorem Put_range {bw : Nat} {id z : Int} (hid : id < 0 ∨ 256 ≤ id) : Pure Tryd.prog (fun _ => True) 67 [.pointer (some ⟨bw, 0, none⟩), .int .i64 id, .int .u64 z] (.tuple #[.agg zSpot.v.toArray, .int .i64 2]) := by
  intro w0 H hT
  refine L_enter Tryd.func67 rfl Tryd.ntmps67 rfl rfl ?_
  refine W_sr ?_
  refine W_alloc (l := zSpot.v) ty72 rfl rfl (fun b6 => ?_)
  refine W_assign rfl rfl ?_
  refine W_nil ?_
  refine W_seq ?_
  refine W_block ?_
  refine W_sr ?_
  refine W_move rfl rfl ?_
  refine W_x (X_ptrNil rfl rfl ty140) (fun _ h => by cases h) rfl ?_
  refine W_assign rfl rfl ?_
  refine W_nil ?_
  refine W_condF rfl rfl ?_
  refine W_sr ?_
  refine W_move rfl rfl ?_
  refine W_bin rfl rfl b_lss rfl ?_
  refine W_move rfl rfl ?_
  apply W_or
  iterate 4 exact rfl
  case h1 =>
    intro hg2
    refine W_gyes rfl rfl ?_
    refine W_move rfl rfl ?_
    refine W_gyes rfl rfl ?_
    refine W_bin rfl rfl b_geq rfl ?_
    exact W_met rfl zR
  refine W_assign rfl rfl ?_
  refine W_nil ?_
  refine W_condT rfl (by simp; omega) ?_
  refine W_sr ?_
  refine W_build ty72 pl72 .nil rfl zF rfl ?_
  refine W_storeA (l' := zSpot.v) rfl rfl ty72 rfl rfl (b := b6) zM (by exact Nat.le_refl 4) rfl zU ?_
  refine W_assign rfl rfl ?_
  refine W_nil ?_
  refine W_ret2G (H2 := H) Tryd.results67 (.nil _) (.own rfl ty72 rfl zM rfl) (.tmp rfl) zH ?_
  exact ⟨rfl, rfl⟩
end Go.Proofs.YtkcaakkaioingaaDoor
namespace Go.Proofs.YtkcaakkaioingaaDoor
open Go Go.Sl
attribute [local irreducible] W
set_option maxHeartbeats 1000000 in
theorem Put_clock {w0 : World} {H : Heap} {bw bm turn c a : Nat} {sl : List Value} {bs : List Nat} {l : Ents Int} {id : Int} (hid : 0 ≤ id ∧ id < 256) (ha : a ≤ 18446744073709551615) (hok : RowOk sl bs) (hw : (bw, .cells 186 523 (whRow 18446744073709551615 sl bs bm turn)) ∈ H) (hm : (bm, .obj (mapO (Value.int .i64) l c)) ∈ H) (hv : (mGet l id).getD zEnt = zEnt) (hh : mHas l id = false)  : PureAt Tryd.prog w0 H 67 [.pointer (some ⟨bw, 0, none⟩), .int .i64 id, .int .u64 ((a : Nat) : Int)] (.tuple #[.agg zSpot.v.toArray, .int .i64 12]) := by
  refine L_enter Tryd.func67 rfl Tryd.ntmps67 rfl rfl ?_
  refine W_sr ?_
  refine W_alloc (l := zSpot.v) ty72 rfl rfl (fun b6 => ?_)
  refine W_assign rfl rfl ?_
  refine W_nil ?_
  refine W_seq ?_
  refine W_block ?_
  refine W_sr ?_
  refine W_move rfl rfl ?_
  refine W_x (X_ptrNil rfl rfl ty140) (fun _ h => by cases h) rfl ?_
  refine W_assign rfl rfl ?_
  refine W_nil ?_
  refine W_condF rfl rfl ?_
  refine W_sr ?_
  refine W_move rfl rfl ?_
  refine W_bin rfl rfl b_lss rfl ?_
  refine W_move rfl rfl ?_
  apply W_or
  iterate 4 exact rfl
  case h1 =>
    intro hg2
    refine W_gyes rfl rfl ?_
    refine W_move rfl rfl ?_
    refine W_gyes rfl rfl ?_
    refine W_bin rfl rfl b_geq rfl ?_
    exact W_met rfl zR
  refine W_assign rfl rfl ?_
  refine W_nil ?_
  refine W_condF rfl (by simp; omega) ?_
  refine W_skip ?_
  refine W_blk ?_
  refine W_seq ?_
  refine W_sr ?_
  refine W_move rfl rfl ?_
  refine W_nilCheck rfl rfl ?_
  refine W_fieldAddr rfl fld186_3 (by decide) rfl ?_
  refine W_load (v := .map (some bm)) rfl ty181 rfl (Cell.own (b := bw) (List.mem_cons_of_mem _ hw) (wh_map hok)) rfl ?_
  refine W_move rfl rfl ?_
  refine W_lookup (a := id) (zE := zEnt) rfl rfl keyI ty181 zEz (List.mem_cons_of_mem _ hm) rfl ?_
  simp only [if_true]
  rw [hv, hh]
  refine W_move rfl rfl ?_
  refine W_extract rfl rfl rfl ?_
  refine W_extract rfl rfl rfl ?_
  refine W_alloc (l := [.int .i64 0, .int .i64 0, .int .u64 0, .int .u64 0, .int .i64 0]) ty190 rfl rfl (fun b8 => ?_)
  refine W_storeA (l' := [.int .i64 0, .int .i64 0, .int .u64 0, .int .u64 0, .int .i64 0]) rfl rfl ty190 rfl rfl (b := b8) zM (by exact Nat.le_refl 5) rfl zU ?_
  refine W_assign rfl rfl ?_
  refine W_nil ?_
  refine W_sr ?_
  refine W_move rfl rfl ?_
  refine W_nil ?_
  refine W_condF rfl rfl ?_
  refine W_skip ?_
  refine W_sr ?_
  refine W_move rfl rfl ?_
  refine W_nilCheck rfl rfl ?_
  refine W_fieldAddr rfl fld186_0 (by decide) rfl ?_
  refine W_load (v := .int .u64 ((18446744073709551615 : Nat) : Int)) rfl ty28 rfl (Cell.own (b := bw) (by repeat (first | exact hw | exact List.mem_cons_self | apply List.mem_cons_of_mem | apply List.mem_append_right)) wh_now) rfl ?_
  refine W_move rfl rfl ?_
  refine W_callp (.cons rfl (.cons rfl .nil)) Tryd.call107 rfl (T := fun _ => True) trivial (Place_pure (a := 18446744073709551615) (b := a) (Nat.le_refl _) ha) ?_
  rw [show placeT 18446744073709551615 a = (zSpot, 12) from if_pos rfl]
  refine W_move rfl rfl ?_
  refine W_extract rfl rfl rfl ?_
  refine W_extract rfl rfl rfl ?_
  refine W_alloc (l := zSpot.v) ty72 rfl rfl (fun b10 => ?_)
  refine W_storeA (l' := zSpot.v) rfl rfl ty72 rfl rfl (b := b10) zM (by exact Nat.le_refl 4) rfl zU ?_
  refine W_assign rfl rfl ?_
  refine W_nil ?_
  refine W_seq ?_
  refine W_sr ?_
  refine W_move rfl rfl ?_
  refine W_bin rfl rfl b_neq rfl ?_
  refine W_nil ?_
  refine W_condT rfl rfl ?_
  refine W_sr ?_
  refine W_build ty72 pl72 .nil rfl zF rfl ?_
  refine W_move rfl rfl ?_
  refine W_storeA (l' := zSpot.v) rfl rfl ty72 rfl rfl (b := b6) zM (by exact Nat.le_refl 4) rfl zU ?_
  refine W_assign rfl rfl ?_
  refine W_nil ?_
  refine W_ret2G (H2 := H) Tryd.results67 (.nil _) (.own rfl ty72 rfl zM rfl) (.tmp rfl) zH ?_
  exact ⟨rfl, rfl⟩
end Go.Proofs.YtkcaakkaioingaaDoor
namespace Go.Proofs.YtkcaakkaioingaaDoor
open Go Go.Sl
attribute [local irreducible] W
theorem flat_out {XS : List Heap} {k : Nat} {B H : Heap} (h : XS[k]? = some B) : HSub (XS.flatten ++ H) (B ++ ((XS.set k []).flatten ++ H)) :=
  HSub.of_perm (((flat_take h).append_right H).trans (by rw [List.append_assoc]))
theorem flat_in {XS : List Heap} {k : Nat} {B H : Heap} (h : k < XS.length) : HSub (B ++ ((XS.set k []).flatten ++ H)) ((XS.set k B).flatten ++ H) :=
  by
  have h1 := (flat_put (B := B) h).append_right H
  rw [List.append_assoc] at h1
  exact HSub.of_perm h1
inductive WheelH (bw now : Nat) (L : List Tm) (turn : Nat) : Heap → Prop
  | mk {bm c : Nat} {sl : List Value} {XS : List Heap} {bs : List Nat} {l : Ents Int} (h : WhIs now L sl XS bs l c turn) : WheelH bw now L turn ((bw, .cells 186 523 (whRow now sl bs bm turn)) :: (bm, .obj (mapO (Value.int .i64) l c)) :: XS.flatten)
theorem nodup_len : ∀ {n : Nat} {l : List Int}, l.Nodup → (∀ x ∈ l, 0 ≤ x ∧ x < (n : Int)) → l.length ≤ n
  | 0, l, _, h => by
    cases l with
    | nil => exact Nat.le_refl _
    | cons x l => have := h x List.mem_cons_self; omega
  | n + 1, l, hn, h => by
    have h1 := nodup_len (n := n) (hn.filter (fun x => decide (x ≠ (n : Int)))) (fun x hx => by
      obtain ⟨m1, m2⟩ := List.mem_filter.1 hx
      have := h x m1
      have := of_decide_eq_true m2
      omega)
    by_cases c : (n : Int) ∈ l
    · have h2 : l.length = (l.filter (fun x => decide (x ≠ (n : Int)))).length + 1 := by
        have e : l.erase (n : Int) = l.filter (fun x => decide (x ≠ (n : Int))) := by
          rw [hn.erase_eq_filter]
          exact List.filter_congr fun x _ => by
            by_cases e : x = (n : Int) <;> simp [e]
        rw [← e, List.length_erase_of_mem c]
        have := List.length_pos_of_mem c
        omega
      omega
    · have h2 : l.filter (fun x => decide (x ≠ (n : Int))) = l := List.filter_eq_self.2 fun x hx => decide_eq_true (fun e => c (e ▸ hx))
      rw [h2] at h1; omega
theorem WhIs.len {now turn c : Nat} {L : List Tm} {sl : List Value} {XS : List Heap} {bs : List Nat} {l : Ents Int} (h : WhIs now L sl XS bs l c turn) : L.length ≤ 256 := by
  have := nodup_len (n := 256) h.nodup (fun x hx => by
    obtain ⟨t, ht, rfl⟩ := List.mem_map.1 hx
    exact h.range t ht)
  rwa [List.length_map] at this
theorem idsAt_len (L : List Tm) (k : Nat) : (idsAt L k).length ≤ L.length := by
  unfold idsAt; rw [List.length_map]; exact List.length_filter_le _ _
theorem WhIs.miss {now turn c : Nat} {L : List Tm} {sl : List Value} {XS : List Heap} {bs : List Nat} {l : Ents Int} (h : WhIs now L sl XS bs l c turn) {id : Int} (hn : id ∉ L.map (·.id)) : (mGet l id).getD zEnt = zEnt ∧ mHas l id = false := by
  have h1 : mHas l id = false := by
    cases hh : mHas l id with
    | false => rfl
    | true => exact absurd (h.keys.mem_iff.1 (mHas_iff.1 hh)) hn
  refine ⟨?_, h1⟩
  unfold mGet
  cases hf : l.find? (fun p => decide (id = p.1)) with
  | none => rfl
  | some p =>
    exfalso
    have h2 := List.find?_some hf
    have h3 := List.mem_of_find?_eq_some hf
    have : id ∈ l.map (·.1) := by
      rw [of_decide_eq_true h2]; exact List.mem_map_of_mem h3
    exact hn (h.keys.mem_iff.1 this)
set_option maxHeartbeats 4000000 in
theorem Put_at {w0 : World} {H : Heap} {now turn c : Nat} {L : List Tm} {sl : List Value} {XS : List Heap} {bs : List Nat} {l : Ents Int} {bw bm a : Nat} {id : Int} {e : Spot} (h : WhIs now L sl XS bs l c turn) (hnow : now < 18446744073709551615) (ha : a ≤ 18446744073709551615) (hid : 0 ≤ id ∧ id < 256) (htn : turn ≤ 4611686018427387904) (he : (placeT now a) = (e, 0)) (hsp : e.lv < 8 ∧ e.slot < 64) (hv : (mGet l id).getD zEnt = zEnt) (hh : mHas l id = false)  : LCalls Tryd.prog w0 67 #[.pointer (some ⟨bw, 0, none⟩), .int .i64 id, .int .u64 ((a : Nat) : Int)] ((bw, .cells 186 523 (whRow now sl bs bm turn)) :: (bm, .obj (mapO (Value.int .i64) l c)) :: (XS.flatten ++ H)) (fun v H' => ∃ v' X' z, v = .tuple #[.agg e.v.toArray, .int .i64 0] ∧ OwnS 3 1 v' (idsAt L (e.lv * 64 + e.slot) ++ [id]).length ((idsAt L (e.lv * 64 + e.slot) ++ [id]).map (Value.int .i64)) X' ∧ bs[e.lv]? = some z ∧ H' = (bw, .cells 186 523 (whRow now (sl.set (e.lv * 64 + e.slot) v') (bs.set e.lv (withL z [(e.slot : Int)])) bm (turn + 1))) :: (bm, .obj (mapO (Value.int .i64) (mPut l c id (.agg (e.v ++ [Value.int .i64 (((turn + 1) : Nat) : Int)]).toArray)) (mClk l c id))) :: ((XS.set (e.lv * 64 + e.slot) X').flatten ++ H)) := by
  refine L_enter (l := [.pointer (some ⟨bw, 0, none⟩), .int .i64 id, .int .u64 ((a : Nat) : Int)]) Tryd.func67 rfl Tryd.ntmps67 rfl rfl ?_
  refine W_sr ?_
  refine W_alloc (l := zSpot.v) ty72 rfl rfl (fun b6 => ?_)
  refine W_assign rfl rfl ?_
  refine W_nil ?_
  refine W_seq ?_
  refine W_block ?_
  refine W_sr ?_
  refine W_move rfl rfl ?_
  refine W_x (X_ptrNil rfl rfl ty140) (fun _ h => by cases h) rfl ?_
  refine W_assign rfl rfl ?_
  refine W_nil ?_
  refine W_condF rfl rfl ?_
  refine W_sr ?_
  refine W_move rfl rfl ?_
  refine W_bin rfl rfl b_lss rfl ?_
  refine W_move rfl rfl ?_
  apply W_or
  iterate 4 exact rfl
  case h1 =>
    intro hg2
    refine W_gyes rfl rfl ?_
    refine W_move rfl rfl ?_
    refine W_gyes rfl rfl ?_
    refine W_bin rfl rfl b_geq rfl ?_
    exact W_met rfl zR
  refine W_assign rfl rfl ?_
  refine W_nil ?_
  refine W_condF rfl (by simp; omega) ?_
  refine W_skip ?_
  refine W_blk ?_
  refine W_seq ?_
  refine W_sr ?_
  refine W_move rfl rfl ?_
  refine W_nilCheck rfl rfl ?_
  refine W_fieldAddr rfl fld186_3 (by decide) rfl ?_
  refine W_load (v := .map (some bm)) rfl ty181 rfl (Cell.own (b := bw) zM (wh_map h.row)) rfl ?_
  refine W_move rfl rfl ?_
  refine W_lookup (b := bm) (a := id) (zE := zEnt) rfl rfl keyI ty181 zEz zM rfl ?_
  simp only [if_true]
  rw [hv, hh]
  refine W_move rfl rfl ?_
  refine W_extract rfl rfl rfl ?_
  refine W_extract rfl rfl rfl ?_
  refine W_alloc (l := [.int .i64 0, .int .i64 0, .int .u64 0, .int .u64 0, .int .i64 0]) ty190 rfl rfl (fun b8 => ?_)
  refine W_storeA (l' := [.int .i64 0, .int .i64 0, .int .u64 0, .int .u64 0, .int .i64 0]) rfl rfl ty190 rfl rfl (b := b8) zM (by exact Nat.le_refl 5) rfl zU ?_
  refine W_assign rfl rfl ?_
  refine W_nil ?_
  refine W_sr ?_
  refine W_move rfl rfl ?_
  refine W_nil ?_
  refine W_condF rfl rfl ?_
  refine W_skip ?_
  refine W_sr ?_
  refine W_move rfl rfl ?_
  refine W_nilCheck rfl rfl ?_
  refine W_fieldAddr rfl fld186_0 (by decide) rfl ?_
  refine W_load (v := .int .u64 (now : Int)) rfl ty28 rfl (Cell.own (b := bw) zM wh_now) rfl ?_
  refine W_move rfl rfl ?_
  refine W_callp (.cons rfl (.cons rfl .nil)) Tryd.call107 rfl (T := fun _ => True) trivial (Place_pure (a := now) (b := a) (by omega) ha) ?_
  rw [he]
  refine W_move rfl rfl ?_
  refine W_extract rfl rfl rfl ?_
  refine W_extract rfl rfl rfl ?_
  refine W_alloc (l := zSpot.v) ty72 rfl rfl (fun b10 => ?_)
  refine W_storeA (l' := e.v) rfl rfl ty72 rfl rfl (b := b10) zM (by exact Nat.le_refl 4) rfl zU ?_
  refine W_assign rfl rfl ?_
  refine W_nil ?_
  refine W_seq ?_
  refine W_sr ?_
  refine W_move rfl rfl ?_
  refine W_bin rfl rfl b_neq rfl ?_
  refine W_nil ?_
  refine W_condF rfl rfl ?_
  refine W_skip ?_
  refine W_sr ?_
  refine W_move rfl rfl ?_
  refine W_nilCheck rfl rfl ?_
  refine W_fieldAddr rfl fld186_4 (by decide) rfl ?_
  refine W_load (v := .int .i64 (turn : Int)) rfl ty3 rfl (Cell.own (b := bw) zM (wh_turn h.row)) rfl ?_
  refine W_bin rfl rfl (b_add (m := ((turn + 1 : Nat) : Int)) (by rw [i64w (by omega)]; omega)) rfl ?_
  refine W_nilCheck rfl rfl ?_
  refine W_fieldAddr rfl fld186_4 (by decide) rfl ?_
  refine W_store (l' := whRow now sl bs bm (turn + 1)) rfl rfl ty3 rfl rfl (b := bw) zM (by rw [wh_len h.row]; rfl) (wh_setTurn h.row) zU ?_
  refine W_nil ?_
  refine W_seq ?_
  refine W_anyC [(b10, .cells 72 4 e.v), (bw, .cells 186 523 (whRow now sl bs bm (turn + 1)))] (by kernel_rfl) ?_
  refine WC_take 0 (l' := #[true, false, false, false, false, false, false, false, false, false, false, false]) rfl (by decide +kernel) (by decide +kernel) (by decide +kernel) rfl (by decide +kernel) (X_move rfl) rfl ?_
  refine WC_take 1 (l' := #[true, true, false, false, false, false, false, false, false, false, false, false]) rfl (by decide +kernel) (by decide +kernel) (by decide +kernel) rfl (by decide +kernel) (X_nilCheck rfl) rfl ?_
  refine WC_take 2 (l' := #[true, true, true, false, false, false, false, false, false, false, false, false]) rfl (by decide +kernel) (by decide +kernel) (by decide +kernel) rfl (by decide +kernel) (X_fieldAddr rfl fld186_3 (by decide)) rfl ?_
  refine WC_take 3 (l' := #[true, true, true, true, false, false, false, false, false, false, false, false]) rfl (by decide +kernel) (by decide +kernel) (by decide +kernel) rfl (by decide +kernel) (X_load (v := .map (some bm)) rfl ty181 rfl (Cell.own (b := bw) zM (wh_map h.row))) rfl ?_
  refine WC_take 4 (l' := #[true, true, true, true, true, false, false, false, false, false, false, false]) rfl (by decide +kernel) (by decide +kernel) (by decide +kernel) rfl (by decide +kernel) (X_move rfl) rfl ?_
  refine WC_take 5 (l' := #[true, true, true, true, true, true, false, false, false, false, false, false]) rfl (by decide +kernel) (by decide +kernel) (by decide +kernel) rfl (by decide +kernel) (X_loadB (vs := e.v) rfl ty72 rfl (b := b10) zM rfl rfl) rfl ?_
  refine WC_take 6 (l' := #[true, true, true, true, true, true, true, false, false, false, false, false]) rfl (by decide +kernel) (by decide +kernel) (by decide +kernel) rfl (by decide +kernel) (X_move rfl) rfl ?_
  refine WC_take 7 (l' := #[true, true, true, true, true, true, true, true, false, false, false, false]) rfl (by decide +kernel) (by decide +kernel) (by decide +kernel) rfl (by decide +kernel) (X_nilCheck rfl) rfl ?_
  refine WC_take 8 (l' := #[true, true, true, true, true, true, true, true, true, false, false, false]) rfl (by decide +kernel) (by decide +kernel) (by decide +kernel) rfl (by decide +kernel) (X_fieldAddr rfl fld186_4 (by decide)) rfl ?_
  refine WC_take 9 (l' := #[true, true, true, true, true, true, true, true, true, true, false, false]) rfl (by decide +kernel) (by decide +kernel) (by decide +kernel) rfl (by decide +kernel) (X_load (v := .int .i64 ((turn + 1 : Nat) : Int)) rfl ty3 rfl (Cell.own (b := bw) zM (wh_turn h.row))) rfl ?_
  refine WC_take 10 (l' := #[true, true, true, true, true, true, true, true, true, true, true, false]) rfl (by decide +kernel) (by decide +kernel) (by decide +kernel) rfl (by decide +kernel) (X_build (l := (e.v ++ [Value.int .i64 (((turn + 1) : Nat) : Int)])) ty190 pl190 (.cons rfl rfl rfl rfl rfl (.cons rfl rfl rfl rfl rfl .nil)) rfl rfl) rfl ?_
  refine WC_one 11 (l' := #[true, true, true, true, true, true, true, true, true, true, true, true]) zH (by decide +kernel) rfl (by decide +kernel) ?_
  refine W_mapUpdate (a := id) (b := bm) rfl rfl rfl keyI ty181 h.map zU ?_
  refine W_nil ?_
  refine WC_goal ?_
  refine WC_done zH (by decide +kernel) ?_
  refine W_seq ?_
  obtain ⟨v, X, hsl, hX, hO⟩ := h.own (e.lv * 64 + e.slot) (by omega)
  have hlen := h.len
  have hil := idsAt_len L (e.lv * 64 + e.slot)
  refine W_hsub (.cons (.here _) (.drop (.cons (.here _) (.cons (.here _) (.cons (.here _) (flat_out hX)))))) ?_
  refine W_anyS [(b10, .cells 72 4 e.v), (bw, .cells 186 523 (whRow now sl bs bm (turn + 1)))] 22 (by kernel_rfl) ?_
  refine WS_take 0 (l' := #[true, false, false, false, false, false, false, false, false, false, false, false, false, false, false, false, false, false, false, false, false, false, false]) rfl rfl (by decide +kernel) (by decide +kernel) (by decide +kernel) (by decide +kernel) rfl (by decide +kernel) (X_move rfl) rfl ?_
  refine WS_take 1 (l' := #[true, true, false, false, false, false, false, false, false, false, false, false, false, false, false, false, false, false, false, false, false, false, false]) rfl rfl (by decide +kernel) (by decide +kernel) (by decide +kernel) (by decide +kernel) rfl (by decide +kernel) (X_fieldAddr rfl fld72_0 (by decide)) rfl ?_
  refine WS_take 2 (l' := #[true, true, true, false, false, false, false, false, false, false, false, false, false, false, false, false, false, false, false, false, false, false, false]) rfl rfl (by decide +kernel) (by decide +kernel) (by decide +kernel) (by decide +kernel) rfl (by decide +kernel) (X_load (v := .int .i64 (e.lv : Int)) rfl ty3 rfl (Cell.own (b := b10) zM rfl)) rfl ?_
  refine WS_take 3 (l' := #[true, true, true, true, false, false, false, false, false, false, false, false, false, false, false, false, false, false, false, false, false, false, false]) rfl rfl (by decide +kernel) (by decide +kernel) (by decide +kernel) (by decide +kernel) rfl (by decide +kernel) (X_fieldAddr rfl fld72_1 (by decide)) rfl ?_
  refine WS_take 4 (l' := #[true, true, true, true, true, false, false, false, false, false, false, false, false, false, false, false, false, false, false, false, false, false, false]) rfl rfl (by decide +kernel) (by decide +kernel) (by decide +kernel) (by decide +kernel) rfl (by decide +kernel) (X_load (v := .int .i64 (e.slot : Int)) rfl ty3 rfl (Cell.own (b := b10) zM rfl)) rfl ?_
  refine WS_take 5 (l' := #[true, true, true, true, true, true, false, false, false, false, false, false, false, false, false, false, false, false, false, false, false, false, false]) rfl rfl (by decide +kernel) (by decide +kernel) (by decide +kernel) (by decide +kernel) rfl (by decide +kernel) (X_move rfl) rfl ?_
  refine WS_take 6 (l' := #[true, true, true, true, true, true, true, false, false, false, false, false, false, false, false, false, false, false, false, false, false, false, false]) rfl rfl (by decide +kernel) (by decide +kernel) (by decide +kernel) (by decide +kernel) rfl (by decide +kernel) (X_fieldAddr rfl fld72_0 (by decide)) rfl ?_
  refine WS_take 7 (l' := #[true, true, true, true, true, true, true, true, false, false, false, false, false, false, false, false, false, false, false, false, false, false, false]) rfl rfl (by decide +kernel) (by decide +kernel) (by decide +kernel) (by decide +kernel) rfl (by decide +kernel) (X_load (v := .int .i64 (e.lv : Int)) rfl ty3 rfl (Cell.own (b := b10) zM rfl)) rfl ?_
  refine WS_take 8 (l' := #[true, true, true, true, true, true, true, true, true, false, false, false, false, false, false, false, false, false, false, false, false, false, false]) rfl rfl (by decide +kernel) (by decide +kernel) (by decide +kernel) (by decide +kernel) rfl (by decide +kernel) (X_fieldAddr rfl fld72_1 (by decide)) rfl ?_
  refine WS_take 9 (l' := #[true, true, true, true, true, true, true, true, true, true, false, false, false, false, false, false, false, false, false, false, false, false, false]) rfl rfl (by decide +kernel) (by decide +kernel) (by decide +kernel) (by decide +kernel) rfl (by decide +kernel) (X_load (v := .int .i64 (e.slot : Int)) rfl ty3 rfl (Cell.own (b := b10) zM rfl)) rfl ?_
  refine WS_take 10 (l' := #[true, true, true, true, true, true, true, true, true, true, true, false, false, false, false, false, false, false, false, false, false, false, false]) rfl rfl (by decide +kernel) (by decide +kernel) (by decide +kernel) (by decide +kernel) rfl (by decide +kernel) (X_nilCheck rfl) rfl ?_
  refine WS_take 11 (l' := #[true, true, true, true, true, true, true, true, true, true, true, true, false, false, false, false, false, false, false, false, false, false, false]) rfl rfl (by decide +kernel) (by decide +kernel) (by decide +kernel) (by decide +kernel) rfl (by decide +kernel) (X_fieldAddr rfl fld186_1 (by decide)) rfl ?_
  refine WS_take 12 (l' := #[true, true, true, true, true, true, true, true, true, true, true, true, true, false, false, false, false, false, false, false, false, false, false]) rfl rfl (by decide +kernel) (by decide +kernel) (by decide +kernel) (by decide +kernel) rfl (by decide +kernel) (X_indexAddrA (j := e.lv) rfl rfl ty183 ty182 rfl hsp.1 (at_ := 1 + e.lv * 64) (by omega)) rfl ?_
  refine WS_take 13 (l' := #[true, true, true, true, true, true, true, true, true, true, true, true, true, true, false, false, false, false, false, false, false, false, false]) rfl rfl (by decide +kernel) (by decide +kernel) (by decide +kernel) (by decide +kernel) rfl (by decide +kernel) (X_indexAddrA (j := e.slot) rfl rfl ty182 ty58 rfl hsp.2 (at_ := 1 + (e.lv * 64 + e.slot)) (by omega)) rfl ?_
  refine WS_take 14 (l' := #[true, true, true, true, true, true, true, true, true, true, true, true, true, true, true, false, false, false, false, false, false, false, false]) rfl rfl (by decide +kernel) (by decide +kernel) (by decide +kernel) (by decide +kernel) rfl (by decide +kernel) (X_load (v := v) rfl ty58 rfl (Cell.own (b := bw) zM (wh_sl h.row hsl))) rfl ?_
  refine WS_take 15 (l' := #[true, true, true, true, true, true, true, true, true, true, true, true, true, true, true, true, false, false, false, false, false, false, false]) rfl rfl (by decide +kernel) (by decide +kernel) (by decide +kernel) (by decide +kernel) rfl (by decide +kernel) (X_move rfl) rfl ?_
  refine WS_takeP 18 (l' := #[true, true, true, true, true, true, true, true, true, true, true, true, true, true, true, true, false, false, true, false, false, false, false]) rfl rfl (by decide +kernel) (by decide +kernel) (by decide +kernel) rfl (by decide +kernel) (X_nilCheck rfl) rfl ?_
  refine WS_takeP 19 (l' := #[true, true, true, true, true, true, true, true, true, true, true, true, true, true, true, true, false, false, true, true, false, false, false]) rfl rfl (by decide +kernel) (by decide +kernel) (by decide +kernel) rfl (by decide +kernel) (X_fieldAddr rfl fld186_1 (by decide)) rfl ?_
  refine WS_takeP 20 (l' := #[true, true, true, true, true, true, true, true, true, true, true, true, true, true, true, true, false, false, true, true, true, false, false]) rfl rfl (by decide +kernel) (by decide +kernel) (by decide +kernel) rfl (by decide +kernel) (X_indexAddrA (j := e.lv) rfl rfl ty183 ty182 rfl hsp.1 (at_ := 1 + e.lv * 64) (by omega)) rfl ?_
  refine WS_one 16 (l' := #[true, true, true, true, true, true, true, true, true, true, true, true, true, true, true, true, true, false, true, true, true, false, false]) zH rfl (by decide +kernel) rfl (by decide +kernel) ?_
  refine W_buildSlice ty58 ty3 (.cons rfl rfl rfl rfl rfl .nil) rfl rfl rfl rfl rfl rfl rfl (fun b82 => ?_)
  refine W_nil ?_
  refine WS_goal ?_
  refine WS_one 17 (l' := #[true, true, true, true, true, true, true, true, true, true, true, true, true, true, true, true, true, true, true, true, true, false, false]) zH rfl (by decide +kernel) rfl (by decide +kernel) ?_
  refine W_append (news := [.int .i64 id]) (m := 1) (HB := X) (H0 := (b82, .cells 3 1 [.int .i64 id]) :: (b10, .cells 72 4 e.v) :: (b6, .cells 72 4 zSpot.v) :: (bw, .cells 186 523 (whRow now sl bs bm (turn + 1))) :: (bm, .obj (mapO (Value.int .i64) (mPut l c id (.agg (e.v ++ [Value.int .i64 (((turn + 1) : Nat) : Int)]).toArray)) (mClk l c id))) :: ((XS.set (e.lv * 64 + e.slot) []).flatten ++ H)) rfl rfl ty58 ty3 rfl (by decide) hO rfl (Holds.own List.mem_cons_self) rfl (by simp only [maxLen]; omega) (by omega) zH rfl (fun v' X' hO' => ?_)
  refine W_nil ?_
  refine WS_goal ?_
  refine WS_take 21 (l' := #[true, true, true, true, true, true, true, true, true, true, true, true, true, true, true, true, true, true, true, true, true, true, false]) rfl rfl (by decide +kernel) (by decide +kernel) (by decide +kernel) (by decide +kernel) rfl (by decide +kernel) (X_indexAddrA (j := e.slot) rfl rfl ty182 ty58 rfl hsp.2 (at_ := 1 + (e.lv * 64 + e.slot)) (by omega)) rfl ?_
  refine WS_last (l' := #[true, true, true, true, true, true, true, true, true, true, true, true, true, true, true, true, true, true, true, true, true, true, true]) zH (by decide +kernel) rfl (by decide +kernel) ?_
  have hv1 : v'.oneCell' = true := by obtain ⟨_, _, rfl, _⟩ := hO'.shape; rfl
  refine W_store (l' := whRow now (sl.set (e.lv * 64 + e.slot) v') bs bm (turn + 1)) rfl rfl ty58 hv1 rfl (b := bw) zM (by rw [wh_len h.row, Nat.blt_eq]; omega) (wh_setSl h.row (by omega)) zU ?_
  refine W_nil ?_
  refine WC_goal ?_
  refine WC_done (.nil _) (by decide +kernel) ?_
  refine W_seq ?_
  obtain ⟨z, hz, hz2, _⟩ := h.busy e.lv hsp.1
  have hok2 := h.row.setSl (e.lv * 64 + e.slot) v'
  refine W_hsub (H' := (b10, .cells 72 4 e.v) :: (b6, .cells 72 4 zSpot.v) :: (bw, .cells 186 523 (whRow now (sl.set (e.lv * 64 + e.slot) v') bs bm (turn + 1))) :: (bm, .obj (mapO (Value.int .i64) (mPut l c id (.agg (e.v ++ [Value.int .i64 (((turn + 1) : Nat) : Int)]).toArray)) (mClk l c id))) :: ((XS.set (e.lv * 64 + e.slot) X').flatten ++ H)) ((show HSub _ ((b10, .cells 72 4 e.v) :: (b6, .cells 72 4 zSpot.v) :: (bw, .cells 186 523 (whRow now (sl.set (e.lv * 64 + e.slot) v') bs bm (turn + 1))) :: (bm, .obj (mapO (Value.int .i64) (mPut l c id (.agg (e.v ++ [Value.int .i64 (((turn + 1) : Nat) : Int)]).toArray)) (mClk l c id))) :: (X' ++ ((XS.set (e.lv * 64 + e.slot) []).flatten ++ H))) from zH).trans (.cons (.here _) (.cons (.here _) (.cons (.here _) (.cons (.here _) (flat_in (by rw [h.xs]; omega))))))) ?_
  refine W_anyS [(b10, .cells 72 4 e.v), (bw, .cells 186 523 (whRow now (sl.set (e.lv * 64 + e.slot) v') bs bm (turn + 1)))] 17 (by kernel_rfl) ?_
  refine WS_take 0 (l' := #[true, false, false, false, false, false, false, false, false, false, false, false, false, false, false, false, false, false]) rfl rfl (by decide +kernel) (by decide +kernel) (by decide +kernel) (by decide +kernel) rfl (by decide +kernel) (X_move rfl) rfl ?_
  refine WS_take 1 (l' := #[true, true, false, false, false, false, false, false, false, false, false, false, false, false, false, false, false, false]) rfl rfl (by decide +kernel) (by decide +kernel) (by decide +kernel) (by decide +kernel) rfl (by decide +kernel) (X_fieldAddr rfl fld72_0 (by decide)) rfl ?_
  refine WS_take 2 (l' := #[true, true, true, false, false, false, false, false, false, false, false, false, false, false, false, false, false, false]) rfl rfl (by decide +kernel) (by decide +kernel) (by decide +kernel) (by decide +kernel) rfl (by decide +kernel) (X_load (v := .int .i64 (e.lv : Int)) rfl ty3 rfl (Cell.own (b := b10) zM rfl)) rfl ?_
  refine WS_take 3 (l' := #[true, true, true, true, false, false, false, false, false, false, false, false, false, false, false, false, false, false]) rfl rfl (by decide +kernel) (by decide +kernel) (by decide +kernel) (by decide +kernel) rfl (by decide +kernel) (X_move rfl) rfl ?_
  refine WS_take 4 (l' := #[true, true, true, true, true, false, false, false, false, false, false, false, false, false, false, false, false, false]) rfl rfl (by decide +kernel) (by decide +kernel) (by decide +kernel) (by decide +kernel) rfl (by decide +kernel) (X_fieldAddr rfl fld72_0 (by decide)) rfl ?_
  refine WS_take 5 (l' := #[true, true, true, true, true, true, false, false, false, false, false, false, false, false, false, false, false, false]) rfl rfl (by decide +kernel) (by decide +kernel) (by decide +kernel) (by decide +kernel) rfl (by decide +kernel) (X_load (v := .int .i64 (e.lv : Int)) rfl ty3 rfl (Cell.own (b := b10) zM rfl)) rfl ?_
  refine WS_take 6 (l' := #[true, true, true, true, true, true, true, false, false, false, false, false, false, false, false, false, false, false]) rfl rfl (by decide +kernel) (by decide +kernel) (by decide +kernel) (by decide +kernel) rfl (by decide +kernel) (X_nilCheck rfl) rfl ?_
  refine WS_take 7 (l' := #[true, true, true, true, true, true, true, true, false, false, false, false, false, false, false, false, false, false]) rfl rfl (by decide +kernel) (by decide +kernel) (by decide +kernel) (by decide +kernel) rfl (by decide +kernel) (X_fieldAddr rfl fld186_2 (by decide)) rfl ?_
  refine WS_take 8 (l' := #[true, true, true, true, true, true, true, true, true, false, false, false, false, false, false, false, false, false]) rfl rfl (by decide +kernel) (by decide +kernel) (by decide +kernel) (by decide +kernel) rfl (by decide +kernel) (X_indexAddrA (j := e.lv) rfl rfl ty184 ty96 rfl hsp.1 (at_ := 513 + e.lv) (by omega)) rfl ?_
  refine WS_take 9 (l' := #[true, true, true, true, true, true, true, true, true, true, false, false, false, false, false, false, false, false]) rfl rfl (by decide +kernel) (by decide +kernel) (by decide +kernel) (by decide +kernel) rfl (by decide +kernel) (X_load (v := .int .u64 (z : Int)) rfl ty96 rfl (Cell.own (b := bw) zM (wh_bs hok2 hz))) rfl ?_
  refine WS_take 10 (l' := #[true, true, true, true, true, true, true, true, true, true, true, false, false, false, false, false, false, false]) rfl rfl (by decide +kernel) (by decide +kernel) (by decide +kernel) (by decide +kernel) rfl (by decide +kernel) (X_fieldAddr rfl fld72_1 (by decide)) rfl ?_
  refine WS_take 11 (l' := #[true, true, true, true, true, true, true, true, true, true, true, true, false, false, false, false, false, false]) rfl rfl (by decide +kernel) (by decide +kernel) (by decide +kernel) (by decide +kernel) rfl (by decide +kernel) (X_load (v := .int .i64 (e.slot : Int)) rfl ty3 rfl (Cell.own (b := b10) zM rfl)) rfl ?_
  refine WS_takeP 14 (l' := #[true, true, true, true, true, true, true, true, true, true, true, true, false, false, true, false, false, false]) rfl rfl (by decide +kernel) (by decide +kernel) (by decide +kernel) rfl (by decide +kernel) (X_nilCheck rfl) rfl ?_
  refine WS_takeP 15 (l' := #[true, true, true, true, true, true, true, true, true, true, true, true, false, false, true, true, false, false]) rfl rfl (by decide +kernel) (by decide +kernel) (by decide +kernel) rfl (by decide +kernel) (X_fieldAddr rfl fld186_2 (by decide)) rfl ?_
  refine WS_one 12 (l' := #[true, true, true, true, true, true, true, true, true, true, true, true, true, false, true, true, false, false]) zH rfl (by decide +kernel) rfl (by decide +kernel) ?_
  refine W_buildSlice ty58 ty3 (.cons rfl rfl rfl rfl rfl .nil) rfl rfl rfl rfl rfl rfl rfl (fun b100 => ?_)
  refine W_nil ?_
  refine WS_goal ?_
  refine WS_one 13 (l' := #[true, true, true, true, true, true, true, true, true, true, true, true, true, true, true, true, false, false]) zH rfl (by decide +kernel) rfl (by decide +kernel) ?_
  refine W_callq (.cons rfl (.cons rfl .nil)) Tryd.call84 rfl (with_q (l := [(e.slot : Int)]) hz2 (show 1 ≤ 4611686018427387904 by decide) (Holds.own (b := b100) zM)) ?_
  refine W_nil ?_
  refine WS_goal ?_
  refine WS_take 16 (l' := #[true, true, true, true, true, true, true, true, true, true, true, true, true, true, true, true, true, false]) rfl rfl (by decide +kernel) (by decide +kernel) (by decide +kernel) (by decide +kernel) rfl (by decide +kernel) (X_indexAddrA (j := e.lv) rfl rfl ty184 ty96 rfl hsp.1 (at_ := 513 + e.lv) (by omega)) rfl ?_
  refine WS_last (l' := #[true, true, true, true, true, true, true, true, true, true, true, true, true, true, true, true, true, true]) zH (by decide +kernel) rfl (by decide +kernel) ?_
  refine W_store (l' := (whRow now (sl.set (e.lv * 64 + e.slot) v') (bs.set e.lv (withL z [(e.slot : Int)])) bm (turn + 1))) rfl rfl ty96 rfl rfl (b := bw) zM (by rw [wh_len hok2, Nat.blt_eq]; omega) (wh_setBs hok2 hsp.1) zU ?_
  refine W_nil ?_
  refine WC_goal ?_
  refine WC_done (.nil _) (by decide +kernel) ?_
  refine W_sr ?_
  refine W_loadB (vs := e.v) rfl ty72 rfl (b := b10) zM rfl rfl rfl ?_
  refine W_storeA (l' := e.v) rfl rfl ty72 rfl rfl (b := b6) zM (by exact Nat.le_refl 4) rfl zU ?_
  refine W_assign rfl rfl ?_
  refine W_nil ?_
  refine W_ret2G (H2 := (bw, .cells 186 523 (whRow now (sl.set (e.lv * 64 + e.slot) v') (bs.set e.lv (withL z [(e.slot : Int)])) bm (turn + 1))) :: (bm, .obj (mapO (Value.int .i64) (mPut l c id (.agg (e.v ++ [Value.int .i64 (((turn + 1) : Nat) : Int)]).toArray)) (mClk l c id))) :: ((XS.set (e.lv * 64 + e.slot) X').flatten ++ H)) Tryd.results67 (.nil _) (.own rfl ty72 rfl zM rfl) (.tmp rfl) zH ?_
  exact ⟨v', X', z, rfl, by rw [List.length_append, List.map_append]; exact hO', hz, rfl⟩
end Go.Proofs.YtkcaakkaioingaaDoor
namespace Go.Proofs.YtkcaakkaioingaaDoor
open Go Go.Sl
attribute [local irreducible] W
abbrev tmOf (now a turn : Nat) (id : Int) : Tm := ⟨id, (placeT now a).1, turn + 1⟩
theorem Put_L {w0 : World} {H HW : Heap} {bw now turn a : Nat} {L : List Tm} {id : Int} (hW : WheelH bw now L turn HW) (hnow : now < 18446744073709551615) (ha : a ≤ 18446744073709551615) (hid : 0 ≤ id ∧ id < 256) (hnew : id ∉ L.map (·.id)) (htn : turn ≤ 4611686018427387904) :
    LCalls Tryd.prog w0 67 #[.pointer (some ⟨bw, 0, none⟩), .int .i64 id, .int .u64 ((a : Nat) : Int)] (HW ++ H) (fun v H' => ∃ HW', WheelH bw now (L ++ [tmOf now a turn id]) (turn + 1) HW' ∧ v = .tuple #[.agg (placeT now a).1.v.toArray, .int .i64 0] ∧ H' = HW' ++ H) := by
  cases hW with
  | @mk bm c sl XS bs l h =>
    obtain ⟨num, p1, p2, p3, p4, p5, p6, p7⟩ := place_is (at_ := a) hnow
    obtain ⟨hv, hh⟩ := h.miss hnew
    have hs : (placeT now a).1.slot < 64 := by rw [p3]; omega
    refine (Put_at (e := (placeT now a).1) h hnow ha hid htn (Prod.ext rfl p1) ⟨p2, hs⟩ hv hh).mono ?_
    rintro v H' ⟨v', X', z, rfl, hO, hz, rfl⟩
    exact ⟨_, .mk (h.put hid hnew ⟨p2, hs⟩ ⟨num, p3, p4, p5, p6, p7⟩ hO hz), rfl, rfl⟩
theorem WhIs.hit {now turn c : Nat} {L : List Tm} {sl : List Value} {XS : List Heap} {bs : List Nat} {l : Ents Int} (h : WhIs now L sl XS bs l c turn) {t : Tm} (ht : t ∈ L) : (mGet l t.id).getD zEnt = .agg (t.s.v ++ [Value.int .i64 ((t.turn : Nat) : Int)]).toArray ∧ mHas l t.id = true := by
  have h1 : mHas l t.id = true := mHas_iff.2 (h.keys.mem_iff.2 (List.mem_map_of_mem ht))
  refine ⟨?_, h1⟩
  cases hf : l.find? (fun p => decide (t.id = p.1)) with
  | none =>
    exfalso
    obtain ⟨p, hp, e⟩ := List.mem_map.1 (mHas_iff.1 h1)
    have := List.find?_eq_none.1 hf p hp
    exact this (decide_eq_true e.symm)
  | some p =>
    have h2a := List.find?_some hf
    have h2 : t.id = p.1 := of_decide_eq_true h2a
    obtain ⟨u, hu, e1, e2⟩ := h.val p (List.mem_of_find?_eq_some hf)
    obtain rfl : u = t := tm_uniq h.nodup hu ht (by rw [e1, h2])
    unfold mGet
    rw [hf]
    exact e2
theorem Put_late {w0 : World} {H HW : Heap} {bw turn a : Nat} {L : List Tm} {id : Int} (hW : WheelH bw 18446744073709551615 L turn HW) (hid : 0 ≤ id ∧ id < 256) (ha : a ≤ 18446744073709551615) (hnew : id ∉ L.map (·.id)) :
    LCalls Tryd.prog w0 67 #[.pointer (some ⟨bw, 0, none⟩), .int .i64 id, .int .u64 ((a : Nat) : Int)] (HW ++ H) (fun v H' => v = .tuple #[.agg zSpot.v.toArray, .int .i64 12] ∧ H' = HW ++ H) := by
  cases hW with
  | @mk bm c sl XS bs l h =>
    obtain ⟨hv, hh⟩ := h.miss hnew
    refine (Put_clock hid ha h.row (bm := bm) (c := c) (l := l) (turn := turn) zM zM hv hh).mono ?_
    rintro v H' ⟨rfl, rfl⟩
    exact ⟨rfl, rfl⟩
theorem new_heap (a b : Nat × Blk) (H : Heap) : a :: b :: H = (a :: b :: (List.replicate 512 ([] : Heap)).flatten) ++ H := by
  rw [List.flatten_replicate_nil]; rfl
theorem New_W {w0 : World} {H : Heap} {now : Nat} : LCalls Tryd.prog w0 63 #[.int .u64 ((now : Nat) : Int)] H (fun v H' => ∃ bw HW, v = .pointer (some ⟨bw, 0, none⟩) ∧ WheelH bw now [] 0 HW ∧ H' = HW ++ H) :=
  by
  refine New_L.mono ?_
  rintro v H' ⟨bw, bm, rfl, rfl⟩
  refine ⟨bw, _, rfl, .mk (bm := bm) .new, ?_⟩
  exact new_heap _ _ _
end Go.Proofs.YtkcaakkaioingaaDoor
namespace Go.Proofs.YtkcaakkaioingaaDoor
open Go Go.Sl
attribute [local irreducible] W
theorem OwnS.is {e : TypeId} {s : Nat} {v : Value} {n : Nat} {xs : List Value} {HB : Heap} (h : OwnS e s v n xs HB) (hn : 0 < n) : ∃ b cap, v = .slice (some ⟨b, 0, none⟩) n cap ∧ HB = [(b, .cells e (cap * s) xs)] ∧ n ≤ cap ∧ cap ≤ maxLen := by
  cases h with
  | nil => omega
  | own _ h2 h3 => exact ⟨_, _, rfl, rfl, h2, h3⟩
set_option maxHeartbeats 1000000 in
theorem del_miss {w0 : World} {H : Heap} {bw bm now turn c : Nat} {sl : List Value} {bs : List Nat} {l : Ents Int} {id : Int} (hok : RowOk sl bs) (hv : (mGet l id).getD zEnt = zEnt) (hh : mHas l id = false)  : LCalls Tryd.prog w0 109 #[.pointer (some ⟨bw, 0, none⟩), .int .i64 id] ((bw, .cells 186 523 (whRow now sl bs bm turn)) :: (bm, .obj (mapO (Value.int .i64) l c)) :: H) (fun v H' => v = .bool false ∧ H' = (bw, .cells 186 523 (whRow now sl bs bm turn)) :: (bm, .obj (mapO (Value.int .i64) l c)) :: H) := by
  refine L_enter (l := [.pointer (some ⟨bw, 0, none⟩), .int .i64 id]) Tryd.func109 rfl Tryd.ntmps109 rfl rfl ?_
  refine W_sr ?_
  refine W_box (l := [.int .i64 id]) rfl rfl rfl (fun b3 => ?_)
  refine W_assign rfl rfl ?_
  refine W_nil ?_
  refine W_seq ?_
  refine W_hsub (H' := (b3, .cells 3 1 [.int .i64 id]) :: (bw, .cells 186 523 (whRow now sl bs bm turn)) :: (bm, .obj (mapO (Value.int .i64) l c)) :: H) (.refl _) ?_
  refine W_anyC [(b3, .cells 3 1 [.int .i64 id]), (bw, .cells 186 523 (whRow now sl bs bm turn)), (bm, .obj (mapO (Value.int .i64) l c))] (by kernel_rfl) ?_
  refine WC_take 0 (l' := #[true, false, false, false, false, false, false, false, false, false, false, false]) rfl (by decide +kernel) (by decide +kernel) (by decide +kernel) rfl (by decide +kernel) (X_move rfl) rfl ?_
  refine WC_take 1 (l' := #[true, true, false, false, false, false, false, false, false, false, false, false]) rfl (by decide +kernel) (by decide +kernel) (by decide +kernel) rfl (by decide +kernel) (X_nilCheck rfl) rfl ?_
  refine WC_take 2 (l' := #[true, true, true, false, false, false, false, false, false, false, false, false]) rfl (by decide +kernel) (by decide +kernel) (by decide +kernel) rfl (by decide +kernel) (X_fieldAddr rfl fld186_3 (by decide)) rfl ?_
  refine WC_take 3 (l' := #[true, true, true, true, false, false, false, false, false, false, false, false]) rfl (by decide +kernel) (by decide +kernel) (by decide +kernel) rfl (by decide +kernel) (X_load (v := .map (some bm)) rfl ty181 rfl (Cell.own (b := bw) zM (wh_map hok))) rfl ?_
  refine WC_take 4 (l' := #[true, true, true, true, true, false, false, false, false, false, false, false]) rfl (by decide +kernel) (by decide +kernel) (by decide +kernel) rfl (by decide +kernel) (X_load (v := .int .i64 id) rfl ty3 rfl (Cell.own (b := b3) zM rfl)) rfl ?_
  refine WC_take 5 (l' := #[true, true, true, true, true, true, false, false, false, false, false, false]) rfl (by decide +kernel) (by decide +kernel) (by decide +kernel) rfl (by decide +kernel) (X_lookup (b := bm) (a := id) (zE := zEnt) rfl rfl keyI ty181 zEz zM) rfl ?_
  simp only [if_true]
  rw [hv, hh]
  refine WC_take 6 (l' := #[true, true, true, true, true, true, true, false, false, false, false, false]) rfl (by decide +kernel) (by decide +kernel) (by decide +kernel) rfl (by decide +kernel) (X_move rfl) rfl ?_
  refine WC_take 7 (l' := #[true, true, true, true, true, true, true, true, false, false, false, false]) rfl (by decide +kernel) (by decide +kernel) (by decide +kernel) rfl (by decide +kernel) (X_extract rfl rfl) rfl ?_
  refine WC_take 8 (l' := #[true, true, true, true, true, true, true, true, true, false, false, false]) rfl (by decide +kernel) (by decide +kernel) (by decide +kernel) rfl (by decide +kernel) (X_extract rfl rfl) rfl ?_
  refine WC_one 9 (l' := #[true, true, true, true, true, true, true, true, true, true, false, false]) zH (by decide +kernel) rfl (by decide +kernel) ?_
  refine W_alloc (l := [.int .i64 0, .int .i64 0, .int .u64 0, .int .u64 0, .int .i64 0]) ty190 rfl rfl (fun b5 => ?_)
  refine W_nil ?_
  refine WC_goal ?_
  refine WC_one 10 (l' := #[true, true, true, true, true, true, true, true, true, true, true, false]) zH (by decide +kernel) rfl (by decide +kernel) ?_
  refine W_storeA (l' := [.int .i64 0, .int .i64 0, .int .u64 0, .int .u64 0, .int .i64 0]) rfl rfl ty190 rfl rfl (b := b5) zM (by exact Nat.le_refl 5) rfl zU ?_
  refine W_nil ?_
  refine WC_goal ?_
  refine WC_take 11 (l' := #[true, true, true, true, true, true, true, true, true, true, true, true]) rfl (by decide +kernel) (by decide +kernel) (by decide +kernel) rfl (by decide +kernel) (X_assign rfl) rfl ?_
  refine WC_done zH (by decide +kernel) ?_
  refine W_seq ?_
  refine W_sr ?_
  refine W_move rfl rfl ?_
  refine W_not rfl rfl ?_
  refine W_nil ?_
  refine W_condT rfl rfl ?_
  refine W_sr ?_
  refine W_assign rfl rfl ?_
  refine W_nil ?_
  refine W_ret1m (H2 := (bw, .cells 186 523 (whRow now sl bs bm turn)) :: (bm, .obj (mapO (Value.int .i64) l c)) :: H) Tryd.results109 rfl (.nil _) zH ?_
  exact ⟨rfl, rfl⟩
set_option maxHeartbeats 4000000 in
theorem del_at {w0 : World} {H : Heap} {bw bm now turn c tn z : Nat} {L : List Tm} {sl : List Value} {XS : List Heap} {bs : List Nat} {l : Ents Int} {id : Int} {e : Spot} {v0 : Value} {X : Heap} (hok : RowOk sl bs) (hmap : MapOk l c) (hv : (mGet l id).getD zEnt = .agg (e.v ++ [Value.int .i64 ((tn : Nat) : Int)]).toArray) (hh : mHas l id = true) (hsp : e.lv < 8 ∧ e.slot < 64) (hz : bs[e.lv]? = some z) (hz2 : z < 18446744073709551616) (hlen : (idsAt L (e.lv * 64 + e.slot)).length ≤ 256) (hpos : 0 < (idsAt L (e.lv * 64 + e.slot)).length) (hsl : sl[(e.lv * 64 + e.slot)]? = some v0) (hX : XS[(e.lv * 64 + e.slot)]? = some X) (hO : OwnS 3 1 v0 (idsAt L (e.lv * 64 + e.slot)).length ((idsAt L (e.lv * 64 + e.slot)).map (Value.int .i64)) X)  : LCalls Tryd.prog w0 109 #[.pointer (some ⟨bw, 0, none⟩), .int .i64 id] ((bw, .cells 186 523 (whRow now sl bs bm turn)) :: (bm, .obj (mapO (Value.int .i64) l c)) :: (XS.flatten ++ H)) (fun v H' => ∃ b cap, v = .bool true ∧ (del1 (idsAt L (e.lv * 64 + e.slot)) id).length ≤ cap ∧ cap ≤ maxLen ∧ H' = (bw, .cells 186 523 (whRow now (sl.set (e.lv * 64 + e.slot) (Value.slice (some ⟨b, 0, none⟩) (del1 (idsAt L (e.lv * 64 + e.slot)) id).length cap)) (if (del1 (idsAt L (e.lv * 64 + e.slot)) id).length = 0 then (bs.set e.lv (outL z [(e.slot : Int)])) else bs) bm turn)) :: (bm, .obj (mapO (Value.int .i64) (mDel l id) c)) :: ((b, .cells 3 (cap * 1) (((del1 (idsAt L (e.lv * 64 + e.slot)) id)).map (Value.int .i64))) :: ((XS.set (e.lv * 64 + e.slot) []).flatten ++ H))) := by
  obtain ⟨b, cap, hv0, hXe, hcap, hmax⟩ := OwnS.is hO hpos
  have hok2 : ∀ v, RowOk (sl.set (e.lv * 64 + e.slot) v) bs := fun v => hok.setSl _ v
  have hok3 : ∀ v, RowOk (sl.set (e.lv * 64 + e.slot) v) (bs.set e.lv (outL z [(e.slot : Int)])) := fun v => (hok.setSl _ v).setBs _ _
  have hdl := del1_le (idsAt L (e.lv * 64 + e.slot)) id
  refine L_enter (l := [.pointer (some ⟨bw, 0, none⟩), .int .i64 id]) Tryd.func109 rfl Tryd.ntmps109 rfl rfl ?_
  refine W_sr ?_
  refine W_box (l := [.int .i64 id]) rfl rfl rfl (fun b3 => ?_)
  refine W_assign rfl rfl ?_
  refine W_nil ?_
  refine W_seq ?_
  refine W_anyC [(b3, .cells 3 1 [.int .i64 id]), (bw, .cells 186 523 (whRow now sl bs bm turn)), (bm, .obj (mapO (Value.int .i64) l c))] (by kernel_rfl) ?_
  refine WC_take 0 (l' := #[true, false, false, false, false, false, false, false, false, false, false, false]) rfl (by decide +kernel) (by decide +kernel) (by decide +kernel) rfl (by decide +kernel) (X_move rfl) rfl ?_
  refine WC_take 1 (l' := #[true, true, false, false, false, false, false, false, false, false, false, false]) rfl (by decide +kernel) (by decide +kernel) (by decide +kernel) rfl (by decide +kernel) (X_nilCheck rfl) rfl ?_
  refine WC_take 2 (l' := #[true, true, true, false, false, false, false, false, false, false, false, false]) rfl (by decide +kernel) (by decide +kernel) (by decide +kernel) rfl (by decide +kernel) (X_fieldAddr rfl fld186_3 (by decide)) rfl ?_
  refine WC_take 3 (l' := #[true, true, true, true, false, false, false, false, false, false, false, false]) rfl (by decide +kernel) (by decide +kernel) (by decide +kernel) rfl (by decide +kernel) (X_load (v := .map (some bm)) rfl ty181 rfl (Cell.own (b := bw) zM (wh_map hok))) rfl ?_
  refine WC_take 4 (l' := #[true, true, true, true, true, false, false, false, false, false, false, false]) rfl (by decide +kernel) (by decide +kernel) (by decide +kernel) rfl (by decide +kernel) (X_load (v := .int .i64 id) rfl ty3 rfl (Cell.own (b := b3) zM rfl)) rfl ?_
  refine WC_take 5 (l' := #[true, true, true, true, true, true, false, false, false, false, false, false]) rfl (by decide +kernel) (by decide +kernel) (by decide +kernel) rfl (by decide +kernel) (X_lookup (b := bm) (a := id) (zE := zEnt) rfl rfl keyI ty181 zEz zM) rfl ?_
  simp only [if_true]
  rw [hv, hh]
  refine WC_take 6 (l' := #[true, true, true, true, true, true, true, false, false, false, false, false]) rfl (by decide +kernel) (by decide +kernel) (by decide +kernel) rfl (by decide +kernel) (X_move rfl) rfl ?_
  refine WC_take 7 (l' := #[true, true, true, true, true, true, true, true, false, false, false, false]) rfl (by decide +kernel) (by decide +kernel) (by decide +kernel) rfl (by decide +kernel) (X_extract rfl rfl) rfl ?_
  refine WC_take 8 (l' := #[true, true, true, true, true, true, true, true, true, false, false, false]) rfl (by decide +kernel) (by decide +kernel) (by decide +kernel) rfl (by decide +kernel) (X_extract rfl rfl) rfl ?_
  refine WC_one 9 (l' := #[true, true, true, true, true, true, true, true, true, true, false, false]) zH (by decide +kernel) rfl (by decide +kernel) ?_
  refine W_alloc (l := [.int .i64 0, .int .i64 0, .int .u64 0, .int .u64 0, .int .i64 0]) ty190 rfl rfl (fun b5 => ?_)
  refine W_nil ?_
  refine WC_goal ?_
  refine WC_one 10 (l' := #[true, true, true, true, true, true, true, true, true, true, true, false]) zH (by decide +kernel) rfl (by decide +kernel) ?_
  refine W_storeA (l' := (e.v ++ [Value.int .i64 ((tn : Nat) : Int)])) rfl rfl ty190 rfl rfl (b := b5) zM (by exact Nat.le_refl 5) rfl zU ?_
  refine W_nil ?_
  refine WC_goal ?_
  refine WC_take 11 (l' := #[true, true, true, true, true, true, true, true, true, true, true, true]) rfl (by decide +kernel) (by decide +kernel) (by decide +kernel) rfl (by decide +kernel) (X_assign rfl) rfl ?_
  refine WC_done zH (by decide +kernel) ?_
  refine W_seq ?_
  refine W_sr ?_
  refine W_move rfl rfl ?_
  refine W_not rfl rfl ?_
  refine W_nil ?_
  refine W_condF rfl rfl ?_
  refine W_skip ?_
  refine W_sr ?_
  refine W_fieldAddr rfl fld190_0 (by decide) rfl ?_
  refine W_loadB (vs := e.v) rfl ty72 rfl (b := b5) zM rfl rfl rfl ?_
  refine W_alloc (l := zSpot.v) ty72 rfl rfl (fun b7 => ?_)
  refine W_storeA (l' := e.v) rfl rfl ty72 rfl rfl (b := b7) zM (by exact Nat.le_refl 4) rfl zU ?_
  refine W_nil ?_
  refine W_seq ?_
  refine W_hsub (.cons (.here _) (.cons (.here _) (.cons (.here _) (.cons (.here _) (.cons (.here _) (flat_out hX)))))) ?_
  subst hv0 hXe
  refine W_hsub (H' := (b, .cells 3 (cap * 1) (((idsAt L (e.lv * 64 + e.slot))).map (Value.int .i64))) :: (b7, .cells 72 4 e.v) :: (b5, .cells 190 5 (e.v ++ [Value.int .i64 ((tn : Nat) : Int)])) :: (b3, .cells 3 1 [.int .i64 id]) :: (bw, .cells 186 523 (whRow now sl bs bm turn)) :: (bm, .obj (mapO (Value.int .i64) l c)) :: ((XS.set (e.lv * 64 + e.slot) []).flatten ++ H)) zH ?_
  refine W_anyC [(b3, .cells 3 1 [.int .i64 id]), (b7, .cells 72 4 e.v), (bw, .cells 186 523 (whRow now sl bs bm turn))] (by kernel_rfl) ?_
  refine WC_take 0 (l' := #[true, false, false, false, false, false, false, false, false, false, false, false, false]) rfl (by decide +kernel) (by decide +kernel) (by decide +kernel) rfl (by decide +kernel) (X_move rfl) rfl ?_
  refine WC_take 1 (l' := #[true, true, false, false, false, false, false, false, false, false, false, false, false]) rfl (by decide +kernel) (by decide +kernel) (by decide +kernel) rfl (by decide +kernel) (X_fieldAddr rfl fld72_0 (by decide)) rfl ?_
  refine WC_take 2 (l' := #[true, true, true, false, false, false, false, false, false, false, false, false, false]) rfl (by decide +kernel) (by decide +kernel) (by decide +kernel) rfl (by decide +kernel) (X_load (v := .int .i64 (e.lv : Int)) rfl ty3 rfl (Cell.own (b := b7) zM rfl)) rfl ?_
  refine WC_take 3 (l' := #[true, true, true, true, false, false, false, false, false, false, false, false, false]) rfl (by decide +kernel) (by decide +kernel) (by decide +kernel) rfl (by decide +kernel) (X_fieldAddr rfl fld72_1 (by decide)) rfl ?_
  refine WC_take 4 (l' := #[true, true, true, true, true, false, false, false, false, false, false, false, false]) rfl (by decide +kernel) (by decide +kernel) (by decide +kernel) rfl (by decide +kernel) (X_load (v := .int .i64 (e.slot : Int)) rfl ty3 rfl (Cell.own (b := b7) zM rfl)) rfl ?_
  refine WC_take 5 (l' := #[true, true, true, true, true, true, false, false, false, false, false, false, false]) rfl (by decide +kernel) (by decide +kernel) (by decide +kernel) rfl (by decide +kernel) (X_nilCheck rfl) rfl ?_
  refine WC_take 6 (l' := #[true, true, true, true, true, true, true, false, false, false, false, false, false]) rfl (by decide +kernel) (by decide +kernel) (by decide +kernel) rfl (by decide +kernel) (X_fieldAddr rfl fld186_1 (by decide)) rfl ?_
  refine WC_take 7 (l' := #[true, true, true, true, true, true, true, true, false, false, false, false, false]) rfl (by decide +kernel) (by decide +kernel) (by decide +kernel) rfl (by decide +kernel) (X_indexAddrA (j := e.lv) rfl rfl ty183 ty182 rfl hsp.1 (at_ := 1 + e.lv * 64) (by omega)) rfl ?_
  refine WC_take 8 (l' := #[true, true, true, true, true, true, true, true, true, false, false, false, false]) rfl (by decide +kernel) (by decide +kernel) (by decide +kernel) rfl (by decide +kernel) (X_indexAddrA (j := e.slot) rfl rfl ty182 ty58 rfl hsp.2 (at_ := 1 + (e.lv * 64 + e.slot)) (by omega)) rfl ?_
  refine WC_take 9 (l' := #[true, true, true, true, true, true, true, true, true, true, false, false, false]) rfl (by decide +kernel) (by decide +kernel) (by decide +kernel) rfl (by decide +kernel) (X_load (v := .slice (some ⟨b, 0, none⟩) (idsAt L (e.lv * 64 + e.slot)).length cap) rfl ty58 rfl (Cell.own (b := bw) zM (wh_sl hok hsl))) rfl ?_
  refine WC_take 10 (l' := #[true, true, true, true, true, true, true, true, true, true, true, false, false]) rfl (by decide +kernel) (by decide +kernel) (by decide +kernel) rfl (by decide +kernel) (X_makeFunc .nil (.cons rfl .nil)) rfl ?_
  refine WC_one 11 (l' := #[true, true, true, true, true, true, true, true, true, true, true, true, false]) zH (by decide +kernel) rfl (by decide +kernel) ?_
  refine W_call (.cons rfl (.cons rfl .nil)) Tryd.call134 rfl ((delete_L (l := (idsAt L (e.lv * 64 + e.slot))) (id := id) (bd := b3) (b := b) (tot := cap * 1) (cap := cap) (H := (b7, .cells 72 4 e.v) :: (b5, .cells 190 5 (e.v ++ [Value.int .i64 ((tn : Nat) : Int)])) :: (b3, .cells 3 1 [.int .i64 id]) :: (bw, .cells 186 523 (whRow now sl bs bm turn)) :: (bm, .obj (mapO (Value.int .i64) l c)) :: ((XS.set (e.lv * 64 + e.slot) []).flatten ++ H)) (by omega) hcap zM).hsub zH) ?_
  rintro v H' ⟨rfl, rfl⟩
  refine W_nil ?_
  refine WC_goal ?_
  refine WC_take 12 (l' := #[true, true, true, true, true, true, true, true, true, true, true, true, true]) rfl (by decide +kernel) (by decide +kernel) (by decide +kernel) rfl (by decide +kernel) (X_assign rfl) rfl ?_
  refine WC_done zH (by decide +kernel) ?_
  refine W_seq ?_
  refine W_anyS [(b7, .cells 72 4 e.v), (bw, .cells 186 523 (whRow now sl bs bm turn))] 10 (by kernel_rfl) ?_
  refine WS_take 0 (l' := #[true, false, false, false, false, false, false, false, false, false, false]) rfl rfl (by decide +kernel) (by decide +kernel) (by decide +kernel) (by decide +kernel) rfl (by decide +kernel) (X_move rfl) rfl ?_
  refine WS_take 1 (l' := #[true, true, false, false, false, false, false, false, false, false, false]) rfl rfl (by decide +kernel) (by decide +kernel) (by decide +kernel) (by decide +kernel) rfl (by decide +kernel) (X_fieldAddr rfl fld72_0 (by decide)) rfl ?_
  refine WS_take 2 (l' := #[true, true, true, false, false, false, false, false, false, false, false]) rfl rfl (by decide +kernel) (by decide +kernel) (by decide +kernel) (by decide +kernel) rfl (by decide +kernel) (X_load (v := .int .i64 (e.lv : Int)) rfl ty3 rfl (Cell.own (b := b7) zM rfl)) rfl ?_
  refine WS_take 3 (l' := #[true, true, true, true, false, false, false, false, false, false, false]) rfl rfl (by decide +kernel) (by decide +kernel) (by decide +kernel) (by decide +kernel) rfl (by decide +kernel) (X_fieldAddr rfl fld72_1 (by decide)) rfl ?_
  refine WS_take 4 (l' := #[true, true, true, true, true, false, false, false, false, false, false]) rfl rfl (by decide +kernel) (by decide +kernel) (by decide +kernel) (by decide +kernel) rfl (by decide +kernel) (X_load (v := .int .i64 (e.slot : Int)) rfl ty3 rfl (Cell.own (b := b7) zM rfl)) rfl ?_
  refine WS_take 5 (l' := #[true, true, true, true, true, true, false, false, false, false, false]) rfl rfl (by decide +kernel) (by decide +kernel) (by decide +kernel) (by decide +kernel) rfl (by decide +kernel) (X_move rfl) rfl ?_
  refine WS_takeP 6 (l' := #[true, true, true, true, true, true, true, false, false, false, false]) rfl rfl (by decide +kernel) (by decide +kernel) (by decide +kernel) rfl (by decide +kernel) (X_nilCheck rfl) rfl ?_
  refine WS_takeP 7 (l' := #[true, true, true, true, true, true, true, true, false, false, false]) rfl rfl (by decide +kernel) (by decide +kernel) (by decide +kernel) rfl (by decide +kernel) (X_fieldAddr rfl fld186_1 (by decide)) rfl ?_
  refine WS_takeP 8 (l' := #[true, true, true, true, true, true, true, true, true, false, false]) rfl rfl (by decide +kernel) (by decide +kernel) (by decide +kernel) rfl (by decide +kernel) (X_indexAddrA (j := e.lv) rfl rfl ty183 ty182 rfl hsp.1 (at_ := 1 + e.lv * 64) (by omega)) rfl ?_
  refine WS_take 9 (l' := #[true, true, true, true, true, true, true, true, true, true, false]) rfl rfl (by decide +kernel) (by decide +kernel) (by decide +kernel) (by decide +kernel) rfl (by decide +kernel) (X_indexAddrA (j := e.slot) rfl rfl ty182 ty58 rfl hsp.2 (at_ := 1 + (e.lv * 64 + e.slot)) (by omega)) rfl ?_
  refine WS_last (l' := #[true, true, true, true, true, true, true, true, true, true, true]) zH (by decide +kernel) rfl (by decide +kernel) ?_
  refine W_store (l' := whRow now (sl.set (e.lv * 64 + e.slot) (Value.slice (some ⟨b, 0, none⟩) (del1 (idsAt L (e.lv * 64 + e.slot)) id).length cap)) bs bm turn) rfl rfl ty58 rfl rfl (b := bw) zM (by rw [wh_len hok, Nat.blt_eq]; omega) (wh_setSl hok (by omega)) zU ?_
  refine W_nil ?_
  refine WC_goal ?_
  refine WC_done (.nil _) (by decide +kernel) ?_
  refine W_seq ?_
  refine W_sr ?_
  refine W_move rfl rfl ?_
  refine W_len rfl ty58 rfl rfl ?_
  refine W_bin rfl rfl b_eql rfl ?_
  refine W_nil ?_
  refine W_condPS (p := (del1 (idsAt L (e.lv * 64 + e.slot)) id).length = 0) rfl (by rw [decide_eq_true_eq]; omega) (fun q0 => ?_) (fun q0 => ?_)
  · skip
    refine W_anyS [(b7, .cells 72 4 e.v), (bw, .cells 186 523 (whRow now (sl.set (e.lv * 64 + e.slot) (Value.slice (some ⟨b, 0, none⟩) (del1 (idsAt L (e.lv * 64 + e.slot)) id).length cap)) bs bm turn))] 17 (by kernel_rfl) ?_
    refine WS_take 0 (l' := #[true, false, false, false, false, false, false, false, false, false, false, false, false, false, false, false, false, false]) rfl rfl (by decide +kernel) (by decide +kernel) (by decide +kernel) (by decide +kernel) rfl (by decide +kernel) (X_move rfl) rfl ?_
    refine WS_take 1 (l' := #[true, true, false, false, false, false, false, false, false, false, false, false, false, false, false, false, false, false]) rfl rfl (by decide +kernel) (by decide +kernel) (by decide +kernel) (by decide +kernel) rfl (by decide +kernel) (X_fieldAddr rfl fld72_0 (by decide)) rfl ?_
    refine WS_take 2 (l' := #[true, true, true, false, false, false, false, false, false, false, false, false, false, false, false, false, false, false]) rfl rfl (by decide +kernel) (by decide +kernel) (by decide +kernel) (by decide +kernel) rfl (by decide +kernel) (X_load (v := .int .i64 (e.lv : Int)) rfl ty3 rfl (Cell.own (b := b7) zM rfl)) rfl ?_
    refine WS_take 3 (l' := #[true, true, true, true, false, false, false, false, false, false, false, false, false, false, false, false, false, false]) rfl rfl (by decide +kernel) (by decide +kernel) (by decide +kernel) (by decide +kernel) rfl (by decide +kernel) (X_move rfl) rfl ?_
    refine WS_take 4 (l' := #[true, true, true, true, true, false, false, false, false, false, false, false, false, false, false, false, false, false]) rfl rfl (by decide +kernel) (by decide +kernel) (by decide +kernel) (by decide +kernel) rfl (by decide +kernel) (X_fieldAddr rfl fld72_0 (by decide)) rfl ?_
    refine WS_take 5 (l' := #[true, true, true, true, true, true, false, false, false, false, false, false, false, false, false, false, false, false]) rfl rfl (by decide +kernel) (by decide +kernel) (by decide +kernel) (by decide +kernel) rfl (by decide +kernel) (X_load (v := .int .i64 (e.lv : Int)) rfl ty3 rfl (Cell.own (b := b7) zM rfl)) rfl ?_
    refine WS_take 6 (l' := #[true, true, true, true, true, true, true, false, false, false, false, false, false, false, false, false, false, false]) rfl rfl (by decide +kernel) (by decide +kernel) (by decide +kernel) (by decide +kernel) rfl (by decide +kernel) (X_nilCheck rfl) rfl ?_
    refine WS_take 7 (l' := #[true, true, true, true, true, true, true, true, false, false, false, false, false, false, false, false, false, false]) rfl rfl (by decide +kernel) (by decide +kernel) (by decide +kernel) (by decide +kernel) rfl (by decide +kernel) (X_fieldAddr rfl fld186_2 (by decide)) rfl ?_
    refine WS_take 8 (l' := #[true, true, true, true, true, true, true, true, true, false, false, false, false, false, false, false, false, false]) rfl rfl (by decide +kernel) (by decide +kernel) (by decide +kernel) (by decide +kernel) rfl (by decide +kernel) (X_indexAddrA (j := e.lv) rfl rfl ty184 ty96 rfl hsp.1 (at_ := 513 + e.lv) (by omega)) rfl ?_
    refine WS_take 9 (l' := #[true, true, true, true, true, true, true, true, true, true, false, false, false, false, false, false, false, false]) rfl rfl (by decide +kernel) (by decide +kernel) (by decide +kernel) (by decide +kernel) rfl (by decide +kernel) (X_load (v := .int .u64 (z : Int)) rfl ty96 rfl (Cell.own (b := bw) zM (wh_bs (hok2 _) hz))) rfl ?_
    refine WS_take 10 (l' := #[true, true, true, true, true, true, true, true, true, true, true, false, false, false, false, false, false, false]) rfl rfl (by decide +kernel) (by decide +kernel) (by decide +kernel) (by decide +kernel) rfl (by decide +kernel) (X_fieldAddr rfl fld72_1 (by decide)) rfl ?_
    refine WS_take 11 (l' := #[true, true, true, true, true, true, true, true, true, true, true, true, false, false, false, false, false, false]) rfl rfl (by decide +kernel) (by decide +kernel) (by decide +kernel) (by decide +kernel) rfl (by decide +kernel) (X_load (v := .int .i64 (e.slot : Int)) rfl ty3 rfl (Cell.own (b := b7) zM rfl)) rfl ?_
    refine WS_takeP 14 (l' := #[true, true, true, true, true, true, true, true, true, true, true, true, false, false, true, false, false, false]) rfl rfl (by decide +kernel) (by decide +kernel) (by decide +kernel) rfl (by decide +kernel) (X_nilCheck rfl) rfl ?_
    refine WS_takeP 15 (l' := #[true, true, true, true, true, true, true, true, true, true, true, true, false, false, true, true, false, false]) rfl rfl (by decide +kernel) (by decide +kernel) (by decide +kernel) rfl (by decide +kernel) (X_fieldAddr rfl fld186_2 (by decide)) rfl ?_
    refine WS_one 12 (l' := #[true, true, true, true, true, true, true, true, true, true, true, true, true, false, true, true, false, false]) zH rfl (by decide +kernel) rfl (by decide +kernel) ?_
    refine W_buildSlice ty58 ty3 (.cons rfl rfl rfl rfl rfl .nil) rfl rfl rfl rfl rfl rfl rfl (fun b59 => ?_)
    refine W_nil ?_
    refine WS_goal ?_
    refine WS_one 13 (l' := #[true, true, true, true, true, true, true, true, true, true, true, true, true, true, true, true, false, false]) zH rfl (by decide +kernel) rfl (by decide +kernel) ?_
    refine W_callq (.cons rfl (.cons rfl .nil)) Tryd.call136 rfl (out_q (l := [(e.slot : Int)]) hz2 (show 1 ≤ 4611686018427387904 by decide) (Holds.own (b := b59) zM)) ?_
    refine W_nil ?_
    refine WS_goal ?_
    refine WS_take 16 (l' := #[true, true, true, true, true, true, true, true, true, true, true, true, true, true, true, true, true, false]) rfl rfl (by decide +kernel) (by decide +kernel) (by decide +kernel) (by decide +kernel) rfl (by decide +kernel) (X_indexAddrA (j := e.lv) rfl rfl ty184 ty96 rfl hsp.1 (at_ := 513 + e.lv) (by omega)) rfl ?_
    refine WS_last (l' := #[true, true, true, true, true, true, true, true, true, true, true, true, true, true, true, true, true, true]) zH (by decide +kernel) rfl (by decide +kernel) ?_
    refine W_store (l' := whRow now (sl.set (e.lv * 64 + e.slot) (Value.slice (some ⟨b, 0, none⟩) (del1 (idsAt L (e.lv * 64 + e.slot)) id).length cap)) (bs.set e.lv (outL z [(e.slot : Int)])) bm turn) rfl rfl ty96 rfl rfl (b := bw) zM (by rw [wh_len (hok2 _), Nat.blt_eq]; omega) (wh_setBs (hok2 _) hsp.1) zU ?_
    refine W_nil ?_
    refine WC_goal ?_
    refine WC_done (.nil _) (by decide +kernel) ?_
    refine W_seq ?_
    refine W_anyC [(b3, .cells 3 1 [.int .i64 id]), (bw, .cells 186 523 (whRow now (sl.set (e.lv * 64 + e.slot) (Value.slice (some ⟨b, 0, none⟩) (del1 (idsAt L (e.lv * 64 + e.slot)) id).length cap)) (bs.set e.lv (outL z [(e.slot : Int)])) bm turn))] (by kernel_rfl) ?_
    refine WC_take 0 (l' := #[true, false, false, false, false, false]) rfl (by decide +kernel) (by decide +kernel) (by decide +kernel) rfl (by decide +kernel) (X_move rfl) rfl ?_
    refine WC_take 1 (l' := #[true, true, false, false, false, false]) rfl (by decide +kernel) (by decide +kernel) (by decide +kernel) rfl (by decide +kernel) (X_nilCheck rfl) rfl ?_
    refine WC_take 2 (l' := #[true, true, true, false, false, false]) rfl (by decide +kernel) (by decide +kernel) (by decide +kernel) rfl (by decide +kernel) (X_fieldAddr rfl fld186_3 (by decide)) rfl ?_
    refine WC_take 3 (l' := #[true, true, true, true, false, false]) rfl (by decide +kernel) (by decide +kernel) (by decide +kernel) rfl (by decide +kernel) (X_load (v := .map (some bm)) rfl ty181 rfl (Cell.own (b := bw) zM (wh_map (hok3 _)))) rfl ?_
    refine WC_take 4 (l' := #[true, true, true, true, true, false]) rfl (by decide +kernel) (by decide +kernel) (by decide +kernel) rfl (by decide +kernel) (X_load (v := .int .i64 id) rfl ty3 rfl (Cell.own (b := b3) zM rfl)) rfl ?_
    refine WC_one 5 (l' := #[true, true, true, true, true, true]) zH (by decide +kernel) rfl (by decide +kernel) ?_
    refine W_delete (a := id) (b := bm) rfl rfl keyI ty181 hmap zU rfl ?_
    refine W_nil ?_
    refine WC_goal ?_
    refine WC_done zH (by decide +kernel) ?_
    refine W_sr ?_
    refine W_assign rfl rfl ?_
    refine W_nil ?_
    refine W_ret1m (H2 := (bw, .cells 186 523 (whRow now (sl.set (e.lv * 64 + e.slot) (Value.slice (some ⟨b, 0, none⟩) (del1 (idsAt L (e.lv * 64 + e.slot)) id).length cap)) (bs.set e.lv (outL z [(e.slot : Int)])) bm turn)) :: (bm, .obj (mapO (Value.int .i64) (mDel l id) c)) :: ((b, .cells 3 (cap * 1) (((del1 (idsAt L (e.lv * 64 + e.slot)) id)).map (Value.int .i64))) :: ((XS.set (e.lv * 64 + e.slot) []).flatten ++ H))) Tryd.results109 rfl (.nil _) zH ?_
    exact ⟨b, cap, rfl, by omega, hmax, by rw [if_pos q0]⟩
  · skip
    refine W_skip ?_
    refine W_seq ?_
    refine W_anyC [(b3, .cells 3 1 [.int .i64 id]), (bw, .cells 186 523 (whRow now (sl.set (e.lv * 64 + e.slot) (Value.slice (some ⟨b, 0, none⟩) (del1 (idsAt L (e.lv * 64 + e.slot)) id).length cap)) bs bm turn))] (by kernel_rfl) ?_
    refine WC_take 0 (l' := #[true, false, false, false, false, false]) rfl (by decide +kernel) (by decide +kernel) (by decide +kernel) rfl (by decide +kernel) (X_move rfl) rfl ?_
    refine WC_take 1 (l' := #[true, true, false, false, false, false]) rfl (by decide +kernel) (by decide +kernel) (by decide +kernel) rfl (by decide +kernel) (X_nilCheck rfl) rfl ?_
    refine WC_take 2 (l' := #[true, true, true, false, false, false]) rfl (by decide +kernel) (by decide +kernel) (by decide +kernel) rfl (by decide +kernel) (X_fieldAddr rfl fld186_3 (by decide)) rfl ?_
    refine WC_take 3 (l' := #[true, true, true, true, false, false]) rfl (by decide +kernel) (by decide +kernel) (by decide +kernel) rfl (by decide +kernel) (X_load (v := .map (some bm)) rfl ty181 rfl (Cell.own (b := bw) zM (wh_map (hok2 _)))) rfl ?_
    refine WC_take 4 (l' := #[true, true, true, true, true, false]) rfl (by decide +kernel) (by decide +kernel) (by decide +kernel) rfl (by decide +kernel) (X_load (v := .int .i64 id) rfl ty3 rfl (Cell.own (b := b3) zM rfl)) rfl ?_
    refine WC_one 5 (l' := #[true, true, true, true, true, true]) zH (by decide +kernel) rfl (by decide +kernel) ?_
    refine W_delete (a := id) (b := bm) rfl rfl keyI ty181 hmap zU rfl ?_
    refine W_nil ?_
    refine WC_goal ?_
    refine WC_done zH (by decide +kernel) ?_
    refine W_sr ?_
    refine W_assign rfl rfl ?_
    refine W_nil ?_
    refine W_ret1m (H2 := (bw, .cells 186 523 (whRow now (sl.set (e.lv * 64 + e.slot) (Value.slice (some ⟨b, 0, none⟩) (del1 (idsAt L (e.lv * 64 + e.slot)) id).length cap)) bs bm turn)) :: (bm, .obj (mapO (Value.int .i64) (mDel l id) c)) :: ((b, .cells 3 (cap * 1) (((del1 (idsAt L (e.lv * 64 + e.slot)) id)).map (Value.int .i64))) :: ((XS.set (e.lv * 64 + e.slot) []).flatten ++ H))) Tryd.results109 rfl (.nil _) zH ?_
    exact ⟨b, cap, rfl, by omega, hmax, by rw [if_neg q0]⟩
end Go.Proofs.YtkcaakkaioingaaDoor
namespace Go.Proofs.YtkcaakkaioingaaDoor
open Go Go.Sl
attribute [local irreducible] W
theorem LCalls.sub {P : Program} {w0 : World} {f : FuncId} {args : Array Value} {H : Heap} {R R' : Value → Heap → Prop} (h : LCalls P w0 f args H R) (hr : ∀ v H', R v H' → ∃ H2, HSub H' H2 ∧ R' v H2) : LCalls P w0 f args H R' :=
  fun w hs => (h w hs).mono fun _ _ ⟨v, H', e, r, s⟩ => by
    obtain ⟨H2, h1, h2⟩ := hr _ _ r
    exact ⟨v, H2, e, h2, s.hsub h1⟩
theorem delT_out {L : List Tm} {id : Int} (h : id ∉ L.map (·.id)) : delT L id = L := by
  unfold delT
  rw [List.filter_eq_self]
  exact fun t ht => decide_eq_true (fun e => h (e ▸ List.mem_map_of_mem ht))
def heldB (L : List Tm) (id : Int) : Bool := L.any (fun t => decide (t.id = id))
theorem heldB_iff {L : List Tm} {id : Int} : heldB L id = true ↔ id ∈ L.map (·.id) := by
  unfold heldB
  rw [List.any_eq_true, List.mem_map]
  exact ⟨fun ⟨t, h, e⟩ => ⟨t, h, of_decide_eq_true e⟩, fun ⟨t, h, e⟩ => ⟨t, h, decide_eq_true e⟩⟩
theorem del_L {w0 : World} {H HW : Heap} {bw now turn : Nat} {L : List Tm} {id : Int} (hW : WheelH bw now L turn HW) :
    LCalls Tryd.prog w0 109 #[.pointer (some ⟨bw, 0, none⟩), .int .i64 id] (HW ++ H) (fun v H' => ∃ HW', WheelH bw now (delT L id) turn HW' ∧ v = .bool (heldB L id) ∧ H' = HW' ++ H) := by
  cases hW with
  | @mk bm c sl XS bs l h =>
    by_cases hin : id ∈ L.map (·.id)
    · obtain ⟨t, ht, rfl⟩ := List.mem_map.1 hin
      obtain ⟨hv, hh⟩ := h.hit ht
      have hs := h.spot t ht
      obtain ⟨v0, X, hsl, hX, hO⟩ := h.own (t.s.lv * 64 + t.s.slot) (by omega)
      obtain ⟨z, hz, hz2, _⟩ := h.busy t.s.lv hs.1
      have hlen := Nat.le_trans (idsAt_len L (t.s.lv * 64 + t.s.slot)) h.len
      have hpos : 0 < (idsAt L (t.s.lv * 64 + t.s.slot)).length := List.length_pos_of_mem (idsAt_mem.2 ⟨t, ht, rfl, rfl⟩)
      have hcell : ∀ (b cap : Nat), (del1 (idsAt L t.key) t.id).length ≤ cap → cap ≤ maxLen → OwnS 3 1 (.slice (some ⟨b, 0, none⟩) (del1 (idsAt L t.key) t.id).length cap) (del1 (idsAt L t.key) t.id).length ((del1 (idsAt L t.key) t.id).map (Value.int .i64)) [(b, .cells 3 (cap * 1) ((del1 (idsAt L t.key) t.id).map (Value.int .i64)))] := fun b cap h1 h2 => .own (by rw [List.length_map, Nat.mul_one]) h1 h2
      refine LCalls.sub (del_at (H := H) h.row h.map hv hh hs hz hz2 hlen hpos hsl hX hO) ?_
      rintro v H' ⟨b, cap, rfl, hcap, hmax, rfl⟩
      refine ⟨_, ?_, _, .mk (bm := bm) (h.del ht (hcell b cap hcap hmax) hz rfl), by rw [heldB_iff.2 hin], rfl⟩
      exact .cons (.here _) (.cons (.here _) (flat_in (B := [_]) (by rw [h.xs]; omega)))
    · obtain ⟨hv, hh⟩ := h.miss hin
      refine (del_miss (H := XS.flatten ++ H) h.row hv hh).mono ?_
      rintro v H' ⟨rfl, rfl⟩
      refine ⟨_, by rw [delT_out hin]; exact .mk (bm := bm) h, ?_, rfl⟩
      cases hb : heldB L id with
      | false => rfl
      | true => exact absurd (heldB_iff.1 hb) hin
def delsT (L : List Tm) (l : List Int) : List Tm × Nat := l.foldl (fun s id => (delT s.1 id, s.2 + if heldB s.1 id = true then 1 else 0)) (L, 0)
theorem delsT_at {L : List Tm} {l : List Int} {i : Nat} {x : Int} (h : l[i]? = some x) : delsT L (l.take (i + 1)) = (delT (delsT L (l.take i)).1 x, (delsT L (l.take i)).2 + if heldB (delsT L (l.take i)).1 x = true then 1 else 0) := by
  unfold delsT
  rw [takeAt h, List.foldl_append]; rfl
theorem delsT_le (L : List Tm) (l : List Int) : ∀ i, i ≤ l.length → (delsT L (l.take i)).2 ≤ i
  | 0, _ => by simp [delsT]
  | i + 1, h => by
    obtain ⟨x, hx⟩ : ∃ x, l[i]? = some x := ⟨_, List.getElem?_eq_getElem (by omega)⟩
    have := delsT_le L l i (by omega)
    rw [delsT_at hx]
    dsimp only
    split <;> omega
set_option maxHeartbeats 1000000 in
theorem Del_L {w0 : World} {H : Heap} {HW : Heap} {bw now turn cap : Nat} {L : List Tm} {l : List Int} {ad : Option Addr} (hW : WheelH bw now L turn HW) (hn : l.length ≤ 4611686018427387904) (hrow : Holds w0 H ad (l.map (Value.int .i64)))  : LCalls Tryd.prog w0 71 #[.pointer (some ⟨bw, 0, none⟩), .slice ad l.length cap] (HW ++ H) (fun v H' => ∃ HW', WheelH bw now (delsT L l).1 turn HW' ∧ v = .int .i64 ((delsT L l).2 : Int) ∧ H' = HW' ++ H) := by
  refine L_enter (l := [.pointer (some ⟨bw, 0, none⟩), .slice ad l.length cap]) Tryd.func71 rfl Tryd.ntmps71 rfl rfl ?_
  refine W_sr ?_
  refine W_assign rfl rfl ?_
  refine W_nil ?_
  refine W_sr ?_
  refine W_assign rfl rfl ?_
  refine W_nil ?_
  refine W_seq ?_
  refine W_sr ?_
  refine W_move rfl rfl ?_
  refine W_len rfl ty58 rfl rfl ?_
  refine W_move rfl rfl ?_
  refine W_nil ?_
  refine W_block ?_
  refine W_loopC (X := (Nat × Heap)) [(0, _), (8, _), (9, _)] (fun (x : (Nat × Heap)) => [(5, .int .i64 ((delsT L (l.take x.1)).2 : Int)), (10, .int .i64 (x.1 : Int))]) (fun _ => _) (fun (x : (Nat × Heap)) => x.2 ++ H) (fun (x : (Nat × Heap)) => x.1 ≤ l.length ∧ WheelH bw now (delsT L (l.take x.1)).1 turn x.2) (fun (x : (Nat × Heap)) => l.length - x.1) (0, HW) ⟨Nat.zero_le _, hW⟩ (sub_cons rfl (sub_cons rfl (sub_cons rfl (sub_nil _)))) (sub_cons rfl (sub_cons rfl (sub_nil _))) rfl (.refl _) ?_
  rintro ⟨i, HWi⟩ ⟨hi, hWi⟩
  dsimp only at hi hWi ⊢
  simp only [List.cons_append, List.nil_append]
  refine W_sr ?_
  refine W_bin rfl rfl b_lss rfl ?_
  refine W_nil ?_
  refine W_seq ?_
  refine W_condPS (p := (i : Int) < (l.length : Int)) rfl (by simp) (fun q0 => ?_) (fun q0 => ?_)
  · skip
    refine W_skip ?_
    refine W_seq ?_
    refine W_block ?_
    refine W_sr ?_
    obtain ⟨x, hx⟩ : ∃ x, l[i]? = some x := ⟨_, List.getElem?_eq_getElem (by omega)⟩
    obtain ⟨q0, p0, rfl, hc⟩ := hrow.at (i := i) (v := .int .i64 x) (by rw [List.getElem?_map, hx]; rfl)
    have hat := delsT_at (L := L) hx
    have hle := delsT_le L l i (by omega)
    refine W_indexAddr (j := i) rfl rfl ty58 ty3 rfl (by omega) rfl rfl ?_
    refine W_load (v := .int .i64 x) rfl ty3 rfl (by rw [Nat.mul_one (i)]; exact hc.up zH) rfl ?_
    refine W_assign rfl rfl ?_
    refine W_nil ?_
    refine W_sr ?_
    refine W_move rfl rfl ?_
    refine W_x (X_ptrNotNil rfl rfl ty140) (fun _ h => by cases h) rfl ?_
    refine W_move rfl rfl ?_
    refine W_gyes rfl rfl ?_
    refine W_move rfl rfl ?_
    refine W_gyes rfl rfl ?_
    refine W_move rfl rfl ?_
    refine W_gyes rfl rfl ?_
    refine W_call (.cons rfl (.cons rfl .nil)) Tryd.call109 rfl (del_L (id := x) hWi) ?_
    rintro v H' ⟨HW', hW', rfl, rfl⟩
    rcases hb : heldB (delsT L (l.take i)).1 x with _ | _
    · skip
      have hn2 : (delsT L (l.take i)).2 = (delsT L (l.take (i + 1))).2 := by rw [hat, hb]; rfl
      rw [hn2]
      first | refine W_pickt rfl rfl rfl ?_ | refine W_pickf rfl rfl rfl ?_
      refine W_nil ?_
      refine W_condF rfl rfl ?_
      refine W_skip ?_
      refine W_blk ?_
      refine W_region ?_
      refine W_bin rfl rfl (b_add (m := ((i + 1 : Nat) : Int)) (by rw [i64w (by omega)]; omega)) rfl ?_
      refine W_move rfl rfl ?_
      refine W_nil ?_
      refine W_again (i + 1, HW') ⟨by show i + 1 ≤ l.length; omega, by show WheelH bw now (delsT L (l.take (i + 1))).1 turn HW'; rw [hat]; exact hW'⟩ (by show l.length - (i + 1) < l.length - i; omega) (sub_cons rfl (sub_cons rfl (sub_cons rfl (sub_cons rfl (sub_cons rfl (sub_nil _)))))) rfl (.refl _)
    · skip
      have hn2 : (delsT L (l.take i)).2 + 1 = (delsT L (l.take (i + 1))).2 := by rw [hat, hb]; rfl
      first | refine W_pickt rfl rfl rfl ?_ | refine W_pickf rfl rfl rfl ?_
      refine W_nil ?_
      refine W_condT rfl rfl ?_
      refine W_region ?_
      refine W_move rfl rfl ?_
      refine W_bin rfl rfl (b_add (m := ((delsT L (l.take (i + 1))).2 : Int)) (by rw [i64w (by omega)]; omega)) rfl ?_
      refine W_assign rfl rfl ?_
      refine W_nil ?_
      refine W_blk ?_
      refine W_region ?_
      refine W_bin rfl rfl (b_add (m := ((i + 1 : Nat) : Int)) (by rw [i64w (by omega)]; omega)) rfl ?_
      refine W_move rfl rfl ?_
      refine W_nil ?_
      refine W_again (i + 1, HW') ⟨by show i + 1 ≤ l.length; omega, by show WheelH bw now (delsT L (l.take (i + 1))).1 turn HW'; rw [hat]; exact hW'⟩ (by show l.length - (i + 1) < l.length - i; omega) (sub_cons rfl (sub_cons rfl (sub_cons rfl (sub_cons rfl (sub_cons rfl (sub_nil _)))))) rfl (.refl _)
  · skip
    refine W_exit rfl ?_
    refine W_sr ?_
    refine W_move rfl rfl ?_
    refine W_assign rfl rfl ?_
    refine W_nil ?_
    refine W_ret1m Tryd.results71 rfl (.nil _) (.refl _) ?_
    obtain rfl : i = l.length := by omega
    rw [List.take_length] at hWi ⊢
    exact ⟨HWi, hWi, rfl, rfl⟩
end Go.Proofs.YtkcaakkaioingaaDoor
namespace Go.Proofs.YtkcaakkaioingaaDoor
open Go Go.Sl
attribute [local irreducible] W
theorem tickT_inj {x y n : Nat} (hx : x * 8 ^ n < 18446744073709551615 + 8 ^ n) (hy : y * 8 ^ n < 18446744073709551615 + 8 ^ n) (e : tickT x n = tickT y n) : x = y := by
  have key : ∀ {a b : Nat}, a * 8 ^ n < 18446744073709551615 + 8 ^ n → 18446744073709551615 / 8 ^ n < a → ¬ 18446744073709551615 / 8 ^ n < b → 18446744073709551615 = b * 8 ^ n → False := fun {a b} h1 h2 h3 h4 => by
    cases n with
    | zero => simp at h1 h2; omega
    | succ m =>
      rw [Nat.pow_succ, ← Nat.mul_assoc] at h4
      generalize b * 8 ^ m = q at h4
      omega
  have hg : 0 < 8 ^ n := Nat.pow_pos (by omega)
  have cut : ∀ {a : Nat}, a * 8 ^ n < 18446744073709551615 + 8 ^ n → 18446744073709551615 / 8 ^ n < a → a = 18446744073709551615 / 8 ^ n + 1 := fun {a} h1 h2 => by
    have h3 := Nat.div_add_mod 18446744073709551615 (8 ^ n)
    have h4 := Nat.mod_lt 18446744073709551615 hg
    rw [Nat.mul_comm] at h3
    generalize 18446744073709551615 / 8 ^ n = k at *
    generalize 8 ^ n = g at *
    have h5 : a < k + 2 := Nat.lt_of_mul_lt_mul_right (a := g) (by rw [Nat.add_mul]; omega)
    omega
  unfold tickT at e
  by_cases c1 : 18446744073709551615 / 8 ^ n < x <;> by_cases c2 : 18446744073709551615 / 8 ^ n < y
  · rw [cut hx c1, cut hy c2]
  · rw [if_pos c1, if_neg c2] at e
    exact (key hx c1 c2 e).elim
  · rw [if_neg c1, if_pos c2] at e
    exact (key hy c2 c1 e.symm).elim
  · rw [if_neg c1, if_neg c2] at e
    exact Nat.eq_of_mul_eq_mul_right hg e
theorem filter_or {p q r : Tm → Bool} : ∀ (L : List Tm), (∀ t ∈ L, (r t = true ↔ p t = true ∨ q t = true) ∧ ¬ (p t = true ∧ q t = true)) → (L.filter p ++ L.filter q).Perm (L.filter r)
  | [], _ => .nil
  | t :: L, h => by
    have ih := filter_or L (fun u hu => h u (List.mem_cons_of_mem _ hu))
    obtain ⟨h1, h2⟩ := h t List.mem_cons_self
    cases hp : p t <;> cases hq : q t
    · rw [List.filter_cons_of_neg (by simp [hp]), List.filter_cons_of_neg (by simp [hq]), List.filter_cons_of_neg (by rw [h1, hp, hq]; simp)]; exact ih
    · rw [List.filter_cons_of_neg (by simp [hp]), List.filter_cons_of_pos hq, List.filter_cons_of_pos (h1.2 (.inr hq))]
      exact List.perm_middle.trans (ih.cons _)
    · rw [List.filter_cons_of_pos hp, List.filter_cons_of_neg (by simp [hq]), List.filter_cons_of_pos (h1.2 (.inl hp)), List.cons_append]
      exact ih.cons _
    · exact absurd ⟨hp, hq⟩ h2
def duL (now at_ : Nat) (bs : List Nat) (L : List Tm) : Nat → List Int
  | 0 => []
  | n + 1 => match bs[n]? with
    | none => duL now at_ bs L n
    | some z => match aroundN z ((fromT now n : Nat) : Int) with
      | none => duL now at_ bs L n
      | some s => if timeT now n s = at_ then duL now at_ bs L n ++ idsAt L (n * 64 + s) else duL now at_ bs L n
theorem du_skip {now at_ n z : Nat} {bs : List Nat} {L : List Tm} (hz : bs[n]? = some z) (ha : aroundN z ((fromT now n : Nat) : Int) = none) : duL now at_ bs L (n + 1) = duL now at_ bs L n := by
  show (match bs[n]? with | none => _ | some z => _) = _
  rw [hz]; dsimp only; rw [ha]
theorem du_some {now at_ n z s : Nat} {bs : List Nat} {L : List Tm} (hz : bs[n]? = some z) (ha : aroundN z ((fromT now n : Nat) : Int) = some s) : duL now at_ bs L (n + 1) = if timeT now n s = at_ then duL now at_ bs L n ++ idsAt L (n * 64 + s) else duL now at_ bs L n := by
  show (match bs[n]? with | none => _ | some z => _) = _
  rw [hz]; dsimp only; rw [ha]
section
variable {now turn c at_ : Nat} {L : List Tm} {sl : List Value} {XS : List Heap} {bs : List Nat} {l : Ents Int}
theorem WhIs.dueOf (h : WhIs now L sl XS bs l c turn) (hnow : now ≤ 18446744073709551615) {u : Tm} (hu : u ∈ L) : u.s.due = timeT now u.s.lv u.s.slot := by
  obtain ⟨num, m1, m2, m3, m4, _⟩ := h.time u hu
  rw [m2, time_is hnow m3 m4 m1.symm]
theorem WhIs.sameSlot (h : WhIs now L sl XS bs l c turn) {t u : Tm} (ht : t ∈ L) (hu : u ∈ L) (el : t.s.lv = u.s.lv) (ed : t.s.due = u.s.due) : t.s.slot = u.s.slot := by
  obtain ⟨n1, a1, a2, a3, a4, a5⟩ := h.time t ht
  obtain ⟨n2, b1, b2, b3, b4, b5⟩ := h.time u hu
  rw [a2, b2, el] at ed
  rw [el] at a5
  rw [a1, b1, tickT_inj a5 b5 ed]
theorem WhIs.around (h : WhIs now L sl XS bs l c turn) {n z s : Nat} (hn : n < 8) (hnow : now ≤ 18446744073709551615) (hz : bs[n]? = some z) (ha : aroundN z ((fromT now n : Nat) : Int) = some s) :
    ∃ t ∈ L, t.s.lv = n ∧ t.s.slot = s ∧ t.s.due = timeT now n s := by
  obtain ⟨z', hz', _, hz3⟩ := h.busy n hn
  obtain rfl : z = z' := Option.some.inj (hz.symm.trans hz')
  have hx : now / 8 ^ n ≤ 18446744073709551615 := Nat.le_trans (Nat.div_le_self _ _) hnow
  obtain ⟨g1, g2, _⟩ := around_least hx ha
  obtain ⟨id, hid⟩ : ∃ id, id ∈ idsAt L (n * 64 + s) := List.exists_mem_of_ne_nil _ ((hz3 s g1).1 g2)
  obtain ⟨t, ht, hk, _⟩ := idsAt_mem.1 hid
  have hsp := h.spot t ht
  have hk2 : t.s.lv * 64 + t.s.slot = n * 64 + s := hk
  have hlv : t.s.lv = n := by omega
  have hsl : t.s.slot = s := by omega
  exact ⟨t, ht, hlv, hsl, by rw [h.dueOf hnow ht, hlv, hsl]⟩
theorem WhIs.noneAt (h : WhIs now L sl XS bs l c turn) {n z : Nat} (hn : n < 8) (hz : bs[n]? = some z) (ha : aroundN z ((fromT now n : Nat) : Int) = none) : ∀ t ∈ L, t.s.lv ≠ n := fun t ht e => by
  obtain ⟨z', hz', _, hz3⟩ := h.busy n hn
  obtain rfl : z = z' := Option.some.inj (hz.symm.trans hz')
  subst e
  have h1 := around_none ha t.s.slot (h.spot t ht).2
  have h2 := (hz3 t.s.slot (h.spot t ht).2).2 (fun e => by have := idsAt_mem.2 ⟨t, ht, rfl, rfl⟩; rw [show t.key = t.s.lv * 64 + t.s.slot from rfl, e] at this; cases this)
  rw [h1] at h2; cases h2
theorem WhIs.leastAt (h : WhIs now L sl XS bs l c turn) {n z s : Nat} (hn : n < 8) (hnow : now ≤ 18446744073709551615) (hz : bs[n]? = some z) (ha : aroundN z ((fromT now n : Nat) : Int) = some s) : ∀ u ∈ L, u.s.lv = n → timeT now n s ≤ u.s.due := fun u hu e => by
  obtain ⟨z', hz', _, hz3⟩ := h.busy n hn
  obtain rfl : z = z' := Option.some.inj (hz.symm.trans hz')
  have hx : now / 8 ^ n ≤ 18446744073709551615 := Nat.le_trans (Nat.div_le_self _ _) hnow
  obtain ⟨g1, g2, g3⟩ := around_least hx ha
  rw [h.dueOf hnow hu, e]
  have hm := g3 u.s.slot (h.spot u hu).2 ((e ▸ hz3 u.s.slot (h.spot u hu).2).2 (fun e2 => by have := idsAt_mem.2 ⟨u, hu, rfl, rfl⟩; rw [show u.key = u.s.lv * 64 + u.s.slot from rfl, e2] at this; cases this))
  unfold timeT
  have hmo := tickT_mono (n := n) (Nat.add_le_add_left hm (now / 8 ^ n))
  have hle := tickT_le (now / 8 ^ n + moreT (now / 8 ^ n) s) n
  split <;> split <;> omega
theorem du_perm (h : WhIs now L sl XS bs l c turn) (hnow : now ≤ 18446744073709551615) (hat : ∀ t ∈ L, at_ ≤ t.s.due) : ∀ n, n ≤ 8 → (duL now at_ bs L n).Perm ((L.filter (fun t => decide (t.s.lv < n) && decide (t.s.due = at_))).map (·.id))
  | 0, _ => by
    rw [List.filter_eq_nil_iff.2 (fun t _ => by simp)]
    exact .nil
  | n + 1, hn => by
    have ih := du_perm h hnow hat n (by omega)
    obtain ⟨z, hz, _, _⟩ := h.busy n (by omega)
    have same : (∀ t ∈ L, t.s.lv = n → t.s.due ≠ at_) → L.filter (fun t => decide (t.s.lv < n + 1) && decide (t.s.due = at_)) = L.filter (fun t => decide (t.s.lv < n) && decide (t.s.due = at_)) := fun hno => by
      refine List.filter_congr fun t ht => ?_
      have := hno t ht
      by_cases e : t.s.lv = n
      · rw [decide_eq_false (this e), Bool.and_false, Bool.and_false]
      · rw [show decide (t.s.lv < n + 1) = decide (t.s.lv < n) from decide_eq_decide.2 (by omega)]
    cases ha : aroundN z ((fromT now n : Nat) : Int) with
    | none =>
      rw [du_skip hz ha, same (fun t ht e => absurd e (h.noneAt (by omega) hz ha t ht))]
      exact ih
    | some s =>
      rw [du_some hz ha]
      obtain ⟨t0, ht0, e1, e2, e3⟩ := h.around (by omega) hnow hz ha
      by_cases ct : timeT now n s = at_
      · rw [if_pos ct]
        have hk : idsAt L (n * 64 + s) = (L.filter (fun t => decide (t.s.lv = n) && decide (t.s.due = at_))).map (·.id) := by
          unfold idsAt
          congr 1
          refine List.filter_congr fun t ht => ?_
          have hsp := h.spot t ht
          have hs64 := (h.spot t0 ht0).2
          rw [← Bool.decide_and]
          refine decide_eq_decide.2 ⟨fun hk => ?_, fun ⟨h1, h2⟩ => ?_⟩
          · have hk2 : t.s.lv * 64 + t.s.slot = n * 64 + s := hk
            have l1 : t.s.lv = n := by omega
            have l2 : t.s.slot = s := by omega
            exact ⟨l1, by rw [h.dueOf hnow ht, l1, l2, ct]⟩
          · have := h.sameSlot ht ht0 (by rw [h1, e1]) (by rw [h2, e3, ct])
            show t.s.lv * 64 + t.s.slot = _
            rw [h1, this, e2]
        rw [hk]
        refine (ih.append_right _).trans ?_
        rw [← List.map_append]
        refine List.Perm.map _ (filter_or L fun t ht => ⟨?_, ?_⟩)
        · simp only [Bool.and_eq_true, decide_eq_true_eq]; omega
        · simp only [Bool.and_eq_true, decide_eq_true_eq]; omega
      · rw [if_neg ct, same (fun t ht e ed => ct ?_)]
        · exact ih
        · have l1 := h.leastAt (by omega) hnow hz ha t ht e
          have l2 := hat t0 ht0
          rw [e3] at l2; omega
def dueAt (L : List Tm) (at_ : Nat) : List Tm := L.filter (fun t => decide (t.s.due = at_))
theorem du_all (h : WhIs now L sl XS bs l c turn) (hnow : now ≤ 18446744073709551615) (hat : ∀ t ∈ L, at_ ≤ t.s.due) : (duL now at_ bs L 8).Perm ((dueAt L at_).map (·.id)) := by
  refine (du_perm h hnow hat 8 (Nat.le_refl _)).trans ?_
  unfold dueAt
  rw [List.filter_congr (q := fun t => decide (t.s.due = at_)) fun t ht => by rw [decide_eq_true (h.spot t ht).1, Bool.true_and]]
def tvN (L : List Tm) (id : Int) : Nat := match L.find? (fun t => decide (t.id = id)) with
  | some t => t.turn
  | none => 0
theorem tvN_in (h : (L.map (·.id)).Nodup) {t : Tm} (ht : t ∈ L) : tvN L t.id = t.turn := by
  unfold tvN
  cases hf : L.find? (fun u => decide (u.id = t.id)) with
  | none =>
    have := List.find?_eq_none.1 hf t ht
    exact absurd (decide_eq_true rfl) this
  | some u =>
    have h1 := List.find?_some hf
    obtain rfl : u = t := tm_uniq h (List.mem_of_find?_eq_some hf) ht (of_decide_eq_true h1)
    rfl
theorem WhIs.ent (h : WhIs now L sl XS bs l c turn) (id : Int) : ∃ e : Spot, (mGet l id).getD zEnt = .agg (e.v ++ [Value.int .i64 (((tvN L id) : Nat) : Int)]).toArray := by
  by_cases hin : id ∈ L.map (·.id)
  · obtain ⟨t, ht, rfl⟩ := List.mem_map.1 hin
    exact ⟨t.s, by rw [(h.hit ht).1, tvN_in h.nodup ht]⟩
  · refine ⟨zSpot, ?_⟩
    rw [(h.miss hin).1]
    have : tvN L id = 0 := by
      unfold tvN
      cases hf : L.find? (fun u => decide (u.id = id)) with
      | none => rfl
      | some u =>
        have h1 := List.find?_some hf
        have h2 : u.id = id := of_decide_eq_true h1
        exact absurd (h2 ▸ List.mem_map_of_mem (List.mem_of_find?_eq_some hf)) hin
    rw [this]; rfl
end
theorem asc_unique {K : Type} {τ : K → Nat} : ∀ {a b : List K}, a.Perm b → a.Pairwise (fun x y => τ x < τ y) → b.Pairwise (fun x y => τ x < τ y) → a = b
  | [], b, hp, _, _ => (List.Perm.nil_eq hp)
  | x :: a, b, hp, ha, hb => by
    cases b with
    | nil => exact absurd hp.length_eq (by simp)
    | cons y b =>
      have ha' := List.pairwise_cons.1 ha
      have hb' := List.pairwise_cons.1 hb
      have hxy : x = y := by
        rcases List.mem_cons.1 (hp.mem_iff.1 List.mem_cons_self) with h | h
        · exact h
        · rcases List.mem_cons.1 (hp.mem_iff.2 List.mem_cons_self) with h' | h'
          · exact h'.symm
          · have := hb'.1 x h; have := ha'.1 y h'; omega
      subst hxy
      rw [asc_unique (List.Perm.cons_inv hp) ha'.2 hb'.2]
theorem asc_inj {K : Type} {m : List K} {τ : K → Nat} (h : m.Pairwise (fun x y => τ x < τ y)) {x y : K} (hx : x ∈ m) (hy : y ∈ m) (e : τ x = τ y) : x = y := by
  obtain ⟨i, hi, rfl⟩ := List.getElem_of_mem hx
  obtain ⟨j, hj, rfl⟩ := List.getElem_of_mem hy
  have hp := List.pairwise_iff_getElem.1 h
  rcases Nat.lt_trichotomy i j with hij | rfl | hij
  · have := hp i j hi hj hij; omega
  · rfl
  · have := hp j i hj hi hij; omega
open Go.Proofs in
theorem sorted_is {K : Type} {m d : List K} {τ : K → Nat} (hp : d.Perm m) (hn : m.Nodup) (h : m.Pairwise (fun x y => τ x < τ y))
    (hs : ∀ (i j : Nat) x y, i < j → d[i]? = some x → d[j]? = some y → ltOf (fun x y => Lib.compareInt (τ x : Int) (τ y : Int)) y x = false) : d = m := by
  refine asc_unique hp (List.pairwise_iff_getElem.2 fun i j hi hj hij => ?_) h
  have h1 := lt_key _ (hs i j _ _ hij (List.getElem?_eq_getElem hi) (List.getElem?_eq_getElem hj))
  have mi : d[i] ∈ m := hp.mem_iff.1 (List.getElem_mem hi)
  have mj : d[j] ∈ m := hp.mem_iff.1 (List.getElem_mem hj)
  have hne : τ d[i] ≠ τ d[j] := fun e => by
    have := asc_inj h mi mj e
    exact (List.pairwise_iff_getElem.1 (hp.nodup_iff.2 hn)) i j hi hj hij this
  omega
theorem WhIs.dueAsc {now turn c : Nat} {L : List Tm} {sl : List Value} {XS : List Heap} {bs : List Nat} {l : Ents Int} (h : WhIs now L sl XS bs l c turn) (at_ : Nat) : ((dueAt L at_).map (·.id)).Nodup ∧ ((dueAt L at_).map (·.id)).Pairwise (fun x y => tvN L x < tvN L y) := by
  refine ⟨h.nodup.sublist (List.Sublist.map _ List.filter_sublist), ?_⟩
  rw [List.pairwise_map]
  have h1 : (dueAt L at_).Pairwise (fun a b => a.turn < b.turn) := h.turns.sublist List.filter_sublist
  refine (List.pairwise_iff_getElem.2 fun i j hi hj hij => ?_)
  have h2 := List.pairwise_iff_getElem.1 h1 i j hi hj hij
  rw [tvN_in h.nodup (List.mem_filter.1 (List.getElem_mem hi)).1, tvN_in h.nodup (List.mem_filter.1 (List.getElem_mem hj)).1]
  exact h2
end Go.Proofs.YtkcaakkaioingaaDoor
namespace Go.Proofs.YtkcaakkaioingaaDoor
open Go Go.Sl
attribute [local irreducible] W
open Go.Proofs
theorem cmp_reads {now turn c bw bm b2 : Nat} {L : List Tm} {sl : List Value} {XS : List Heap} {bs : List Nat} {l : Ents Int} (h : WhIs now L sl XS bs l c turn) {w0 : World} {H : Heap} {C : World → Prop} (hC : ∀ w, C w → C w.drew) (hCS : ∀ w, C w → Sat w0 ((b2, .cells 140 1 [.pointer (some ⟨bw, 0, none⟩)]) :: (bw, .cells 186 523 (whRow now sl bs bm turn)) :: (bm, .obj (mapO (Value.int .i64) l c)) :: H) w) (x y : Int) :
    ∀ w, C w → CallsIn Fence.wide 0 Tryd.prog 138 [(Value.int .i64) x, (Value.int .i64) y, .pointer (some ⟨b2, 0, none⟩)].toArray w fun e w' => e = .returned (.int .i64 (Lib.compareInt (tvN L x : Int) (tvN L y : Int))) ∧ C w' := by
  obtain ⟨ex, hx⟩ := h.ent x
  obtain ⟨ey, hy⟩ := h.ent y
  refine R_enter Tryd.func138 rfl Tryd.ntmps138 rfl rfl rfl (by kernel_rfl) (by decide +kernel) hC ?_
  refine WR_x (Ex.mono hCS (X_load (v := .pointer (some ⟨bw, 0, none⟩)) rfl ty140 rfl (Cell.own (b := b2) zM rfl))) rfl ?_
  refine WR_x (Ex.mono hCS (X_nilCheck rfl)) rfl ?_
  refine WR_x (Ex.mono hCS (X_fieldAddr rfl fld186_3 (by decide))) rfl ?_
  refine WR_x (Ex.mono hCS (X_load (v := .map (some bm)) rfl ty181 rfl (Cell.own (b := bw) zM (wh_map h.row)))) rfl ?_
  refine WR_x (Ex.mono hCS (X_move rfl)) rfl ?_
  refine WR_x (Ex.mono hCS (X_lookup (b := bm) (a := x) (zE := zEnt) rfl rfl keyI ty181 zEz zM)) rfl ?_
  simp only [Bool.false_eq_true, if_false]
  rw [hx]
  refine WR_x (Ex.mono hCS (X_field rfl fld190_1 rfl)) rfl ?_
  refine WR_x (Ex.mono hCS (X_load (v := .pointer (some ⟨bw, 0, none⟩)) rfl ty140 rfl (Cell.own (b := b2) zM rfl))) rfl ?_
  refine WR_x (Ex.mono hCS (X_nilCheck rfl)) rfl ?_
  refine WR_x (Ex.mono hCS (X_fieldAddr rfl fld186_3 (by decide))) rfl ?_
  refine WR_x (Ex.mono hCS (X_load (v := .map (some bm)) rfl ty181 rfl (Cell.own (b := bw) zM (wh_map h.row)))) rfl ?_
  refine WR_x (Ex.mono hCS (X_move rfl)) rfl ?_
  refine WR_x (Ex.mono hCS (X_lookup (b := bm) (a := y) (zE := zEnt) rfl rfl keyI ty181 zEz zM)) rfl ?_
  simp only [Bool.false_eq_true, if_false]
  rw [hy]
  refine WR_x (Ex.mono hCS (X_field rfl fld190_1 rfl)) rfl ?_
  refine WR_call (.cons rfl (.cons rfl .nil)) Tryd.call139 rfl (fun w _ => Tryd.cmp_Compare_int (tvN L x : Int) (tvN L y : Int) w) ?_
  refine WR_x (Ex.mono hCS (X_assign rfl)) rfl ?_
  exact WR_ret Tryd.results138 rfl
open Go.Proofs in
theorem sort_L {now turn c bw bm b2 : Nat} {L : List Tm} {sl : List Value} {XS : List Heap} {bs : List Nat} {l : Ents Int} (h : WhIs now L sl XS bs l c turn) {w0 : World} {H : Heap} {b tot cap : Nat} {d : List Int} (hd : d.length < 4611686018427387904) :
    LCalls Tryd.prog w0 137 #[.slice (some ⟨b, 0, none⟩) d.length cap, .func (.func 138) #[] #[.pointer (some ⟨b2, 0, none⟩)]] ((b, .cells 3 tot (d.map (Value.int .i64))) :: (b2, .cells 140 1 [.pointer (some ⟨bw, 0, none⟩)]) :: (bw, .cells 186 523 (whRow now sl bs bm turn)) :: (bm, .obj (mapO (Value.int .i64) l c)) :: H)
      (fun v H' => v = .tuple #[] ∧ ∃ d' : List Int, d'.Perm d ∧ (∀ (i j : Nat) x y, i < j → d'[i]? = some x → d'[j]? = some y → ltOf (fun x y => Lib.compareInt (tvN L x : Int) (tvN L y : Int)) y x = false) ∧ H' = (b, .cells 3 tot (d'.map (Value.int .i64))) :: (b2, .cells 140 1 [.pointer (some ⟨bw, 0, none⟩)]) :: (bw, .cells 186 523 (whRow now sl bs bm turn)) :: (bm, .obj (mapO (Value.int .i64) l c)) :: H) :=
  L_sort fun w hs => by
    have hlt : b < w.heap.size := (hs.own _ List.mem_cons_self).2.lt
    have := Tryd.slices_SortFunc (Value.int .i64) (fun _ => rfl) (fun x y => Lib.compareInt (tvN L x : Int) (tvN L y : Int)) (swo_key (fun x => (tvN L x : Int))) 138 #[.pointer (some ⟨b2, 0, none⟩)] b 0 cap d.toArray w Tryd.call138 (Go.Proofs.CmpReads.lays fun n os dk hdk x y => by
      have hsz : dk.size = d.length := by rw [hdk]; simp
      have hS : Sat w0 ((b, .cells 3 tot (dk.toList.map (Value.int .i64))) :: (b2, .cells 140 1 [.pointer (some ⟨bw, 0, none⟩)]) :: (bw, .cells 186 523 (whRow now sl bs bm turn)) :: (bm, .obj (mapO (Value.int .i64) l c)) :: H) (sortWorld (Value.int .i64) w b 0 n dk os) := sat_sortWorld hs hsz
      have h := cmp_reads (C := fun w' => ∃ q, w' = (sortWorld (Value.int .i64) w b 0 n dk os).drewN q) h (fun w' ⟨q, e⟩ => ⟨q + 1, by rw [e]; rfl⟩) (fun w' ⟨q, e⟩ => by rw [e]; exact (hS.drewN q).drop) x y _ ⟨0, rfl⟩
      exact callsIn_wide.1 h) (holds_row hs) hlt (by simpa using hd)
    simpa using this
theorem du_len {now at_ : Nat} {bs : List Nat} {L : List Tm} : ∀ n, (duL now at_ bs L n).length ≤ n * L.length
  | 0 => Nat.zero_le _
  | n + 1 => by
    have ih := du_len (now := now) (at_ := at_) (bs := bs) (L := L) n
    rw [Nat.add_mul]
    unfold duL
    split
    · omega
    · split
      · omega
      · split
        · rw [List.length_append]
          rename_i s _ _
          have := idsAt_len L (n * 64 + s)
          omega
        · omega
theorem OwnS.holds {w0 : World} {e : TypeId} {s : Nat} {ad : Option Addr} {n cap : Nat} {xs : List Value} {HB H : Heap} (h : OwnS e s (.slice ad n cap) n xs HB) (hs : ∀ p ∈ HB, p ∈ H) : Holds w0 H ad xs := by
  generalize hv : Value.slice ad n cap = v at h
  cases h with
  | nil => exact Holds.nil
  | own _ _ _ =>
    obtain ⟨rfl, _⟩ : ad = _ ∧ True := by simp at hv; exact ⟨hv.1, trivial⟩
    exact Holds.own (hs _ List.mem_cons_self)
set_option maxHeartbeats 4000000 in
theorem due_at {w0 : World} {H : Heap} {now turn c bw bm at_ : Nat} {L : List Tm} {sl : List Value} {XS : List Heap} {bs : List Nat} {l : Ents Int} (h : WhIs now L sl XS bs l c turn) (hnow : now ≤ 18446744073709551615) (hbs : ∀ z ∈ bs, z < 18446744073709551616) (hpos : 0 < (duL now at_ bs L 8).length) (hT : Tab w0) : LCalls Tryd.prog w0 110 #[.pointer (some ⟨bw, 0, none⟩), .int .u64 ((at_ : Nat) : Int)] ((bw, .cells 186 523 (whRow now sl bs bm turn)) :: (bm, .obj (mapO (Value.int .i64) l c)) :: (XS.flatten ++ H)) (fun v H' => ∃ (b cap : Nat) (d' : List Int), v = .slice (some ⟨b, 0, none⟩) d'.length cap ∧ d'.length ≤ cap ∧ cap ≤ maxLen ∧ d'.Perm (duL now at_ bs L 8) ∧ (∀ (i j : Nat) x y, i < j → d'[i]? = some x → d'[j]? = some y → ltOf (fun x y => Lib.compareInt (tvN L x : Int) (tvN L y : Int)) y x = false) ∧ H' = (b, .cells 3 (cap * 1) ((d').map (Value.int .i64))) :: (bw, .cells 186 523 (whRow now sl bs bm turn)) :: (bm, .obj (mapO (Value.int .i64) l c)) :: (XS.flatten ++ H)) := by
  have hlen0 := h.len
  have hdl0 := du_len (now := now) (at_ := at_) (bs := bs) (L := L) 8
  refine L_enter (l := [.pointer (some ⟨bw, 0, none⟩), .int .u64 ((at_ : Nat) : Int)]) Tryd.func110 rfl Tryd.ntmps110 rfl rfl ?_
  refine W_sr ?_
  refine W_box (l := [.pointer (some ⟨bw, 0, none⟩)]) rfl rfl rfl (fun b2 => ?_)
  refine W_box (l := [.int .u64 (at_ : Int)]) rfl rfl rfl (fun b3 => ?_)
  refine W_assign rfl rfl ?_
  refine W_nil ?_
  refine W_sr ?_
  refine W_alloc (l := [.slice none 0 0]) ty58 rfl rfl (fun b5 => ?_)
  refine W_nil ?_
  refine W_seq ?_
  refine W_sr ?_
  refine W_load (v := .pointer (some ⟨bw, 0, none⟩)) rfl ty140 rfl (Cell.own (b := b2) zM rfl) rfl ?_
  refine W_call (.cons rfl .nil) Tryd.call111 rfl (near_L (bw := bw)) ?_
  rintro v H' ⟨b1, rfl, rfl⟩
  refine W_nil ?_
  refine W_block ?_
  refine W_rangeFunc rfl Tryd.call140 ?_
  intro lp D r hst hpd hps hasg hbody hA
  have hr := loop_ready hst hpd
  show LCalls _ _ _ #[_, _] _ _
  refine ((near_iter (b1 := b1) (bw := bw) (bm := bm) (now := now) (turn := turn) (sl := sl) (bs := bs) (H := (lp, .obj (.loop r)) :: (D, .obj (.deferred (some []))) :: (b5, .cells 58 1 [.slice none 0 0]) :: (b3, .cells 28 1 [.int .u64 (at_ : Int)]) :: (b2, .cells 140 1 [.pointer (some ⟨bw, 0, none⟩)]) :: ([] ++ ((bm, .obj (mapO (Value.int .i64) l c)) :: (XS.flatten ++ H)))) hT h.row hnow hbs (fun n Hi => ∃ v X, OwnS 3 1 v (duL now at_ bs L n).length ((duL now at_ bs L n).map (Value.int .i64)) X ∧ Hi = (lp, .obj (.loop r)) :: (D, .obj (.deferred (some []))) :: (b5, .cells 58 1 [v]) :: (b3, .cells 28 1 [.int .u64 (at_ : Int)]) :: (b2, .cells 140 1 [.pointer (some ⟨bw, 0, none⟩)]) :: (X ++ ((bm, .obj (mapO (Value.int .i64) l c)) :: (XS.flatten ++ H)))) (fun n z Hi _ hz ha hJ => by obtain ⟨v, X, h1, h2⟩ := hJ; exact ⟨v, X, by rw [du_skip hz ha]; exact h1, h2⟩) ?_ ⟨_, [], OwnS.nil, rfl⟩).hsub (show HSub _ ((b1, .cells 140 1 [.pointer (some ⟨bw, 0, none⟩)]) :: (bw, .cells 186 523 (whRow now sl bs bm turn)) :: (lp, .obj (.loop r)) :: (D, .obj (.deferred (some []))) :: (b5, .cells 58 1 [.slice none 0 0]) :: (b3, .cells 28 1 [.int .u64 (at_ : Int)]) :: (b2, .cells 140 1 [.pointer (some ⟨bw, 0, none⟩)]) :: ((bm, .obj (mapO (Value.int .i64) l c)) :: (XS.flatten ++ H))) from zH)).mono ?_
  · intro n s z Hi hn hz ha hJ
    obtain ⟨v, X, hO, rfl⟩ := hJ
    obtain ⟨t, ht⟩ : ∃ t, t = timeT now n s := ⟨_, rfl⟩
    rw [← ht]
    have hs64 := (aroundN_is ha).1
    have hstep := du_some (now := now) (at_ := at_) (L := L) hz ha
    rw [← ht] at hstep
    refine round_intro hst hpd hA hps rfl hasg rfl rfl rfl zT ?_
    refine W_sr ?_
    refine W_alloc (l := zSpot.v) ty72 rfl rfl (fun b6 => ?_)
    refine W_storeA (l' := [.int .i64 (n : Int), .int .i64 (s : Int), .int .u64 0, .int .u64 0]) rfl rfl ty72 rfl rfl (b := b6) zM (by exact Nat.le_refl 4) rfl zU ?_
    refine W_nil ?_
    refine W_region ?_
    refine W_assign rfl rfl ?_
    refine W_nil ?_
    refine W_begin hst hpd zT hbody ?_
    refine W_block ?_
    refine W_sr ?_
    refine W_move rfl rfl ?_
    refine W_load (v := .int .u64 (at_ : Int)) rfl ty28 rfl (Cell.own (b := b3) zM rfl) rfl ?_
    refine W_bin rfl rfl b_eql rfl ?_
    refine W_nil ?_
    refine W_condPS (p := t = at_) rfl (by rw [decide_eq_true_eq]; exact Int.ofNat_inj) (fun q0 => ?_) (fun q0 => ?_)
    · skip
      obtain ⟨vs, Xs, hsl, hXs, hOs⟩ := h.own (n * 64 + s) (by omega)
      obtain ⟨ads, caps, rfl, _, _⟩ := hOs.shape
      have hlen := h.len
      have hil := idsAt_len L (n * 64 + s)
      have hdl := du_len (now := now) (at_ := at_) (bs := bs) (L := L) n
      have hn256 : n * L.length ≤ 8 * 256 := Nat.mul_le_mul (by omega) hlen
      have hmem : ∀ p ∈ Xs, p ∈ XS.flatten := fun p hp => List.mem_flatten.2 ⟨Xs, List.mem_of_getElem? hXs, hp⟩
      refine Rd.W_anyS [(b5, .cells 58 1 [v]), (b2, .cells 140 1 [.pointer (some ⟨bw, 0, none⟩)]), (b6, .cells 72 4 [.int .i64 (n : Int), .int .i64 (s : Int), .int .u64 0, .int .u64 0]), (bw, .cells 186 523 (whRow now sl bs bm turn))] 12 (by kernel_rfl) ?_
      refine Rd.WS_take 0 (l' := #[true, false, false, false, false, false, false, false, false, false, false, false, false]) rfl rfl (by decide +kernel) (by decide +kernel) (by decide +kernel) (by decide +kernel) (by decide +kernel) rfl (by decide +kernel) (X_load (v := v) rfl ty58 rfl (Cell.own (b := b5) zM rfl)) rfl ?_
      refine Rd.WS_take 1 (l' := #[true, true, false, false, false, false, false, false, false, false, false, false, false]) rfl rfl (by decide +kernel) (by decide +kernel) (by decide +kernel) (by decide +kernel) (by decide +kernel) rfl (by decide +kernel) (X_load (v := .pointer (some ⟨bw, 0, none⟩)) rfl ty140 rfl (Cell.own (b := b2) zM rfl)) rfl ?_
      refine Rd.WS_take 2 (l' := #[true, true, true, false, false, false, false, false, false, false, false, false, false]) rfl rfl (by decide +kernel) (by decide +kernel) (by decide +kernel) (by decide +kernel) (by decide +kernel) rfl (by decide +kernel) (X_fieldAddr rfl fld72_0 (by decide)) rfl ?_
      refine Rd.WS_take 3 (l' := #[true, true, true, true, false, false, false, false, false, false, false, false, false]) rfl rfl (by decide +kernel) (by decide +kernel) (by decide +kernel) (by decide +kernel) (by decide +kernel) rfl (by decide +kernel) (X_load (v := .int .i64 (n : Int)) rfl ty3 rfl (Cell.own (b := b6) zM rfl)) rfl ?_
      refine Rd.WS_take 4 (l' := #[true, true, true, true, true, false, false, false, false, false, false, false, false]) rfl rfl (by decide +kernel) (by decide +kernel) (by decide +kernel) (by decide +kernel) (by decide +kernel) rfl (by decide +kernel) (X_fieldAddr rfl fld72_1 (by decide)) rfl ?_
      refine Rd.WS_take 5 (l' := #[true, true, true, true, true, true, false, false, false, false, false, false, false]) rfl rfl (by decide +kernel) (by decide +kernel) (by decide +kernel) (by decide +kernel) (by decide +kernel) rfl (by decide +kernel) (X_load (v := .int .i64 (s : Int)) rfl ty3 rfl (Cell.own (b := b6) zM rfl)) rfl ?_
      refine Rd.WS_take 6 (l' := #[true, true, true, true, true, true, true, false, false, false, false, false, false]) rfl rfl (by decide +kernel) (by decide +kernel) (by decide +kernel) (by decide +kernel) (by decide +kernel) rfl (by decide +kernel) (X_nilCheck rfl) rfl ?_
      refine Rd.WS_take 7 (l' := #[true, true, true, true, true, true, true, true, false, false, false, false, false]) rfl rfl (by decide +kernel) (by decide +kernel) (by decide +kernel) (by decide +kernel) (by decide +kernel) rfl (by decide +kernel) (X_fieldAddr rfl fld186_1 (by decide)) rfl ?_
      refine Rd.WS_take 8 (l' := #[true, true, true, true, true, true, true, true, true, false, false, false, false]) rfl rfl (by decide +kernel) (by decide +kernel) (by decide +kernel) (by decide +kernel) (by decide +kernel) rfl (by decide +kernel) (X_indexAddrA (j := n) rfl rfl ty183 ty182 rfl hn (at_ := 1 + n * 64) (by omega)) rfl ?_
      refine Rd.WS_take 9 (l' := #[true, true, true, true, true, true, true, true, true, true, false, false, false]) rfl rfl (by decide +kernel) (by decide +kernel) (by decide +kernel) (by decide +kernel) (by decide +kernel) rfl (by decide +kernel) (X_indexAddrA (j := s) rfl rfl ty182 ty58 rfl hs64 (at_ := 1 + (n * 64 + s)) (by omega)) rfl ?_
      refine Rd.WS_take 10 (l' := #[true, true, true, true, true, true, true, true, true, true, true, false, false]) rfl rfl (by decide +kernel) (by decide +kernel) (by decide +kernel) (by decide +kernel) (by decide +kernel) rfl (by decide +kernel) (X_load (v := .slice ads (idsAt L (n * 64 + s)).length caps) rfl ty58 rfl (Cell.own (b := bw) zM (wh_sl h.row hsl))) rfl ?_
      refine Rd.WS_one 11 (l' := #[true, true, true, true, true, true, true, true, true, true, true, true, false]) zH rfl (by decide +kernel) rfl (by decide +kernel) ?_
      refine W_append (news := (idsAt L (n * 64 + s)).map (Value.int .i64)) (m := (idsAt L (n * 64 + s)).length) (HB := X) (H0 := (lp, .obj (.loop (Loop.at r .busy none))) :: (b6, .cells 72 4 [.int .i64 (n : Int), .int .i64 (s : Int), .int .u64 0, .int .u64 0]) :: (b1, .cells 140 1 [.pointer (some ⟨bw, 0, none⟩)]) :: (bw, .cells 186 523 (whRow now sl bs bm turn)) :: (D, .obj (.deferred (some []))) :: (b5, .cells 58 1 [v]) :: (b3, .cells 28 1 [.int .u64 (at_ : Int)]) :: (b2, .cells 140 1 [.pointer (some ⟨bw, 0, none⟩)]) :: ((bm, .obj (mapO (Value.int .i64) l c)) :: (XS.flatten ++ H))) rfl rfl ty58 ty3 rfl (by decide) hO (by rw [List.length_map, Nat.mul_one]) (OwnS.holds hOs (fun p hp => (by repeat (first | exact List.mem_append_left _ (hmem p hp) | exact List.mem_cons_self | apply List.mem_cons_of_mem | apply List.mem_append_right)))) (by rw [List.all_eq_true]; intro u hu; obtain ⟨q, _, rfl⟩ := List.mem_map.1 hu; rfl) (by simp only [maxLen]; omega) (by omega) zH rfl (fun v' X' hO' => ?_)
      refine W_nil ?_
      refine Rd.WS_goal ?_
      refine Rd.WS_last (l' := #[true, true, true, true, true, true, true, true, true, true, true, true, true]) zH (by decide +kernel) rfl (by decide +kernel) ?_
      have hv1 : v'.oneCell' = true := by obtain ⟨_, _, rfl, _⟩ := hO'.shape; rfl
      refine W_store (l' := [v']) rfl rfl ty58 hv1 rfl (b := b5) zM rfl rfl zU ?_
      refine W_nil ?_
      refine Rd.WC_goal ?_
      refine Rd.WC_done (.nil _) (by decide +kernel) ?_
      refine W_blk ?_
      refine W_endround zT ?_
      rw [hr]
      exact ⟨(lp, .obj (.loop r)) :: (D, .obj (.deferred (some []))) :: (b5, .cells 58 1 [v']) :: (b3, .cells 28 1 [.int .u64 (at_ : Int)]) :: (b2, .cells 140 1 [.pointer (some ⟨bw, 0, none⟩)]) :: (X' ++ ((bm, .obj (mapO (Value.int .i64) l c)) :: (XS.flatten ++ H))), zH, rfl, v', X', by rw [hstep, if_pos q0, List.length_append, List.map_append]; exact hO', rfl⟩
    · skip
      refine W_skip ?_
      refine W_blk ?_
      refine W_endround zT ?_
      rw [hr]
      exact ⟨(lp, .obj (.loop r)) :: (D, .obj (.deferred (some []))) :: (b5, .cells 58 1 [v]) :: (b3, .cells 28 1 [.int .u64 (at_ : Int)]) :: (b2, .cells 140 1 [.pointer (some ⟨bw, 0, none⟩)]) :: (X ++ ((bm, .obj (mapO (Value.int .i64) l c)) :: (XS.flatten ++ H))), zH, rfl, v, X, by rw [hstep, if_neg q0]; exact hO, rfl⟩
  · intro _ H' hp
    obtain ⟨Hi', hs, v, X, hO, rfl⟩ := hp
    obtain ⟨b, cap, rfl, rfl, hcap, hmax⟩ := OwnS.is hO hpos
    obtain ⟨d, hd⟩ : ∃ d, d = (duL now at_ bs L 8) := ⟨_, rfl⟩
    rw [← hd] at hs hcap ⊢
    have hs2 : HSub H' ((b1, .cells 140 1 [.pointer (some ⟨bw, 0, none⟩)]) :: (bw, .cells 186 523 (whRow now sl bs bm turn)) :: (lp, .obj (.loop r)) :: (D, .obj (.deferred (some []))) :: (b5, .cells 58 1 [.slice (some ⟨b, 0, none⟩) d.length cap]) :: (b3, .cells 28 1 [.int .u64 (at_ : Int)]) :: (b2, .cells 140 1 [.pointer (some ⟨bw, 0, none⟩)]) :: (b, .cells 3 (cap * 1) ((d).map (Value.int .i64))) :: (bm, .obj (mapO (Value.int .i64) l c)) :: (XS.flatten ++ H)) := hs
    refine ⟨.ready, none, (b1, .cells 140 1 [.pointer (some ⟨bw, 0, none⟩)]) :: (bw, .cells 186 523 (whRow now sl bs bm turn)) :: (D, .obj (.deferred (some []))) :: (b5, .cells 58 1 [.slice (some ⟨b, 0, none⟩) d.length cap]) :: (b3, .cells 28 1 [.int .u64 (at_ : Int)]) :: (b2, .cells 140 1 [.pointer (some ⟨bw, 0, none⟩)]) :: (b, .cells 3 (cap * 1) ((d).map (Value.int .i64))) :: (bm, .obj (mapO (Value.int .i64) l c)) :: (XS.flatten ++ H), by rw [hr]; exact hs2.trans zH, by decide, ?_⟩
    show W _ _ _ _ _ _ _ _ _
    refine W_blk ?_
    refine W_sr ?_
    refine W_load (v := .slice (some ⟨b, 0, none⟩) d.length cap) rfl ty58 rfl (Cell.own (b := b5) zM rfl) rfl ?_
    refine W_makeFunc .nil (.cons rfl .nil) rfl ?_
    refine W_call (.cons rfl (.cons rfl .nil)) Tryd.call137 rfl ((sort_L h (bw := bw) (bm := bm) (b2 := b2) (b := b) (tot := cap * 1) (cap := cap) (d := d) (H := (b1, .cells 140 1 [.pointer (some ⟨bw, 0, none⟩)]) :: (D, .obj (.deferred (some []))) :: (b5, .cells 58 1 [.slice (some ⟨b, 0, none⟩) d.length cap]) :: (b3, .cells 28 1 [.int .u64 (at_ : Int)]) :: (XS.flatten ++ H)) (by rw [hd]; omega)).hsub zH) ?_
    rintro v H' ⟨rfl, d', hp, hsrt, rfl⟩
    refine W_nil ?_
    refine W_sr ?_
    refine W_load (v := .slice (some ⟨b, 0, none⟩) d.length cap) rfl ty58 rfl (Cell.own (b := b5) zM rfl) rfl ?_
    refine W_assign rfl rfl ?_
    refine W_nil ?_
    refine W_ret1m (H2 := (b, .cells 3 (cap * 1) ((d').map (Value.int .i64))) :: (bw, .cells 186 523 (whRow now sl bs bm turn)) :: (bm, .obj (mapO (Value.int .i64) l c)) :: (XS.flatten ++ H)) Tryd.results110 rfl (.cons zT (.nil _)) zH ?_
    exact ⟨b, cap, d', by rw [hp.length_eq], by rw [hp.length_eq]; exact hcap, hmax, hp, hsrt, rfl⟩
end Go.Proofs.YtkcaakkaioingaaDoor
