/-
  Own work: contracts of functions that the statement reaches, and plain facts on what they compute; each theorem says its conditions.
-/
import Derived.Test.YtphdlpmnidiliaaGreatDoorXmT6
import Derived.Test.YtphdlpmnidiliaaGreatDoorXmS1
import Derived.Test.YtphdlpmnidiliaaGreatDoorXmA
set_option linter.all false
set_option linter.unusedSimpArgs false
set_option linter.unusedVariables false
namespace Go.Proofs.YtphdlpmnidiliaaGreatDoor
open Go Go.Sl
attribute [local irreducible] W
structure OInv (E i : Nat) (x : Xm) : Prop where
  knd : x.kind = 2
  ent : x.entries = E
  wrd : x.words = 1
  cl : x.closed = false
  cnt : cntA 1 x.L = x.C.length
  slt : ∀ s ∈ x.L, (s.st = 0 ∨ s.st = 1) ∧ s.own.gen ≤ (i : Int) + 1
theorem cnt_all : ∀ {L : List Slt}, (∀ s ∈ L, s.st = 0 ∨ s.st = 1) → cntA 0 L + cntA 1 L = L.length
  | [], _ => rfl
  | s :: L, h => by
    have ih := cnt_all (L := L) (fun t ht => h t (List.mem_cons_of_mem _ ht))
    unfold cntA at *
    rw [List.countP_cons, List.countP_cons, List.length_cons]
    rcases h s List.mem_cons_self with e | e <;> simp only [e] <;> simp <;> omega
theorem set_all {L : List Slt} {P : Slt → Prop} (h : ∀ s ∈ L, P s) {i : Nat} {t : Slt} (ht : P t) : ∀ s ∈ L.set i t, P s := fun s hs => by
  rcases List.mem_or_eq_of_mem_set hs with hs | rfl
  · exact h s hs
  · exact ht
theorem OInv.up {E i j : Nat} {x : Xm} (h : OInv E i x) (hij : i ≤ j) : OInv E j x := ⟨h.knd, h.ent, h.wrd, h.cl, h.cnt, fun s hs => ⟨(h.slt s hs).1, by have := (h.slt s hs).2; omega⟩⟩
theorem OInv.refE {E i : Nat} {x : Xm} (h : OInv E i x) (hx : x.Ok) : x.refE 0 = 0 := by
  have h1 := cnt_all (fun s hs => (h.slt s hs).1)
  have h2 := hx.le; have h3 := hx.len; have h4 := hx.ent; have h5 := h.cnt
  unfold Xm.refE
  rw [if_neg (by rw [h.knd]; decide), if_neg (by decide), if_neg (by rw [h.knd]; exact fun h => absurd h.1 (by decide)), if_neg (by omega)]
theorem OInv.use {E i : Nat} {x : Xm} (h : OInv E i x) (k : Int) : OInv E i (x.use k) := ⟨h.knd, h.ent, h.wrd, h.cl, h.cnt, h.slt⟩
theorem OInv.set {E i : Nat} {x : Xm} (h : OInv E i x) (k : Int) (g : Hd) (c : Cel) : OInv E i { x.use k with L := setA x.L g (fun s => { s with cel := c }) } := by
  refine ⟨h.knd, h.ent, h.wrd, h.cl, by show cntA 1 (setA _ _ _) = _; rw [cnt_cel]; exact h.cnt, ?_⟩
  show ∀ s ∈ setA x.L g _, _
  by_cases he : errA x.L g = 0
  · obtain ⟨j, s, a1, a2, a3, a4, a5, a6⟩ := errA_ok he
    rw [a6]
    exact set_all h.slt (h.slt s (List.mem_of_getElem? a2))
  · rw [(errA_no he).2]; exact h.slt
theorem OInv.link {E i : Nat} {x : Xm} (h : OInv E i x) {c : Cel} {j : Nat} {s : Slt} (hf : firstF x.L = some j) (hs : x.L[j]? = some s) : OInv E i (x.link c).1 := by
  obtain ⟨s', hs', h0, -⟩ := firstF_some hf
  obtain rfl : s = s' := Option.some.inj (hs.symm.trans hs')
  rw [Xm.link_is hf hs]
  refine ⟨h.knd, h.ent, h.wrd, h.cl, ?_, set_all h.slt ⟨.inr rfl, (h.slt s (List.mem_of_getElem? hs)).2⟩⟩
  have := cntA_set (n := 1) (t := { s with st := 1, cel := c }) hs
  rw [if_neg (by omega)] at this
  have e : ({ s with st := 1, cel := c } : Slt).st = 1 := rfl
  rw [if_pos e, h.cnt] at this
  exact this
theorem OInv.put_in {E i : Nat} {x : Xm} (h : OInv E i x) (hx : x.Ok) {k : Int} (hk : k ∈ x.used) : (x.put 0 k [k]).2.2 = 0 ∧ (x.put 0 k [k]).2.1.out = false ∧ OInv E i (x.put 0 k [k]).1 ∧ (x.put 0 k [k]).1.used = drop1O x.used k ++ [k] := by
  obtain ⟨g, hg⟩ : ∃ g, fndC x.C k = some g := by
    cases hf : fndC x.C k with
    | none => exact absurd (hx.umem.1 hk) (fndC_none.1 hf)
    | some g => exact ⟨g, rfl⟩
  have e : x.put 0 k [k] = ({ x.use k with L := setA x.L g (fun s => { s with cel := ⟨k, W4.of [k]⟩ }) }, ⟨g, zHd, false⟩, errA x.L g) := by
    unfold Xm.put
    rw [if_neg (by rw [h.wrd]; show ¬ (((0 : Int) < 0 ∨ (2 : Int) < 0) ∨ 1 < 1); decide), if_neg (by rw [h.cl]; decide), hg]
    dsimp only
    rw [if_neg (by decide)]
  rw [e]
  exact ⟨hx.err0 hg, rfl, h.set k g _, rfl⟩
theorem OInv.put_new {E i : Nat} {x : Xm} (h : OInv E i x) (hx : x.Ok) {k : Int} (hk : k ∉ x.used) (hn : x.C.length ≠ E) : (x.put 0 k [k]).2.2 = 0 ∧ (x.put 0 k [k]).2.1.out = false ∧ OInv E i (x.put 0 k [k]).1 ∧ (x.put 0 k [k]).1.used = x.used ++ [k] := by
  have hf : fndC x.C k = none := fndC_none.2 (fun hm => hk (hx.umem.2 hm))
  obtain ⟨j, s, hfi, hs⟩ := Xm.free_slot (h.refE hx)
  have e : x.put 0 k [k] = ((x.link ⟨k, W4.of [k]⟩).1, ⟨(x.link ⟨k, W4.of [k]⟩).2, zHd, false⟩, 0) := by
    unfold Xm.put
    rw [if_neg (by rw [h.wrd]; show ¬ (((0 : Int) < 0 ∨ (2 : Int) < 0) ∨ 1 < 1); decide), if_neg (by rw [h.cl]; decide), hf]
    dsimp only
    rw [if_neg (by rw [h.refE hx]; decide), if_neg (by rw [h.ent]; exact hn)]
  rw [e]
  refine ⟨rfl, rfl, h.link hfi hs, ?_⟩
  rw [Xm.link_is hfi hs]
  show drop1O x.used k ++ [k] = _
  rw [drop1O_not hk]
theorem OInv.put_out {E i : Nat} {x : Xm} (h : OInv E i x) (hi : i ≤ 60) (hx : x.Ok) {k o : Int} (hk : k ∉ x.used) (hk2 : 0 ≤ k ∧ k < 18446744073709551616) (hn : x.C.length = E) (ho : x.used[0]? = some o) :
    (x.put 0 k [k]).2.2 = 0 ∧ (x.put 0 k [k]).2.1.out = true ∧ (x.put 0 k [k]).1.key (x.put 0 k [k]).2.1.gone = (o, 0) ∧ ((x.put 0 k [k]).1.free (x.put 0 k [k]).2.1.gone).2 = 0 ∧ OInv E (i + 1) ((x.put 0 k [k]).1.free (x.put 0 k [k]).2.1.gone).1 ∧ ((x.put 0 k [k]).1.free (x.put 0 k [k]).2.1.gone).1.used = drop1O x.used o ++ [k] := by
  have hf : fndC x.C k = none := fndC_none.2 (fun hm => hk (hx.umem.2 hm))
  have hr := h.refE hx
  obtain ⟨j, s, hfi, hs⟩ := Xm.free_slot hr
  have hhd : x.used.headD 0 = o := by
    cases hu : x.used with
    | nil => rw [hu] at ho; cases ho
    | cons a t => rw [hu] at ho; exact Option.some.inj ho
  have hom : o ∈ x.used := List.mem_of_getElem? ho
  have hok : o ≠ k := fun e => hk (e ▸ hom)
  obtain ⟨g, hg⟩ : ∃ g, fndC x.C o = some g := by
    cases hf : fndC x.C o with
    | none => exact absurd (hx.umem.1 hom) (fndC_none.1 hf)
    | some g => exact ⟨g, rfl⟩
  obtain ⟨m, t, b1, b2, b3, b4, b5⟩ := hx.own hg
  have e : x.put 0 k [k] = ({ x with L := x.L.set j { s with st := 1, cel := ⟨k, W4.of [k]⟩ }, C := (k, s.own) :: delC x.C o, used := drop1O (drop1O x.used o) k ++ [k] }, ⟨s.own, g, true⟩, 0) := by
    unfold Xm.put
    rw [if_neg (by rw [h.wrd]; show ¬ (((0 : Int) < 0 ∨ (2 : Int) < 0) ∨ 1 < 1); decide), if_neg (by rw [h.cl]; decide), hf]
    dsimp only
    rw [if_neg (by rw [hr]; decide), if_pos (by rw [h.ent]; exact hn), hhd]
    rw [Xm.link_is (x := (x.unlink o).1) hfi hs]
    show (_, Putt.mk s.own ((fndC x.C o).getD zHd) true, (0 : Int)) = _
    rw [hg]
    rfl
  have hjm : j ≠ m := fun e => by
    subst e
    obtain ⟨s', hs', h0, -⟩ := firstF_some hfi
    obtain rfl : s = s' := Option.some.inj (hs.symm.trans hs')
    obtain rfl : s = t := Option.some.inj (hs.symm.trans b2)
    omega
  have hm2 : (x.L.set j { s with st := 1, cel := ⟨k, W4.of [k]⟩ })[m]? = some t := by rw [List.getElem?_set_ne hjm]; exact b2
  have he2 : errA (x.L.set j { s with st := 1, cel := ⟨k, W4.of [k]⟩ }) g = 0 := errA_is b1 hm2 b3 b4
  obtain ⟨m', t', c1, c2, c3, c4, c5, c6⟩ := errA_ok he2
  obtain rfl : m = m' := by omega
  obtain rfl : t = t' := Option.some.inj (hm2.symm.trans c2)
  have hdr : drop1O (drop1O x.used o) k = drop1O x.used o := drop1O_not (fun hm => hk (drop1O_mem.1 hm).1)
  rw [e]
  have hl : Xm.linked { x with L := x.L.set j { s with st := 1, cel := ⟨k, W4.of [k]⟩ }, C := (k, s.own) :: delC x.C o, used := drop1O (drop1O x.used o) k ++ [k] } g = false := by
    unfold Xm.linked
    dsimp only
    rw [he2, c5, b5]
    have : fndC ((k, s.own) :: delC x.C o) o = none := fndC_none.2 (fun hm => by
      rcases List.mem_cons.1 hm with e | hm
      · exact hok e
      · replace hm : o ∈ keyL (delC x.C o) := hm
        rw [keyL_del] at hm; exact (of_decide_eq_true (List.mem_filter.1 hm).2) rfl)
    rw [this]; rfl
  have hfr : Xm.free { x with L := x.L.set j { s with st := 1, cel := ⟨k, W4.of [k]⟩ }, C := (k, s.own) :: delC x.C o, used := drop1O (drop1O x.used o) k ++ [k] } g = ({ x with L := (x.L.set j { s with st := 1, cel := ⟨k, W4.of [k]⟩ }).set m (relS t), C := (k, s.own) :: delC x.C o, used := drop1O (drop1O x.used o) k ++ [k] }, 0) := by
    unfold Xm.free
    rw [hl]
    dsimp only
    rw [he2, if_neg (by decide), if_neg (by decide), c6]
  refine ⟨rfl, rfl, ?_, ?_, ?_, ?_⟩
  · show ((celA _ g).key, errA _ g) = _
    rw [he2, c5, b5]
  · show (Xm.free _ g).2 = 0
    rw [hfr]
  · show OInv E (i + 1) (Xm.free _ g).1
    rw [hfr]
    have hts := h.slt t (List.mem_of_getElem? b2)
    have hss := h.slt s (List.mem_of_getElem? hs)
    have hrt : relS t = ⟨⟨t.own.slot, t.own.gen + 1⟩, 0, zCel⟩ := by unfold relS; rw [if_neg (by omega)]
    refine ⟨h.knd, h.ent, h.wrd, h.cl, ?_, ?_⟩
    · show cntA 1 ((x.L.set j _).set m (relS t)) = (_ :: delC x.C o).length
      have q1 := cntA_set (n := 1) (t := { s with st := 1, cel := ⟨k, W4.of [k]⟩ }) hs
      have q2 := cntA_set (n := 1) (t := relS t) hm2
      have e1 : ({ s with st := 1, cel := ⟨k, W4.of [k]⟩ } : Slt).st = 1 := rfl
      have e2 : ¬ (relS t).st = 1 := by rw [hrt]; show ¬ (0 : Nat) = 1; decide
      obtain ⟨s', hs', h0, -⟩ := firstF_some hfi
      obtain rfl : s = s' := Option.some.inj (hs.symm.trans hs')
      rw [if_neg (by omega), if_pos e1, h.cnt] at q1
      rw [if_pos b3, if_neg e2] at q2
      have := delC_len hx.nd (hx.umem.1 hom)
      rw [List.length_cons]
      omega
    · show ∀ u ∈ (x.L.set j _).set m (relS t), _
      refine set_all (set_all (fun u hu => ⟨(h.slt u hu).1, by have := (h.slt u hu).2; omega⟩) ⟨.inr rfl, by show s.own.gen ≤ _; omega⟩) ?_
      rw [hrt]
      exact ⟨.inl rfl, by show t.own.gen + 1 ≤ ((i + 1 : Nat) : Int) + 1; omega⟩
  · show (Xm.free _ g).1.used = _
    rw [hfr]
    show drop1O (drop1O x.used o) k ++ [k] = _
    rw [hdr]
theorem drop1O_at {m : List Int} {q : Nat} {k : Int} (hn : m.Nodup) (hq : m[q]? = some k) : drop1O m k = m.eraseIdx q := by
  induction m generalizing q with
  | nil => simp at hq
  | cons a m ih =>
    have hn' := List.nodup_cons.1 hn
    cases q with
    | zero =>
      obtain rfl : a = k := by simpa using hq
      show List.filter _ (a :: m) = m
      rw [List.filter_cons_of_neg (by simp)]
      exact drop1O_not hn'.1
    | succ q =>
      have hq' : m[q]? = some k := by simpa using hq
      have hne : a ≠ k := fun e => hn'.1 (e ▸ List.mem_of_getElem? hq')
      show List.filter _ (a :: m) = a :: m.eraseIdx q
      rw [List.filter_cons_of_pos (by simpa using hne), ← ih hn'.2 hq']
      rfl
def ShAt (a b : List Int) (q k : Nat) : Prop := b.length = a.length ∧ ∀ p, b[p]? = if q ≤ p ∧ p < k then a[p + 1]? else a[p]?
theorem ShAt.start (a : List Int) (q : Nat) : ShAt a a q q := ⟨rfl, fun p => by rw [if_neg (by omega)]⟩
theorem ShAt.step {a b : List Int} {q k : Nat} {x : Int} (h : ShAt a b q k) (hq : q ≤ k) (hk : k < a.length) (hx : a[k + 1]? = some x) : ShAt a (b.set k x) q (k + 1) := by
  refine ⟨by rw [List.length_set]; exact h.1, fun p => ?_⟩
  by_cases e : k = p
  · subst e
    rw [List.getElem?_set_self (by rw [h.1]; exact hk), if_pos (by omega), hx]
  · rw [List.getElem?_set_ne e, h.2 p]
    by_cases c : q ≤ p ∧ p < k
    · rw [if_pos c, if_pos (by omega)]
    · rw [if_neg c, if_neg (by omega)]
theorem ShAt.next {a b : List Int} {q k : Nat} (h : ShAt a b q k) : b[k + 1]? = a[k + 1]? := by rw [h.2, if_neg (by omega)]
theorem ShAt.over {a b u : List Int} {q n : Nat} {key : Int} (h : ShAt a b q (n - 1)) (hn : u.length = n) (hq : q < n) (hl : n ≤ a.length) (ha : a.take n = u) : (b.set (n - 1) key).take n = u.eraseIdx q ++ [key] := by
  have hu : ∀ p, p < n → u[p]? = a[p]? := fun p hp => by rw [← ha, List.getElem?_take, if_pos hp]
  have hel : (u.eraseIdx q).length = n - 1 := by rw [List.length_eraseIdx_of_lt (by omega)]; omega
  apply List.ext_getElem?
  intro p
  by_cases hp : p < n
  · rw [List.getElem?_take, if_pos hp]
    by_cases e : n - 1 = p
    · subst e
      rw [List.getElem?_set_self (by rw [h.1]; omega), List.getElem?_append_right (by omega), hel, Nat.sub_self]; rfl
    · rw [List.getElem?_set_ne e, h.2 p, List.getElem?_append_left (by omega), List.getElem?_eraseIdx]
      by_cases c : q ≤ p
      · rw [if_pos (by omega), if_neg (by omega), hu _ (by omega)]
      · rw [if_neg (by omega), if_pos (by omega), hu _ (by omega)]
  · rw [List.getElem?_take, if_neg hp, List.getElem?_eq_none (by rw [List.length_append, hel, List.length_singleton]; omega)]
theorem take_new {a u : List Int} {n : Nat} {key : Int} (hl : n < a.length) (ha : a.take n = u) : (a.set n key).take (n + 1) = u ++ [key] := by
  rw [takeAt' (l := a.set n key) (i := n) (x := key) (by rw [List.getElem?_set_self hl]), List.take_set_of_le (Nat.le_refl n), ha]
def AtIs (u : List Int) (key z : Int) : Prop := (z = -1 ∧ key ∉ u) ∨ ∃ q : Nat, z = (q : Int) ∧ u[q]? = some key
end Go.Proofs.YtphdlpmnidiliaaGreatDoor
