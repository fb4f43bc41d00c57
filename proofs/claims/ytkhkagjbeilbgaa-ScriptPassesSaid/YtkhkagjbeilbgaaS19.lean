/-
  Own work: contracts of functions that the statement reaches, and plain facts on what they compute; each theorem says its conditions.
-/
import Derived.Test.YtkhkagjbeilbgaaS18
set_option linter.all false
set_option linter.unusedSimpArgs false
set_option linter.unusedVariables false
namespace Go.Proofs.Ytkhkagjbeilbgaa
open Go Go.Sl
attribute [local irreducible] W
open Go.Script
/-! ## There and back -/
theorem takeN_cons (a : Nat) (w : List Nat) (p : Int) (r : List Int) : takeN (a :: w) (lowL p a ++ r) = numL (lowL p a) :: takeN w r := by
  show numL ((lowL p a ++ r).take a) :: takeN w ((lowL p a ++ r).drop a) = _
  rw [List.take_left' (lowL_len a p), List.drop_left' (lowL_len a p)]
theorem partsL_five (p0 p1 p2 p3 p4 : Int) (a0 a1 a2 a3 a4 : Nat) : partsL [p0, p1, p2, p3, p4] [a0, a1, a2, a3, a4] = lowL p0 a0 ++ (lowL p1 a1 ++ (lowL p2 a2 ++ (lowL p3 a3 ++ lowL p4 a4))) := by
  simp [partsL, List.range, List.range.loop]
theorem take_parts {p0 p1 p2 p3 p4 : Int} {a0 a1 a2 a3 a4 : Nat} (h0 : 0 ≤ p0 ∧ p0 < 256 ^ a0) (h1 : 0 ≤ p1 ∧ p1 < 256 ^ a1) (h2 : 0 ≤ p2 ∧ p2 < 256 ^ a2) (h3 : 0 ≤ p3 ∧ p3 < 256 ^ a3) (h4 : 0 ≤ p4 ∧ p4 < 256 ^ a4) (r : List Int) :
    takeN [a0, a1, a2, a3, a4] (partsL [p0, p1, p2, p3, p4] [a0, a1, a2, a3, a4] ++ r) = [p0, p1, p2, p3, p4] := by
  rw [partsL_five, List.append_assoc, List.append_assoc, List.append_assoc, List.append_assoc, takeN_cons, takeN_cons, takeN_cons, takeN_cons, takeN_cons,
    num_low _ _ h0.1 h0.2, num_low _ _ h1.1 h1.2, num_low _ _ h2.1 h2.2, num_low _ _ h3.1 h3.2, num_low _ _ h4.1 h4.2]
  rfl
theorem bound_w : ∀ n : Fin 18, ∀ i : Fin 3, (shW (n.val : Int)).getD i.val 0 ≠ 0 → 0 ≤ (shB (n.val : Int)).getD (2 * i.val) 0 ∧ (shB (n.val : Int)).getD (2 * i.val + 1) 0 < 256 ^ ((shW (n.val : Int)).getD i.val 0) := by decide +kernel
theorem wide_w : ∀ n : Fin 18, ((shW (n.val : Int)).getD 3 0 = 0 ∨ (shW (n.val : Int)).getD 3 0 = 8) ∧ ((shW (n.val : Int)).getD 4 0 = 0 ∨ (shW (n.val : Int)).getD 4 0 = 8) := by decide +kernel
structure Right (s : St) : Prop where
  k : isK s.kind = true
  form : ∀ i, i < 5 → badForm (shW s.kind) s.parts i = false
  rng : ∀ i, i < 3 → outB (shB s.kind) s.abc i = false
  raw : rawOk s.kind s.raw.length = true
theorem right_of {s : St} (h : chk s = 0) : Right s := by
  obtain ⟨hk, _, _, hr⟩ := len_chk h
  unfold chk at h
  rw [if_neg (by simp [hk])] at h
  by_cases h1 : (List.range 5).any (badForm (shW s.kind) s.parts) = true
  · rw [if_pos h1] at h; cases h
  · rw [if_neg h1] at h
    by_cases h2 : 0 < s.raw.length ∧ s.kind ≠ 5 ∧ s.kind ≠ 6
    · rw [if_pos h2] at h; cases h
    · rw [if_neg h2] at h
      by_cases h3 : (List.range 3).any (outB (shB s.kind) s.abc) = true
      · rw [if_pos h3] at h; cases h
      · exact ⟨hk, any5.1 (by simpa using h1), any5.1 (by simpa using h3), hr⟩
theorem part_fits {s : St} (ho : StOk s) (h : Right s) {i : Nat} (hi : i < 5) : 0 ≤ s.parts.getD i 0 ∧ s.parts.getD i 0 < 256 ^ ((shW s.kind).getD i 0) := by
  have hw := parts_wd ho i
  refine ⟨hw.1, ?_⟩
  by_cases h0 : (shW s.kind).getD i 0 = 0
  · have hf := h.form i hi
    unfold badForm at hf
    rw [h0] at hf ⊢
    simp only [decide_true, Bool.true_and, decide_eq_false_iff_not, ne_eq, Decidable.not_not] at hf
    rw [hf]; decide
  · obtain ⟨n, hn⟩ := isK_nat h.k
    by_cases h3 : i < 3
    · have hb := bound_w n ⟨i, h3⟩
      rw [← hn] at hb
      obtain ⟨hlo, hhi⟩ := hb h0
      have ho' := h.rng i h3
      unfold outB at ho'
      simp only [Bool.or_eq_false_iff, decide_eq_false_iff_not] at ho'
      have e : s.parts.getD i 0 = u64 (s.abc.getD i 0) := by
        match i, h3 with
        | 0, _ => rfl
        | 1, _ => rfl
        | 2, _ => rfl
      have hI : I64 (s.abc.getD i 0) := by
        match i, h3 with
        | 0, _ => exact ho.a
        | 1, _ => exact ho.b
        | 2, _ => exact ho.c
      have hlo' : 0 ≤ s.abc.getD i 0 := Int.le_trans hlo (Int.not_lt.1 ho'.1)
      have hhi' : s.abc.getD i 0 < 256 ^ ((shW s.kind).getD i 0) := Int.lt_of_le_of_lt (Int.not_lt.1 ho'.2) hhi
      rw [e, show u64 (s.abc.getD i 0) = s.abc.getD i 0 by unfold u64 I64 at *; omega]
      exact hhi'
    · have hww := wide_w n
      rw [← hn] at hww
      have h8 : (shW s.kind).getD i 0 = 8 := by
        rcases (show i = 3 ∨ i = 4 by omega) with rfl | rfl
        · exact hww.1.resolve_left h0
        · exact hww.2.resolve_left h0
      rw [h8]; exact hw.2
theorem i64_u64 {z : Int} (h : I64 z) : i64 (u64 z) = z := by unfold i64 u64 I64 at *; omega
theorem one_enc {s : St} (ho : StOk s) (hc : chk s = 0) : one s.kind (encB s) = (s, 0) := by
  have h := right_of hc
  have hlen : (encB s).length = sumL (shW s.kind) + s.raw.length := by unfold encB; rw [List.length_append, partsL_len _ _ (shW_len _)]
  obtain ⟨a0, a1, a2, a3, a4, hw⟩ := len5 (shW_len s.kind)
  have hT : takeN (shW s.kind) (encB s) = s.parts := by
    have f0 := part_fits ho h (i := 0) (by decide)
    have f1 := part_fits ho h (i := 1) (by decide)
    have f2 := part_fits ho h (i := 2) (by decide)
    have f3 := part_fits ho h (i := 3) (by decide)
    have f4 := part_fits ho h (i := 4) (by decide)
    unfold encB
    rw [hw] at f0 f1 f2 f3 f4 ⊢
    exact take_parts f0 f1 f2 f3 f4 s.raw
  have hD : (encB s).drop (sumL (shW s.kind)) = s.raw := by unfold encB; exact List.drop_left' (partsL_len _ _ (shW_len _))
  have hS : ofN s.kind (takeN (shW s.kind) (encB s)) ((encB s).drop (sumL (shW s.kind))) = s := by
    rw [hT, hD]
    have ea := i64_u64 ho.a
    have eb := i64_u64 ho.b
    have ec := i64_u64 ho.c
    show (⟨s.kind, i64 (u64 s.a), i64 (u64 s.b), i64 (u64 s.c), s.x, s.y, s.raw⟩ : St) = s
    rw [ea, eb, ec]
  unfold one
  rw [if_neg (by simp [h.k]), if_neg (by rintro (h1 | h1); omega; (rw [hlen, Nat.add_sub_cancel_left, h.raw] at h1; cases h1))]
  simp only [hS, hc, if_true]
/-- an entry that lies at a place -/
theorem from_entry {b body rest : List Int} {k : Int} {a : Nat} (hd : b.drop a = k :: (lowL (body.length : Nat) 2 ++ body ++ rest)) (hl : body.length < 65536) :
    from_ b a = ⟨a, (one k body).1, (one k body).2⟩ :: from_ b (a + (3 + body.length)) := by
  have hlen : b.length - a = 3 + body.length + rest.length := by
    have := congrArg List.length hd
    simp only [List.length_drop, List.length_cons, List.length_append, lowL_len] at this
    omega
  have hn : body.length = (numL (((b.drop a).drop 1).take 2)).toNat := by
    rw [hd, List.drop_succ_cons, List.drop_zero, List.append_assoc, List.take_left' (lowL_len 2 _), num_low 2 _ (by omega) (by omega)]; simp
  rw [from_step (by omega) hn, if_neg (by omega)]
  have hg : b.getD a 0 = k := by
    have : (b.drop a)[0]? = some k := by rw [hd]; rfl
    rw [List.getElem?_drop, Nat.add_zero] at this
    rw [List.getD, this]; rfl
  have hb : ((b.drop a).drop 3).take body.length = body := by
    rw [hd, List.append_assoc]
    show (((lowL _ 2) ++ (body ++ rest)).drop 2).take body.length = body
    rw [List.drop_left' (lowL_len 2 _), List.take_left' rfl]
  rw [hg, hb]
theorem enc_cons (s : St) : enc s = s.kind :: (lowL ((encB s).length : Nat) 2 ++ encB s) := by
  unfold enc
  rw [show (encB s).length = sumL (shW s.kind) + s.raw.length by unfold encB; rw [List.length_append, partsL_len _ _ (shW_len _)]]
  rfl
theorem enc_len3 (s : St) : (enc s).length = 3 + (encB s).length := by rw [enc_cons, List.length_cons, List.length_append, lowL_len]; omega
theorem encB_len {s : St} (hc : chk s = 0) : (encB s).length ≤ 532 := by
  obtain ⟨_, h2, h3, _⟩ := len_chk hc
  have h4 := enc_len s
  have h5 := enc_len3 s
  omega
theorem from_enc {b rest : List Int} {s : St} {a : Nat} (ho : StOk s) (hc : chk s = 0) (hd : b.drop a = enc s ++ rest) : from_ b a = ⟨a, s, 0⟩ :: from_ b (a + (enc s).length) := by
  have h5 := encB_len hc
  rw [from_entry (k := s.kind) (body := encB s) (rest := rest) (by rw [hd, enc_cons]; simp) (by omega), one_enc ho hc, enc_len3]
/-- entries of right steps, one behind the other -/
def entsOf : Nat → List St → List En
  | _, [] => []
  | a, s :: l => ⟨a, s, 0⟩ :: entsOf (a + (enc s).length) l
theorem encs_cons (s : St) (l : List St) : encs (s :: l) = enc s ++ encs l := rfl
theorem from_encs {b rest : List Int} : ∀ {l : List St} {a : Nat}, (∀ s ∈ l, StOk s ∧ chk s = 0) → b.drop a = encs l ++ rest → from_ b a = entsOf a l ++ from_ b (a + (encs l).length)
  | [], a, _, _ => by simp [entsOf, encs]
  | s :: l, a, h, hd => by
    obtain ⟨h1, h2⟩ := h s List.mem_cons_self
    rw [encs_cons, List.append_assoc] at hd
    rw [from_enc h1 h2 hd, from_encs (l := l) (a := a + (enc s).length) (fun x hx => h x (List.mem_cons_of_mem _ hx)) (by rw [← List.drop_drop, hd, List.drop_left' rfl])]
    rw [encs_cons, List.length_append, Nat.add_assoc]; rfl
theorem parse_encs {l : List St} (h : ∀ s ∈ l, StOk s ∧ chk s = 0) : parse (encs l) = entsOf 0 l := by
  rw [parse_from, from_encs (l := l) (rest := []) h (by simp), from_end (by omega), List.append_nil]
theorem entsOf_len : ∀ (l : List St) (a : Nat), (entsOf a l).length = l.length
  | [], _ => rfl
  | s :: l, a => by simp [entsOf, entsOf_len l]
theorem entsOf_at : ∀ (l : List St) (a i : Nat) (s : St), l[i]? = some s → (entsOf a l)[i]? = some ⟨a + (encs (l.take i)).length, s, 0⟩
  | [], _, _, _, h => by simp at h
  | x :: l, a, 0, s, h => by
    have : x = s := by simpa using h
    subst this; simp [entsOf, encs]
  | x :: l, a, i + 1, s, h => by
    have ih := entsOf_at l (a + (enc x).length) i s (by simpa using h)
    show (entsOf (a + (enc x).length) l)[i]? = _
    rw [ih, List.take_succ_cons, encs_cons, List.length_append, Nat.add_assoc]
theorem enc_inj {s t : St} (hs : StOk s ∧ chk s = 0) (ht : StOk t ∧ chk t = 0) (h : enc s = enc t) : s = t := by
  have e1 := parse_encs (l := [s]) (by intro x hx; simp at hx; subst hx; exact hs)
  have e2 := parse_encs (l := [t]) (by intro x hx; simp at hx; subst hx; exact ht)
  have e3 : encs [s] = encs [t] := by simp [encs, h]
  rw [e3, e2] at e1
  simp [entsOf] at e1
  exact e1.symm
/-- what was read, written again -/
theorem low_take {b : List Int} (hb : Go.Script.Bytes b) {a : Nat} (h : a ≤ b.length) : lowL (numL (b.take a)) a = b.take a := by
  have := low_num (hb.take a)
  rwa [List.length_take, Nat.min_eq_left h] at this
theorem parts_take : ∀ (w : List Nat) (b : List Int), Go.Script.Bytes b → sumL w ≤ b.length → ((takeN w b).zip w).flatMap (fun x => lowL x.1 x.2) = b.take (sumL w)
  | [], b, _, _ => by simp [takeN, sumL]
  | a :: w, b, hb, h => by
    rw [sumL_cons] at h
    have ih := parts_take w (b.drop a) (hb.drop a) (by rw [List.length_drop]; omega)
    show lowL (numL (b.take a)) a ++ ((takeN w (b.drop a)).zip w).flatMap _ = _
    rw [ih, low_take hb (by omega), sumL_cons, List.take_add]
theorem enc_one {k : Int} {body : List Int} (hk : isK k = true) (hb : Go.Script.Bytes body) (h : (one k body).2 = 0) : (one k body).1.kind = k ∧ encB (one k body).1 = body ∧ StOk (one k body).1 := by
  have hk64 : I64 k := by simp only [isK, Bool.and_eq_true, decide_eq_true_eq] at hk; unfold I64; omega
  unfold one at h ⊢
  rw [if_neg (by simp [hk])] at h ⊢
  by_cases h1 : body.length < sumL (shW k) ∨ rawOk k (body.length - sumL (shW k) : Nat) = false
  · rw [if_pos h1] at h; cases h
  · rw [if_neg h1] at h ⊢
    simp only at h ⊢
    by_cases h2 : chk (ofN k (takeN (shW k) body) (body.drop (sumL (shW k)))) = 0
    · rw [if_pos h2]
      refine ⟨rfl, ?_, ofN_ok hk64 hb (shW_8 k) _⟩
      have hsum : sumL (shW k) ≤ body.length := by omega
      have hp := parts_take (shW k) body hb hsum
      have hwd := fun i => takeN_wd (w := shW k) (l := body) hb (shW_8 k) i
      have huu : ∀ z, Wd z → u64 (i64 z) = z := fun z hz => by unfold u64 i64 Wd at *; omega
      unfold encB
      show partsL (ofN k (takeN (shW k) body) (body.drop (sumL (shW k)))).parts (shW k) ++ body.drop (sumL (shW k)) = body
      have e : (ofN k (takeN (shW k) body) (body.drop (sumL (shW k)))).parts = takeN (shW k) body := by
        obtain ⟨a0, a1, a2, a3, a4, hw⟩ := len5 (shW_len k)
        rw [hw] at hwd ⊢
        have h0 := huu _ (hwd 0)
        have h1 := huu _ (hwd 1)
        have h2 := huu _ (hwd 2)
        simp only [St.parts, ofN]
        rw [h0, h1, h2]
        rfl
      rw [e]
      have e2 : partsL (takeN (shW k) body) (shW k) = ((takeN (shW k) body).zip (shW k)).flatMap (fun x => lowL x.1 x.2) := by
        obtain ⟨a0, a1, a2, a3, a4, hw⟩ := len5 (shW_len k)
        rw [hw]
        simp [partsL, takeN, List.range, List.range.loop]
      rw [e2, hp, List.take_append_drop]
    · rw [if_neg h2] at h; exact absurd h h2
theorem back : ∀ (f a : Nat) (b : List Int), b.length ≤ f → Go.Script.Bytes b → (∀ e ∈ parseF f a b, e.err = 0) → encs ((parseF f a b).map En.st) = b
  | 0, _, b, hl, _, _ => by
    have : b = [] := List.eq_nil_of_length_eq_zero (by omega)
    subst this; rfl
  | f + 1, a, b, hl, hb, h => by
    unfold parseF at h ⊢
    by_cases h0 : b.length = 0
    · rw [if_pos h0]
      have : b = [] := List.eq_nil_of_length_eq_zero h0
      subst this; rfl
    · rw [if_neg h0] at h ⊢
      by_cases h3 : b.length < 3
      · rw [if_pos h3] at h; have := h _ List.mem_cons_self; cases this
      · rw [if_neg h3] at h ⊢
        simp only at h ⊢
        have hn := numL_lt8 (l := (b.drop 1).take 2) ((hb.drop 1).take 2) (k := 2) (by simp; omega)
        obtain ⟨n, hnn⟩ : ∃ n, n = (numL ((b.drop 1).take 2)).toNat := ⟨_, rfl⟩
        rw [← hnn] at h ⊢
        by_cases h4 : b.length < 3 + n
        · rw [if_pos h4] at h; have := h _ List.mem_cons_self; cases this
        · rw [if_neg h4] at h ⊢
          have hbody : ((b.drop 3).take n).length = n := by rw [List.length_take, List.length_drop]; omega
          have herr : (one (b.getD 0 0) ((b.drop 3).take n)).2 = 0 := h _ List.mem_cons_self
          have hk : isK (b.getD 0 0) = true := by
            cases hh : isK (b.getD 0 0) with
            | true => rfl
            | false => unfold one at herr; rw [if_pos hh] at herr; cases herr
          obtain ⟨e1, e2, e3⟩ := enc_one hk ((hb.drop 3).take n) herr
          have ih := back f (a + (3 + n)) (b.drop (3 + n)) (by rw [List.length_drop]; omega) (hb.drop _) (fun e he => h e (List.mem_cons_of_mem _ he))
          rw [List.map_cons, encs_cons, ih, enc_cons, e1, e2, hbody]
          have e5 : lowL (n : Nat) 2 = (b.drop 1).take 2 := by
            have hlow := low_num ((hb.drop 1).take 2)
            rw [List.length_take, List.length_drop, Nat.min_eq_left (by omega)] at hlow
            rw [show ((n : Nat) : Int) = numL ((b.drop 1).take 2) by omega]
            exact hlow
          rw [e5]
          have e6 : b = b.getD 0 0 :: ((b.drop 1).take 2 ++ ((b.drop 3).take n ++ b.drop (3 + n))) := by
            match b, h3 with
            | x :: y :: z :: r, _ =>
              show x :: y :: z :: r = x :: y :: z :: (r.take n ++ ((x :: y :: z :: r).drop (3 + n)))
              rw [show (x :: y :: z :: r).drop (3 + n) = r.drop n by rw [Nat.add_comm]; rfl, List.take_append_drop]
            | [], h => simp at h
            | [_], h => simp at h
            | [_, _], h => simp at h
          conv => rhs; rw [e6]
          simp
theorem parse_back {b : List Int} (hb : Go.Script.Bytes b) (h : ∀ e ∈ parse b, e.err = 0) : encs ((parse b).map En.st) = b := back _ _ _ (Nat.le_refl _) hb h
end Go.Proofs.Ytkhkagjbeilbgaa
