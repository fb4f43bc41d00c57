/-
  Own work: the small logic, more of its rules; of any program.
-/
import Derived.Test.YtknbohnoiigioaaSlFlat
import Derived.Test.YtknbohnoiigioaaSlEq
import Derived.ChangeKeysEq
set_option linter.all false
set_option linter.unusedSimpArgs false
set_option linter.unusedVariables false
namespace Go.Sl
open Go.RowKit
/-! ## Two values of a flat type, held against each other -/
def aggB (P : Program) (t : TypeId) : Bool :=
  match P.underlying t with
  | some (.struct _) | some (.array _ _) => true
  | _ => false
def valOf (P : Program) (t : TypeId) (xs : List Value) : Value := if aggB P t then .agg xs.toArray else xs.headD undef
section
variable {P : Program}
theorem Leaf.flat_desc (k : Leaf) : Go.Sl.flat k.desc = true := by cases k <;> rfl
theorem leaf_aggB {t : TypeId} {s by_ : Nat} {z : Value} {k : Leaf} (ht : Ty P t k.desc s z by_) : aggB P t = false := by
  cases k <;> simp [aggB, ht.und, Leaf.desc]
theorem leaf_eq {t : TypeId} {s by_ : Nat} {z : Value} {k : Leaf} (ht : Ty P t k.desc s z by_) {xs ys : List Value} (hx : Likes [k] xs) (hy : Likes [k] ys) :
    ∃ r : Bool, (r = true ↔ xs = ys) ∧ ∀ d w, (Op.equalIn (d + 1) t (valOf P t xs) (valOf P t ys)).run P w = .ok r w := by
  have e1 : ∀ zs : List Value, Likes [k] zs → ∃ v, zs = [v] ∧ k.like v := fun zs h => by
    match zs, h with
    | [v], h => exact ⟨v, rfl, h.1⟩
  obtain ⟨a, rfl, ha⟩ := e1 xs hx
  obtain ⟨b, rfl, hb⟩ := e1 ys hy
  simp only [valOf, leaf_aggB ht, Bool.false_eq_true, if_false, List.headD_cons]
  cases k with
  | int q =>
    obtain ⟨m, rfl⟩ := ha
    obtain ⟨m', rfl⟩ := hb
    exact ⟨decide (m = m'), by simp, fun d w => eqv_int ht d w⟩
  | bool =>
    obtain ⟨m, rfl⟩ := ha
    obtain ⟨m', rfl⟩ := hb
    exact ⟨m == m', by simp, fun d w => eqv_bool ht d w⟩
  | string =>
    obtain ⟨m, rfl⟩ := ha
    obtain ⟨m', rfl⟩ := hb
    refine ⟨m.toList == m'.toList, ?_, fun d w => eqv_string ht d w⟩
    rw [beq_iff_eq, ByteArray.toList_eq, ByteArray.toList_eq]
    obtain ⟨⟨l⟩⟩ := m
    obtain ⟨⟨l'⟩⟩ := m'
    simp
theorem run_isAgg_of {t : TypeId} {d : TypeDesc} (hu : P.underlying t = some d) (w : World) : (isAgg t).run P w = .ok (aggB P t) w := by
  cases d <;> simp [isAgg, run_underlying hu, aggB, hu, Result.andThen]
theorem run_part {n : Nat} {t : TypeId} {ks : List Leaf} (hF : Flat P n t ks) (hc : P.cellsOf t = ks.length) (XS : Array Value) (off : Nat) (hl : Likes ks ((XS.toList.drop off).take ks.length)) (w : World) :
    (part t XS off).run P w = .ok (valOf P t ((XS.toList.drop off).take ks.length)) w := by
  have leaf : ∀ (k : Leaf) (s by_ : Nat) (z : Value), ks = [k] → Ty P t k.desc s z by_ → (part t XS off).run P w = .ok (valOf P t ((XS.toList.drop off).take ks.length)) w := fun k s by_ z e ht => by
    subst e
    have h1 : ∃ v, (XS.toList.drop off).take 1 = [v] := by
      have hl' : Likes [k] ((XS.toList.drop off).take 1) := hl
      generalize (XS.toList.drop off).take 1 = zs at hl'
      match zs, hl' with
      | [v], _ => exact ⟨v, rfl⟩
    obtain ⟨v, hv⟩ := h1
    have hg := getElem?_of_chunk hv
    simp only [List.length_cons, List.length_nil, Nat.zero_add, hv, valOf, leaf_aggB ht, Bool.false_eq_true, if_false, List.headD_cons]
    simp [part, run_isAgg_of ht.und, leaf_aggB ht, hg, Result.andThen]
  have agg : ∀ (d : TypeDesc) (s by_ : Nat) (z : Value), Ty P t d s z by_ → aggB P t = true → (part t XS off).run P w = .ok (valOf P t ((XS.toList.drop off).take ks.length)) w := fun d s by_ z ht ha => by
    obtain ⟨i, hi, _⟩ := ht.info
    simp only [valOf, ha, if_true]
    have e : XS.extract off (off + P.cellsOf t) = ((XS.toList.drop off).take ks.length).toArray := by
      rw [← hc]
      apply Array.ext'
      simp
    simp [part, run_isAgg_of ht.und, ha, run_sizeOf w hi, e, Result.andThen]
  cases n with
  | zero => obtain ⟨k, s, by_, z, e, ht⟩ := hF; exact leaf k s by_ z e ht
  | succ n =>
    rcases hF with ⟨k, s, by_, z, e, ht⟩ | ⟨s, by_, z, fs, ht, _, _, _⟩ | ⟨m, e, s, by_, z, ls, _, ht, _, _, _⟩
    · exact leaf k s by_ z e ht
    · exact agg _ s by_ z ht (by simp [aggB, ht.und])
    · exact agg _ s by_ z ht (by simp [aggB, ht.und])
theorem likes_split {ks ls : List Leaf} {zs : List Value} (h : Likes (ks ++ ls) zs) : Likes ks (zs.take ks.length) ∧ Likes ls (zs.drop ks.length) := by
  obtain ⟨xs, ys, rfl, h1, h2⟩ := likes_append h
  have := likes_length h1
  rw [← this, List.take_left, List.drop_left]
  exact ⟨h1, h2⟩
theorem flat_eq : ∀ (n : Nat) {t : TypeId} {ks : List Leaf}, Flat P n t ks → ∀ {xs ys : List Value}, Likes ks xs → Likes ks ys →
    ∃ r : Bool, (r = true ↔ xs = ys) ∧ ∀ d w, (Op.equalIn (d + n + 1) t (valOf P t xs) (valOf P t ys)).run P w = .ok r w := by
  intro n
  induction n with
  | zero =>
    intro t ks hf xs ys hx hy
    obtain ⟨k, s, by_, z, rfl, ht⟩ := hf
    exact leaf_eq ht hx hy
  | succ n ih =>
    intro t ks hf xs ys hx hy
    rcases hf with ⟨k, s, by_, z, rfl, ht⟩ | ⟨s, by_, z, fs, ht, hp, hc, h⟩ | ⟨m, e, s, by_, z, ls, rfl, ht, hce, hc, h⟩
    · obtain ⟨r, h1, h2⟩ := leaf_eq ht hx hy
      exact ⟨r, h1, fun d w => h2 _ w⟩
    · have key : ∀ (l : List Field) (off : Nat) (ls : List Leaf), FlatFs P (Flat P n) l off ls → Likes ls (xs.drop off) → Likes ls (ys.drop off) →
          ∃ r : Bool, (r = true ↔ xs.drop off = ys.drop off) ∧ ∀ d w, (Op.eqFields (d + n + 1) xs.toArray ys.toArray l).run P w = .ok r w := by
        intro l off ls hl
        induction hl with
        | @nil off =>
          intro h1 h2
          refine ⟨true, ?_, fun d w => by simp [Op.eqFields]⟩
          have e : ∀ zs : List Value, Likes [] zs → zs = [] := fun zs h => by cases zs with
            | nil => rfl
            | cons _ _ => exact h.elim
          rw [e _ h1, e _ h2]; simp
        | @cons f fs off ks ls hn ho hcf hF hs ih2 =>
          intro h1 h2
          subst ho
          obtain ⟨a1, a2⟩ := likes_split h1
          obtain ⟨b1, b2⟩ := likes_split h2
          rw [List.drop_drop] at a2 b2
          obtain ⟨r, hr, hrun⟩ := ih hF a1 b1
          obtain ⟨r', hr', hrun'⟩ := ih2 a2 b2
          refine ⟨r && r', ?_, fun d w => ?_⟩
          · rw [Bool.and_eq_true, hr, hr']
            constructor
            · rintro ⟨e1, e2⟩
              rw [← List.take_append_drop ks.length (xs.drop f.offset), ← List.take_append_drop ks.length (ys.drop f.offset), e1, List.drop_drop, List.drop_drop, e2]
            · intro e
              exact ⟨by rw [e], by rw [← List.drop_drop, ← List.drop_drop, e]⟩
          · have p1 := run_part hF hcf xs.toArray f.offset (by simpa using a1) w
            have p2 := run_part hF hcf ys.toArray f.offset (by simpa using b1) w
            simp only [List.toList_toArray] at p1 p2
            simp only [Op.eqFields, if_pos hn, Sem.run_bind, p1, p2, hrun d w, Result.andThen_ok]
            cases r with
            | true => simpa using hrun' d w
            | false => simp
      obtain ⟨r, hr, hrun⟩ := key fs.toList 0 ks h (by simpa using hx) (by simpa using hy)
      refine ⟨r, by simpa using hr, fun d w => ?_⟩
      have hfs : P.fieldsOf t = fs := by simp [Program.fieldsOf, ht.und]
      have ha : aggB P t = true := by simp [aggB, ht.und]
      simp only [valOf, ha, if_true]
      rw [run_equalIn_struct w (d + (n + 1)) t _ _ (by rw [hfs]; exact ht.und) hp, hfs]
      exact hrun d w
    · have key : ∀ (r j : Nat), j + r = m → Likes (List.replicate r ls).flatten (xs.drop (j * ls.length)) → Likes (List.replicate r ls).flatten (ys.drop (j * ls.length)) →
          ∃ q : Bool, (q = true ↔ xs.drop (j * ls.length) = ys.drop (j * ls.length)) ∧ ∀ d w, (Op.eqItems (d + n + 1) e ls.length xs.toArray ys.toArray (List.range' j r)).run P w = .ok q w := by
        intro r
        induction r with
        | zero =>
          intro j hj h1 h2
          refine ⟨true, ?_, fun d w => by simp [Op.eqItems]⟩
          have e : ∀ zs : List Value, Likes [] zs → zs = [] := fun zs h => by cases zs with
            | nil => rfl
            | cons _ _ => exact h.elim
          simp only [List.replicate_zero, List.flatten_nil] at h1 h2
          rw [e _ h1, e _ h2]; simp
        | succ r ihr =>
          intro j hj h1 h2
          rw [List.replicate_succ, List.flatten_cons] at h1 h2
          obtain ⟨a1, a2⟩ := likes_split h1
          obtain ⟨b1, b2⟩ := likes_split h2
          have ej : (j + 1) * ls.length = j * ls.length + ls.length := by rw [Nat.add_mul, Nat.one_mul]
          rw [List.drop_drop, ← ej] at a2 b2
          obtain ⟨q, hq, hrun⟩ := ih h a1 b1
          obtain ⟨q', hq', hrun'⟩ := ihr (j + 1) (by omega) a2 b2
          refine ⟨q && q', ?_, fun d w => ?_⟩
          · rw [Bool.and_eq_true, hq, hq']
            constructor
            · rintro ⟨e1, e2⟩
              rw [← List.take_append_drop ls.length (xs.drop (j * ls.length)), ← List.take_append_drop ls.length (ys.drop (j * ls.length)), e1, List.drop_drop, List.drop_drop, ← ej, e2]
            · intro e
              exact ⟨by rw [e], by rw [ej, ← List.drop_drop, ← List.drop_drop, e]⟩
          · have p1 := run_part h hce xs.toArray (j * ls.length) (by simpa using a1) w
            have p2 := run_part h hce ys.toArray (j * ls.length) (by simpa using b1) w
            simp only [List.toList_toArray] at p1 p2
            simp only [List.range'_succ, Op.eqItems, Sem.run_bind, p1, p2, hrun d w, Result.andThen_ok]
            cases q with
            | true => simpa using hrun' d w
            | false => simp
      obtain ⟨q, hq, hrun⟩ := key m 0 (by omega) (by simpa using hx) (by simpa using hy)
      refine ⟨q, by simpa using hq, fun d w => ?_⟩
      have ha : aggB P t = true := by simp [aggB, ht.und]
      simp only [valOf, ha, if_true]
      have hie : ∃ i, P.info? e = some i := by
        have : P.underlying e ≠ none := by
          cases n with
          | zero => obtain ⟨k, s, by_, z, _, ht⟩ := h; rw [ht.und]; simp
          | succ n =>
            rcases h with ⟨k, s, by_, z, _, ht⟩ | ⟨s, by_, z, fs, ht, _, _, _⟩ | ⟨m, e, s, by_, z, ls, _, ht, _, _, _⟩ <;> (rw [ht.und]; simp)
        cases hu : P.underlying e with
        | none => exact absurd hu this
        | some d => exact info_of_underlying hu
      obtain ⟨i, hi⟩ := hie
      rw [run_equalIn_array w (d + (n + 1)) _ _ ht.und hi, hce, List.range_eq_range']
      exact hrun d w
end
section
variable {P : Program} {n : Nat} {env : Env} {x y : Operand} {t u ty : TypeId} {C : World → Prop}
/-- held against each other: as they are the same -/
theorem X_eqF {α : Type} [DecidableEq α] {f : α → List Value} {m : Nat} {ks : List Leaf} {a b : α} (hx : opv env x = some (.agg (f a).toArray)) (hy : opv env y = some (.agg (f b).toArray)) (hF : Flat P m t ks) (ha : aggB P t = true) (hl : ∀ z, Likes ks (f z)) (hinj : ∀ z z', f z = f z' → z = z') (hm : P.eqGuardType P.depth t = false) (hd : m ≤ 9999) :
    Ex P n env C (.binOp .eql t x y u) ty (.bool (decide (a = b))) := fun a' w d pos aft g ha' _ => by
  obtain ⟨r, hr, hrun⟩ := flat_eq m hF (hl a) (hl b)
  have h1 := hrun (9999 - m) w
  rw [show 9999 - m + m + 1 = 10000 by omega] at h1
  simp only [valOf, ha, if_true] at h1
  have e : r = decide (a = b) := by
    rw [Bool.eq_iff_iff, hr, decide_eq_true_eq]
    exact ⟨hinj _ _, fun e => by rw [e]⟩
  subst e
  simp [execOp, ha'.opv hx, ha'.opv hy, run_eqGuard_agg w .eql t x y _ _ hm, run_eql_struct, h1, Result.andThen]
theorem X_neF {α : Type} [DecidableEq α] {f : α → List Value} {m : Nat} {ks : List Leaf} {a b : α} (hx : opv env x = some (.agg (f a).toArray)) (hy : opv env y = some (.agg (f b).toArray)) (hF : Flat P m t ks) (ha : aggB P t = true) (hl : ∀ z, Likes ks (f z)) (hinj : ∀ z z', f z = f z' → z = z') (hm : P.eqGuardType P.depth t = false) (hd : m ≤ 9999) :
    Ex P n env C (.binOp .neq t x y u) ty (.bool (!decide (a = b))) := fun a' w d pos aft g ha' _ => by
  obtain ⟨r, hr, hrun⟩ := flat_eq m hF (hl a) (hl b)
  have h1 := hrun (9999 - m) w
  rw [show 9999 - m + m + 1 = 10000 by omega] at h1
  simp only [valOf, ha, if_true] at h1
  have e : r = decide (a = b) := by
    rw [Bool.eq_iff_iff, hr, decide_eq_true_eq]
    exact ⟨hinj _ _, fun e => by rw [e]⟩
  subst e
  simp [execOp, ha'.opv hx, ha'.opv hy, run_eqGuard_agg w .neq t x y _ _ hm, run_neq_struct, h1, Result.andThen]
end
end Go.Sl
