/-
  Own work: the small logic, more of its rules; of any program.
-/
import Derived.Test.YtknbohnoiigioaaSlTwo
import Derived.Test.YtknbohnoiigioaaSlArgs
import Derived.Test.YtknbohnoiigioaaSlRow
import Derived.Deep.Slices
import Derived.OpenShut
set_option linter.all false
set_option linter.unusedSimpArgs false
set_option linter.unusedVariables false
namespace Go.Sl
open Go.RowKit
/-! ## Types of numbers, truths and strings alone, to whatever depth -/
theorem flat_take {α : Type} {f : α → List Value} {s : Nat} (hf : ∀ x, (f x).length = s) : ∀ (l : List α) (k : Nat), (l.flatMap f).take (k * s) = (l.take k).flatMap f
  | [], k => by simp
  | x :: l, 0 => by simp
  | x :: l, k + 1 => by
    rw [List.flatMap_cons, List.take_succ_cons, List.flatMap_cons, ← flat_take hf l k, List.take_append, hf, List.take_of_length_le (by rw [hf, Nat.add_mul]; omega)]
    congr 2
    rw [Nat.add_mul]; omega
inductive Leaf where
  | int (q : IntKind)
  | bool
  | string
def Leaf.is : Leaf → Value → Prop
  | .int q, v => ∃ m, v = .int q m ∧ q.min ≤ m ∧ m ≤ q.max
  | .bool, v => ∃ b, v = .bool b
  | .string, v => ∃ s : ByteArray, v = .string s ∧ s.size ≤ maxLen
def Leaf.like : Leaf → Value → Prop
  | .int q, v => ∃ m, v = .int q m
  | .bool, v => ∃ b, v = .bool b
  | .string, v => ∃ s : ByteArray, v = .string s
def Leafs : List Leaf → List Value → Prop
  | [], [] => True
  | k :: ks, v :: vs => k.is v ∧ Leafs ks vs
  | _, _ => False
def Likes : List Leaf → List Value → Prop
  | [], [] => True
  | k :: ks, v :: vs => k.like v ∧ Likes ks vs
  | _, _ => False
theorem leafs_cons {k : Leaf} {ks : List Leaf} {cs : List Value} (h : Leafs (k :: ks) cs) : ∃ v vs, cs = v :: vs ∧ k.is v ∧ Leafs ks vs := by
  cases cs with
  | nil => exact h.elim
  | cons v vs => exact ⟨v, vs, rfl, h.1, h.2⟩
theorem leafs_nil {cs : List Value} (h : Leafs [] cs) : cs = [] := by
  cases cs with
  | nil => rfl
  | cons v vs => exact h.elim
theorem leafs_append : ∀ {ks ls : List Leaf} {xs ys : List Value}, Leafs ks xs → Leafs ls ys → Leafs (ks ++ ls) (xs ++ ys)
  | [], ls, [], ys, _, h => h
  | k :: ks, ls, x :: xs, ys, h, h' => ⟨h.1, leafs_append h.2 h'⟩
  | [], _, _ :: _, _, h, _ => h.elim
  | _ :: _, _, [], _, h, _ => h.elim
theorem likes_append : ∀ {ks ls : List Leaf} {zs : List Value}, Likes (ks ++ ls) zs → ∃ xs ys, zs = xs ++ ys ∧ Likes ks xs ∧ Likes ls ys
  | [], ls, zs, h => ⟨[], zs, rfl, trivial, h⟩
  | k :: ks, ls, [], h => h.elim
  | k :: ks, ls, z :: zs, h => by
    obtain ⟨xs, ys, rfl, h1, h2⟩ := likes_append (ks := ks) h.2
    exact ⟨z :: xs, ys, rfl, ⟨h.1, h1⟩, h2⟩
theorem likes_length : ∀ {ks : List Leaf} {xs : List Value}, Likes ks xs → xs.length = ks.length
  | [], [], _ => rfl
  | k :: ks, x :: xs, h => congrArg (· + 1) (likes_length h.2)
  | [], _ :: _, h => h.elim
  | _ :: _, [], h => h.elim
/-- fields that lie one behind the other -/
inductive FlatFs (P : Program) (F : TypeId → List Leaf → Prop) : List Field → Nat → List Leaf → Prop
  | nil {off : Nat} : FlatFs P F [] off []
  | cons {f : Field} {fs : List Field} {off : Nat} {ks ls : List Leaf} (hn : f.name ≠ "_") (ho : f.offset = off) (hc : P.cellsOf f.type = ks.length) (h : F f.type ks) (hs : FlatFs P F fs (off + ks.length) ls) : FlatFs P F (f :: fs) off (ks ++ ls)
def Leaf.desc : Leaf → TypeDesc
  | .int q => .int q
  | .bool => .bool
  | .string => .string
/-- type t is of leaves ks, to the depth n -/
def Flat (P : Program) : Nat → TypeId → List Leaf → Prop
  | 0, t, ks => ∃ (k : Leaf) (s by_ : Nat) (z : Value), ks = [k] ∧ Ty P t k.desc s z by_
  | n + 1, t, ks => (∃ (k : Leaf) (s by_ : Nat) (z : Value), ks = [k] ∧ Ty P t k.desc s z by_) ∨
    (∃ (s by_ : Nat) (z : Value) (fs : Array Field), Ty P t (.struct fs) s z by_ ∧ P.stoodInHeld t = false ∧ P.cellsOf t = ks.length ∧ FlatFs P (Flat P n) fs.toList 0 ks) ∨
    (∃ (m : Nat) (e : TypeId) (s by_ : Nat) (z : Value) (ls : List Leaf), ks = (List.replicate m ls).flatten ∧ Ty P t (.array m e) s z by_ ∧ P.cellsOf e = ls.length ∧ P.cellsOf t = ks.length ∧ Flat P n e ls)
theorem Flat.leaf {P : Program} {n : Nat} {t : TypeId} {s by_ : Nat} {z : Value} {k : Leaf} (ht : Ty P t k.desc s z by_) : Flat P n t [k] := by
  cases n with
  | zero => exact ⟨k, s, by_, z, rfl, ht⟩
  | succ n => exact .inl ⟨k, s, by_, z, rfl, ht⟩
theorem Flat.struct {P : Program} {n : Nat} {t : TypeId} {s by_ : Nat} {z : Value} {fs : Array Field} {ks : List Leaf} (ht : Ty P t (.struct fs) s z by_) (hp : P.stoodInHeld t = false) (hc : P.cellsOf t = ks.length) (h : FlatFs P (Flat P n) fs.toList 0 ks) : Flat P (n + 1) t ks :=
  .inr (.inl ⟨s, by_, z, fs, ht, hp, hc, h⟩)
theorem Flat.array {P : Program} {n m : Nat} {t e : TypeId} {s by_ : Nat} {z : Value} {ls ks : List Leaf} (ht : Ty P t (.array m e) s z by_) (hks : ks = (List.replicate m ls).flatten) (hce : P.cellsOf e = ls.length) (hc : P.cellsOf t = ks.length) (h : Flat P n e ls) : Flat P (n + 1) t ks :=
  .inr (.inr ⟨m, e, s, by_, z, ls, hks, ht, hce, hc, h⟩)
section
variable {P : Program} {H : Type} {enc : TypeId × Value → H} {w : World} {base : Nat} {spare : Nat → Bool} {held : Bool}
theorem wf_bd {q : IntKind} {m : Int} (h : (Lit.int q m).wf = true) : q.min ≤ m ∧ m ≤ q.max := by
  simpa [Lit.wf] using h
theorem leaf_read {k : Leaf} {t : TypeId} {s by_ : Nat} {z : Value} (ht : Ty P t k.desc s z by_) {fuel : Nat} {cs : List Value} {x : DataW H × List MemPlace} (hx : DataW.trod enc P w base spare held fuel t cs = some x) : Leafs [k] cs := by
  cases k with
  | int q => obtain ⟨m, rfl, _, hw⟩ := DataW.trod_int ht.und hx; exact ⟨⟨m, rfl, wf_bd hw⟩, trivial⟩
  | bool => obtain ⟨b, rfl, _⟩ := DataW.trod_bool ht.und hx; exact ⟨⟨b, rfl⟩, trivial⟩
  | string => obtain ⟨s, rfl, _, h⟩ := DataW.trod_string ht.und hx; exact ⟨⟨s, rfl, h⟩, trivial⟩
/-- what is read as a flat type is of its leaves -/
theorem flat_read : ∀ (n : Nat) {t : TypeId} {ks : List Leaf}, Flat P n t ks → ∀ {fuel : Nat} {cs : List Value} {x : DataW H × List MemPlace}, DataW.trod enc P w base spare held fuel t cs = some x → Leafs ks cs := by
  intro n
  induction n with
  | zero =>
    intro t ks hf fuel cs x hx
    obtain ⟨k, s, by_, z, rfl, ht⟩ := hf
    exact leaf_read ht hx
  | succ n ih =>
    intro t ks hf fuel cs x hx
    rcases hf with ⟨k, s, by_, z, rfl, ht⟩ | ⟨s, by_, z, fs, ht, hp, hc, h⟩ | ⟨m, e, s, by_, z, ls, rfl, ht, hce, hc, h⟩
    · exact leaf_read ht hx
    · obtain ⟨xs, m, _, _, hl, hlen, hfs⟩ := DataW.trod_struct ht.und hx
      have key : ∀ (l : List Field) (off : Nat) (ls : List Leaf), FlatFs P (Flat P n) l off ls → (∀ f ∈ l, ∃ y, DataW.trod enc P w base spare held m f.type ((cs.drop f.offset).take (P.cellsOf f.type)) = some y) → off + ls.length = cs.length → Leafs ls (cs.drop off) := by
        intro l off ls hl
        induction hl with
        | @nil off => intro _ he; rw [List.drop_of_length_le (by simp at he; omega)]; trivial
        | @cons f fs off ks ls hn ho hcf hF hs ih2 =>
          intro hall he
          subst ho
          obtain ⟨y, hy⟩ := hall f List.mem_cons_self
          have h1 := ih hF hy
          have h2 := ih2 (fun g hg => hall g (List.mem_cons_of_mem _ hg)) (by rw [List.length_append] at he; omega)
          have h3 := leafs_append h1 h2
          rw [hcf, ← List.drop_drop, List.take_append_drop] at h3
          exact h3
      have := key fs.toList 0 ks h (fun f hf => by
        obtain ⟨i, hi, rfl⟩ := List.getElem_of_mem hf
        have h1 := hfs i fs.toList[i] (by simp [Array.getElem?_eq_getElem (show i < fs.size by simpa using hi)])
        exact ⟨xs[i]'(by rw [hlen]; simpa using hi), by rw [h1, List.getElem?_eq_getElem]⟩) (by rw [hl, hc]; simp)
      simpa using this
    · obtain ⟨xs, d, _, _, hl, hlen, hxs⟩ := DataW.trod_array ht.und hx
      have key : ∀ (r j : Nat), j + r = m → Leafs (List.replicate r ls).flatten (cs.drop (j * ls.length)) := by
        intro r
        induction r with
        | zero =>
          intro j hj
          obtain rfl : j = m := by omega
          rw [List.drop_of_length_le (by rw [hl, hc]; simp)]; trivial
        | succ r ihr =>
          intro j hj
          have h1 := hxs j (by omega)
          rw [List.getElem?_eq_getElem (by omega)] at h1
          have h2 := ih h h1
          have h3 := leafs_append h2 (ihr (j + 1) (by omega))
          rw [hce, Nat.add_mul, Nat.one_mul, ← List.drop_drop, List.take_append_drop] at h3
          exact h3
      have := key m 0 (by omega)
      simpa using this
/-- a slice of such -/
theorem flat_rows {α : Type} [Inhabited α] {f : α → List Value} {ok : α → Prop} {n : Nat} {t e : TypeId} {ks : List Leaf} (ht : P.underlying t = some (.slice e)) (hF : Flat P n e ks) (hce : P.cellsOf e = ks.length) (hpos : 0 < ks.length)
    (hof : ∀ cs, Leafs ks cs → ∃ y : α, cs = f y ∧ ok y) (hlen : ∀ y, (f y).length = ks.length) {fuel len cap : Nat} {a : Option Addr} {x : DataW H × List MemPlace}
    (hf : DataW.trod enc P w base spare held fuel t (Value.slice a len cap).cells.toList = some x) :
    ∃ l : List α, len = l.length ∧ l.length ≤ cap ∧ cap ≤ maxLen ∧ (∀ y ∈ l, ok y) ∧ InRow w a (l.flatMap f) := by
  rcases Go.Deep.open_slice ht hf with ⟨hcs, _⟩ | ⟨a', len', cap', m, n', D, Pl, hcs, _, hle, hmax, hm, _, hel⟩
  · simp [Value.cells] at hcs
    obtain ⟨rfl, rfl, rfl⟩ := hcs
    exact ⟨[], rfl, Nat.le_refl _, Nat.zero_le _, fun x hx => (by simp at hx), InRow.nil⟩
  · simp [Value.cells] at hcs
    obtain ⟨rfl, rfl, rfl⟩ := hcs
    have hlm : len ≤ m := by rw [hm]; split <;> omega
    have hall : ∀ i, i < len → ∃ y : α, w.cells? base (a'.add (i * ks.length)) ks.length = some (f y) ∧ ok y := fun i hi => by
      obtain ⟨cs, h1, h2⟩ := hel i (by omega)
      rw [hce] at h1
      obtain ⟨y, rfl, hy⟩ := hof _ (flat_read n hF h2)
      exact ⟨y, h1, hy⟩
    obtain ⟨Y, hY⟩ := Go.Deep.choose_lt hall
    refine ⟨(List.range len).map Y, by simp, by simpa using hle, hmax, fun x hx => ?_, InRow.of_spot fun j v hj => ?_⟩
    · obtain ⟨i, hi, rfl⟩ := List.mem_map.1 hx
      exact (hY i (List.mem_range.1 hi)).2
    · have hjl : j < len * ks.length := by
        have := (List.getElem?_eq_some_iff.1 hj).1
        rw [flat_length hlen] at this
        simpa using this
      have hi : j / ks.length < len := Nat.div_lt_of_lt_mul (by rw [Nat.mul_comm]; exact hjl)
      have hc := (hY (j / ks.length) hi).1
      obtain ⟨_, _, hcell⟩ := World.cells?_some hc
      have hmod : j % ks.length < ks.length := Nat.mod_lt _ hpos
      have h1 := hcell (j % ks.length) hmod
      have hk : j % ks.length < (f (Y (j / ks.length))).length := by rw [hlen]; exact hmod
      have h2 := flat_at (l := (List.range len).map Y) hlen (i := j / ks.length) (x := Y (j / ks.length)) (by simp [hi]) (j % ks.length) _ (List.getElem?_eq_getElem hk)
      have hdm : j / ks.length * ks.length + j % ks.length = j := by rw [Nat.mul_comm]; exact Nat.div_add_mod j ks.length
      rw [hdm] at h2
      rw [hj] at h2
      have aa : ∀ (a : Addr) (m n : Nat), (a.add m).add n = a.add (m + n) := fun a m n => by
        unfold Addr.add
        by_cases hm : m = 0
        · subst hm; simp
        · by_cases hn : n = 0
          · subst hn; simp [hm]
          · have h : m + n ≠ 0 := by omega
            simp [hm, hn, Nat.add_assoc]
      rw [Option.some.inj h2, ← List.getElem?_eq_getElem hk, ← h1, aa, hdm]
end
end Go.Sl
