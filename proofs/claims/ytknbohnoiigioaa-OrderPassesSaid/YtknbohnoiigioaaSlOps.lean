/-
  Own work: the small logic, its rules for single operations; of any program.
-/
import Derived.Test.YtknbohnoiigioaaSlCore
set_option linter.all false
set_option linter.unusedSimpArgs false
set_option linter.unusedVariables false
namespace Go.Sl
open Go.RowKit

/-- what is known of a type -/
structure Ty (P : Program) (t : TypeId) (d : TypeDesc) (s : Nat) (z : Value) (bytes : Nat) : Prop where
  und : P.underlying t = some d
  info : ∃ i, P.info? t = some i ∧ i.size = s ∧ i.zero = some z ∧ i.bytes = bytes
def flat : TypeDesc → Bool
  | .struct _ | .array _ _ => false
  | _ => true
section
variable {P : Program} {t : TypeId} {d : TypeDesc} {s : Nat} {z : Value} {by_ : Nat}
theorem Ty.run (h : Ty P t d s z by_) (w : World) : (underlying t).run P w = .ok d w := run_underlying h.und w
theorem Ty.size (h : Ty P t d s z by_) (w : World) : (sizeOf t).run P w = .ok s w := by
  obtain ⟨i, h1, h2, _⟩ := h.info; simp [sizeOf, typeInfo, h1, Result.andThen, h2]
theorem Ty.zero (h : Ty P t d s z by_) (w : World) : (zeroValue t).run P w = .ok z w := by
  obtain ⟨i, h1, _, h3, _⟩ := h.info; simp [zeroValue, typeInfo, h1, Result.andThen, h3]
theorem Ty.isAgg (h : Ty P t d s z by_) (w : World) : (isAgg t).run P w = .ok (!flat d) w := by
  have := h.run w
  cases d <;> simp [Go.isAgg, this, Result.andThen, flat]
theorem Ty.tinfo (h : Ty P t d s z by_) (w : World) : ∃ i, (typeInfo t).run P w = .ok i w ∧ i.size = s ∧ i.zero = some z ∧ i.bytes = by_ := by
  obtain ⟨i, h1, h2⟩ := h.info; exact ⟨i, by simp [typeInfo, h1, Result.andThen], h2⟩
end

section core
variable {P : Program} {rd : Option Nat} {w0 : World} {Q : Exit → Act → World → Prop} {n : Nat} {ds : List Deferred} {k : List It} {env env' : Env} {H H' : Heap} {all : Array Oper} {rest : List Oper}
/-- one operation that yields a value -/
theorem W_gen {o : Oper} (hg : o.guard = none) (hdef : ∀ c, o.op ≠ .defer c) (hd : dok n o.dst = true)
    (h : ∀ a w, Agree n env a → Sat w0 H w → ∃ v H' w', ((execOp a.eval o).run P w = .ok (.value v) w' ∨ ((execOp a.eval o).run P w = .ok .skip w' ∧ v = undef)) ∧ Sat w0 H' w' ∧ W P rd w0 Q n ds (.ops all rest :: k) (put o.dst v env) H') :
    W P rd w0 Q n ds (.ops all (o :: rest) :: k) env H := by
  intro a w ha hds hs
  obtain ⟨v, H', w', hr, hs', hW⟩ := h a w ha hs
  show wpListIn (fen rd) 0 P all (Cont P rd Q k) (o :: rest) a w
  unfold wpListIn
  rw [if_pos (by simp [Region.wanted, hg])]
  refine ⟨fun _ _ => trivial, ?_⟩
  rw [Oper.semAt_eq _ _ _ hdef]
  rcases hr with hr | ⟨hr, rfl⟩
  · rw [hr, Oper.uponIn_value]
    exact hW (a.put o.dst v) w' (ha.put hd) (by cases o.dst <;> exact hds) hs'
  · rw [hr, Oper.uponIn_skip]
    exact hW (a.put o.dst _) w' (ha.put hd) (by cases o.dst <;> exact hds) hs'
/-- a value that hangs on the slots alone -/
theorem W_pure {o : Oper} {v : Value} (hg : o.guard = none) (hdef : ∀ c, o.op ≠ .defer c) (hd : dok n o.dst = true)
    (hv : ∀ a w, Agree n env a → Sat w0 H w → (execOp a.eval o).run P w = .ok (.value v) w) (h : W P rd w0 Q n ds (.ops all rest :: k) (put o.dst v env) H) :
    W P rd w0 Q n ds (.ops all (o :: rest) :: k) env H :=
  W_gen hg hdef hd fun a w ha hs => ⟨v, H, w, .inl (hv a w ha hs), hs, h⟩
/-- guards -/
theorem W_gyes {d : Option Nat} {op : Op} {t : TypeId} {pos : String} {aft : Array Edge} {j : Nat} {b : Bool} {dj : Nat}
    (hj : (all[j]?).bind (·.dst) = some dj) (ht : look env dj = some (.bool b))
    (h : W P rd w0 Q n ds (.ops all (⟨d, op, t, pos, aft, none⟩ :: rest) :: k) env H) : W P rd w0 Q n ds (.ops all (⟨d, op, t, pos, aft, some (j, b)⟩ :: rest) :: k) env H := by
  intro a w ha hds hs
  have h1 := h a w ha hds hs
  have hv := ha.val _ _ ht
  have hy : yielded all a.tmps j = some b := by
    unfold yielded
    rw [hj]
    simp only [Option.bind_some]
    have hlt : dj < a.tmps.size := by
      rcases Nat.lt_or_ge dj a.tmps.size with h | h
      · exact h
      · rw [Array.getD_eq_getD_getElem?, Array.getElem?_eq_none h] at hv; simp [undef] at hv
    rw [Array.getD_eq_getD_getElem?, Array.getElem?_eq_getElem hlt] at hv
    rw [Array.getElem?_eq_getElem hlt]
    simp only [Option.getD_some] at hv
    rw [hv]
  show wpListIn (fen rd) 0 P all (Cont P rd Q k) (_ :: rest) a w
  have h1' : wpListIn (fen rd) 0 P all (Cont P rd Q k) (⟨d, op, t, pos, aft, none⟩ :: rest) a w := h1
  unfold wpListIn at h1' ⊢
  rw [if_pos (by simp [Region.wanted])] at h1'
  rw [if_pos (by simp [Region.wanted, hy])]
  exact h1'
theorem W_gno {d : Option Nat} {op : Op} {t : TypeId} {pos : String} {aft : Array Edge} {j : Nat} {b : Bool} {dj : Nat}
    (hj : (all[j]?).bind (·.dst) = some dj) (ht : look env dj = some (.bool (!b))) (hd : dok n d = true)
    (h : W P rd w0 Q n ds (.ops all rest :: k) (put d undef env) H) : W P rd w0 Q n ds (.ops all (⟨d, op, t, pos, aft, some (j, b)⟩ :: rest) :: k) env H := by
  intro a w ha hds hs
  have hv := ha.val _ _ ht
  have hy : yielded all a.tmps j = some (!b) := by
    unfold yielded
    rw [hj]
    simp only [Option.bind_some]
    have hlt : dj < a.tmps.size := by
      rcases Nat.lt_or_ge dj a.tmps.size with h | h
      · exact h
      · rw [Array.getD_eq_getD_getElem?, Array.getElem?_eq_none h] at hv; simp [undef] at hv
    rw [Array.getD_eq_getD_getElem?, Array.getElem?_eq_getElem hlt] at hv
    rw [Array.getElem?_eq_getElem hlt]
    simp only [Option.getD_some] at hv
    rw [hv]
  show wpListIn (fen rd) 0 P all (Cont P rd Q k) (_ :: rest) a w
  unfold wpListIn
  rw [if_neg (by simp [Region.wanted, hy])]
  exact ⟨fun _ _ => trivial, h (a.put d undef) w (ha.put hd) (by cases d <;> exact hds) hs⟩
/-- the ways of an '&&' or '||' meet again: 'l' is walked to its end, then slot 's' holds 'v' and all else is as it was said ahead of it -/
theorem W_join (m : Nat) (env' : Env) {l : List Oper}
    (h1 : W P rd w0 Q n ds (.ops all (l.take m) :: .goal (fun a w => Agree n env' a ∧ a.defers = ds ∧ Sat w0 H w) :: k) env H)
    (h2 : W P rd w0 Q n ds (.ops all (l.drop m) :: k) env' H) : W P rd w0 Q n ds (.ops all l :: k) env H := by
  intro a w ha hds hs
  have h := h1 a w ha hds hs
  show wpListIn (fen rd) 0 P all (Cont P rd Q k) l a w
  have key : ∀ (l1 l2 : List Oper) (a : Act) (w : World),
      wpListIn (fen rd) 0 P all (Cont P rd Q (.goal (fun a w => Agree n env' a ∧ a.defers = ds ∧ Sat w0 H w) :: k)) l1 a w →
      (∀ a w, Agree n env' a → a.defers = ds → Sat w0 H w → wpListIn (fen rd) 0 P all (Cont P rd Q k) l2 a w) →
      wpListIn (fen rd) 0 P all (Cont P rd Q k) (l1 ++ l2) a w := by
    intro l1
    induction l1 with
    | nil => intro l2 a w h1 h2; exact h2 a w h1.1 h1.2.1 h1.2.2
    | cons o l1 ih =>
      intro l2 a w h1 h2
      simp only [List.cons_append]
      unfold wpListIn at h1 ⊢
      split at h1
      · rename_i hw
        rw [if_pos hw]
        refine ⟨h1.1, ?_⟩
        have h3 := h1.2
        generalize (o.semAt (fen rd).round a.eval).run P w = r at h3 ⊢
        cases r with
        | ok x w' =>
          cases x <;> simp only [Oper.uponIn] at h3 ⊢
          case value v => exact ih l2 _ _ h3 h2
          case skip => exact ih l2 _ _ h3 h2
          case defer d => exact ih l2 _ _ h3 h2
          case enter f args =>
            refine ⟨h3.1, h3.2.mono ?_⟩
            intro e w'' he
            cases e with
            | returned v => exact ih l2 _ _ he h2
            | panicked c => exact he
            | outgrown => exact he
          case row r args => exact ⟨h3.1, h3.2.mono fun v w'' he => ih l2 _ _ he h2⟩
          case round l f tmps as body =>
            refine ⟨h3.1, h3.2.mono ?_⟩
            intro e w'' he
            cases e with
            | returned v => exact ih l2 _ _ he h2
            | panicked c => exact he
            | outgrown => exact he
        | halt x w' => cases x <;> simp only [Oper.uponIn] at h3 ⊢ <;> exact h3
      · rename_i hw
        rw [if_neg hw]
        exact ⟨h1.1, ih l2 _ _ h1.2 h2⟩
  have := key (l.take m) (l.drop m) a w h (fun a w ha hd hs => h2 a w ha hd hs)
  rwa [List.take_append_drop] at this
end core

section ops
variable {P : Program} {rd : Option Nat} {w0 : World} {Q : Exit → Act → World → Prop} {n : Nat} {ds : List Deferred} {k : List It} {env env' : Env} {H H' : Heap} {all : Array Oper} {rest : List Oper}
variable {d : Nat} {x y c : Operand} {t u : TypeId} {pos : String} {aft : Array Edge} {v : Value}
theorem W_move (hx : opv env x = some v) (hd : Nat.blt d n = true) (h : W P rd w0 Q n ds (.ops all rest :: k) ((d, v) :: env) H) :
    W P rd w0 Q n ds (.ops all (⟨some d, .move x, t, pos, aft, none⟩ :: rest) :: k) env H :=
  W_pure rfl nofun hd (fun a w ha _ => by simp [execOp, ha.opv hx]) h
theorem W_assign (hx : opv env x = some v) (hd : Nat.blt d n = true) (h : W P rd w0 Q n ds (.ops all rest :: k) ((d, v) :: env) H) :
    W P rd w0 Q n ds (.ops all (⟨some d, .assign x, t, pos, aft, none⟩ :: rest) :: k) env H :=
  W_pure rfl nofun hd (fun a w ha _ => by simp [execOp, ha.opv hx]) h
/-- a pick of which both sides are bools -/
theorem W_pickb {b p q : Bool} (hc : opv env c = some (.bool b)) (hx : b = true → opv env x = some (.bool p)) (hy : b = false → opv env y = some (.bool q)) (hd : Nat.blt d n = true)
    (h : W P rd w0 Q n ds (.ops all rest :: k) ((d, .bool (bif b then p else q)) :: env) H) :
    W P rd w0 Q n ds (.ops all (⟨some d, .pick c x y, t, pos, aft, none⟩ :: rest) :: k) env H :=
  W_pure rfl nofun hd (fun a w ha _ => by
    cases b with
    | true => simp [execOp, ha.opv hc, asBool, ha.opv (hx rfl), Result.andThen]
    | false => simp [execOp, ha.opv hc, asBool, ha.opv (hy rfl), Result.andThen]) h
theorem W_pickt (hc : opv env c = some (.bool true)) (hx : opv env x = some v) (hd : Nat.blt d n = true)
    (h : W P rd w0 Q n ds (.ops all rest :: k) ((d, v) :: env) H) :
    W P rd w0 Q n ds (.ops all (⟨some d, .pick c x y, t, pos, aft, none⟩ :: rest) :: k) env H :=
  W_pure rfl nofun hd (fun a w ha _ => by simp [execOp, ha.opv hc, asBool, ha.opv hx, Result.andThen]) h
theorem W_pickf (hc : opv env c = some (.bool false)) (hx : opv env y = some v) (hd : Nat.blt d n = true)
    (h : W P rd w0 Q n ds (.ops all rest :: k) ((d, v) :: env) H) :
    W P rd w0 Q n ds (.ops all (⟨some d, .pick c x y, t, pos, aft, none⟩ :: rest) :: k) env H :=
  W_pure rfl nofun hd (fun a w ha _ => by simp [execOp, ha.opv hc, asBool, ha.opv hx, Result.andThen]) h

/-! ### Integers -/
section bin
variable {q q' : IntKind} {i j : Int} {r : Value} {ty : TypeId}
theorem W_bin {op : BinOp} (hx : opv env x = some (.int q i)) (hy : opv env y = some (.int q' j)) (hop : ∀ P w, (Go.binOp op t (.int q i) (.int q' j)).run P w = .ok r w) (hd : Nat.blt d n = true)
    (h : W P rd w0 Q n ds (.ops all rest :: k) ((d, r) :: env) H) : W P rd w0 Q n ds (.ops all (⟨some d, .binOp op t x y u, ty, pos, aft, none⟩ :: rest) :: k) env H :=
  W_pure rfl nofun hd (fun a w ha _ => by
    have he : (eqGuard op t x y (.int q i) (.int q' j)).run P w = .ok () w := by
      unfold eqGuard; cases op <;> simp
    simp [execOp, ha.opv hx, ha.opv hy, he, hop, Result.andThen]) h
theorem b_add {m : Int} (h : q.wrap (i + j) = m) (P : Program) (w : World) : (Go.binOp .add t (.int q i) (.int q j)).run P w = .ok (.int q m) w := by simp [Go.binOp, Op.intArith, h]
theorem b_sub {m : Int} (h : q.wrap (i - j) = m) (P : Program) (w : World) : (Go.binOp .sub t (.int q i) (.int q j)).run P w = .ok (.int q m) w := by simp [Go.binOp, Op.intArith, h]
theorem b_mul {m : Int} (h : q.wrap (i * j) = m) (P : Program) (w : World) : (Go.binOp .mul t (.int q i) (.int q j)).run P w = .ok (.int q m) w := by simp [Go.binOp, Op.intArith, h]
theorem b_quo {m : Int} (h0 : j ≠ 0) (h : q.wrap (i.tdiv j) = m) (P : Program) (w : World) : (Go.binOp .quo t (.int q i) (.int q j)).run P w = .ok (.int q m) w := by simp [Go.binOp, Op.intDiv, h, h0]
theorem b_rem {m : Int} (h0 : j ≠ 0) (h : i.tmod j = m) (P : Program) (w : World) : (Go.binOp .rem t (.int q i) (.int q j)).run P w = .ok (.int q m) w := by simp [Go.binOp, Op.intDiv, h, h0]
/-- the bits of a word -/
def bitsOf (op : BinOp) (q : IntKind) (i j : Int) : Int :=
  let a := BitVec.ofInt q.bits i
  let b := BitVec.ofInt q.bits j
  q.wrap (match op with
    | .and => a &&& b
    | .or => a ||| b
    | .xor => a ^^^ b
    | _ => a &&& ~~~b).toNat
theorem b_and {m : Int} (h : bitsOf .and q i j = m) (P : Program) (w : World) : (Go.binOp .and t (.int q i) (.int q j)).run P w = .ok (.int q m) w := by
  subst h; simp [Go.binOp, Op.intBits, bitsOf]
theorem b_or {m : Int} (h : bitsOf .or q i j = m) (P : Program) (w : World) : (Go.binOp .or t (.int q i) (.int q j)).run P w = .ok (.int q m) w := by
  subst h; simp [Go.binOp, Op.intBits, bitsOf]
theorem b_xor {m : Int} (h : bitsOf .xor q i j = m) (P : Program) (w : World) : (Go.binOp .xor t (.int q i) (.int q j)).run P w = .ok (.int q m) w := by
  subst h; simp [Go.binOp, Op.intBits, bitsOf]
theorem b_andNot {m : Int} (h : bitsOf .andNot q i j = m) (P : Program) (w : World) : (Go.binOp .andNot t (.int q i) (.int q j)).run P w = .ok (.int q m) w := by
  subst h; simp [Go.binOp, Op.intBits, bitsOf]
theorem b_shl {m : Int} (h0 : 0 ≤ j) (h : q.wrap (i * 2 ^ (min j.toNat q.bits)) = m) (P : Program) (w : World) : (Go.binOp .shl t (.int q i) (.int q' j)).run P w = .ok (.int q m) w := by
  have : ¬ j < 0 := by omega
  simp [Go.binOp, Op.shift, h, this]
theorem b_shr {m : Int} (h0 : 0 ≤ j) (h : i.fdiv (2 ^ (min j.toNat q.bits)) = m) (P : Program) (w : World) : (Go.binOp .shr t (.int q i) (.int q' j)).run P w = .ok (.int q m) w := by
  have : ¬ j < 0 := by omega
  simp [Go.binOp, Op.shift, h, this]
theorem b_eql (P : Program) (w : World) : (Go.binOp .eql t (.int q i) (.int q j)).run P w = .ok (.bool (decide (i = j))) w := by simp [Go.binOp, Op.intCmp]; rfl
theorem b_neq (P : Program) (w : World) : (Go.binOp .neq t (.int q i) (.int q j)).run P w = .ok (.bool (decide (i ≠ j))) w := by
  simp [Go.binOp, Op.intCmp, bne]; rfl
theorem b_lss (P : Program) (w : World) : (Go.binOp .lss t (.int q i) (.int q j)).run P w = .ok (.bool (decide (i < j))) w := by simp [Go.binOp, Op.intCmp]
theorem b_leq (P : Program) (w : World) : (Go.binOp .leq t (.int q i) (.int q j)).run P w = .ok (.bool (decide (i ≤ j))) w := by simp [Go.binOp, Op.intCmp]
theorem b_gtr (P : Program) (w : World) : (Go.binOp .gtr t (.int q i) (.int q j)).run P w = .ok (.bool (decide (j < i))) w := by simp [Go.binOp, Op.intCmp]
theorem b_geq (P : Program) (w : World) : (Go.binOp .geq t (.int q i) (.int q j)).run P w = .ok (.bool (decide (j ≤ i))) w := by simp [Go.binOp, Op.intCmp]
theorem W_neg {m : Int} (hx : opv env x = some (.int q i)) (hm : q.wrap (0 - i) = m) (hd : Nat.blt d n = true)
    (h : W P rd w0 Q n ds (.ops all rest :: k) ((d, .int q m) :: env) H) : W P rd w0 Q n ds (.ops all (⟨some d, .unOp .neg t x, ty, pos, aft, none⟩ :: rest) :: k) env H :=
  W_pure rfl nofun hd (fun a w ha _ => by simp [execOp, ha.opv hx, Op.unary, Op.intArith, ← hm]) h
theorem W_compl {m : Int} (hx : opv env x = some (.int q i)) (hm : bitsOf .xor q (if q.signed then -1 else q.max) i = m) (hd : Nat.blt d n = true)
    (h : W P rd w0 Q n ds (.ops all rest :: k) ((d, .int q m) :: env) H) : W P rd w0 Q n ds (.ops all (⟨some d, .unOp .xor t x, ty, pos, aft, none⟩ :: rest) :: k) env H :=
  W_pure rfl nofun hd (fun a w ha _ => by subst hm; simp [execOp, ha.opv hx, Op.unary, Op.intBits, bitsOf]) h
theorem W_not {b : Bool} (hx : opv env x = some (.bool b)) (hd : Nat.blt d n = true)
    (h : W P rd w0 Q n ds (.ops all rest :: k) ((d, .bool (!b)) :: env) H) : W P rd w0 Q n ds (.ops all (⟨some d, .unOp .not t x, ty, pos, aft, none⟩ :: rest) :: k) env H :=
  W_pure rfl nofun hd (fun a w ha _ => by simp [execOp, ha.opv hx, Op.unary]) h
theorem W_conv {m : Int} {td : TypeDesc} {s1 s2 by1 by2 : Nat} {z1 z2 : Value} (hx : opv env x = some (.int q i)) (ht : Ty P t td s1 z1 by1) (hu : Ty P u (.int q') s2 z2 by2) (hm : q'.wrap i = m) (hd : Nat.blt d n = true)
    (h : W P rd w0 Q n ds (.ops all rest :: k) ((d, .int q' m) :: env) H) : W P rd w0 Q n ds (.ops all (⟨some d, .convert t u x, ty, pos, aft, none⟩ :: rest) :: k) env H :=
  W_pure rfl nofun hd (fun a w ha _ => by simp [execOp, ha.opv hx, convert, ht.run, hu.run, Conv.intToInt, hm]) h
/-- equality of two bools, two strings -/
theorem run_eqb {b c : Bool} {s1 by1 : Nat} {z1 : Value} (ht : Ty P t .bool s1 z1 by1) (w : World) : (Op.equal t (.bool b) (.bool c)).run P w = .ok (b == c) w := by
  have h1 : ∀ m, (Op.equalIn (m + 1) t (.bool b) (.bool c)).run P w = .ok (b == c) w := fun m => by
    simp only [Op.equalIn, Sem.run_bind, ht.run, Result.andThen]; rfl
  exact h1 9999
theorem W_beq {b c : Bool} {s1 by1 : Nat} {z1 : Value} (hx : opv env x = some (.bool b)) (hy : opv env y = some (.bool c)) (ht : Ty P t .bool s1 z1 by1) (hd : Nat.blt d n = true)
    (h : W P rd w0 Q n ds (.ops all rest :: k) ((d, .bool (b == c)) :: env) H) : W P rd w0 Q n ds (.ops all (⟨some d, .binOp .eql t x y u, ty, pos, aft, none⟩ :: rest) :: k) env H :=
  W_pure rfl nofun hd (fun a w ha _ => by
    have he : (eqGuard .eql t x y (.bool b) (.bool c)).run P w = .ok () w := by simp [eqGuard]
    simp [execOp, ha.opv hx, ha.opv hy, he, Go.binOp, run_eqb ht, Result.andThen]) h
theorem W_bne {b c : Bool} {s1 by1 : Nat} {z1 : Value} (hx : opv env x = some (.bool b)) (hy : opv env y = some (.bool c)) (ht : Ty P t .bool s1 z1 by1) (hd : Nat.blt d n = true)
    (h : W P rd w0 Q n ds (.ops all rest :: k) ((d, .bool (!(b == c))) :: env) H) : W P rd w0 Q n ds (.ops all (⟨some d, .binOp .neq t x y u, ty, pos, aft, none⟩ :: rest) :: k) env H :=
  W_pure rfl nofun hd (fun a w ha _ => by
    have he : (eqGuard .neq t x y (.bool b) (.bool c)).run P w = .ok () w := by simp [eqGuard]
    simp [execOp, ha.opv hx, ha.opv hy, he, Go.binOp, run_eqb ht, Result.andThen]) h
theorem W_seq_s {a b : ByteArray} (hx : opv env x = some (.string a)) (hy : opv env y = some (.string b)) (hd : Nat.blt d n = true)
    (h : W P rd w0 Q n ds (.ops all rest :: k) ((d, .bool (a.toList == b.toList)) :: env) H) : W P rd w0 Q n ds (.ops all (⟨some d, .binOp .eql t x y u, ty, pos, aft, none⟩ :: rest) :: k) env H :=
  W_pure rfl nofun hd (fun a' w ha _ => by
    have he : (eqGuard .eql t x y (.string a) (.string b)).run P w = .ok () w := by simp [eqGuard]
    simp [execOp, ha.opv hx, ha.opv hy, he, Go.binOp, Op.stringOp, Result.andThen]) h
theorem W_sne_s {a b : ByteArray} (hx : opv env x = some (.string a)) (hy : opv env y = some (.string b)) (hd : Nat.blt d n = true)
    (h : W P rd w0 Q n ds (.ops all rest :: k) ((d, .bool (!(a.toList == b.toList))) :: env) H) : W P rd w0 Q n ds (.ops all (⟨some d, .binOp .neq t x y u, ty, pos, aft, none⟩ :: rest) :: k) env H :=
  W_pure rfl nofun hd (fun a' w ha _ => by
    have he : (eqGuard .neq t x y (.string a) (.string b)).run P w = .ok () w := by simp [eqGuard]
    simp [execOp, ha.opv hx, ha.opv hy, he, Go.binOp, Op.stringOp, Result.andThen]) h
/-- whatever '==' of two values comes to, where its run is known -/
theorem W_eq {v1 v2 : Value} {b : Bool} (hx : opv env x = some v1) (hy : opv env y = some v2) (he : ∀ P' (_ : P' = P) w, (do eqGuard .eql t x y v1 v2; Go.binOp .eql t v1 v2 : Sem Value).run P' w = .ok (.bool b) w) (hd : Nat.blt d n = true)
    (h : W P rd w0 Q n ds (.ops all rest :: k) ((d, .bool b) :: env) H) : W P rd w0 Q n ds (.ops all (⟨some d, .binOp .eql t x y u, ty, pos, aft, none⟩ :: rest) :: k) env H :=
  W_pure rfl nofun hd (fun a w ha _ => by
    have := he P rfl w
    simp only [execOp, ha.opv hx, ha.opv hy, Sem.run_bind, this] at this ⊢
    simp [this]) h
theorem W_ne {v1 v2 : Value} {b : Bool} (hx : opv env x = some v1) (hy : opv env y = some v2) (he : ∀ P' (_ : P' = P) w, (do eqGuard .neq t x y v1 v2; Go.binOp .neq t v1 v2 : Sem Value).run P' w = .ok (.bool b) w) (hd : Nat.blt d n = true)
    (h : W P rd w0 Q n ds (.ops all rest :: k) ((d, .bool b) :: env) H) : W P rd w0 Q n ds (.ops all (⟨some d, .binOp .neq t x y u, ty, pos, aft, none⟩ :: rest) :: k) env H :=
  W_pure rfl nofun hd (fun a w ha _ => by
    have := he P rfl w
    simp only [execOp, ha.opv hx, ha.opv hy, Sem.run_bind, this] at this ⊢
    simp [this]) h
end bin

/-! ### Tuples, structs by value, function values -/
theorem W_extract {vs : Array Value} {i : Nat} {ty : TypeId} (hx : opv env x = some (.tuple vs)) (hv : vs[i]? = some v) (hd : Nat.blt d n = true)
    (h : W P rd w0 Q n ds (.ops all rest :: k) ((d, v) :: env) H) : W P rd w0 Q n ds (.ops all (⟨some d, .extract x i, ty, pos, aft, none⟩ :: rest) :: k) env H :=
  W_pure rfl nofun hd (fun a w ha _ => by simp [execOp, ha.opv hx, Instr.extract, hv]) h
/-- what is known of a struct's field: its place, its size, whether it is an aggregate -/
structure Fld (P : Program) (s : TypeId) (f off size : Nat) (agg : Bool) : Prop where
  is : ∃ fs fd, P.underlying s = some (.struct fs) ∧ fs[f]? = some fd ∧ fd.offset = off ∧ ∃ d z b, Ty P fd.type d size z b ∧ flat d = !agg
theorem W_field {cs : Array Value} {f off s : Nat} {ty : TypeId} (hx : opv env x = some (.agg cs)) (hf : Fld P t f off s false) (hv : cs[off]? = some v) (hd : Nat.blt d n = true)
    (h : W P rd w0 Q n ds (.ops all rest :: k) ((d, v) :: env) H) : W P rd w0 Q n ds (.ops all (⟨some d, .field t x f, ty, pos, aft, none⟩ :: rest) :: k) env H :=
  W_pure rfl nofun hd (fun a w ha _ => by
    obtain ⟨fs, fd, h1, h2, rfl, td, z, b, hT, hfl⟩ := hf.is
    simp [execOp, ha.opv hx, Instr.field, run_underlying h1, h2, asAgg, part, hT.isAgg, hfl, hv, Result.andThen]) h
theorem W_fieldA {cs : Array Value} {l : List Value} {f off s : Nat} {ty : TypeId} (hx : opv env x = some (.agg cs)) (hf : Fld P t f off s true) (hv : (cs.toList.drop off).take s = l) (hd : Nat.blt d n = true)
    (h : W P rd w0 Q n ds (.ops all rest :: k) ((d, .agg l.toArray) :: env) H) : W P rd w0 Q n ds (.ops all (⟨some d, .field t x f, ty, pos, aft, none⟩ :: rest) :: k) env H :=
  W_pure rfl nofun hd (fun a w ha _ => by
    obtain ⟨fs, fd, h1, h2, rfl, td, z, b, hT, hfl⟩ := hf.is
    have he : cs.extract fd.offset (fd.offset + s) = l.toArray := by
      apply Array.ext'
      simp [Array.toList_extract, List.extract, hv]
    simp [execOp, ha.opv hx, Instr.field, run_underlying h1, h2, asAgg, part, hT.isAgg, hT.size, hfl, he, Result.andThen]) h
inductive OpVs (env : Env) : List Operand → List Value → Prop
  | nil : OpVs env [] []
  | cons {x : Operand} {v : Value} {l : List Operand} {vs : List Value} (h : opv env x = some v) (hs : OpVs env l vs) : OpVs env (x :: l) (v :: vs)
theorem Agree.opvs {a : Act} (ha : Agree n env a) {l : List Operand} {vs : List Value} (h : OpVs env l vs) : l.map a.eval = vs := by
  induction h with
  | nil => rfl
  | cons h _ ih => simp [ha.opv h, ih]
theorem W_makeFunc {fn : Fn} {fl cl : List Operand} {fv cv : List Value} {ty : TypeId} (hf : OpVs env fl fv) (hc : OpVs env cl cv) (hd : Nat.blt d n = true)
    (h : W P rd w0 Q n ds (.ops all rest :: k) ((d, .func fn fv.toArray cv.toArray) :: env) H) : W P rd w0 Q n ds (.ops all (⟨some d, .makeFunc fn fl.toArray cl.toArray, ty, pos, aft, none⟩ :: rest) :: k) env H :=
  W_pure rfl nofun hd (fun a w ha _ => by simp [execOp, Instr.makeFunc, ha.opvs hf, ha.opvs hc]) h

/-! ### Memory -/
/-- a cell that is known -/
def Cell (w0 : World) (H : Heap) (b i : Nat) (v : Value) : Prop := ∀ w, Sat w0 H w → w.cell? ⟨b, i, none⟩ = some v
theorem Cell.own {b i e tot : Nat} {l : List Value} (hm : (b, Blk.cells e tot l) ∈ H) (hv : l[i]? = some v) : Cell w0 H b i v := fun _ hs => hs.cell hm hv
theorem Cell.old {b i : Nat} (hv : w0.cell? ⟨b, i, none⟩ = some v) : Cell w0 H b i v := fun _ hs => hs.old hv
def Cells (w0 : World) (H : Heap) (b i : Nat) (vs : List Value) : Prop := ∀ (j : Nat) v, vs[j]? = some v → Cell w0 H b (i + j) v
theorem Cells.nil {b i : Nat} : Cells w0 H b i [] := fun j v h => by simp at h
theorem Cells.cons {b i : Nat} {vs : List Value} (h : Cell w0 H b i v) (hs : Cells w0 H b (i + 1) vs) : Cells w0 H b i (v :: vs) := fun j u hu => by
  cases j with
  | zero => simp at hu; subst hu; exact h
  | succ j => have := hs j u (by simpa using hu); rwa [show i + 1 + j = i + (j + 1) by omega] at this
theorem Cells.own {b i e tot : Nat} {l vs : List Value} (hm : (b, Blk.cells e tot l) ∈ H) (hv : (l.drop i).take vs.length = vs) : Cells w0 H b i vs := fun j v h => by
  refine Cell.own hm ?_
  have hl : j < vs.length := (List.getElem?_eq_some_iff.1 h).1
  rw [← hv, List.getElem?_take_of_lt hl, List.getElem?_drop] at h
  exact h
theorem addr_add (b i j : Nat) : (⟨b, i, none⟩ : Addr).add j = ⟨b, i + j, none⟩ := by
  unfold Addr.add; split
  · rename_i h; subst h; rfl
  · rfl
theorem W_load {b i s by_ : Nat} {td : TypeDesc} {z : Value} {ty : TypeId} (hx : opv env x = some (.pointer (some ⟨b, i, none⟩))) (ht : Ty P t td s z by_) (hf : flat td = true) (hc : Cell w0 H b i v) (hd : Nat.blt d n = true)
    (h : W P rd w0 Q n ds (.ops all rest :: k) ((d, v) :: env) H) : W P rd w0 Q n ds (.ops all (⟨some d, .load t x, ty, pos, aft, none⟩ :: rest) :: k) env H :=
  W_pure rfl nofun hd (fun a w ha hs => by
    simp [execOp, ha.opv hx, Instr.loadAt, Instr.sureAddr, loadVar, ht.isAgg, hf, hc w hs, Result.andThen]) h
theorem W_loadA {b i s by_ : Nat} {td : TypeDesc} {z : Value} {vs : List Value} {ty : TypeId} (hx : opv env x = some (.pointer (some ⟨b, i, none⟩))) (ht : Ty P t td s z by_) (hf : flat td = false) (hl : vs.length = s) (hc : Cells w0 H b i vs) (hd : Nat.blt d n = true)
    (h : W P rd w0 Q n ds (.ops all rest :: k) ((d, .agg vs.toArray) :: env) H) : W P rd w0 Q n ds (.ops all (⟨some d, .load t x, ty, pos, aft, none⟩ :: rest) :: k) env H :=
  W_pure rfl nofun hd (fun a w ha hs => by
    have hcs := run_loadCells_list (P := P) (w := w) ⟨b, i, none⟩ vs (fun j u hu => by rw [addr_add]; exact hc j u hu w hs)
    rw [hl] at hcs
    simp [execOp, ha.opv hx, Instr.loadAt, Instr.sureAddr, loadVar, ht.isAgg, ht.size, hf, hcs, Result.andThen]) h
theorem W_fieldAddr {b i f off s : Nat} {ag : Bool} {ty : TypeId} (hx : opv env x = some (.pointer (some ⟨b, i, none⟩))) (hf : Fld P t f off s ag) (h0 : s ≠ 0) (hd : Nat.blt d n = true)
    (h : W P rd w0 Q n ds (.ops all rest :: k) ((d, .pointer (some ⟨b, i + off, none⟩)) :: env) H) : W P rd w0 Q n ds (.ops all (⟨some d, .fieldAddr t x f, ty, pos, aft, none⟩ :: rest) :: k) env H :=
  W_pure rfl nofun hd (fun a w ha _ => by
    obtain ⟨fs, fd, h1, h2, rfl, td, z, b', hT, hfl⟩ := hf.is
    simp [execOp, ha.opv hx, Instr.fieldAt, run_underlying h1, h2, Instr.sureAddr, fieldPlace, hT.size, h0, Result.andThen, addr_add]) h
theorem W_nilCheck {a : Addr} {ty : TypeId} (hx : opv env x = some (.pointer (some a))) (hd : Nat.blt d n = true)
    (h : W P rd w0 Q n ds (.ops all rest :: k) ((d, .pointer (some a)) :: env) H) : W P rd w0 Q n ds (.ops all (⟨some d, .nilCheck x, ty, pos, aft, none⟩ :: rest) :: k) env H :=
  W_pure rfl nofun hd (fun a w ha _ => by simp [execOp, ha.opv hx]) h
theorem W_nilCheckF {fn : Nat} {fa ca : Array Value} {ty : TypeId} (hx : opv env x = some (.func (.func fn) fa ca)) (hd : Nat.blt d n = true)
    (h : W P rd w0 Q n ds (.ops all rest :: k) ((d, .func (.func fn) fa ca) :: env) H) : W P rd w0 Q n ds (.ops all (⟨some d, .nilCheck x, ty, pos, aft, none⟩ :: rest) :: k) env H :=
  W_pure rfl nofun hd (fun a w ha _ => by simp [execOp, ha.opv hx]) h
theorem W_box {l : List Value} {ty : TypeId} (hx : opv env x = some v) (hl : v.cells.toList = l) (hd : Nat.blt d n = true)
    (h : ∀ b : Nat, W P rd w0 Q n ds (.ops all rest :: k) ((d, .pointer (some ⟨b, 0, none⟩)) :: env) ((b, .cells t l.length l) :: H)) : W P rd w0 Q n ds (.ops all (⟨some d, .box t x, ty, pos, aft, none⟩ :: rest) :: k) env H :=
  W_gen rfl nofun hd fun a w ha hs => ⟨.pointer (some ⟨w.heap.size, 0, none⟩), _, w.alloc (.cells v.cells t), .inl (by
    simp [execOp, ha.opv hx, Instr.box, newVar, newRow, Result.andThen]), hs.alloc _ (At.alloc_cells w v.cells t), by
    have := h w.heap.size
    rw [← hl] at this
    simpa [put] using this⟩
theorem W_alloc {l : List Value} {td : TypeDesc} {s by_ : Nat} {z : Value} {ty : TypeId} (ht : Ty P t td s z by_) (hl : z.cells.toList = l) (hd : Nat.blt d n = true)
    (h : ∀ b : Nat, W P rd w0 Q n ds (.ops all rest :: k) ((d, .pointer (some ⟨b, 0, none⟩)) :: env) ((b, .cells t l.length l) :: H)) : W P rd w0 Q n ds (.ops all (⟨some d, .alloc t, ty, pos, aft, none⟩ :: rest) :: k) env H :=
  W_gen rfl nofun hd fun a w ha hs => ⟨.pointer (some ⟨w.heap.size, 0, none⟩), _, w.alloc (.cells z.cells t), .inl (by
    simp [execOp, Instr.alloc, ht.zero, newVar, newRow, Result.andThen]), hs.alloc _ (At.alloc_cells w z.cells t), by
    have := h w.heap.size
    rw [← hl] at this
    simpa [put] using this⟩
theorem At.set {w : World} {b i : Nat} {e tot : Nat} {l : List Value} {v : Value} (h : At w b (.cells e tot l)) : At (w.setCell ⟨b, i, none⟩ v) b (.cells e tot (l.set i v)) := by
  obtain ⟨c, h1, h2, h3⟩ := h
  refine ⟨c.setIfInBounds i v, ?_, by simpa using h2, ?_⟩
  · simp [World.setCell, Array.getElem?_modify, h1]
  · simp only [Array.toList_setIfInBounds, List.length_set]
    rw [List.take_set, h3]
theorem below_set {w0 w : World} {b i : Nat} {v : Value} (hb : w0.heap.size ≤ b) : Below w0.heap.size w (w.setCell ⟨b, i, none⟩ v) := (Below.refl _ _).setCell hb v
theorem W_store {b i e tot s by_ : Nat} {td : TypeDesc} {z : Value} {l l' : List Value} {ty : TypeId} (hx : opv env x = some (.pointer (some ⟨b, i, none⟩))) (hy : opv env y = some v) (ht : Ty P t td s z by_) (h1 : v.oneCell' = true) (hs1 : s = 1)
    (hm : (b, Blk.cells e tot l) ∈ H) (hi : Nat.blt i l.length = true) (hl : l.set i v = l') (hu : Upd b (.cells e tot l) (.cells e tot l') H H')
    (h : W P rd w0 Q n ds (.ops all rest :: k) env H') : W P rd w0 Q n ds (.ops all (⟨none, .store t x y, ty, pos, aft, none⟩ :: rest) :: k) env H :=
  W_gen rfl nofun rfl fun a w ha hs => by
    subst hl hs1
    have hi' : i < l.length := by simpa [Nat.blt_eq] using hi
    obtain ⟨u, hu'⟩ : ∃ u, l[i]? = some u := ⟨_, List.getElem?_eq_getElem hi'⟩
    have hc := hs.cell hm hu'
    have hf := hs.frozen (i := i) hm
    have hsz : v.cells = #[v] := by cases v <;> first | rfl | simp [Value.oneCell'] at h1
    refine ⟨undef, H', w.setCell ⟨b, i, none⟩ v, .inr ⟨?_, rfl⟩, hs.upd hu (below_set (hs.own _ hm).1) (fun j hj _ => Below.heap_setCell _ _ _ _ hj) (hs.own _ hm).2.set, h⟩
    simp [execOp, ha.opv hx, ha.opv hy, Instr.storeAt, Instr.sureAddr, storeVar, ht.size, hsz, storeCells, addr_add, run_store _ _ _ _ _ h1, hc, hf, Result.andThen]
end ops
end Go.Sl
