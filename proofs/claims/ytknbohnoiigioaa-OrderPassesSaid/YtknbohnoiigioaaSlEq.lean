/-
  Own work: the small logic, more of its rules; of any program.
-/
import Derived.Test.YtknbohnoiigioaaSlX
import Derived.Laws.StructEq
set_option linter.all false
set_option linter.unusedSimpArgs false
set_option linter.unusedVariables false
namespace Go.Sl
open Go.RowKit
/-- two values of a type of one cell, compared -/
def EqV (P : Program) (t : TypeId) (x y : Value) (b : Bool) : Prop := ∀ d w, (Op.equalIn (d + 1) t x y).run P w = .ok b w
section
variable {P : Program} {t : TypeId} {s by_ : Nat} {z : Value}
theorem eqv_int {k : IntKind} {a b : Int} (ht : Ty P t (.int k) s z by_) : EqV P t (.int k a) (.int k b) (decide (a = b)) := fun d w => by
  rw [run_equalIn_int w d t k k a b ht.und]; rfl
theorem eqv_bool {a b : Bool} (ht : Ty P t .bool s z by_) : EqV P t (.bool a) (.bool b) (a == b) := fun d w => run_equalIn_bool w d t a b ht.und
theorem eqv_string {a b : ByteArray} (ht : Ty P t .string s z by_) : EqV P t (.string a) (.string b) (a.toList == b.toList) := fun d w => run_equalIn_string w d t a b ht.und
inductive EqFs (P : Program) (xs ys : Array Value) : List Field → Bool → Prop
  | nil : EqFs P xs ys [] true
  | cons {f : Field} {fs : List Field} {td : TypeDesc} {s by_ : Nat} {z a b : Value} {r r' : Bool} (hn : f.name ≠ "_") (ht : Ty P f.type td s z by_) (hf : flat td = true) (hx : xs[f.offset]? = some a) (hy : ys[f.offset]? = some b) (he : EqV P f.type a b r) (hs : EqFs P xs ys fs r') : EqFs P xs ys (f :: fs) (r && r')
theorem EqFs.run {xs ys : Array Value} {fs : List Field} {b : Bool} (h : EqFs P xs ys fs b) (d : Nat) (w : World) : (Op.eqFields (d + 1) xs ys fs).run P w = .ok b w := by
  induction h with
  | nil => rfl
  | @cons f fs td s by_ z a b r r' hn ht hf hx hy he _ ih =>
    have hp : ∀ (cs : Array Value) (v : Value), cs[f.offset]? = some v → (part f.type cs f.offset).run P w = .ok v w := fun cs v hv => by
      simp [part, ht.isAgg, hf, hv, Result.andThen]
    simp only [Op.eqFields, if_pos hn, Sem.run_bind, hp xs a hx, hp ys b hy, he d w, Result.andThen_ok]
    cases r with
    | true => simpa using ih
    | false => simp
theorem eq_struct {fs : Array Field} {xs ys : Array Value} {b : Bool} (ht : Ty P t (.struct fs) s z by_) (hp : P.stoodInHeld t = false) (h : EqFs P xs ys fs.toList b) (w : World) : (Op.equalIn 10000 t (.agg xs) (.agg ys)).run P w = .ok b w := by
  have hfs : P.fieldsOf t = fs := by simp [Program.fieldsOf, ht.und]
  rw [run_equalIn_struct w 9999 t xs ys (by rw [hfs]; exact ht.und) hp, hfs]
  exact h.run 9998 w
end
section
variable {P : Program} {rd : Option Nat} {w0 : World} {Q : Exit → Act → World → Prop} {n : Nat} {ds : List Deferred} {k : List It} {env env' : Env} {H H' : Heap} {all : Array Oper} {rest : List Oper}
variable {d : Nat} {x y c : Operand} {t u ty : TypeId} {pos : String} {aft : Array Edge} {v : Value}
theorem X_eqA {fs : Array Field} {xs ys : Array Value} {b : Bool} {s by_ : Nat} {z : Value} {C : World → Prop} (hx : opv env x = some (.agg xs)) (hy : opv env y = some (.agg ys)) (ht : Ty P t (.struct fs) s z by_) (hp : P.stoodInHeld t = false) (hm : P.eqGuardType P.depth t = false) (h : EqFs P xs ys fs.toList b) :
    Ex P n env C (.binOp .eql t x y u) ty (.bool b) := fun a w d pos aft g ha _ => by
  simp [execOp, ha.opv hx, ha.opv hy, run_eqGuard_agg w .eql t x y xs ys hm, run_eql_struct, eq_struct ht hp h, Result.andThen]
theorem X_neA {fs : Array Field} {xs ys : Array Value} {b : Bool} {s by_ : Nat} {z : Value} {C : World → Prop} (hx : opv env x = some (.agg xs)) (hy : opv env y = some (.agg ys)) (ht : Ty P t (.struct fs) s z by_) (hp : P.stoodInHeld t = false) (hm : P.eqGuardType P.depth t = false) (h : EqFs P xs ys fs.toList b) :
    Ex P n env C (.binOp .neq t x y u) ty (.bool (!b)) := fun a w d pos aft g ha _ => by
  simp [execOp, ha.opv hx, ha.opv hy, run_eqGuard_agg w .neq t x y xs ys hm, run_neq_struct, eq_struct ht hp h, Result.andThen]
theorem Cells.part {b i e tot s : Nat} {l vs : List Value} (hm : (b, Blk.cells e tot l) ∈ H) (hl : (l.drop i).take s = vs) : Cells w0 H b i vs := fun j v h => by
  refine Cell.own hm ?_
  subst hl
  rw [List.getElem?_take] at h
  split at h
  · rwa [List.getElem?_drop] at h
  · cases h
/-- an aggregate loaded, of a block of one's own -/
theorem X_loadB {b i e tot s by_ : Nat} {td : TypeDesc} {z : Value} {l vs : List Value} (hx : opv env x = some (.pointer (some ⟨b, i, none⟩))) (ht : Ty P t td s z by_) (hf : flat td = false) (hm : (b, Blk.cells e tot l) ∈ H) (hn : Nat.ble (i + s) l.length = true) (hl : (l.drop i).take s = vs) :
    Ex P n env (Sat w0 H) (.load t x) ty (.agg vs.toArray) :=
  X_loadA hx ht hf (by subst hl; have := Nat.le_of_ble_eq_true hn; simp; omega) (Cells.part hm hl)
theorem W_loadB {b i e tot s by_ : Nat} {td : TypeDesc} {z : Value} {l vs : List Value} (hx : opv env x = some (.pointer (some ⟨b, i, none⟩))) (ht : Ty P t td s z by_) (hf : flat td = false) (hm : (b, Blk.cells e tot l) ∈ H) (hn : Nat.ble (i + s) l.length = true) (hl : (l.drop i).take s = vs) (hd : Nat.blt d n = true)
    (h : W P rd w0 Q n ds (.ops all rest :: k) ((d, .agg vs.toArray) :: env) H) : W P rd w0 Q n ds (.ops all (⟨some d, .load t x, ty, pos, aft, none⟩ :: rest) :: k) env H :=
  W_pure rfl nofun hd (fun a w ha hs => X_loadB hx ht hf hm hn hl a w _ _ _ _ ha hs) h
/-- a call of a function value, pure -/
theorem W_callvp {d : Option Nat} {f : FuncId} {l : List Operand} {vs args : List Value} {fa ca : List Value} {tys : Array TypeId} (hx : opv env x = some (.func (.func f) fa.toArray ca.toArray)) (hc : OpVs env l vs) (ha : fa ++ vs ++ ca = args) (hf : ∀ (args : Array Value) (w : World), (callFunc f args).run P w = .ok (.enter f args) w) (hd : dok n d = true)
    {T : World → Prop} (hT : T w0) (hL : Pure P T f args v) (h : W P rd w0 Q n ds (.ops all rest :: k) (put d v env) H) :
    W P rd w0 Q n ds (.ops all (⟨d, .call ⟨.value x, l.toArray, tys⟩, t, pos, aft, none⟩ :: rest) :: k) env H := by
  subst ha
  refine W_callv hx hc hf hd (R := fun v' H' => v' = v ∧ H' = H) ?_ (by rintro v' H' ⟨rfl, rfl⟩; exact h)
  have := hL w0 H hT
  simpa using this
/-- an operation of which it is known what it yields -/
theorem W_x {op : Op} (hx : Ex P n env (Sat w0 H) op ty v) (hdef : ∀ c, op ≠ .defer c) (hd : Nat.blt d n = true) (h : W P rd w0 Q n ds (.ops all rest :: k) ((d, v) :: env) H) : W P rd w0 Q n ds (.ops all (⟨some d, op, ty, pos, aft, none⟩ :: rest) :: k) env H :=
  W_pure rfl hdef hd (fun a w ha hs => hx a w _ _ _ _ ha hs) h
end
end Go.Sl
