/-
  Own work: the small logic, more of its rules; of any program.
-/
import Derived.Test.YtknbohnoiigioaaSlArr
set_option linter.all false
set_option linter.unusedSimpArgs false
set_option linter.unusedVariables false
namespace Go.Sl
open Go.RowKit
section
variable {P : Program} {rd : Option Nat} {w0 : World} {Q : Exit → Act → World → Prop} {n : Nat} {ds : List Deferred} {k : List It} {env env' : Env} {H H' : Heap}
def CutJ (w0 : World) (n : Nat) (ds : List Deferred) {X : Type} (E : X → Env) (HH : X → Heap) (I : X → Prop) (a : Act) (w : World) : Prop := ∃ x, I x ∧ Agree n (E x) a ∧ a.defers = ds ∧ Sat w0 (HH x) w
/-- a piece of code, and what is known behind it: of something that came up in it -/
theorem W_cutX {X : Type} {c : Code} (E : X → Env) (HH : X → Heap) (I : X → Prop) (h1 : W P rd w0 (fun _ _ _ => False) n ds [.code c, .goal (CutJ w0 n ds E HH I)] env H) (h : ∀ x, I x → W P rd w0 Q n ds k (E x) (HH x)) : W P rd w0 Q n ds (.code c :: k) env H := fun a w ha hd hs => by
  show c.wpIn (fen rd) 0 P (Cont P rd Q k) a w
  refine wpIn_mono (h1 a w ha hd hs) fun e a2 w2 hq => ?_
  cases e with
  | normal =>
    obtain ⟨x, hI, hA, hD, hS⟩ := hq
    exact h x hI a2 w2 hA hD hS
  | exit id => exact hq.elim
  | goto l => exact hq.elim
  | ret => exact hq.elim
  | panic ch => exact hq.elim
  | outgrown => exact hq.elim
theorem W_joinX {X : Type} {E : X → Env} {HH : X → Heap} {I : X → Prop} {k' : List It} (x : X) (hI : I x) (he : sub (E x) env) (hh : HSub H (HH x)) : W P rd w0 Q n ds (.goal (CutJ w0 n ds E HH I) :: k') env H :=
  W_goal fun _ _ ha hd hs => ⟨x, hI, ha.weaken (look_of_sub he), hd, hs.hsub hh⟩
/-- a condition whose ways meet again, of something that came up in them -/
theorem W_condX {X : Type} {c : Operand} {x y : Code} {t : Bool} {p : Prop} (E : X → Env) (HH : X → Heap) (I : X → Prop) (hc : opv env c = some (.bool t)) (hp : t = true ↔ p)
    (ht : p → W P rd w0 (fun _ _ _ => False) n ds [.code x, .goal (CutJ w0 n ds E HH I)] env H) (hf : ¬ p → W P rd w0 (fun _ _ _ => False) n ds [.code y, .goal (CutJ w0 n ds E HH I)] env H)
    (h : ∀ x, I x → W P rd w0 Q n ds k (E x) (HH x)) : W P rd w0 Q n ds (.code (.cond c x y) :: k) env H := fun a w ha hd hs => by
  have mono : ∀ z : Code, W P rd w0 (fun _ _ _ => False) n ds [.code z, .goal (CutJ w0 n ds E HH I)] env H → z.wpIn (fen rd) 0 P (Cont P rd Q k) a w := fun z hz => by
    refine wpIn_mono (hz a w ha hd hs) fun e a2 w2 hq => ?_
    cases e with
    | normal =>
      obtain ⟨x, hI, hA, hD, hS⟩ := hq
      exact h x hI a2 w2 hA hD hS
    | exit id => exact hq.elim
    | goto l => exact hq.elim
    | ret => exact hq.elim
    | panic ch => exact hq.elim
    | outgrown => exact hq.elim
  exact wpIn_cond_split (ha.opv hc) (fun e => mono x (ht (hp.1 e))) (fun e => mono y (hf (fun q => by rw [hp.2 q] at e; cases e)))
theorem X_seq_s {a b : ByteArray} {x y : Operand} {t u ty : TypeId} {C : World → Prop} (hx : opv env x = some (.string a)) (hy : opv env y = some (.string b)) : Ex P n env C (.binOp .eql t x y u) ty (.bool (a.toList == b.toList)) := fun a' w d pos aft g ha _ => by
  have he : (eqGuard .eql t x y (.string a) (.string b)).run P w = .ok () w := by simp [eqGuard]
  simp [execOp, ha.opv hx, ha.opv hy, he, Go.binOp, Op.stringOp, Result.andThen]
theorem X_build {t ty : TypeId} {s by_ : Nat} {z : Value} {td : TypeDesc} {pl : List (Nat × Nat)} {parts : List (Nat × Operand)} {ps : List (Nat × List Value)} {l : List Value} {C : World → Prop} (ht : Ty P t td s z by_) (hst : StructPl P t pl)
    (hp : Parts env (fun i => pl[i]?) s parts ps) (hz : Nat.beq z.cells.size s = true) (hl : fillL z.cells.toList ps = l) : Ex P n env C (.build t parts.toArray) ty (.agg l.toArray) := fun a w d pos aft g ha _ => by
  obtain ⟨fs, h1, h2⟩ := hst.is
  obtain ⟨out, ho, hol⟩ := hp.run ha (cells := z.cells) (by simpa using hz)
  have hout : out = l.toArray := by apply Array.ext'; rw [hol, hl]
  have h2' := h2 w
  have ho' : Instr.fill (pl.toArray[·]?) z.cells (parts.map fun (i, x) => (i, a.eval x)) = some out := by simpa using ho
  have hr : (Instr.build t (parts.map fun (i, x) => (i, a.eval x)).toArray).run P w = .ok (.agg l.toArray) w := by
    unfold Instr.build
    simp only [Sem.run_bind, ht.zero, Result.andThen, run_underlying h1]
    rw [h2']
    simp only [ho', hout, Sem.run_pure]
  simp [execOp, hr, Result.andThen]
theorem X_sliceAt {b o len cap l hh s es by_ eb d' : Nat} {x : Operand} {t ty : TypeId} {lo hi : Option Operand} {e : TypeId} {z ez : Value} {ed : TypeDesc} {C : World → Prop} (hx : opv env x = some (.slice (some ⟨b, o, none⟩) len cap)) (ht : Ty P t (.slice e) s z by_) (he : Ty P e ed es ez eb)
    (hlo : optIdx env 0 lo l) (hhi : optIdx env len hi hh) (h1 : l ≤ hh) (h2 : hh ≤ cap) (hd' : d' = if cap = l then o else o + l * es) : Ex P n env C (.slice t x lo hi none) ty (.slice (some ⟨b, d', none⟩) (hh - l) (cap - l)) := fun a w d pos aft g ha _ => by
  subst hd'
  have := run_slice_slice (P := P) (w := w) (ad := some ⟨b, o, none⟩) ha ht he hlo hhi h1 h2
  have ea : (if cap = l then some (⟨b, o, none⟩ : Addr) else (some (⟨b, o, none⟩ : Addr)).map (·.add (l * es))) = some ⟨b, if cap = l then o else o + l * es, none⟩ := by
    split <;> simp [addr_add]
  rw [ea] at this
  simp [execOp, ha.opv hx, this, Result.andThen]
theorem hsub_left {S H : Heap} : HSub (S ++ H) S := by
  have h : HSub (S ++ H) (S ++ []) := HSub.app (TakeS.here H) (HSub.nil H)
  rwa [List.append_nil] at h
theorem hsub_right {S H : Heap} : HSub (S ++ H) H := .dropS (.refl _)
theorem Holds.drop {b o o' m cap : Nat} {xs : List Value} (h : Holds w0 H (some ⟨b, o, none⟩) xs) (hl : xs.length ≤ cap) (ho : m < cap → o' = o + m) : Holds w0 H (some ⟨b, o', none⟩) (xs.drop m) := fun j x hx => by
  rw [List.getElem?_drop] at hx
  have hj := (List.getElem?_eq_some_iff.1 hx).1
  obtain ⟨b1, o1, e, hc⟩ := h _ _ hx
  cases e
  rw [ho (by omega)]
  exact ⟨b, _, rfl, by rw [Nat.add_assoc]; exact hc⟩
end
end Go.Sl
