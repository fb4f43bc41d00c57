/-
  Own work: the small logic, its rules for building slices and structs; of any program.
-/
import Derived.Test.YtknbohnoiigioaaSlBool
set_option linter.all false
set_option linter.unusedSimpArgs false
set_option linter.unusedVariables false
namespace Go.Sl
open Go.RowKit
def spliceL (l : List Value) (off : Nat) (c : List Value) : List Value := l.take off ++ c ++ l.drop (off + c.length)
theorem spliceL_length {l c : List Value} {off : Nat} (h : off + c.length ≤ l.length) : (spliceL l off c).length = l.length := by
  simp [spliceL]; omega
theorem foldl_splice : ∀ (c : List Value) (off j0 : Nat) (cells : Array Value), off + j0 + c.length ≤ cells.size →
    ((c.zipIdx j0).foldl (fun cs (x : Value × Nat) => cs.setIfInBounds (off + x.2) x.1) cells).toList = spliceL cells.toList (off + j0) c
  | [], off, j0, cells, _ => by simp [spliceL]
  | x :: c, off, j0, cells, h => by
    simp only [List.zipIdx_cons, List.foldl_cons]
    simp only [List.length_cons] at h
    rw [foldl_splice c off (j0 + 1) _ (by simp; omega)]
    have hlt : off + j0 < cells.toList.length := by simp; omega
    simp only [spliceL, Array.toList_setIfInBounds, List.length_cons]
    rw [show off + (j0 + 1) = off + j0 + 1 by omega]
    rw [show off + j0 + (c.length + 1) = off + j0 + 1 + c.length by omega]
    rw [List.drop_set_of_lt (by omega)]
    rw [List.take_set, List.take_succ_eq_append_getElem hlt, List.set_append_right _ _ (by simp; omega)]
    have hmin : min (off + j0) cells.size = off + j0 := Nat.min_eq_left (by simp at hlt; omega)
    simp [hmin]
def fillL (l : List Value) : List (Nat × List Value) → List Value
  | [] => l
  | (off, c) :: r => fillL (spliceL l off c) r
theorem fillL_length : ∀ (ps : List (Nat × List Value)) (l : List Value), (∀ p ∈ ps, p.1 + p.2.length ≤ l.length) → (fillL l ps).length = l.length
  | [], _, _ => rfl
  | (off, c) :: r, l, h => by
    have h1 := h (off, c) List.mem_cons_self
    simp only [fillL]
    rw [fillL_length r _ (fun p hp => by rw [spliceL_length h1]; exact h p (List.mem_cons_of_mem _ hp)), spliceL_length h1]
theorem fill_run {place : Nat → Option (Nat × Nat)} : ∀ (parts : List (Nat × Value)) (ps : List (Nat × List Value)) (cells : Array Value),
    List.length parts = List.length ps → (∀ (i : Nat) p q, parts[i]? = some p → ps[i]? = some q → place p.1 = some (q.1, q.2.length) ∧ p.2.cells.toList = q.2 ∧ q.1 + q.2.length ≤ cells.size) →
    ∃ out, Instr.fill place cells parts = some out ∧ out.toList = fillL cells.toList ps
  | [], [], cells, _, _ => ⟨cells, rfl, rfl⟩
  | (i, v) :: parts, (off, c) :: ps, cells, hl, h => by
    obtain ⟨h1, h2, h3⟩ := h 0 (i, v) (off, c) rfl rfl
    simp only at h1 h2 h3
    have hsz : v.cells.size = c.length := by rw [← h2]; simp
    have hf : (v.cells.zipIdx.foldl (fun cs (x : Value × Nat) => cs.setIfInBounds (off + x.2) x.1) cells).toList = spliceL cells.toList off c := by
      rw [← Array.foldl_toList, Array.toList_zipIdx, h2]
      have := foldl_splice c off 0 cells (by simpa using h3)
      simpa using this
    have hs2 : (v.cells.zipIdx.foldl (fun cs (x : Value × Nat) => cs.setIfInBounds (off + x.2) x.1) cells).size = cells.size := by
      rw [← Array.length_toList, hf, spliceL_length (by simpa using h3)]; simp
    obtain ⟨out, ho, hol⟩ := fill_run parts ps (v.cells.zipIdx.foldl (fun cs (x : Value × Nat) => cs.setIfInBounds (off + x.2) x.1) cells) (by simpa using hl)
      (fun k p q hp hq => by rw [hs2]; exact h (k + 1) p q (by simpa using hp) (by simpa using hq))
    refine ⟨out, ?_, by rw [hol, hf]; rfl⟩
    unfold Instr.fill
    simp only [h1]
    rw [if_neg (by simp [hsz]; simpa using h3)]
    exact ho
/-- the parts of a literal: places and cells -/
inductive Parts (env : Env) (place : Nat → Option (Nat × Nat)) (tot : Nat) : List (Nat × Operand) → List (Nat × List Value) → Prop
  | nil : Parts env place tot [] []
  | cons {i off s : Nat} {x : Operand} {v : Value} {c : List Value} {l : List (Nat × Operand)} {ps : List (Nat × List Value)} (hx : opv env x = some v) (hp : place i = some (off, s)) (hc : v.cells.toList = c) (hs : c.length = s)
      (ht : Nat.ble (off + s) tot = true) (h : Parts env place tot l ps) : Parts env place tot ((i, x) :: l) ((off, c) :: ps)
theorem Parts.run {n tot : Nat} {env : Env} {a : Act} {place : Nat → Option (Nat × Nat)} (ha : Agree n env a) {l : List (Nat × Operand)} {ps : List (Nat × List Value)} (h : Parts env place tot l ps) {cells : Array Value} (hc : cells.size = tot) :
    ∃ out, Instr.fill place cells (l.map fun (i, x) => (i, a.eval x)) = some out ∧ out.toList = fillL cells.toList ps := by
  subst hc
  refine fill_run _ _ _ ?_ ?_
  · induction h with
    | nil => rfl
    | cons _ _ _ _ _ _ ih => simpa using ih
  · induction h with
    | nil => intro i p q hp; simp at hp
    | cons hx hp hc hs ht _ ih =>
      intro k p q h1 h2
      cases k with
      | zero =>
        simp at h1 h2
        subst h1 h2
        refine ⟨by rw [hs]; exact hp, by rw [ha.opv hx]; exact hc, ?_⟩
        simp only
        rw [hs]; simpa using ht
      | succ k => exact ih k p q (by simpa using h1) (by simpa using h2)
section
variable {P : Program} {rd : Option Nat} {w0 : World} {Q : Exit → Act → World → Prop} {n : Nat} {ds : List Deferred} {k : List It} {env env' : Env} {H H' : Heap} {all : Array Oper} {rest : List Oper}
variable {d : Nat} {x y c : Operand} {t u ty : TypeId} {pos : String} {aft : Array Edge} {v : Value} {tys : Array TypeId}
/-- a literal slice -/
def rowPlace (es : Nat) : Nat → Option (Nat × Nat) := fun i => some (i * es, es)
def zerosL (z : List Value) (m : Nat) : List Value := (List.range m).map fun i => z.getD (i % z.length) undef
theorem W_buildSlice {len s es by_ eb m : Nat} {e : TypeId} {z ez : Value} {ed : TypeDesc} {parts : List (Nat × Operand)} {ps : List (Nat × List Value)} {l : List Value} (ht : Ty P t (.slice e) s z by_) (he : Ty P e ed es ez eb)
    (hp : Parts env (rowPlace es) m parts ps) (hm : len * es = m) (hsz : Nat.ble m 16777216 = true) (hz : Nat.beq ez.cells.size es = true) (hes : Nat.blt 0 es = true) (hl : fillL (zerosL ez.cells.toList m) ps = l) (hll : l.length = m) (hd : Nat.blt d n = true)
    (h : ∀ b : Nat, W P rd w0 Q n ds (.ops all rest :: k) ((d, .slice (some ⟨b, 0, none⟩) len len) :: env) ((b, .cells e m l) :: H)) :
    W P rd w0 Q n ds (.ops all (⟨some d, .buildSlice t len parts.toArray, ty, pos, aft, none⟩ :: rest) :: k) env H := by
  subst hm
  refine W_gen rfl nofun hd fun a w ha hs => ?_
  have hz' : ez.cells.size = es := by simpa using hz
  have hes' : 0 < es := by simpa using hes
  have hsz' : len * es ≤ 16777216 := by simpa using hsz
  have hzl : ((Array.range (len * es)).map (ez.cells[· % ez.cells.size]!)).toList = zerosL ez.cells.toList (len * es) := by
    simp only [zerosL, Array.toList_map, Array.toList_range]
    refine List.map_congr_left fun i hi => ?_
    have hlt : i % ez.cells.size < ez.cells.size := Nat.mod_lt _ (by omega)
    have hlt' : i % ez.cells.toList.length < ez.cells.toList.length := by simpa using hlt
    show ez.cells[i % ez.cells.size]! = ez.cells.toList.getD (i % ez.cells.toList.length) undef
    rw [getElem!_pos ez.cells _ hlt, List.getD, List.getElem?_eq_getElem hlt']
    simp
  obtain ⟨out, ho, hol⟩ := hp.run ha (cells := (Array.range (len * es)).map (ez.cells[· % ez.cells.size]!)) (by simp)
  rw [hzl, hl] at hol
  have hos : out.size = len * es := by rw [← Array.length_toList, hol, hll]
  refine ⟨.slice (some ⟨w.heap.size, 0, none⟩) len len, _, w.alloc (.cells out e), .inl ?_, hs.alloc _ (At.alloc_cells w out e), ?_⟩
  · have hr : (Instr.buildSlice t len (parts.map fun (i, x) => (i, a.eval x)).toArray).run P w = .ok (.slice (some ⟨w.heap.size, 0, none⟩) len len) (w.alloc (.cells out e)) := by
      unfold Instr.buildSlice
      simp only [Sem.run_bind, ht.run, he.size, Result.andThen]
      rw [if_neg (by omega)]
      by_cases h0 : len * es = 0
      · have hl0 : len = 0 := by
          rcases Nat.mul_eq_zero.1 h0 with h | h
          · exact h
          · omega
        subst hl0
        have e0 : ∀ f : Nat → Value, Array.map f (Array.range (0 * es)) = #[] := fun f => by simp
        rw [e0] at ho
        have ho' : Instr.fill (fun i => some (i * es, es)) #[] (parts.map fun (i, x) => (i, a.eval x)) = some out := ho
        simp only [h0, if_true, Sem.run_pure, Result.andThen]
        have e1 : ∀ f : Nat → Value, Array.map f (Array.range 0) = #[] := fun f => by simp
        simp only [e1, ho']
        simp [newRow, Result.andThen]
      · have ho' := ho
        unfold rowPlace at ho'
        simp [h0, he.zero, Result.andThen, ho', newRow]
    simp [execOp, hr, Result.andThen]
  · have := h w.heap.size
    rw [← hol, ← hos] at this
    simpa [put] using this
/-- a literal struct -/
structure StructPl (P : Program) (t : TypeId) (pl : List (Nat × Nat)) : Prop where
  is : ∃ fs, P.underlying t = some (.struct fs) ∧ ∀ w, (fs.mapM fun f => (do pure (f.offset, ← sizeOf f.type) : Sem (Nat × Nat))).run P w = .ok pl.toArray w
theorem W_build {s by_ : Nat} {z : Value} {td : TypeDesc} {pl : List (Nat × Nat)} {parts : List (Nat × Operand)} {ps : List (Nat × List Value)} {l : List Value} (ht : Ty P t td s z by_) (hst : StructPl P t pl)
    (hp : Parts env (fun i => pl[i]?) s parts ps) (hz : Nat.beq z.cells.size s = true) (hl : fillL z.cells.toList ps = l) (hd : Nat.blt d n = true)
    (h : W P rd w0 Q n ds (.ops all rest :: k) ((d, .agg l.toArray) :: env) H) :
    W P rd w0 Q n ds (.ops all (⟨some d, .build t parts.toArray, ty, pos, aft, none⟩ :: rest) :: k) env H :=
  W_pure rfl nofun hd (fun a w ha _ => by
    obtain ⟨fs, h1, h2⟩ := hst.is
    obtain ⟨out, ho, hol⟩ := hp.run ha (cells := z.cells) (by simpa using hz)
    have hout : out = l.toArray := by apply Array.ext'; rw [hol, hl]
    have h2' := h2 w
    have ho' : Instr.fill (pl.toArray[·]?) z.cells (parts.map fun (i, x) => (i, a.eval x)) = some out := by
      simpa using ho
    have hr : (Instr.build t (parts.map fun (i, x) => (i, a.eval x)).toArray).run P w = .ok (.agg l.toArray) w := by
      unfold Instr.build
      simp only [Sem.run_bind, ht.zero, Result.andThen, run_underlying h1]
      rw [h2']
      simp only [ho', hout, Sem.run_pure]
    simp [execOp, hr, Result.andThen]) h
end
end Go.Sl
