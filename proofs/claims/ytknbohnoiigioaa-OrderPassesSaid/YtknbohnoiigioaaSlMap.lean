/-
  Own work: the small logic, more of its rules; of any program.
-/
import Derived.Test.YtknbohnoiigioaaSlGuard
import Derived.Maps.RangeRun
import Derived.WideLaws
set_option linter.all false
set_option linter.unusedSimpArgs false
set_option linter.unusedVariables false
namespace Go.Sl
open Go.RowKit
open Go.ChangeMaps (setBlock)
/-! ## Maps of one's own -/
/-- keys that are one number or one string each -/
structure KeyKind (P : Program) (K : TypeId) {α : Type} [DecidableEq α] (kf : α → Value) : Prop where
  check : ∀ (b : Bool) (a : α) (w : World), (Instr.checkKey b 10000 K (kf a)).run P w = .ok () w
  same : ∃ d, P.underlying K = some d ∧ ∀ a a', Instr.sameNow d (kf a) (kf a') = some (decide (a = a'))
  stays : ∀ (a : α) (w : World), (Instr.keyThatStays (kf a) (kf a)).run P w = .ok (kf a) w
theorem intKeys {P : Program} {K : TypeId} {q : IntKind} (h : P.underlying K = some (.int q)) : KeyKind P K (Value.int q) where
  check b a w := MapKept.run_checkKey (d := .int q) h (show MapKept.IsKey (.int q) (.int q a) from rfl) b 9999
  same := ⟨_, h, fun a a' => by simp [Instr.sameNow, Bool.beq_eq_decide_eq]⟩
  stays a w := by simp [Instr.keyThatStays, Instr.sameBits]
theorem strKeys {P : Program} {K : TypeId} (h : P.underlying K = some .string) : KeyKind P K Value.string where
  check b a w := MapKept.run_checkKey (d := .string) h (show MapKept.IsKey .string (.string a) from True.intro) b 9999
  same := ⟨_, h, fun a a' => by
    simp only [Instr.sameNow, Option.some.injEq]
    rw [beq_toListBytes]
    obtain ⟨⟨l⟩⟩ := a
    obtain ⟨⟨l'⟩⟩ := a'
    rw [Bool.eq_iff_iff, beq_iff_eq, ByteArray.toList_eq, ByteArray.toList_eq]
    simp⟩
  stays a w := by
    have : Instr.sameBits 10000 (.string a) (.string a) = true := by
      unfold Instr.sameBits
      rw [beq_toListBytes]; simp
    simp [Instr.keyThatStays, this]
section
variable {α : Type} [DecidableEq α]
/-- an entry: its key, its value, its stamp -/
abbrev Ents (α : Type) := List (α × Value × Nat)
def entO (kf : α → Value) (p : α × Value × Nat) : MapEntry := ⟨kf p.1, p.2.1, p.2.2⟩
def mapO (kf : α → Value) (l : Ents α) (c : Nat) : Obj := .map (l.map (entO kf)).toArray c
structure MapOk (l : Ents α) (c : Nat) : Prop where
  keys : (l.map (·.1)).Nodup
  born : (l.map (·.2.2)).Nodup
  lt : ∀ p ∈ l, p.2.2 < c
def mIdx (l : Ents α) (a : α) : Option Nat := l.findIdx? (fun p => decide (a = p.1))
def mGet (l : Ents α) (a : α) : Option Value := (l.find? (fun p => decide (a = p.1))).map (·.2.1)
def mHas (l : Ents α) (a : α) : Bool := l.any (fun p => decide (a = p.1))
def mPut (l : Ents α) (c : Nat) (a : α) (v : Value) : Ents α := if mHas l a then l.map (fun p => if a = p.1 then (p.1, v, p.2.2) else p) else l ++ [(a, v, c)]
def mClk (l : Ents α) (c : Nat) (a : α) : Nat := if mHas l a then c else c + 1
def mDel (l : Ents α) (a : α) : Ents α := l.filter (fun p => decide (a ≠ p.1))
theorem MapOk.nil (c : Nat) : MapOk ([] : Ents α) c := ⟨List.nodup_nil, List.nodup_nil, fun _ h => by cases h⟩
theorem mHas_iff {l : Ents α} {a : α} : mHas l a = true ↔ a ∈ l.map (·.1) := by
  unfold mHas
  rw [List.any_eq_true, List.mem_map]
  exact ⟨fun ⟨p, hp, h⟩ => ⟨p, hp, (of_decide_eq_true h).symm⟩, fun ⟨p, hp, h⟩ => ⟨p, hp, decide_eq_true h.symm⟩⟩
theorem MapOk.put {l : Ents α} {c : Nat} (h : MapOk l c) (a : α) (v : Value) : MapOk (mPut l c a v) (mClk l c a) := by
  unfold mPut mClk
  cases hh : mHas l a with
  | true =>
    simp only [if_true]
    have e1 : (l.map (fun p => if a = p.1 then (p.1, v, p.2.2) else p)).map (·.1) = l.map (·.1) := by
      rw [List.map_map]; apply List.map_congr_left; intro p _; simp only [Function.comp]; split <;> rfl
    have e2 : (l.map (fun p => if a = p.1 then (p.1, v, p.2.2) else p)).map (·.2.2) = l.map (·.2.2) := by
      rw [List.map_map]; apply List.map_congr_left; intro p _; simp only [Function.comp]; split <;> rfl
    refine ⟨by rw [e1]; exact h.keys, by rw [e2]; exact h.born, fun p hp => ?_⟩
    obtain ⟨q, hq, rfl⟩ := List.mem_map.1 hp
    have := h.lt q hq
    split <;> exact this
  | false =>
    simp only [Bool.false_eq_true, if_false]
    have hn : a ∉ l.map (·.1) := fun hm => by rw [mHas_iff.2 hm] at hh; cases hh
    refine ⟨?_, ?_, fun p hp => ?_⟩
    · rw [List.map_append]
      refine List.nodup_append.2 ⟨h.keys, by simp, fun x hx y hy => ?_⟩
      have hy' : y = a := by simpa using hy
      subst hy'
      exact fun e => hn (e ▸ hx)
    · rw [List.map_append]
      refine List.nodup_append.2 ⟨h.born, by simp, fun x hx y hy => ?_⟩
      have hy' : y = c := by simpa using hy
      subst hy'
      obtain ⟨p, hp, rfl⟩ := List.mem_map.1 hx
      have := h.lt p hp
      exact fun e => by omega
    · rcases List.mem_append.1 hp with hp | hp
      · have := h.lt p hp; omega
      · obtain rfl : p = (a, v, c) := by simpa using hp
        exact Nat.lt_succ_self c
theorem MapOk.del {l : Ents α} {c : Nat} (h : MapOk l c) (a : α) : MapOk (mDel l a) c :=
  ⟨h.keys.sublist ((List.filter_sublist).map _), h.born.sublist ((List.filter_sublist).map _), fun p hp => h.lt p (List.mem_filter.1 hp).1⟩
/-! the model's operations, on entries -/
theorem find_now {d : TypeDesc} {kf : α → Value} (hs : ∀ a a', Instr.sameNow d (kf a) (kf a') = some (decide (a = a'))) (a : α) : ∀ (l : Ents α) (i : Nat),
    Instr.findNow d (kf a) (l.map (entO kf)) i = some ((mIdx l a).map fun j => (i + j, ((l[j]?).map (·.2.1)).getD undef))
  | [], i => by simp [Instr.findNow, mIdx]
  | p :: l, i => by
    simp only [List.map_cons, Instr.findNow, entO, hs]
    by_cases h : a = p.1
    · simp [h, mIdx, List.findIdx?_cons]
    · simp only [decide_eq_false h]
      rw [find_now hs a l (i + 1)]
      simp only [mIdx, List.findIdx?_cons, decide_eq_false h, Bool.false_eq_true, if_false, Option.map_map]
      congr 2
      funext j
      simp only [Function.comp, List.getElem?_cons_succ]
      congr 1
      omega
theorem idx_some {l : Ents α} {a : α} {j : Nat} (h : mIdx l a = some j) : ∃ p, l[j]? = some p ∧ a = p.1 ∧ l.find? (fun p => decide (a = p.1)) = some p := by
  unfold mIdx at h
  obtain ⟨hj, h1, h2⟩ := List.findIdx?_eq_some_iff_getElem.1 h
  refine ⟨l[j], List.getElem?_eq_getElem hj, of_decide_eq_true h1, ?_⟩
  rw [List.find?_eq_some_iff_getElem]
  exact ⟨h1, j, hj, rfl, fun i hi => by simpa using h2 i hi⟩
theorem idx_none {l : Ents α} {a : α} (h : mIdx l a = none) : mHas l a = false ∧ l.find? (fun p => decide (a = p.1)) = none := by
  unfold mIdx at h
  rw [List.findIdx?_eq_none_iff] at h
  refine ⟨?_, List.find?_eq_none.2 fun p hp => by simpa using h p hp⟩
  unfold mHas
  rw [List.any_eq_false]
  intro p hp
  simpa using h p hp
theorem has_idx {l : Ents α} {a : α} {j : Nat} (h : mIdx l a = some j) : mHas l a = true := by
  obtain ⟨p, hp, e, _⟩ := idx_some h
  exact mHas_iff.2 (e ▸ List.mem_map.2 ⟨p, List.mem_of_getElem? hp, rfl⟩)
theorem modify_ents {kf : α → Value} {v : Value} (a : α) : ∀ {l : Ents α} {j : Nat}, (l.map (·.1)).Nodup → mIdx l a = some j →
    (l.map (entO kf)).modify j (fun e => { e with key := kf a, val := v }) = (l.map (fun p => if a = p.1 then (p.1, v, p.2.2) else p)).map (entO kf)
  | [], j, _, h => by simp [mIdx] at h
  | p :: l, j, hn, h => by
    have hn' := List.nodup_cons.1 hn
    by_cases hp : a = p.1
    · have hj : j = 0 := by simp [mIdx, List.findIdx?_cons, hp] at h; exact h.symm
      subst hj
      have ht : l.map (fun p => if a = p.1 then (p.1, v, p.2.2) else p) = l := by
        conv => rhs; rw [← List.map_id l]
        apply List.map_congr_left
        intro q hq
        have hne : ¬ a = q.1 := fun e => hn'.1 (List.mem_map.2 ⟨q, hq, e.symm.trans hp⟩)
        simp [hne]
      simp only [List.map_cons, if_pos hp, ht, List.modify_zero_cons]
      rw [show entO kf (p.1, v, p.2.2) = { entO kf p with key := kf a, val := v } by simp [entO, hp]]
    · have h' : ∃ i, mIdx l a = some i ∧ j = i + 1 := by
        unfold mIdx at h ⊢
        rw [List.findIdx?_cons, decide_eq_false hp] at h
        simp only [Bool.false_eq_true, if_false, Option.map_eq_some_iff] at h
        obtain ⟨i, hi, e⟩ := h
        exact ⟨i, hi, e.symm⟩
      obtain ⟨i, hi, rfl⟩ := h'
      simp only [List.map_cons, List.modify_succ_cons, if_neg hp]
      rw [modify_ents a hn'.2 hi]
theorem erase_ents {a : α} : ∀ {l : Ents α} {j : Nat}, (l.map (·.1)).Nodup → mIdx l a = some j → l.eraseIdx j = mDel l a
  | [], j, _, h => by simp [mIdx] at h
  | p :: l, j, hn, h => by
    have hn' := List.nodup_cons.1 hn
    by_cases hp : a = p.1
    · have hj : j = 0 := by simp [mIdx, List.findIdx?_cons, hp] at h; exact h.symm
      subst hj
      have ht : mDel l a = l := by
        unfold mDel
        rw [List.filter_eq_self]
        intro q hq
        exact decide_eq_true fun e => hn'.1 (List.mem_map.2 ⟨q, hq, e.symm.trans hp⟩)
      rw [List.eraseIdx_cons_zero]
      show l = (p :: l).filter _
      rw [List.filter_cons_of_neg (by simp [hp])]
      exact ht.symm
    · have h' : ∃ i, mIdx l a = some i ∧ j = i + 1 := by
        unfold mIdx at h ⊢
        rw [List.findIdx?_cons, decide_eq_false hp] at h
        simp only [Bool.false_eq_true, if_false, Option.map_eq_some_iff] at h
        obtain ⟨i, hi, e⟩ := h
        exact ⟨i, hi, e.symm⟩
      obtain ⟨i, hi, rfl⟩ := h'
      rw [List.eraseIdx_cons_succ, erase_ents hn'.2 hi]
      show _ = (p :: l).filter _
      rw [List.filter_cons_of_pos (by simpa using hp)]
      rfl
theorem del_none {l : Ents α} {a : α} (h : mHas l a = false) : mDel l a = l := by
  unfold mDel
  rw [List.filter_eq_self]
  intro q hq
  unfold mHas at h
  rw [List.any_eq_false] at h
  simpa using h q hq
end
/-! ## The rules -/
section
variable {P : Program} {rd : Option Nat} {w0 : World} {Q : Exit → Act → World → Prop} {n : Nat} {ds : List Deferred} {k : List It} {env env' : Env} {H H' : Heap} {all : Array Oper} {rest : List Oper}
variable {d : Nat} {x y z c : Operand} {t u ty K E : TypeId} {pos : String} {aft : Array Edge} {v : Value} {s by_ : Nat} {tz : Value}
variable {α : Type} [DecidableEq α] {kf : α → Value} {l : Ents α} {cl b : Nat} {a : α}
theorem setBlock_below {w0 w : World} {r : Nat} {o : Obj} (h : w0.heap.size ≤ r) : Below w0.heap.size w (setBlock w r o) :=
  ⟨rfl, rfl, rfl, by simp [setBlock], fun k hk => by simp only [setBlock]; rw [Array.getElem?_setIfInBounds_ne (by omega)]⟩
theorem Sat.setO {w : World} {r : Nat} {o o' : Obj} (hs : Sat w0 H w) (hu : Upd r (.obj o) (.obj o') H H') : Sat w0 H' (setBlock w r o') := by
  obtain ⟨hb, hr⟩ := hs.own _ hu.mem
  have hr' : w.heap[r]? = some o := hr
  exact hs.upd hu (setBlock_below hb) (fun j hj _ => by simp only [setBlock]; rw [Array.getElem?_setIfInBounds_ne (Ne.symm hj)]) (by
    show (setBlock w r o').heap[r]? = some o'
    have hlt : r < w.heap.size := (Array.getElem?_eq_some_iff.1 hr').1
    simp [setBlock, hlt])
theorem Sat.drew' {w : World} (hs : Sat w0 H w) : Sat w0 H w.drew := hs.drew
theorem W_makeMap (hd : Nat.blt d n = true) (h : ∀ b : Nat, W P rd w0 Q n ds (.ops all rest :: k) ((d, .map (some b)) :: env) ((b, .obj (mapO kf [] 0)) :: H)) :
    W P rd w0 Q n ds (.ops all (⟨some d, .makeMap t none, ty, pos, aft, none⟩ :: rest) :: k) env H :=
  W_gen rfl nofun hd fun a w ha hs => ⟨.map (some w.heap.size), (w.heap.size, .obj (mapO kf [] 0)) :: H, w.alloc (.map #[] 0), .inl (by simp [execOp, run_makeMap, Result.andThen]), hs.alloc _ (At.alloc_obj w _), h w.heap.size⟩
theorem run_lookup (hk : KeyKind P K kf) (ht : Ty P t (.map K E) s tz by_) {zE : Value} (hz : ∀ w, (zeroValue E).run P w = .ok zE w) {w : World} (hb : w.heap[b]? = some (mapO kf l cl)) (ok : Bool) :
    (Instr.lookup t (.map (some b)) (kf a) ok).run P w = .ok (if ok then .tuple #[(mGet l a).getD zE, .bool (mHas l a)] else (mGet l a).getD zE) w := by
  obtain ⟨dK, hu, hsame⟩ := hk.same
  have hf := MapKept.run_findKey (P := P) (w := w) hu (find_now hsame a l 0)
  simp only [Instr.lookup, Sem.run_bind, ht.run, Result.andThen, MapKept.run_getObj_map hb, Sem.run_pure, hk.check, hf]
  cases hi : mIdx l a with
  | none =>
    obtain ⟨h1, h2⟩ := idx_none hi
    simp only [Option.map_none, Sem.run_bind, hz, Result.andThen, Sem.run_pure, mGet, h2, Option.getD_none, h1]
  | some j =>
    obtain ⟨p, hp, e, hfd⟩ := idx_some hi
    simp only [Option.map_some, hp, Option.getD_some, Sem.run_pure, Result.andThen, mGet, hfd, has_idx hi]
    cases ok <;> rfl
theorem X_lookup {ok : Bool} (hx : opv env x = some (.map (some b))) (hy : opv env y = some (kf a)) (hk : KeyKind P K kf) (ht : Ty P t (.map K E) s tz by_) {zE : Value} (hz : ∀ w, (zeroValue E).run P w = .ok zE w) (hm : (b, Blk.obj (mapO kf l cl)) ∈ H) :
    Ex P n env (Sat w0 H) (.lookup t x y ok) ty (if ok then .tuple #[(mGet l a).getD zE, .bool (mHas l a)] else (mGet l a).getD zE) := fun a' w d pos aft g ha hs => by
  have hb : w.heap[b]? = some (mapO kf l cl) := (hs.own _ hm).2
  simp [execOp, ha.opv hx, ha.opv hy, run_lookup hk ht hz hb, Result.andThen]
theorem run_lookupNil (hk : KeyKind P K kf) (ht : Ty P t (.map K E) s tz by_) {zE : Value} (hz : ∀ w, (zeroValue E).run P w = .ok zE w) (w : World) (ok : Bool) :
    (Instr.lookup t (.map none) (kf a) ok).run P w = .ok (if ok then .tuple #[zE, .bool false] else zE) w := by
  obtain ⟨dK, hu, hsame⟩ := hk.same
  have hf := MapKept.run_findKey (P := P) (w := w) hu (find_now (kf := kf) hsame a [] 0)
  simp only [List.map_nil] at hf
  simp only [Instr.lookup, Sem.run_bind, ht.run, Result.andThen, Sem.run_pure, hk.check, hf, mIdx, List.findIdx?_nil, Option.map_none, hz]
theorem W_lookup {ok : Bool} (hx : opv env x = some (.map (some b))) (hy : opv env y = some (kf a)) (hk : KeyKind P K kf) (ht : Ty P t (.map K E) s tz by_) {zE : Value} (hz : ∀ w, (zeroValue E).run P w = .ok zE w) (hm : (b, Blk.obj (mapO kf l cl)) ∈ H) (hd : Nat.blt d n = true)
    (h : W P rd w0 Q n ds (.ops all rest :: k) ((d, if ok then .tuple #[(mGet l a).getD zE, .bool (mHas l a)] else (mGet l a).getD zE) :: env) H) :
    W P rd w0 Q n ds (.ops all (⟨some d, .lookup t x y ok, ty, pos, aft, none⟩ :: rest) :: k) env H :=
  W_pure rfl nofun hd (fun a' w ha hs => X_lookup hx hy hk ht hz hm a' w (some d) pos aft none ha hs) h
theorem run_put (hk : KeyKind P K kf) (ht : Ty P t (.map K E) s tz by_) (hok : MapOk l cl) {w : World} (hb : w.heap[b]? = some (mapO kf l cl)) :
    (Instr.mapUpdate t (.map (some b)) (kf a) v).run P w = .ok () (setBlock w b (mapO kf (mPut l cl a v) (mClk l cl a))) := by
  obtain ⟨dK, hu, hsame⟩ := hk.same
  have hf := MapKept.run_findKey (P := P) (w := w) hu (find_now hsame a l 0)
  simp only [Instr.mapUpdate, Sem.run_bind, ht.run, Result.andThen, MapKept.run_getObj_map hb, Sem.run_pure, hk.check, hf]
  cases hi : mIdx l a with
  | none =>
    obtain ⟨h1, h2⟩ := idx_none hi
    simp only [Option.map_none, MapKept.run_setObj_map _ hb, setBlock, mapO, mPut, mClk, h1, Bool.false_eq_true, if_false]
    congr 2
    simp [entO]
  | some j =>
    obtain ⟨p, hp, e, hfd⟩ := idx_some hi
    have hg : (((l.map (entO kf)).toArray[0 + j]?).map (·.key)).getD (kf a) = kf a := by
      simp [hp, entO, e]
    simp only [Option.map_some, Sem.run_bind, hg, hk.stays, Result.andThen, MapKept.run_setObj_map _ hb, setBlock, mapO, mPut, mClk, has_idx hi, if_true]
    congr 2
    have := modify_ents (kf := kf) (v := v) a hok.keys hi
    rw [← this]
    have e2 : (l.map (entO kf)).toArray.modify (0 + j) (fun e => { e with key := kf a, val := v }) = ((l.map (entO kf)).modify j (fun e => { e with key := kf a, val := v })).toArray := by
      apply Array.ext'
      simp
    rw [e2]
theorem W_mapUpdate (hx : opv env x = some (.map (some b))) (hy : opv env y = some (kf a)) (hv : opv env z = some v) (hk : KeyKind P K kf) (ht : Ty P t (.map K E) s tz by_) (hok : MapOk l cl) (hu : Upd b (.obj (mapO kf l cl)) (.obj (mapO kf (mPut l cl a v) (mClk l cl a))) H H')
    (h : W P rd w0 Q n ds (.ops all rest :: k) env H') : W P rd w0 Q n ds (.ops all (⟨none, .mapUpdate t x y z, ty, pos, aft, none⟩ :: rest) :: k) env H :=
  W_gen rfl nofun rfl fun a' w ha hs => by
    have hb : w.heap[b]? = some (mapO kf l cl) := (hs.own _ hu.mem).2
    refine ⟨undef, H', _, .inr ⟨?_, rfl⟩, hs.setO hu, h⟩
    simp [execOp, ha.opv hx, ha.opv hy, ha.opv hv, run_put hk ht hok hb, Result.andThen]
theorem run_del (hk : KeyKind P K kf) (ht : Ty P t (.map K E) s tz by_) (hok : MapOk l cl) {w : World} (hb : w.heap[b]? = some (mapO kf l cl)) :
    (Builtin.delete_ #[t, u] ty #[.map (some b), kf a]).run P w = .ok (.tuple #[]) (setBlock w b (mapO kf (mDel l a) cl)) := by
  obtain ⟨dK, hu, hsame⟩ := hk.same
  have hf := MapKept.run_findKey (P := P) (w := w) hu (find_now hsame a l 0)
  have h0 : (#[t, u] : Array TypeId)[0]? = some t := rfl
  have h1 : (#[Value.map (some b), kf a] : Array Value)[0]? = some (.map (some b)) := rfl
  have h2 : (#[Value.map (some b), kf a] : Array Value)[1]? = some (kf a) := rfl
  simp only [Builtin.delete_, h0, h1, h2, Sem.run_bind, ht.run, Result.andThen, MapKept.run_getObj_map hb, hk.check, hf]
  cases hi : mIdx l a with
  | none =>
    obtain ⟨h1, h2⟩ := idx_none hi
    simp [MapKept.run_setObj_map _ hb, setBlock, mapO, del_none h1, Result.andThen]
  | some j =>
    rw [← erase_ents hok.keys hi]
    have e : ((l.map (entO kf)).toArray.eraseIdxIfInBounds (0 + j)) = ((l.eraseIdx j).map (entO kf)).toArray := by
      apply Array.ext'
      rw [Nat.zero_add, Array.toList_eraseIdxIfInBounds]
      simp [Go.ChangeMaps.map_eraseIdx]
    simp [e, MapKept.run_setObj_map _ hb, setBlock, mapO, Result.andThen, Go.ChangeMaps.map_eraseIdx]
theorem W_delete {od : Option Nat} (hx : opv env x = some (.map (some b))) (hy : opv env y = some (kf a)) (hk : KeyKind P K kf) (ht : Ty P t (.map K E) s tz by_) (hok : MapOk l cl) (hu : Upd b (.obj (mapO kf l cl)) (.obj (mapO kf (mDel l a) cl)) H H') (hd : dok n od = true)
    (h : W P rd w0 Q n ds (.ops all rest :: k) (put od (.tuple #[]) env) H') : W P rd w0 Q n ds (.ops all (⟨od, .call ⟨.builtin .delete, #[x, y], #[t, u]⟩, ty, pos, aft, none⟩ :: rest) :: k) env H :=
  W_gen rfl nofun hd fun a' w ha hs => by
    have hb : w.heap[b]? = some (mapO kf l cl) := (hs.own _ hu.mem).2
    refine ⟨.tuple #[], H', _, .inl ?_, hs.setO hu, h⟩
    simp [execOp, resolve, invoke, builtin, ha.opv hx, ha.opv hy, run_del hk ht hok hb, Result.andThen]
theorem X_lenMap (hx : opv env x = some (.map (some b))) (ht : Ty P t (.map K E) s tz by_) (hm : (b, Blk.obj (mapO kf l cl)) ∈ H) :
    Ex P n env (Sat w0 H) (.call ⟨.builtin .len, #[x], #[t]⟩) ty (.int .i64 (l.length : Int)) := fun a' w d pos aft g ha hs => by
  have hb : w.heap[b]? = some (.map (l.map (entO kf)).toArray cl) := (hs.own _ hm).2
  simp [execOp, resolve, invoke, builtin, ha.opv hx, Builtin.len_, ht.run, MapKept.run_getObj_map hb, goInt, Result.andThen]
theorem W_lenMap (hx : opv env x = some (.map (some b))) (ht : Ty P t (.map K E) s tz by_) (hm : (b, Blk.obj (mapO kf l cl)) ∈ H) (hd : Nat.blt d n = true)
    (h : W P rd w0 Q n ds (.ops all rest :: k) ((d, .int .i64 (l.length : Int)) :: env) H) : W P rd w0 Q n ds (.ops all (⟨some d, .call ⟨.builtin .len, #[x], #[t]⟩, ty, pos, aft, none⟩ :: rest) :: k) env H :=
  W_pure rfl nofun hd (fun a' w ha hs => X_lenMap hx ht hm a' w (some d) pos aft none ha hs) h
/-! ranging -/
def iterO (b since : Nat) (sl : List Nat) (c0 : Nat) : Obj := .mapIter (some b) since sl.toArray c0
theorem W_range (hx : opv env x = some (.map (some b))) (ht : Ty P t (.map K E) s tz by_) (hm : (b, Blk.obj (mapO kf l cl)) ∈ H) (hd : Nat.blt d n = true)
    (h : ∀ r : Nat, W P rd w0 Q n ds (.ops all rest :: k) ((d, .pointer (some ⟨r, 0, none⟩)) :: env) ((r, .obj (iterO b cl [] cl)) :: H)) :
    W P rd w0 Q n ds (.ops all (⟨some d, .range t x, ty, pos, aft, none⟩ :: rest) :: k) env H :=
  W_gen rfl nofun hd fun a' w ha hs => by
    have hb : w.heap[b]? = some (.map (l.map (entO kf)).toArray cl) := (hs.own _ hm).2
    refine ⟨.pointer (some ⟨w.heap.size, 0, none⟩), (w.heap.size, .obj (iterO b cl [] cl)) :: H, w.alloc (.mapIter (some b) cl #[] cl), .inl ?_, hs.alloc _ (At.alloc_obj w _), h w.heap.size⟩
    simp [execOp, ha.opv hx, run_range_map w t K E b _ cl ht.und hb, Result.andThen]
theorem W_next {r since c0 : Nat} {sl : List Nat} {HN : (α × Value × Nat) → Heap} (hx : opv env x = some (.pointer (some ⟨r, 0, none⟩))) (hm : (b, Blk.obj (mapO kf l cl)) ∈ H) (hr : (r, Blk.obj (iterO b since sl c0)) ∈ H) (hold : ∀ p ∈ l, p.2.2 < since) (hsc : since ≤ c0)
    (hu : ∀ p, Upd r (.obj (iterO b since sl c0)) (.obj (iterO b since (sl ++ [p.2.2]) cl)) H (HN p)) (hd : Nat.blt d n = true)
    (h0 : (∀ p ∈ l, p.2.2 ∈ sl) → W P rd w0 Q n ds (.ops all rest :: k) ((d, .tuple #[.bool false]) :: env) H)
    (h1 : ∀ p ∈ l, p.2.2 ∉ sl → W P rd w0 Q n ds (.ops all rest :: k) ((d, .tuple #[.bool true, kf p.1, p.2.1]) :: env) (HN p)) :
    W P rd w0 Q n ds (.ops all (⟨some d, .next x false, ty, pos, aft, none⟩ :: rest) :: k) env H :=
  W_gen rfl nofun hd fun a' w ha hs => by
    have hb : w.heap[b]? = some (.map (l.map (entO kf)).toArray cl) := (hs.own _ hm).2
    have hri : w.heap[r]? = some (.mapIter (some b) since sl.toArray c0) := (hs.own _ hr).2
    have hold' : ∀ e ∈ (l.map (entO kf)).toArray.toList, e.born < since := fun e he => by
      obtain ⟨p, hp, rfl⟩ : ∃ p, p ∈ l ∧ entO kf p = e := List.mem_map.1 he
      exact hold p hp
    rcases run_next_at (P := P) w ty r b since c0 sl.toArray _ cl hri hb hold' hsc with ⟨hz, hrun⟩ | ⟨e, he, w1, hw1, hrun⟩
    · refine ⟨.tuple #[.bool false], H, w, .inl ?_, hs, h0 fun p hp => ?_⟩
      · simp [execOp, ha.opv hx, hrun, Result.andThen]
      · have hnil : leftOf (l.map (entO kf)).toArray sl.toArray = #[] := Array.eq_empty_of_size_eq_zero hz
        unfold leftOf at hnil
        rw [Array.filter_eq_empty_iff] at hnil
        have := hnil (entO kf p) (by simpa using List.mem_map.2 ⟨p, hp, rfl⟩)
        simpa [entO] using this
    · obtain ⟨hmem, hnc⟩ := mem_left he
      obtain ⟨p, hp, rfl⟩ : ∃ p, p ∈ l ∧ entO kf p = e := List.mem_map.1 hmem
      refine ⟨.tuple #[.bool true, kf p.1, p.2.1], HN p, setBlock w1 r (.mapIter (some b) since (sl.toArray.push (entO kf p).born) cl), .inl ?_, ?_, h1 p hp (by simpa [entO] using hnc)⟩
      · have : (Instr.next (.pointer (some ⟨r, 0, none⟩)) false ty).run P w = .ok (.tuple #[.bool true, kf p.1, p.2.1]) (setBlock w1 r (.mapIter (some b) since (sl.toArray.push (entO kf p).born) cl)) := hrun
        simp [execOp, ha.opv hx, this, Result.andThen]
      · have hs1 : Sat w0 H w1 := by
          rcases hw1 with rfl | rfl
          · exact hs
          · exact hs.drew
        have e2 : (.mapIter (some b) since (sl.toArray.push (entO kf p).born) cl : Obj) = iterO b since (sl ++ [p.2.2]) cl := by simp [iterO, entO]
        rw [e2]
        exact hs1.setO (hu p)
theorem X_entry {r since : Nat} {sl : List Nat} {p : α × Value × Nat} (hx : opv env x = some (.pointer (some ⟨r, 0, none⟩))) (hm : (b, Blk.obj (mapO kf l cl)) ∈ H) (hr : (r, Blk.obj (iterO b since (sl ++ [p.2.2]) cl)) ∈ H) (hp : p ∈ l) (hok : MapOk l cl) :
    Ex P n env (Sat w0 H) (.entry x) ty (.tuple #[kf p.1, p.2.1]) := fun a' w d pos aft g ha hs => by
  have hb : w.heap[b]? = some (.map (l.map (entO kf)).toArray cl) := (hs.own _ hm).2
  have hri : w.heap[r]? = some (.mapIter (some b) since (sl.toArray.push (entO kf p).born) cl) := by
    have : w.heap[r]? = some (.mapIter (some b) since (sl ++ [p.2.2]).toArray cl) := (hs.own _ hr).2
    rw [this]; simp [entO]
  have := run_entry_at (P := P) w r b since sl.toArray _ cl (entO kf p) hri hb (List.mem_map.2 ⟨p, hp, rfl⟩) (by
    show (((l.map (entO kf)).map (·.born))).Nodup
    rw [List.map_map]
    exact hok.born)
  simp [execOp, ha.opv hx, this, Result.andThen, entO]
theorem W_entry {r since : Nat} {sl : List Nat} {p : α × Value × Nat} (hx : opv env x = some (.pointer (some ⟨r, 0, none⟩))) (hm : (b, Blk.obj (mapO kf l cl)) ∈ H) (hr : (r, Blk.obj (iterO b since (sl ++ [p.2.2]) cl)) ∈ H) (hp : p ∈ l) (hok : MapOk l cl) (hd : Nat.blt d n = true)
    (h : W P rd w0 Q n ds (.ops all rest :: k) ((d, .tuple #[kf p.1, p.2.1]) :: env) H) : W P rd w0 Q n ds (.ops all (⟨some d, .entry x, ty, pos, aft, none⟩ :: rest) :: k) env H :=
  W_pure rfl nofun hd (fun a' w ha hs => X_entry hx hm hr hp hok a' w (some d) pos aft none ha hs) h
theorem nat_sub_len : ∀ {a b : List Nat}, a.Nodup → (∀ x ∈ a, x ∈ b) → a.length ≤ b.length
  | [], _, _, _ => Nat.zero_le _
  | x :: a, b, hn, h => by
    have hn' := List.nodup_cons.1 hn
    have hx := h x List.mem_cons_self
    have := nat_sub_len (a := a) (b := b.erase x) hn'.2 (fun y hy => (List.mem_erase_of_ne (fun e : y = x => hn'.1 (e ▸ hy))).2 (h y (List.mem_cons_of_mem _ hy)))
    rw [List.length_erase_of_mem hx] at this
    have : 0 < b.length := List.length_pos_of_mem hx
    simp only [List.length_cons]; omega
theorem nodup_of_stamps {vs : Ents α} (hn : (vs.map (·.2.2)).Nodup) : vs.Nodup := List.Pairwise.of_map _ (fun a b h e => h (congrArg (·.2.2) e)) hn
theorem stamp_inj {l : Ents α} (h : (l.map (·.2.2)).Nodup) {p q : α × Value × Nat} (hp : p ∈ l) (hq : q ∈ l) (e : p.2.2 = q.2.2) : p = q := by
  obtain ⟨i, hi, rfl⟩ := List.getElem_of_mem hp
  obtain ⟨j, hj, rfl⟩ := List.getElem_of_mem hq
  have hpw := List.pairwise_iff_getElem.1 h
  rcases Nat.lt_trichotomy i j with hij | rfl | hij
  · exact absurd (by rw [List.getElem_map, List.getElem_map]; exact e) (hpw i j (by simpa using hi) (by simpa using hj) hij)
  · rfl
  · exact absurd (by rw [List.getElem_map, List.getElem_map]; exact e.symm) (hpw j i (by simpa using hj) (by simpa using hi) hij)
/-- what was handed out, when nothing is left -/
theorem visit_perm {vs : Ents α} (hok : MapOk l cl) (hn : (vs.map (·.2.2)).Nodup) (hin : ∀ p ∈ vs, p ∈ l) (hall : ∀ p ∈ l, p.2.2 ∈ vs.map (·.2.2)) : vs.Perm l := by
  refine (List.perm_ext_iff_of_nodup (nodup_of_stamps hn) (nodup_of_stamps hok.born)).2 fun p => ⟨hin p, fun hp => ?_⟩
  obtain ⟨q, hq, e⟩ := List.mem_map.1 (hall p hp)
  rw [← stamp_inj hok.born (hin q hq) hp e]; exact hq
theorem visit_lt {vs : Ents α} {p : α × Value × Nat} (hn : (vs.map (·.2.2)).Nodup) (hin : ∀ p ∈ vs, p ∈ l) (hp : p ∈ l) (hnp : p.2.2 ∉ vs.map (·.2.2)) : vs.length < l.length := by
  have := nat_sub_len (a := p.2.2 :: vs.map (·.2.2)) (b := l.map (·.2.2)) (List.nodup_cons.2 ⟨hnp, hn⟩) (fun x hx => by
    rcases List.mem_cons.1 hx with rfl | hx
    · exact List.mem_map.2 ⟨p, hp, rfl⟩
    · obtain ⟨q, hq, rfl⟩ := List.mem_map.1 hx
      exact List.mem_map.2 ⟨q, hin q hq, rfl⟩)
  simp only [List.length_cons, List.length_map] at this
  omega
end
end Go.Sl
