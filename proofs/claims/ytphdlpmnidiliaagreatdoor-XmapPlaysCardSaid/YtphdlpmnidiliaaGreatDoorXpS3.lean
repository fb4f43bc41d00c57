/-
  Own work: a small logic for walking through a function's code: facts on slots, owned blocks of memory, and its rules; of any program.
-/
import Derived.Test.YtphdlpmnidiliaaGreatDoorXpS2
import Derived.Maps.RangeRun
import Derived.WideLaws
import Derived.Shelf.SlSortCmp.Whole1
set_option linter.all false
set_option linter.unusedSimpArgs false
set_option linter.unusedVariables false
namespace Go.Sl
open Go.RowKit
open Go.ChangeMaps (setBlock)
structure KeyKind (P : Program) (K : TypeId) {α : Type} [DecidableEq α] (kf : α → Value) : Prop where
  check : ∀ (b : Bool) (a : α) (w : World), (Instr.checkKey b 10000 K (kf a)).run P w = .ok () w
  same : ∃ d, P.underlying K = some d ∧ ∀ a a', Instr.sameNow d (kf a) (kf a') = some (decide (a = a'))
  stays : ∀ (a : α) (w : World), (Instr.keyThatStays (kf a) (kf a)).run P w = .ok (kf a) w
theorem intKeys {P : Program} {K : TypeId} {q : IntKind} (h : P.underlying K = some (.int q)) : KeyKind P K (Value.int q) where
  check b a w := MapKept.run_checkKey (d := .int q) h (show MapKept.IsKey (.int q) (.int q a) from rfl) b 9999
  same := ⟨_, h, fun a a' => by simp [Instr.sameNow, Bool.beq_eq_decide_eq]⟩
  stays a w := by simp [Instr.keyThatStays, Instr.sameBits]
section
variable {α : Type} [DecidableEq α]
abbrev Ents (α : Type) := List (α × Value × Nat)
def entO (kf : α → Value) (p : α × Value × Nat) : MapEntry := ⟨kf p.1, p.2.1, p.2.2⟩
def mapO (kf : α → Value) (l : Ents α) (c : Nat) : Obj := .map (l.map (entO kf)).toArray c
structure MapOk (l : Ents α) (c : Nat) : Prop where
  keys : (l.map (·.1)).Nodup
  born : (l.map (·.2.2)).Nodup
  lt : ∀ p ∈ l, p.2.2 < c
def mIdx (l : Ents α) (a : α) : Option Nat := l.findIdx? (fun p => decide (a = p.1))
def mGet (l : Ents α) (a : α) : Option Value := (l.find? (fun p => decide (a = p.1))).map (·.2.1)
def mHas (l : Ents α) (a : α) : Bool := l.any (fun p => decide (a = p.1))
def mPut (l : Ents α) (c : Nat) (a : α) (v : Value) : Ents α := if mHas l a then l.map (fun p => if a = p.1 then (p.1, v, p.2.2) else p) else l ++ [(a, v, c)]
def mClk (l : Ents α) (c : Nat) (a : α) : Nat := if mHas l a then c else c + 1
def mDel (l : Ents α) (a : α) : Ents α := l.filter (fun p => decide (a ≠ p.1))
theorem MapOk.nil (c : Nat) : MapOk ([] : Ents α) c := ⟨List.nodup_nil, List.nodup_nil, fun _ h => by cases h⟩
theorem mHas_iff {l : Ents α} {a : α} : mHas l a = true ↔ a ∈ l.map (·.1) := by
  unfold mHas
  rw [List.any_eq_true, List.mem_map]
  exact ⟨fun ⟨p, hp, h⟩ => ⟨p, hp, (of_decide_eq_true h).symm⟩, fun ⟨p, hp, h⟩ => ⟨p, hp, decide_eq_true h.symm⟩⟩
theorem MapOk.put {l : Ents α} {c : Nat} (h : MapOk l c) (a : α) (v : Value) : MapOk (mPut l c a v) (mClk l c a) := by
  unfold mPut mClk
  cases hh : mHas l a with
  | true =>
    simp only [if_true]
    have e1 : (l.map (fun p => if a = p.1 then (p.1, v, p.2.2) else p)).map (·.1) = l.map (·.1) := by
      rw [List.map_map]; apply List.map_congr_left; intro p _; simp only [Function.comp]; split <;> rfl
    have e2 : (l.map (fun p => if a = p.1 then (p.1, v, p.2.2) else p)).map (·.2.2) = l.map (·.2.2) := by
      rw [List.map_map]; apply List.map_congr_left; intro p _; simp only [Function.comp]; split <;> rfl
    refine ⟨by rw [e1]; exact h.keys, by rw [e2]; exact h.born, fun p hp => ?_⟩
    obtain ⟨q, hq, rfl⟩ := List.mem_map.1 hp
    have := h.lt q hq
    split <;> exact this
  | false =>
    simp only [Bool.false_eq_true, if_false]
    have hn : a ∉ l.map (·.1) := fun hm => by rw [mHas_iff.2 hm] at hh; cases hh
    refine ⟨?_, ?_, fun p hp => ?_⟩
    · rw [List.map_append]
      refine List.nodup_append.2 ⟨h.keys, by simp, fun x hx y hy => ?_⟩
      have hy' : y = a := by simpa using hy
      subst hy'
      exact fun e => hn (e ▸ hx)
    · rw [List.map_append]
      refine List.nodup_append.2 ⟨h.born, by simp, fun x hx y hy => ?_⟩
      have hy' : y = c := by simpa using hy
      subst hy'
      obtain ⟨p, hp, rfl⟩ := List.mem_map.1 hx
      have := h.lt p hp
      exact fun e => by omega
    · rcases List.mem_append.1 hp with hp | hp
      · have := h.lt p hp; omega
      · obtain rfl : p = (a, v, c) := by simpa using hp
        exact Nat.lt_succ_self c
theorem MapOk.del {l : Ents α} {c : Nat} (h : MapOk l c) (a : α) : MapOk (mDel l a) c :=
  ⟨h.keys.sublist ((List.filter_sublist).map _), h.born.sublist ((List.filter_sublist).map _), fun p hp => h.lt p (List.mem_filter.1 hp).1⟩
theorem find_now {d : TypeDesc} {kf : α → Value} (hs : ∀ a a', Instr.sameNow d (kf a) (kf a') = some (decide (a = a'))) (a : α) : ∀ (l : Ents α) (i : Nat),
    Instr.findNow d (kf a) (l.map (entO kf)) i = some ((mIdx l a).map fun j => (i + j, ((l[j]?).map (·.2.1)).getD undef))
  | [], i => by simp [Instr.findNow, mIdx]
  | p :: l, i => by
    simp only [List.map_cons, Instr.findNow, entO, hs]
    by_cases h : a = p.1
    · simp [h, mIdx, List.findIdx?_cons]
    · simp only [decide_eq_false h]
      rw [find_now hs a l (i + 1)]
      simp only [mIdx, List.findIdx?_cons, decide_eq_false h, Bool.false_eq_true, if_false, Option.map_map]
      congr 2
      funext j
      simp only [Function.comp, List.getElem?_cons_succ]
      congr 1
      omega
theorem idx_some {l : Ents α} {a : α} {j : Nat} (h : mIdx l a = some j) : ∃ p, l[j]? = some p ∧ a = p.1 ∧ l.find? (fun p => decide (a = p.1)) = some p := by
  unfold mIdx at h
  obtain ⟨hj, h1, h2⟩ := List.findIdx?_eq_some_iff_getElem.1 h
  refine ⟨l[j], List.getElem?_eq_getElem hj, of_decide_eq_true h1, ?_⟩
  rw [List.find?_eq_some_iff_getElem]
  exact ⟨h1, j, hj, rfl, fun i hi => by simpa using h2 i hi⟩
theorem idx_none {l : Ents α} {a : α} (h : mIdx l a = none) : mHas l a = false ∧ l.find? (fun p => decide (a = p.1)) = none := by
  unfold mIdx at h
  rw [List.findIdx?_eq_none_iff] at h
  refine ⟨?_, List.find?_eq_none.2 fun p hp => by simpa using h p hp⟩
  unfold mHas
  rw [List.any_eq_false]
  intro p hp
  simpa using h p hp
theorem has_idx {l : Ents α} {a : α} {j : Nat} (h : mIdx l a = some j) : mHas l a = true := by
  obtain ⟨p, hp, e, _⟩ := idx_some h
  exact mHas_iff.2 (e ▸ List.mem_map.2 ⟨p, List.mem_of_getElem? hp, rfl⟩)
theorem modify_ents {kf : α → Value} {v : Value} (a : α) : ∀ {l : Ents α} {j : Nat}, (l.map (·.1)).Nodup → mIdx l a = some j →
    (l.map (entO kf)).modify j (fun e => { e with key := kf a, val := v }) = (l.map (fun p => if a = p.1 then (p.1, v, p.2.2) else p)).map (entO kf)
  | [], j, _, h => by simp [mIdx] at h
  | p :: l, j, hn, h => by
    have hn' := List.nodup_cons.1 hn
    by_cases hp : a = p.1
    · have hj : j = 0 := by simp [mIdx, List.findIdx?_cons, hp] at h; exact h.symm
      subst hj
      have ht : l.map (fun p => if a = p.1 then (p.1, v, p.2.2) else p) = l := by
        conv => rhs; rw [← List.map_id l]
        apply List.map_congr_left
        intro q hq
        have hne : ¬ a = q.1 := fun e => hn'.1 (List.mem_map.2 ⟨q, hq, e.symm.trans hp⟩)
        simp [hne]
      simp only [List.map_cons, if_pos hp, ht, List.modify_zero_cons]
      rw [show entO kf (p.1, v, p.2.2) = { entO kf p with key := kf a, val := v } by simp [entO, hp]]
    · have h' : ∃ i, mIdx l a = some i ∧ j = i + 1 := by
        unfold mIdx at h ⊢
        rw [List.findIdx?_cons, decide_eq_false hp] at h
        simp only [Bool.false_eq_true, if_false, Option.map_eq_some_iff] at h
        obtain ⟨i, hi, e⟩ := h
        exact ⟨i, hi, e.symm⟩
      obtain ⟨i, hi, rfl⟩ := h'
      simp only [List.map_cons, List.modify_succ_cons, if_neg hp]
      rw [modify_ents a hn'.2 hi]
theorem erase_ents {a : α} : ∀ {l : Ents α} {j : Nat}, (l.map (·.1)).Nodup → mIdx l a = some j → l.eraseIdx j = mDel l a
  | [], j, _, h => by simp [mIdx] at h
  | p :: l, j, hn, h => by
    have hn' := List.nodup_cons.1 hn
    by_cases hp : a = p.1
    · have hj : j = 0 := by simp [mIdx, List.findIdx?_cons, hp] at h; exact h.symm
      subst hj
      have ht : mDel l a = l := by
        unfold mDel
        rw [List.filter_eq_self]
        intro q hq
        exact decide_eq_true fun e => hn'.1 (List.mem_map.2 ⟨q, hq, e.symm.trans hp⟩)
      rw [List.eraseIdx_cons_zero]
      show l = (p :: l).filter _
      rw [List.filter_cons_of_neg (by simp [hp])]
      exact ht.symm
    · have h' : ∃ i, mIdx l a = some i ∧ j = i + 1 := by
        unfold mIdx at h ⊢
        rw [List.findIdx?_cons, decide_eq_false hp] at h
        simp only [Bool.false_eq_true, if_false, Option.map_eq_some_iff] at h
        obtain ⟨i, hi, e⟩ := h
        exact ⟨i, hi, e.symm⟩
      obtain ⟨i, hi, rfl⟩ := h'
      rw [List.eraseIdx_cons_succ, erase_ents hn'.2 hi]
      show _ = (p :: l).filter _
      rw [List.filter_cons_of_pos (by simpa using hp)]
      rfl
theorem del_none {l : Ents α} {a : α} (h : mHas l a = false) : mDel l a = l := by
  unfold mDel
  rw [List.filter_eq_self]
  intro q hq
  unfold mHas at h
  rw [List.any_eq_false] at h
  simpa using h q hq
end
section
variable {P : Program} {rd : Option Nat} {w0 : World} {Q : Exit → Act → World → Prop} {n : Nat} {ds : List Deferred} {k : List It} {env env' : Env} {H H' : Heap} {all : Array Oper} {rest : List Oper}
variable {d : Nat} {x y z c : Operand} {t u ty K E : TypeId} {pos : String} {aft : Array Edge} {v : Value} {s by_ : Nat} {tz : Value}
variable {α : Type} [DecidableEq α] {kf : α → Value} {l : Ents α} {cl b : Nat} {a : α}
theorem setBlock_below {w0 w : World} {r : Nat} {o : Obj} (h : w0.heap.size ≤ r) : Below w0.heap.size w (setBlock w r o) :=
  ⟨rfl, rfl, rfl, by simp [setBlock], fun k hk => by simp only [setBlock]; rw [Array.getElem?_setIfInBounds_ne (by omega)]⟩
theorem Sat.setO {w : World} {r : Nat} {o o' : Obj} (hs : Sat w0 H w) (hu : Upd r (.obj o) (.obj o') H H') : Sat w0 H' (setBlock w r o') := by
  obtain ⟨hb, hr⟩ := hs.own _ hu.mem
  have hr' : w.heap[r]? = some o := hr
  exact hs.upd hu (setBlock_below hb) (fun j hj _ => by simp only [setBlock]; rw [Array.getElem?_setIfInBounds_ne (Ne.symm hj)]) (by
    show (setBlock w r o').heap[r]? = some o'
    have hlt : r < w.heap.size := (Array.getElem?_eq_some_iff.1 hr').1
    simp [setBlock, hlt])
theorem W_makeMap (hd : Nat.blt d n = true) (h : ∀ b : Nat, W P rd w0 Q n ds (.ops all rest :: k) ((d, .map (some b)) :: env) ((b, .obj (mapO kf [] 0)) :: H)) :
    W P rd w0 Q n ds (.ops all (⟨some d, .makeMap t none, ty, pos, aft, none⟩ :: rest) :: k) env H :=
  W_gen rfl nofun hd fun a w ha hs => ⟨.map (some w.heap.size), (w.heap.size, .obj (mapO kf [] 0)) :: H, w.alloc (.map #[] 0), .inl (by simp [execOp, run_makeMap, Result.andThen]), hs.alloc _ (At.alloc_obj w _), h w.heap.size⟩
theorem run_lookup (hk : KeyKind P K kf) (ht : Ty P t (.map K E) s tz by_) {zE : Value} (hz : ∀ w, (zeroValue E).run P w = .ok zE w) {w : World} (hb : w.heap[b]? = some (mapO kf l cl)) (ok : Bool) :
    (Instr.lookup t (.map (some b)) (kf a) ok).run P w = .ok (if ok then .tuple #[(mGet l a).getD zE, .bool (mHas l a)] else (mGet l a).getD zE) w := by
  obtain ⟨dK, hu, hsame⟩ := hk.same
  have hf := MapKept.run_findKey (P := P) (w := w) hu (find_now hsame a l 0)
  simp only [Instr.lookup, Sem.run_bind, ht.run, Result.andThen, MapKept.run_getObj_map hb, Sem.run_pure, hk.check, hf]
  cases hi : mIdx l a with
  | none =>
    obtain ⟨h1, h2⟩ := idx_none hi
    simp only [Option.map_none, Sem.run_bind, hz, Result.andThen, Sem.run_pure, mGet, h2, Option.getD_none, h1]
  | some j =>
    obtain ⟨p, hp, e, hfd⟩ := idx_some hi
    simp only [Option.map_some, hp, Option.getD_some, Sem.run_pure, Result.andThen, mGet, hfd, has_idx hi]
    cases ok <;> rfl
theorem X_lookup {ok : Bool} (hx : opv env x = some (.map (some b))) (hy : opv env y = some (kf a)) (hk : KeyKind P K kf) (ht : Ty P t (.map K E) s tz by_) {zE : Value} (hz : ∀ w, (zeroValue E).run P w = .ok zE w) (hm : (b, Blk.obj (mapO kf l cl)) ∈ H) :
    Ex P n env (Sat w0 H) (.lookup t x y ok) ty (if ok then .tuple #[(mGet l a).getD zE, .bool (mHas l a)] else (mGet l a).getD zE) := fun a' w d pos aft g ha hs => by
  have hb : w.heap[b]? = some (mapO kf l cl) := (hs.own _ hm).2
  simp [execOp, ha.opv hx, ha.opv hy, run_lookup hk ht hz hb, Result.andThen]
theorem W_lookup {ok : Bool} (hx : opv env x = some (.map (some b))) (hy : opv env y = some (kf a)) (hk : KeyKind P K kf) (ht : Ty P t (.map K E) s tz by_) {zE : Value} (hz : ∀ w, (zeroValue E).run P w = .ok zE w) (hm : (b, Blk.obj (mapO kf l cl)) ∈ H) (hd : Nat.blt d n = true)
    (h : W P rd w0 Q n ds (.ops all rest :: k) ((d, if ok then .tuple #[(mGet l a).getD zE, .bool (mHas l a)] else (mGet l a).getD zE) :: env) H) :
    W P rd w0 Q n ds (.ops all (⟨some d, .lookup t x y ok, ty, pos, aft, none⟩ :: rest) :: k) env H :=
  W_pure rfl nofun hd (fun a' w ha hs => X_lookup hx hy hk ht hz hm a' w (some d) pos aft none ha hs) h
theorem run_put (hk : KeyKind P K kf) (ht : Ty P t (.map K E) s tz by_) (hok : MapOk l cl) {w : World} (hb : w.heap[b]? = some (mapO kf l cl)) :
    (Instr.mapUpdate t (.map (some b)) (kf a) v).run P w = .ok () (setBlock w b (mapO kf (mPut l cl a v) (mClk l cl a))) := by
  obtain ⟨dK, hu, hsame⟩ := hk.same
  have hf := MapKept.run_findKey (P := P) (w := w) hu (find_now hsame a l 0)
  simp only [Instr.mapUpdate, Sem.run_bind, ht.run, Result.andThen, MapKept.run_getObj_map hb, Sem.run_pure, hk.check, hf]
  cases hi : mIdx l a with
  | none =>
    obtain ⟨h1, h2⟩ := idx_none hi
    simp only [Option.map_none, MapKept.run_setObj_map _ hb, setBlock, mapO, mPut, mClk, h1, Bool.false_eq_true, if_false]
    congr 2
    simp [entO]
  | some j =>
    obtain ⟨p, hp, e, hfd⟩ := idx_some hi
    have hg : (((l.map (entO kf)).toArray[0 + j]?).map (·.key)).getD (kf a) = kf a := by
      simp [hp, entO, e]
    simp only [Option.map_some, Sem.run_bind, hg, hk.stays, Result.andThen, MapKept.run_setObj_map _ hb, setBlock, mapO, mPut, mClk, has_idx hi, if_true]
    congr 2
    have := modify_ents (kf := kf) (v := v) a hok.keys hi
    rw [← this]
    have e2 : (l.map (entO kf)).toArray.modify (0 + j) (fun e => { e with key := kf a, val := v }) = ((l.map (entO kf)).modify j (fun e => { e with key := kf a, val := v })).toArray := by
      apply Array.ext'
      simp
    rw [e2]
theorem W_mapUpdate (hx : opv env x = some (.map (some b))) (hy : opv env y = some (kf a)) (hv : opv env z = some v) (hk : KeyKind P K kf) (ht : Ty P t (.map K E) s tz by_) (hok : MapOk l cl) (hu : Upd b (.obj (mapO kf l cl)) (.obj (mapO kf (mPut l cl a v) (mClk l cl a))) H H')
    (h : W P rd w0 Q n ds (.ops all rest :: k) env H') : W P rd w0 Q n ds (.ops all (⟨none, .mapUpdate t x y z, ty, pos, aft, none⟩ :: rest) :: k) env H :=
  W_gen rfl nofun rfl fun a' w ha hs => by
    have hb : w.heap[b]? = some (mapO kf l cl) := (hs.own _ hu.mem).2
    refine ⟨undef, H', _, .inr ⟨?_, rfl⟩, hs.setO hu, h⟩
    simp [execOp, ha.opv hx, ha.opv hy, ha.opv hv, run_put hk ht hok hb, Result.andThen]
theorem run_del (hk : KeyKind P K kf) (ht : Ty P t (.map K E) s tz by_) (hok : MapOk l cl) {w : World} (hb : w.heap[b]? = some (mapO kf l cl)) :
    (Builtin.delete_ #[t, u] ty #[.map (some b), kf a]).run P w = .ok (.tuple #[]) (setBlock w b (mapO kf (mDel l a) cl)) := by
  obtain ⟨dK, hu, hsame⟩ := hk.same
  have hf := MapKept.run_findKey (P := P) (w := w) hu (find_now hsame a l 0)
  have h0 : (#[t, u] : Array TypeId)[0]? = some t := rfl
  have h1 : (#[Value.map (some b), kf a] : Array Value)[0]? = some (.map (some b)) := rfl
  have h2 : (#[Value.map (some b), kf a] : Array Value)[1]? = some (kf a) := rfl
  simp only [Builtin.delete_, h0, h1, h2, Sem.run_bind, ht.run, Result.andThen, MapKept.run_getObj_map hb, hk.check, hf]
  cases hi : mIdx l a with
  | none =>
    obtain ⟨h1, h2⟩ := idx_none hi
    simp [MapKept.run_setObj_map _ hb, setBlock, mapO, del_none h1, Result.andThen]
  | some j =>
    rw [← erase_ents hok.keys hi]
    have e : ((l.map (entO kf)).toArray.eraseIdxIfInBounds (0 + j)) = ((l.eraseIdx j).map (entO kf)).toArray := by
      apply Array.ext'
      rw [Nat.zero_add, Array.toList_eraseIdxIfInBounds]
      simp [Go.ChangeMaps.map_eraseIdx]
    simp [e, MapKept.run_setObj_map _ hb, setBlock, mapO, Result.andThen, Go.ChangeMaps.map_eraseIdx]
theorem W_delete {od : Option Nat} (hx : opv env x = some (.map (some b))) (hy : opv env y = some (kf a)) (hk : KeyKind P K kf) (ht : Ty P t (.map K E) s tz by_) (hok : MapOk l cl) (hu : Upd b (.obj (mapO kf l cl)) (.obj (mapO kf (mDel l a) cl)) H H') (hd : dok n od = true)
    (h : W P rd w0 Q n ds (.ops all rest :: k) (put od (.tuple #[]) env) H') : W P rd w0 Q n ds (.ops all (⟨od, .call ⟨.builtin .delete, #[x, y], #[t, u]⟩, ty, pos, aft, none⟩ :: rest) :: k) env H :=
  W_gen rfl nofun hd fun a' w ha hs => by
    have hb : w.heap[b]? = some (mapO kf l cl) := (hs.own _ hu.mem).2
    refine ⟨.tuple #[], H', _, .inl ?_, hs.setO hu, h⟩
    simp [execOp, resolve, invoke, builtin, ha.opv hx, ha.opv hy, run_del hk ht hok hb, Result.andThen]
theorem X_lenMap (hx : opv env x = some (.map (some b))) (ht : Ty P t (.map K E) s tz by_) (hm : (b, Blk.obj (mapO kf l cl)) ∈ H) :
    Ex P n env (Sat w0 H) (.call ⟨.builtin .len, #[x], #[t]⟩) ty (.int .i64 (l.length : Int)) := fun a' w d pos aft g ha hs => by
  have hb : w.heap[b]? = some (.map (l.map (entO kf)).toArray cl) := (hs.own _ hm).2
  simp [execOp, resolve, invoke, builtin, ha.opv hx, Builtin.len_, ht.run, MapKept.run_getObj_map hb, goInt, Result.andThen]
def iterO (b since : Nat) (sl : List Nat) (c0 : Nat) : Obj := .mapIter (some b) since sl.toArray c0
theorem W_range (hx : opv env x = some (.map (some b))) (ht : Ty P t (.map K E) s tz by_) (hm : (b, Blk.obj (mapO kf l cl)) ∈ H) (hd : Nat.blt d n = true)
    (h : ∀ r : Nat, W P rd w0 Q n ds (.ops all rest :: k) ((d, .pointer (some ⟨r, 0, none⟩)) :: env) ((r, .obj (iterO b cl [] cl)) :: H)) :
    W P rd w0 Q n ds (.ops all (⟨some d, .range t x, ty, pos, aft, none⟩ :: rest) :: k) env H :=
  W_gen rfl nofun hd fun a' w ha hs => by
    have hb : w.heap[b]? = some (.map (l.map (entO kf)).toArray cl) := (hs.own _ hm).2
    refine ⟨.pointer (some ⟨w.heap.size, 0, none⟩), (w.heap.size, .obj (iterO b cl [] cl)) :: H, w.alloc (.mapIter (some b) cl #[] cl), .inl ?_, hs.alloc _ (At.alloc_obj w _), h w.heap.size⟩
    simp [execOp, ha.opv hx, run_range_map w t K E b _ cl ht.und hb, Result.andThen]
theorem W_next {r since c0 : Nat} {sl : List Nat} {HN : (α × Value × Nat) → Heap} (hx : opv env x = some (.pointer (some ⟨r, 0, none⟩))) (hm : (b, Blk.obj (mapO kf l cl)) ∈ H) (hr : (r, Blk.obj (iterO b since sl c0)) ∈ H) (hold : ∀ p ∈ l, p.2.2 < since) (hsc : since ≤ c0)
    (hu : ∀ p, Upd r (.obj (iterO b since sl c0)) (.obj (iterO b since (sl ++ [p.2.2]) cl)) H (HN p)) (hd : Nat.blt d n = true)
    (h0 : (∀ p ∈ l, p.2.2 ∈ sl) → W P rd w0 Q n ds (.ops all rest :: k) ((d, .tuple #[.bool false]) :: env) H)
    (h1 : ∀ p ∈ l, p.2.2 ∉ sl → W P rd w0 Q n ds (.ops all rest :: k) ((d, .tuple #[.bool true, kf p.1, p.2.1]) :: env) (HN p)) :
    W P rd w0 Q n ds (.ops all (⟨some d, .next x false, ty, pos, aft, none⟩ :: rest) :: k) env H :=
  W_gen rfl nofun hd fun a' w ha hs => by
    have hb : w.heap[b]? = some (.map (l.map (entO kf)).toArray cl) := (hs.own _ hm).2
    have hri : w.heap[r]? = some (.mapIter (some b) since sl.toArray c0) := (hs.own _ hr).2
    have hold' : ∀ e ∈ (l.map (entO kf)).toArray.toList, e.born < since := fun e he => by
      obtain ⟨p, hp, rfl⟩ : ∃ p, p ∈ l ∧ entO kf p = e := List.mem_map.1 he
      exact hold p hp
    rcases run_next_at (P := P) w ty r b since c0 sl.toArray _ cl hri hb hold' hsc with ⟨hz, hrun⟩ | ⟨e, he, w1, hw1, hrun⟩
    · refine ⟨.tuple #[.bool false], H, w, .inl ?_, hs, h0 fun p hp => ?_⟩
      · simp [execOp, ha.opv hx, hrun, Result.andThen]
      · have hnil : leftOf (l.map (entO kf)).toArray sl.toArray = #[] := Array.eq_empty_of_size_eq_zero hz
        unfold leftOf at hnil
        rw [Array.filter_eq_empty_iff] at hnil
        have := hnil (entO kf p) (by simpa using List.mem_map.2 ⟨p, hp, rfl⟩)
        simpa [entO] using this
    · obtain ⟨hmem, hnc⟩ := mem_left he
      obtain ⟨p, hp, rfl⟩ : ∃ p, p ∈ l ∧ entO kf p = e := List.mem_map.1 hmem
      refine ⟨.tuple #[.bool true, kf p.1, p.2.1], HN p, setBlock w1 r (.mapIter (some b) since (sl.toArray.push (entO kf p).born) cl), .inl ?_, ?_, h1 p hp (by simpa [entO] using hnc)⟩
      · have : (Instr.next (.pointer (some ⟨r, 0, none⟩)) false ty).run P w = .ok (.tuple #[.bool true, kf p.1, p.2.1]) (setBlock w1 r (.mapIter (some b) since (sl.toArray.push (entO kf p).born) cl)) := hrun
        simp [execOp, ha.opv hx, this, Result.andThen]
      · have hs1 : Sat w0 H w1 := by
          rcases hw1 with rfl | rfl
          · exact hs
          · exact hs.drew
        have e2 : (.mapIter (some b) since (sl.toArray.push (entO kf p).born) cl : Obj) = iterO b since (sl ++ [p.2.2]) cl := by simp [iterO, entO]
        rw [e2]
        exact hs1.setO (hu p)
theorem X_entry {r since : Nat} {sl : List Nat} {p : α × Value × Nat} (hx : opv env x = some (.pointer (some ⟨r, 0, none⟩))) (hm : (b, Blk.obj (mapO kf l cl)) ∈ H) (hr : (r, Blk.obj (iterO b since (sl ++ [p.2.2]) cl)) ∈ H) (hp : p ∈ l) (hok : MapOk l cl) :
    Ex P n env (Sat w0 H) (.entry x) ty (.tuple #[kf p.1, p.2.1]) := fun a' w d pos aft g ha hs => by
  have hb : w.heap[b]? = some (.map (l.map (entO kf)).toArray cl) := (hs.own _ hm).2
  have hri : w.heap[r]? = some (.mapIter (some b) since (sl.toArray.push (entO kf p).born) cl) := by
    have : w.heap[r]? = some (.mapIter (some b) since (sl ++ [p.2.2]).toArray cl) := (hs.own _ hr).2
    rw [this]; simp [entO]
  have := run_entry_at (P := P) w r b since sl.toArray _ cl (entO kf p) hri hb (List.mem_map.2 ⟨p, hp, rfl⟩) (by
    show (((l.map (entO kf)).map (·.born))).Nodup
    rw [List.map_map]
    exact hok.born)
  simp [execOp, ha.opv hx, this, Result.andThen, entO]
theorem W_entry {r since : Nat} {sl : List Nat} {p : α × Value × Nat} (hx : opv env x = some (.pointer (some ⟨r, 0, none⟩))) (hm : (b, Blk.obj (mapO kf l cl)) ∈ H) (hr : (r, Blk.obj (iterO b since (sl ++ [p.2.2]) cl)) ∈ H) (hp : p ∈ l) (hok : MapOk l cl) (hd : Nat.blt d n = true)
    (h : W P rd w0 Q n ds (.ops all rest :: k) ((d, .tuple #[kf p.1, p.2.1]) :: env) H) : W P rd w0 Q n ds (.ops all (⟨some d, .entry x, ty, pos, aft, none⟩ :: rest) :: k) env H :=
  W_pure rfl nofun hd (fun a' w ha hs => X_entry hx hm hr hp hok a' w (some d) pos aft none ha hs) h
theorem nat_sub_len : ∀ {a b : List Nat}, a.Nodup → (∀ x ∈ a, x ∈ b) → a.length ≤ b.length
  | [], _, _, _ => Nat.zero_le _
  | x :: a, b, hn, h => by
    have hn' := List.nodup_cons.1 hn
    have hx := h x List.mem_cons_self
    have := nat_sub_len (a := a) (b := b.erase x) hn'.2 (fun y hy => (List.mem_erase_of_ne (fun e : y = x => hn'.1 (e ▸ hy))).2 (h y (List.mem_cons_of_mem _ hy)))
    rw [List.length_erase_of_mem hx] at this
    have : 0 < b.length := List.length_pos_of_mem hx
    simp only [List.length_cons]; omega
theorem nodup_of_stamps {vs : Ents α} (hn : (vs.map (·.2.2)).Nodup) : vs.Nodup := List.Pairwise.of_map _ (fun a b h e => h (congrArg (·.2.2) e)) hn
theorem stamp_inj {l : Ents α} (h : (l.map (·.2.2)).Nodup) {p q : α × Value × Nat} (hp : p ∈ l) (hq : q ∈ l) (e : p.2.2 = q.2.2) : p = q := by
  obtain ⟨i, hi, rfl⟩ := List.getElem_of_mem hp
  obtain ⟨j, hj, rfl⟩ := List.getElem_of_mem hq
  have hpw := List.pairwise_iff_getElem.1 h
  rcases Nat.lt_trichotomy i j with hij | rfl | hij
  · exact absurd (by rw [List.getElem_map, List.getElem_map]; exact e) (hpw i j (by simpa using hi) (by simpa using hj) hij)
  · rfl
  · exact absurd (by rw [List.getElem_map, List.getElem_map]; exact e.symm) (hpw j i (by simpa using hj) (by simpa using hi) hij)
theorem visit_perm {vs : Ents α} (hok : MapOk l cl) (hn : (vs.map (·.2.2)).Nodup) (hin : ∀ p ∈ vs, p ∈ l) (hall : ∀ p ∈ l, p.2.2 ∈ vs.map (·.2.2)) : vs.Perm l := by
  refine (List.perm_ext_iff_of_nodup (nodup_of_stamps hn) (nodup_of_stamps hok.born)).2 fun p => ⟨hin p, fun hp => ?_⟩
  obtain ⟨q, hq, e⟩ := List.mem_map.1 (hall p hp)
  rw [← stamp_inj hok.born (hin q hq) hp e]; exact hq
theorem visit_lt {vs : Ents α} {p : α × Value × Nat} (hn : (vs.map (·.2.2)).Nodup) (hin : ∀ p ∈ vs, p ∈ l) (hp : p ∈ l) (hnp : p.2.2 ∉ vs.map (·.2.2)) : vs.length < l.length := by
  have := nat_sub_len (a := p.2.2 :: vs.map (·.2.2)) (b := l.map (·.2.2)) (List.nodup_cons.2 ⟨hnp, hn⟩) (fun x hx => by
    rcases List.mem_cons.1 hx with rfl | hx
    · exact List.mem_map.2 ⟨p, hp, rfl⟩
    · obtain ⟨q, hq, rfl⟩ := List.mem_map.1 hx
      exact List.mem_map.2 ⟨q, hin q hq, rfl⟩)
  simp only [List.length_cons, List.length_map] at this
  omega
end
end Go.Sl
namespace Go.Sl
open Go.RowKit
def WR (P : Program) (C : World → Prop) (K : Act → World → Prop) (n : Nat) (ops : Array Oper) (l : List Oper) (env : Env) : Prop :=
  ∀ a, Agree n env a → a.defers = [] → wpQuietIn (fen none) 0 P ops C (fun a' => ∀ w', C w' → K a' w') l a
section
variable {P : Program} {C : World → Prop} {K : Act → World → Prop} {n : Nat} {ops : Array Oper} {env : Env} {rest : List Oper} {op : Op} {ty : TypeId} {v : Value} {pos : String} {aft : Array Edge}
theorem WR_nil (h : ∀ a w, Agree n env a → a.defers = [] → C w → K a w) : WR P C K n ops [] env := fun a ha hd w hw => h a w ha hd hw
def Kret (P : Program) (C : World → Prop) (fn : Func) (v : Value) : Act → World → Prop := fun a w => Code.ret.wpIn (fen none) 0 P (bodyPostM Fence.wide 0 P fn (fun e w' => e = .returned v ∧ C w')) a w
theorem WR_ret {fn : Func} {d0 : Nat} (hres : fn.results = #[.tmp d0]) (hv : look env d0 = some v) : WR P C (Kret P C fn v) n ops [] env := WR_nil fun a w ha hd hw => by
  refine wpIn_ret ?_
  show LeavesInM _ _ _ _ _ _ a.defers _ _
  rw [hd]
  exact ⟨v, by rw [run_res1 hres, ha.val _ _ hv], rfl, hw⟩
theorem WR_x {d : Nat} (hx : Ex P n env C op ty v) (hd : Nat.blt d n = true) (h : WR P C K n ops rest ((d, v) :: env)) : WR P C K n ops (⟨some d, op, ty, pos, aft, none⟩ :: rest) env := fun a ha hds => by
  refine ⟨fun _ _ _ _ => trivial, ?_⟩
  rw [if_pos (by simp [Region.wanted])]
  exact ⟨v, fun w hs => by
    unfold Oper.quietAtIn
    rw [hx a w (some d) pos aft none ha hs]
    exact ⟨rfl, rfl⟩, h _ (ha.put (d := some d) hd) hds⟩
theorem WR_call {d : Option Nat} {f : FuncId} {l : List Operand} {vs : List Value} {tys : Array TypeId} (hc : OpVs env l vs) (hf : ∀ (args : Array Value) (w : World), (callFunc f args).run P w = .ok (.enter f args) w) (hd : dok n d = true)
    (hL : ∀ w, C w → Calls P f vs.toArray w fun e w' => e = .returned v ∧ w' = w) (h : WR P C K n ops rest (put d v env)) : WR P C K n ops (⟨d, .call ⟨.value (.func f), l.toArray, tys⟩, ty, pos, aft, none⟩ :: rest) env := fun a ha hds => by
  refine ⟨fun _ _ _ _ => trivial, ?_⟩
  rw [if_pos (by simp [Region.wanted])]
  refine ⟨v, fun w hs => ?_, h _ (ha.put hd) (by cases d <;> exact hds)⟩
  unfold Oper.quietAtIn
  have hl : l.map a.eval = vs := ha.opvs hc
  rw [show (execOp a.eval ⟨d, .call ⟨.value (.func f), l.toArray, tys⟩, ty, pos, aft, none⟩).run P w = .ok (.enter f vs.toArray) w by
    simp [execOp, resolve, Act.eval, Deferred.ofValue, invoke, hl, hf, Result.andThen]]
  refine ⟨rfl, fun h => by simp [Fence.wide] at h, ?_⟩
  have hcl : CallsIn (fen none) 0 P f vs.toArray w _ := callsIn_wide.2 (hL w hs)
  exact hcl.mono fun e w'' ⟨he, hw⟩ => ⟨by rw [he], by rw [hw]; exact hs⟩
theorem R_enter {f : FuncId} {fn : Func} {id id2 d0 : Nat} {v0 : Value} {ty0 : TypeId} {pos0 : String} {aft0 : Array Edge} {l : List Oper} {args : List Value} (hf : P.funcs[f]? = some fn)
    (hb : fn.body = some (.seq (.region id #[⟨some d0, .assign (.const v0), ty0, pos0, aft0, none⟩] false) (.seq (.region id2 l.toArray true) .ret))) (hn : fn.ntmps = n) (hl : Nat.ble args.length n = true) (he : envFrom 0 args = env) (hd0 : Nat.blt d0 n = true)
    (hm : P.follows .mixedOrders = true) (hB : Region.lexB .any l.toArray = true) (hC : ∀ w, C w → C w.drew) (h : WR P C (Kret P C fn v) n l.toArray l ((d0, v0) :: env)) :
    ∀ w, C w → CallsIn Fence.wide 0 P f args.toArray w fun e w' => e = .returned v ∧ C w' := by
  intro w hw
  refine callsIn_of_wp_marks hf hb trivial ?_
  refine wpIn_seq ?_
  have hl' : args.length ≤ n := by simpa using hl
  have ha : Agree n env { tmps := args.toArray ++ Array.replicate (fn.ntmps - args.toArray.size) undef, defers := [] } := by
    refine ⟨by simp [hn]; omega, fun x v hx => ?_⟩
    subst he
    obtain ⟨_, h2⟩ := look_envFrom args 0 x v hx
    have h3 : x < args.length := (List.getElem?_eq_some_iff.1 h2).1
    simp only [Array.getD_eq_getD_getElem?]
    rw [Array.getElem?_append_left (by simpa using h3)]
    simpa using congrArg (Option.getD · undef) h2
  have had : ({ tmps := args.toArray ++ Array.replicate (fn.ntmps - args.toArray.size) undef, defers := [] } : Act).defers = [] := rfl
  generalize ({ tmps := args.toArray ++ Array.replicate (fn.ntmps - args.toArray.size) undef, defers := [] } : Act) = a at ha had ⊢
  refine wpIn_region_lit (l := [⟨some d0, .assign (.const v0), ty0, pos0, aft0, none⟩]) ?_
  unfold wpListIn
  rw [if_pos (by simp [Region.wanted])]
  refine ⟨fun _ _ => trivial, ?_⟩
  rw [Oper.semAt_eq _ _ _ (fun _ h => by cases h), show (execOp a.eval ⟨some d0, .assign (.const v0), ty0, pos0, aft0, none⟩).run P w = .ok (.value v0) w by simp [execOp, Act.eval], Oper.uponIn_value]
  have ha1 : Agree n ((d0, v0) :: env) (a.put (some d0) v0) := ha.put (d := some d0) hd0
  show (Code.seq (.region id2 l.toArray true) .ret).wpIn _ _ _ _ _ _
  refine wpIn_seq ?_
  refine wpIn_region_quiet (F := fen none) (C := C) rfl hm hB (hC w hw) ?_
  simp only [List.toList_toArray]
  exact h _ ha1 had
end
theorem Ex.mono {P : Program} {n : Nat} {env : Env} {C C' : World → Prop} {op : Op} {ty : TypeId} {v : Value} (h : ∀ w, C w → C' w) (hx : Ex P n env C' op ty v) : Ex P n env C op ty v := fun a w d pos aft g ha hw => hx a w d pos aft g ha (h w hw)
theorem Sat.drewN {w0 w : World} {H : Heap} (h : Sat w0 H w) (q : Nat) : Sat w0 H (w.drewN q) := h.below' ⟨rfl, rfl, rfl, Nat.le_refl _, fun _ _ => rfl⟩
open Go.Proofs in
theorem sat_sortWorld {α : Type} [Inhabited α] {w0 w : World} {H : Heap} {enc : α → Value} {e : TypeId} {b tot n : Nat} {d : List α} {d' : Array α} {os : Array Obj} (hs : Sat w0 ((b, .cells e tot (d.map enc)) :: H) w) (hsz' : d'.size = d.length) :
    Sat w0 ((b, .cells e tot (d'.toList.map enc)) :: H) (sortWorld enc w b 0 n d' os) := by
  obtain ⟨hb, c, hc, hcs, ht⟩ := hs.own (b, .cells e tot (d.map enc)) List.mem_cons_self
  have hs1 : Sat w0 ((b, .cells e tot (d.map enc)) :: H) (Sort.ahead w n) := hs.below' ⟨rfl, rfl, rfl, Nat.le_refl _, fun _ _ => rfl⟩
  have hs2 : Sat w0 ((b, .cells e tot (d'.toList.map enc)) :: H) (Sort.putRow enc (Sort.ahead w n) b 0 d') := by
    refine hs1.upd (.head _) ⟨rfl, rfl, rfl, by simp [Sort.putRow, Sort.mapBlock], fun k hk => ?_⟩ (fun j hj _ => ?_) ?_
    · simp only [Sort.putRow, Sort.mapBlock, Array.getElem?_modify]
      rw [if_neg (by omega)]
    · simp only [Sort.putRow, Sort.mapBlock, Array.getElem?_modify]
      rw [if_neg (fun e => hj e.symm)]
    · refine ⟨Sort.putCells enc 0 d' c, ?_, by simp [Sort.putCells, hcs], ?_⟩
      · have hc' : (Sort.ahead w n).heap[b]? = some (.cells c e (0, 0)) := hc
        simp only [Sort.putRow, Sort.mapBlock, Array.getElem?_modify, if_true, hc', Option.map_some]
        rfl
      · have hle : d.length ≤ c.size := by
          have := congrArg List.length ht
          simp only [List.length_take, List.length_map, Array.length_toList] at this
          omega
        refine List.ext_getElem (by simp [Sort.putCells, hsz']; omega) fun i h1 h2 => ?_
        have hi : i < d'.size := by simpa using h2
        simp [Sort.putCells, hi]
  exact hs2.below' (by
    refine ⟨rfl, rfl, rfl, ?_, fun k hk => ?_⟩
    · show _ ≤ (_ ++ os).size; simp
    · show (_ ++ os)[k]? = _
      rw [Array.getElem?_append_left hk])
open Go.Proofs in
theorem L_sort {α : Type} [Inhabited α] {P : Program} {w0 : World} {H : Heap} {f g : FuncId} {cb : Array Value} {enc : α → Value} {cf : α → α → Int} {e : TypeId} {b tot cap : Nat} {d : List α}
    (hcon : ∀ w, Sat w0 ((b, .cells e tot (d.map enc)) :: H) w → Calls P f #[.slice (some ⟨b, 0, none⟩) d.length cap, .func (.func g) #[] cb] w fun en w' =>
      en = .returned (.tuple #[]) ∧ ∃ d' n os, Go.Sort.PermIn 0 d.length d.toArray d' ∧ Go.Sort.SortedIn (ltOf cf) 0 d.length d' ∧ w' = sortWorld enc w b 0 n d' os) :
    LCalls P w0 f #[.slice (some ⟨b, 0, none⟩) d.length cap, .func (.func g) #[] cb] ((b, .cells e tot (d.map enc)) :: H)
      (fun v H' => v = .tuple #[] ∧ ∃ d' : List α, d'.Perm d ∧ (∀ (i j : Nat) x y, i < j → d'[i]? = some x → d'[j]? = some y → ltOf cf y x = false) ∧ H' = (b, .cells e tot (d'.map enc)) :: H) := fun w hs => by
  refine (callsIn_wide.2 (hcon w hs)).mono ?_
  rintro en w' ⟨rfl, d', n, os, hp, hsrt, rfl⟩
  obtain ⟨hsz, _, hperm⟩ := hp
  have hsz' : d'.size = d.length := by simpa using hsz
  have e1 : (d'.extract 0 d.length).toList = d'.toList := by simp [← hsz']
  have e2 : (d.toArray.extract 0 d.length).toList = d := by simp
  rw [e1, e2] at hperm
  refine ⟨.tuple #[], (b, .cells e tot (d'.toList.map enc)) :: H, rfl, ⟨rfl, d'.toList, hperm, fun i j x y hij hx hy => ?_, rfl⟩, sat_sortWorld hs hsz'⟩
  have hj : j < d'.size := by simpa using (List.getElem?_eq_some_iff.1 hy).1
  have h1 := hsrt i j (Nat.zero_le _) hij (by omega)
  have ex : d'[i]! = x := by
    have : d'[i]? = some x := by simpa using hx
    simp [getElem!_def, this]
  have ey : d'[j]! = y := by
    have : d'[j]? = some y := by simpa using hy
    simp [getElem!_def, this]
  rwa [ex, ey] at h1
open Go.Proofs in
theorem holds_row {α : Type} [Inhabited α] {w0 w : World} {H : Heap} {enc : α → Value} {e : TypeId} {b tot : Nat} {d : List α} (hs : Sat w0 ((b, .cells e tot (d.map enc)) :: H) w) : Sort.Holds enc w b 0 d.toArray := fun j hj => by
  have hj' : j < d.length := by simpa using hj
  refine ⟨?_, hs.frozen List.mem_cons_self⟩
  rw [Nat.zero_add]
  refine hs.cell List.mem_cons_self ?_
  rw [List.getElem?_map, List.getElem?_eq_getElem hj']
  simp [hj']
open Go.Proofs in
theorem swo_key {α : Type} (g : α → Int) : Sort.SWO (ltOf fun x y => Lib.compareInt (g x) (g y)) := by
  have e : ∀ x y, ltOf (fun x y => Lib.compareInt (g x) (g y)) x y = decide (g x < g y) := fun x y => by
    unfold ltOf Lib.compareInt
    by_cases h1 : g x < g y
    · simp [h1]
    · by_cases h2 : g y < g x <;> simp [h1, h2]
  exact ⟨fun x => by rw [e]; simp, fun x y z h1 h2 => by rw [e] at *; simp at *; omega, fun x y z h1 h2 => by rw [e] at *; simp at *; omega⟩
open Go.Proofs in
theorem lt_key {α : Type} (g : α → Int) {x y : α} (h : ltOf (fun x y => Lib.compareInt (g x) (g y)) x y = false) : g y ≤ g x := by
  unfold ltOf Lib.compareInt at h
  by_cases h1 : g x < g y
  · simp [h1] at h
  · omega
end Go.Sl
namespace Go.Sl
open Go.RowKit
section
variable {P : Program} {w0 : World} {fn : Func} {R : Value → Heap → Prop} {n : Nat} {ds : List Deferred} {k : List It} {env : Env} {H H' H2 : Heap} {r1 r2 r3 r4 : ResultVar} {v1 v2 v3 v4 : Value}
theorem run_res4G {a : Act} {w : World} (hr : fn.results = #[r1, r2, r3, r4]) (h1 : Res1 P w0 env H r1 v1) (h2 : Res1 P w0 env H r2 v2) (h3 : Res1 P w0 env H r3 v3) (h4 : Res1 P w0 env H r4 v4) (ha : Agree n env a) (hs : Sat w0 H w) : (results fn a.tmps).run P w = .ok (.tuple #[v1, v2, v3, v4]) w := by
  have e1 := h1.run ha hs
  have e2 := h2.run ha hs
  have e3 := h3.run ha hs
  have e4 := h4.run ha hs
  simp [results_eq, hr, e1, e2, e3, e4, Result.andThen]
theorem W_ret4G (hr : fn.results = #[r1, r2, r3, r4]) (hM : Marks ds H H') (h1 : Res1 P w0 env H' r1 v1) (h2 : Res1 P w0 env H' r2 v2) (h3 : Res1 P w0 env H' r3 v3) (h4 : Res1 P w0 env H' r4 v4) (hu : HSub H' H2) (hR : R (.tuple #[v1, v2, v3, v4]) H2) : W P none w0 (FPost P w0 fn R) n ds (.code .ret :: k) env H :=
  W_ret fun a w ha hd hs => by
    show LeavesInM _ _ _ _ _ _ a.defers _ _
    rw [hd]
    exact leaves_marks hM hu (fun w hs' => run_res4G hr h1 h2 h3 h4 ha hs') hs hR
end
end Go.Sl
namespace Go.Sl
open Go.RowKit
section
variable {P : Program} {H : Type} {enc : TypeId × Value → H} {w : World} {base : Nat} {spare : Nat → Bool} {held : Bool}
theorem any_rows {α : Type} [Inhabited α] {f : α → List Value} {ok : α → Prop} {s : Nat} {t e : TypeId} (ht : P.underlying t = some (.slice e)) (hce : P.cellsOf e = s) (hpos : 0 < s)
    (hread : ∀ {m : Nat} {cs : List Value} {z : DataW H × List MemPlace}, DataW.trod enc P w base spare held m e cs = some z → ∃ y : α, cs = f y ∧ ok y) (hlen : ∀ y, (f y).length = s) {fuel len cap : Nat} {a : Option Addr} {x : DataW H × List MemPlace}
    (hf : DataW.trod enc P w base spare held fuel t (Value.slice a len cap).cells.toList = some x) :
    ∃ l : List α, len = l.length ∧ l.length ≤ cap ∧ cap ≤ maxLen ∧ (∀ y ∈ l, ok y) ∧ InRow w a (l.flatMap f) := by
  rcases Go.Deep.open_slice ht hf with ⟨hcs, _⟩ | ⟨a', len', cap', m, n', D, Pl, hcs, _, hle, hmax, hm, _, hel⟩
  · simp [Value.cells] at hcs
    obtain ⟨rfl, rfl, rfl⟩ := hcs
    exact ⟨[], rfl, Nat.le_refl _, Nat.zero_le _, fun x hx => (by simp at hx), InRow.nil⟩
  · simp [Value.cells] at hcs
    obtain ⟨rfl, rfl, rfl⟩ := hcs
    have hlm : len ≤ m := by rw [hm]; split <;> omega
    have hall : ∀ i, i < len → ∃ y : α, w.cells? base (a'.add (i * s)) s = some (f y) ∧ ok y := fun i hi => by
      obtain ⟨cs, h1, h2⟩ := hel i (by omega)
      rw [hce] at h1
      obtain ⟨y, rfl, hy⟩ := hread h2
      exact ⟨y, h1, hy⟩
    obtain ⟨Y, hY⟩ := Go.Deep.choose_lt hall
    refine ⟨(List.range len).map Y, by simp, by simpa using hle, hmax, fun x hx => ?_, InRow.of_spot fun j v hj => ?_⟩
    · obtain ⟨i, hi, rfl⟩ := List.mem_map.1 hx
      exact (hY i (List.mem_range.1 hi)).2
    · have hjl : j < len * s := by
        have := (List.getElem?_eq_some_iff.1 hj).1
        rw [flat_length hlen] at this
        simpa using this
      have hi : j / s < len := Nat.div_lt_of_lt_mul (by rw [Nat.mul_comm]; exact hjl)
      have hc := (hY (j / s) hi).1
      obtain ⟨_, _, hcell⟩ := World.cells?_some hc
      have hmod : j % s < s := Nat.mod_lt _ hpos
      have h1 := hcell (j % s) hmod
      have hk : j % s < (f (Y (j / s))).length := by rw [hlen]; exact hmod
      have h2 := flat_at (l := (List.range len).map Y) hlen (i := j / s) (x := Y (j / s)) (by simp [hi]) (j % s) _ (List.getElem?_eq_getElem hk)
      have hdm : j / s * s + j % s = j := by rw [Nat.mul_comm]; exact Nat.div_add_mod j s
      rw [hdm] at h2
      rw [hj] at h2
      have aa : ∀ (a : Addr) (m n : Nat), (a.add m).add n = a.add (m + n) := fun a m n => by
        unfold Addr.add
        by_cases hm : m = 0
        · subst hm; simp
        · by_cases hn : n = 0
          · subst hn; simp [hm]
          · have h : m + n ≠ 0 := by omega
            simp [hm, hn, Nat.add_assoc]
      rw [Option.some.inj h2, ← List.getElem?_eq_getElem hk, ← h1, aa, hdm]
end
end Go.Sl
