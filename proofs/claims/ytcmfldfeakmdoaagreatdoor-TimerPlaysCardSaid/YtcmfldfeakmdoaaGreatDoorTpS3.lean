/-
  Own work: a small logic for walking through a function's code: facts on slots, owned blocks of memory, and its rules; of any program.
-/
import Derived.Test.YtcmfldfeakmdoaaGreatDoorTpS2
import Derived.Shelf.SlSortCmp.Whole1
import Derived.Test.YtcmfldfeakmdoaaGreatDoorTpS1
set_option linter.all false
set_option linter.unusedSimpArgs false
set_option linter.unusedVariables false
namespace Go.Sl
open Go.RowKit
def WR (P : Program) (C : World → Prop) (K : Act → World → Prop) (n : Nat) (ops : Array Oper) (l : List Oper) (env : Env) : Prop :=
  ∀ a, Agree n env a → a.defers = [] → wpQuietIn (fen none) 0 P ops C (fun a' => ∀ w', C w' → K a' w') l a
section
variable {P : Program} {C : World → Prop} {K : Act → World → Prop} {n : Nat} {ops : Array Oper} {env : Env} {rest : List Oper} {op : Op} {ty : TypeId} {v : Value} {pos : String} {aft : Array Edge}
theorem WR_nil (h : ∀ a w, Agree n env a → a.defers = [] → C w → K a w) : WR P C K n ops [] env := fun a ha hd w hw => h a w ha hd hw
def Kret (P : Program) (C : World → Prop) (fn : Func) (v : Value) : Act → World → Prop := fun a w => Code.ret.wpIn (fen none) 0 P (bodyPostM Fence.wide 0 P fn (fun e w' => e = .returned v ∧ C w')) a w
theorem WR_ret {fn : Func} {d0 : Nat} (hres : fn.results = #[.tmp d0]) (hv : look env d0 = some v) : WR P C (Kret P C fn v) n ops [] env := WR_nil fun a w ha hd hw => by
  refine wpIn_ret ?_
  show LeavesInM _ _ _ _ _ _ a.defers _ _
  rw [hd]
  exact ⟨v, by rw [run_res1 hres, ha.val _ _ hv], rfl, hw⟩
theorem WR_x {d : Nat} (hx : Ex P n env C op ty v) (hd : Nat.blt d n = true) (h : WR P C K n ops rest ((d, v) :: env)) : WR P C K n ops (⟨some d, op, ty, pos, aft, none⟩ :: rest) env := fun a ha hds => by
  refine ⟨fun _ _ _ _ => trivial, ?_⟩
  rw [if_pos (by simp [Region.wanted])]
  exact ⟨v, fun w hs => by
    unfold Oper.quietAtIn
    rw [hx a w (some d) pos aft none ha hs]
    exact ⟨rfl, rfl⟩, h _ (ha.put (d := some d) hd) hds⟩
theorem WR_call {d : Option Nat} {f : FuncId} {l : List Operand} {vs : List Value} {tys : Array TypeId} (hc : OpVs env l vs) (hf : ∀ (args : Array Value) (w : World), (callFunc f args).run P w = .ok (.enter f args) w) (hd : dok n d = true)
    (hL : ∀ w, C w → Calls P f vs.toArray w fun e w' => e = .returned v ∧ w' = w) (h : WR P C K n ops rest (put d v env)) : WR P C K n ops (⟨d, .call ⟨.value (.func f), l.toArray, tys⟩, ty, pos, aft, none⟩ :: rest) env := fun a ha hds => by
  refine ⟨fun _ _ _ _ => trivial, ?_⟩
  rw [if_pos (by simp [Region.wanted])]
  refine ⟨v, fun w hs => ?_, h _ (ha.put hd) (by cases d <;> exact hds)⟩
  unfold Oper.quietAtIn
  have hl : l.map a.eval = vs := ha.opvs hc
  rw [show (execOp a.eval ⟨d, .call ⟨.value (.func f), l.toArray, tys⟩, ty, pos, aft, none⟩).run P w = .ok (.enter f vs.toArray) w by
    simp [execOp, resolve, Act.eval, Deferred.ofValue, invoke, hl, hf, Result.andThen]]
  refine ⟨rfl, fun h => by simp [Fence.wide] at h, ?_⟩
  have hcl : CallsIn (fen none) 0 P f vs.toArray w _ := callsIn_wide.2 (hL w hs)
  exact hcl.mono fun e w'' ⟨he, hw⟩ => ⟨by rw [he], by rw [hw]; exact hs⟩
theorem R_enter {f : FuncId} {fn : Func} {id id2 d0 : Nat} {v0 : Value} {ty0 : TypeId} {pos0 : String} {aft0 : Array Edge} {l : List Oper} {args : List Value} (hf : P.funcs[f]? = some fn)
    (hb : fn.body = some (.seq (.region id #[⟨some d0, .assign (.const v0), ty0, pos0, aft0, none⟩] false) (.seq (.region id2 l.toArray true) .ret))) (hn : fn.ntmps = n) (hl : Nat.ble args.length n = true) (he : envFrom 0 args = env) (hd0 : Nat.blt d0 n = true)
    (hm : P.follows .mixedOrders = true) (hB : Region.lexB .any l.toArray = true) (hC : ∀ w, C w → C w.drew) (h : WR P C (Kret P C fn v) n l.toArray l ((d0, v0) :: env)) :
    ∀ w, C w → CallsIn Fence.wide 0 P f args.toArray w fun e w' => e = .returned v ∧ C w' := by
  intro w hw
  refine callsIn_of_wp_marks hf hb trivial ?_
  refine wpIn_seq ?_
  have hl' : args.length ≤ n := by simpa using hl
  have ha : Agree n env { tmps := args.toArray ++ Array.replicate (fn.ntmps - args.toArray.size) undef, defers := [] } := by
    refine ⟨by simp [hn]; omega, fun x v hx => ?_⟩
    subst he
    obtain ⟨_, h2⟩ := look_envFrom args 0 x v hx
    have h3 : x < args.length := (List.getElem?_eq_some_iff.1 h2).1
    simp only [Array.getD_eq_getD_getElem?]
    rw [Array.getElem?_append_left (by simpa using h3)]
    simpa using congrArg (Option.getD · undef) h2
  have had : ({ tmps := args.toArray ++ Array.replicate (fn.ntmps - args.toArray.size) undef, defers := [] } : Act).defers = [] := rfl
  generalize ({ tmps := args.toArray ++ Array.replicate (fn.ntmps - args.toArray.size) undef, defers := [] } : Act) = a at ha had ⊢
  refine wpIn_region_lit (l := [⟨some d0, .assign (.const v0), ty0, pos0, aft0, none⟩]) ?_
  unfold wpListIn
  rw [if_pos (by simp [Region.wanted])]
  refine ⟨fun _ _ => trivial, ?_⟩
  rw [Oper.semAt_eq _ _ _ (fun _ h => by cases h), show (execOp a.eval ⟨some d0, .assign (.const v0), ty0, pos0, aft0, none⟩).run P w = .ok (.value v0) w by simp [execOp, Act.eval], Oper.uponIn_value]
  have ha1 : Agree n ((d0, v0) :: env) (a.put (some d0) v0) := ha.put (d := some d0) hd0
  show (Code.seq (.region id2 l.toArray true) .ret).wpIn _ _ _ _ _ _
  refine wpIn_seq ?_
  refine wpIn_region_quiet (F := fen none) (C := C) rfl hm hB (hC w hw) ?_
  simp only [List.toList_toArray]
  exact h _ ha1 had
end
theorem Ex.mono {P : Program} {n : Nat} {env : Env} {C C' : World → Prop} {op : Op} {ty : TypeId} {v : Value} (h : ∀ w, C w → C' w) (hx : Ex P n env C' op ty v) : Ex P n env C op ty v := fun a w d pos aft g ha hw => hx a w d pos aft g ha (h w hw)
theorem Sat.drewN {w0 w : World} {H : Heap} (h : Sat w0 H w) (q : Nat) : Sat w0 H (w.drewN q) := h.below' ⟨rfl, rfl, rfl, Nat.le_refl _, fun _ _ => rfl⟩
open Go.Proofs in
theorem sat_sortWorld {α : Type} [Inhabited α] {w0 w : World} {H : Heap} {enc : α → Value} {e : TypeId} {b tot n : Nat} {d : List α} {d' : Array α} {os : Array Obj} (hs : Sat w0 ((b, .cells e tot (d.map enc)) :: H) w) (hsz' : d'.size = d.length) :
    Sat w0 ((b, .cells e tot (d'.toList.map enc)) :: H) (sortWorld enc w b 0 n d' os) := by
  obtain ⟨hb, c, hc, hcs, ht⟩ := hs.own (b, .cells e tot (d.map enc)) List.mem_cons_self
  have hs1 : Sat w0 ((b, .cells e tot (d.map enc)) :: H) (Sort.ahead w n) := hs.below' ⟨rfl, rfl, rfl, Nat.le_refl _, fun _ _ => rfl⟩
  have hs2 : Sat w0 ((b, .cells e tot (d'.toList.map enc)) :: H) (Sort.putRow enc (Sort.ahead w n) b 0 d') := by
    refine hs1.upd (.head _) ⟨rfl, rfl, rfl, by simp [Sort.putRow, Sort.mapBlock], fun k hk => ?_⟩ (fun j hj _ => ?_) ?_
    · simp only [Sort.putRow, Sort.mapBlock, Array.getElem?_modify]
      rw [if_neg (by omega)]
    · simp only [Sort.putRow, Sort.mapBlock, Array.getElem?_modify]
      rw [if_neg (fun e => hj e.symm)]
    · refine ⟨Sort.putCells enc 0 d' c, ?_, by simp [Sort.putCells, hcs], ?_⟩
      · have hc' : (Sort.ahead w n).heap[b]? = some (.cells c e (0, 0)) := hc
        simp only [Sort.putRow, Sort.mapBlock, Array.getElem?_modify, if_true, hc', Option.map_some]
        rfl
      · have hle : d.length ≤ c.size := by
          have := congrArg List.length ht
          simp only [List.length_take, List.length_map, Array.length_toList] at this
          omega
        refine List.ext_getElem (by simp [Sort.putCells, hsz']; omega) fun i h1 h2 => ?_
        have hi : i < d'.size := by simpa using h2
        simp [Sort.putCells, hi]
  exact hs2.below' (by
    refine ⟨rfl, rfl, rfl, ?_, fun k hk => ?_⟩
    · show _ ≤ (_ ++ os).size; simp
    · show (_ ++ os)[k]? = _
      rw [Array.getElem?_append_left hk])
open Go.Proofs in
theorem L_sort {α : Type} [Inhabited α] {P : Program} {w0 : World} {H : Heap} {f g : FuncId} {cb : Array Value} {enc : α → Value} {cf : α → α → Int} {e : TypeId} {b tot cap : Nat} {d : List α}
    (hcon : ∀ w, Sat w0 ((b, .cells e tot (d.map enc)) :: H) w → Calls P f #[.slice (some ⟨b, 0, none⟩) d.length cap, .func (.func g) #[] cb] w fun en w' =>
      en = .returned (.tuple #[]) ∧ ∃ d' n os, Go.Sort.PermIn 0 d.length d.toArray d' ∧ Go.Sort.SortedIn (ltOf cf) 0 d.length d' ∧ w' = sortWorld enc w b 0 n d' os) :
    LCalls P w0 f #[.slice (some ⟨b, 0, none⟩) d.length cap, .func (.func g) #[] cb] ((b, .cells e tot (d.map enc)) :: H)
      (fun v H' => v = .tuple #[] ∧ ∃ d' : List α, d'.Perm d ∧ (∀ (i j : Nat) x y, i < j → d'[i]? = some x → d'[j]? = some y → ltOf cf y x = false) ∧ H' = (b, .cells e tot (d'.map enc)) :: H) := fun w hs => by
  refine (callsIn_wide.2 (hcon w hs)).mono ?_
  rintro en w' ⟨rfl, d', n, os, hp, hsrt, rfl⟩
  obtain ⟨hsz, _, hperm⟩ := hp
  have hsz' : d'.size = d.length := by simpa using hsz
  have e1 : (d'.extract 0 d.length).toList = d'.toList := by simp [← hsz']
  have e2 : (d.toArray.extract 0 d.length).toList = d := by simp
  rw [e1, e2] at hperm
  refine ⟨.tuple #[], (b, .cells e tot (d'.toList.map enc)) :: H, rfl, ⟨rfl, d'.toList, hperm, fun i j x y hij hx hy => ?_, rfl⟩, sat_sortWorld hs hsz'⟩
  have hj : j < d'.size := by simpa using (List.getElem?_eq_some_iff.1 hy).1
  have h1 := hsrt i j (Nat.zero_le _) hij (by omega)
  have ex : d'[i]! = x := by
    have : d'[i]? = some x := by simpa using hx
    simp [getElem!_def, this]
  have ey : d'[j]! = y := by
    have : d'[j]? = some y := by simpa using hy
    simp [getElem!_def, this]
  rwa [ex, ey] at h1
open Go.Proofs in
theorem holds_row {α : Type} [Inhabited α] {w0 w : World} {H : Heap} {enc : α → Value} {e : TypeId} {b tot : Nat} {d : List α} (hs : Sat w0 ((b, .cells e tot (d.map enc)) :: H) w) : Sort.Holds enc w b 0 d.toArray := fun j hj => by
  have hj' : j < d.length := by simpa using hj
  refine ⟨?_, hs.frozen List.mem_cons_self⟩
  rw [Nat.zero_add]
  refine hs.cell List.mem_cons_self ?_
  rw [List.getElem?_map, List.getElem?_eq_getElem hj']
  simp [hj']
open Go.Proofs in
theorem swo_key {α : Type} (g : α → Int) : Sort.SWO (ltOf fun x y => Lib.compareInt (g x) (g y)) := by
  have e : ∀ x y, ltOf (fun x y => Lib.compareInt (g x) (g y)) x y = decide (g x < g y) := fun x y => by
    unfold ltOf Lib.compareInt
    by_cases h1 : g x < g y
    · simp [h1]
    · by_cases h2 : g y < g x <;> simp [h1, h2]
  exact ⟨fun x => by rw [e]; simp, fun x y z h1 h2 => by rw [e] at *; simp at *; omega, fun x y z h1 h2 => by rw [e] at *; simp at *; omega⟩
open Go.Proofs in
theorem lt_key {α : Type} (g : α → Int) {x y : α} (h : ltOf (fun x y => Lib.compareInt (g x) (g y)) x y = false) : g y ≤ g x := by
  unfold ltOf Lib.compareInt at h
  by_cases h1 : g x < g y
  · simp [h1] at h
  · omega
end Go.Sl
namespace Go.Sl
open Go
theorem flat_set {α : Type} {f : α → List Value} {s : Nat} (hf : ∀ x, (f x).length = s) : ∀ {l : List α} {i : Nat} (x : α), i < l.length → spliceL (l.flatMap f) (i * s) (f x) = (l.set i x).flatMap f
  | [], _, _, h => absurd h (Nat.not_lt_zero _)
  | y :: l, 0, x, _ => by
    unfold spliceL
    rw [Nat.zero_mul, List.take_zero, List.nil_append, Nat.zero_add, hf x, List.flatMap_cons, ← hf y, List.drop_left]
    rfl
  | y :: l, i + 1, x, h => by
    have ih := flat_set hf (l := l) (i := i) x (by simpa using h)
    unfold spliceL at ih ⊢
    have e : (i + 1) * s = (f y).length + i * s := by rw [hf y, Nat.succ_mul, Nat.add_comm]
    rw [List.flatMap_cons, List.set_cons_succ, List.flatMap_cons, ← ih, e, List.take_length_add_append, Nat.add_assoc, List.drop_length_add_append]
    simp only [List.append_assoc]
end Go.Sl
namespace Go.Sl
open Go.RowKit
section
variable {P : Program} {w0 : World} {Q : Exit → Act → World → Prop} {n : Nat} {ds : List Deferred} {k : List It} {env env' : Env} {H H' Hc : Heap} {ops : Array Oper} {s : Nat}
theorem WS_two (i j : Nat) {o o' : Oper} {fuel : Nat} {listed l' l'' : Array Bool} (hh : HSub H Hc) (his : Nat.beq i s = false) (hjs : Nat.beq j s = false) (hr : Region.ready .any ops listed = [i, j]) (hi : ops[i]? = some o) (hj : ops[j]? = some o') (hl : listed.setIfInBounds i true = l') (hl' : listed.setIfInBounds j true = l'')
    (h : W P none w0 (fun _ _ _ => False) n ds [.ops ops [o], .goal (fun a w => anyS P ops (Sat w0 Hc) (Sat w0 []) (Q0 P Q k) s fuel l' a w)] env H)
    (h' : W P none w0 (fun _ _ _ => False) n ds [.ops ops [o'], .goal (fun a w => anyS P ops (Sat w0 Hc) (Sat w0 []) (Q0 P Q k) s fuel l'' a w)] env H) : WS P w0 Q n ds k ops Hc s (fuel + 1) listed env H := fun a w ha hds hsat => by
  subst hl hl'
  have hi1 : i ≠ s := fun e => by rw [e] at his; simp at his
  have hj1 : j ≠ s := fun e => by rw [e] at hjs; simp at hjs
  refine ⟨hsat.hsub hh, fun h0 => (by rw [hr] at h0; cases h0), fun x hx _ => ?_, fun hs => ?_⟩
  · rw [hr] at hx
    rcases (show x = i ∨ x = j by simpa using hx) with rfl | rfl
    · exact wc_op hi (h a w ha hds hsat)
    · exact wc_op hj (h' a w ha hds hsat)
  · rw [hr] at hs
    rcases (show s = i ∨ s = j by simpa using hs) with e | e
    · exact absurd e.symm hi1
    · exact absurd e.symm hj1
end
end Go.Sl
namespace Go.Sl
open Go.RowKit
section
variable {P : Program} {w0 : World} {fn : Func} {R : Value → Heap → Prop} {n : Nat} {ds : List Deferred} {k : List It} {env : Env} {H H' H2 : Heap} {r1 r2 r3 r4 : ResultVar} {v1 v2 v3 v4 : Value}
theorem run_res4G {a : Act} {w : World} (hr : fn.results = #[r1, r2, r3, r4]) (h1 : Res1 P w0 env H r1 v1) (h2 : Res1 P w0 env H r2 v2) (h3 : Res1 P w0 env H r3 v3) (h4 : Res1 P w0 env H r4 v4) (ha : Agree n env a) (hs : Sat w0 H w) : (results fn a.tmps).run P w = .ok (.tuple #[v1, v2, v3, v4]) w := by
  have e1 := h1.run ha hs
  have e2 := h2.run ha hs
  have e3 := h3.run ha hs
  have e4 := h4.run ha hs
  simp [results_eq, hr, e1, e2, e3, e4, Result.andThen]
theorem W_ret4G (hr : fn.results = #[r1, r2, r3, r4]) (hM : Marks ds H H') (h1 : Res1 P w0 env H' r1 v1) (h2 : Res1 P w0 env H' r2 v2) (h3 : Res1 P w0 env H' r3 v3) (h4 : Res1 P w0 env H' r4 v4) (hu : HSub H' H2) (hR : R (.tuple #[v1, v2, v3, v4]) H2) : W P none w0 (FPost P w0 fn R) n ds (.code .ret :: k) env H :=
  W_ret fun a w ha hd hs => by
    show LeavesInM _ _ _ _ _ _ a.defers _ _
    rw [hd]
    exact leaves_marks hM hu (fun w hs' => run_res4G hr h1 h2 h3 h4 ha hs') hs hR
end
end Go.Sl
