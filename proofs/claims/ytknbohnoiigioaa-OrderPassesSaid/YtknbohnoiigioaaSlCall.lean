/-
  Own work: the small logic, its rules for entering, returning and calling, and for lengths, slices and indices; of any program.
-/
import Derived.Test.YtknbohnoiigioaaSlOps
set_option linter.all false
set_option linter.unusedSimpArgs false
set_option linter.unusedVariables false
namespace Go.Sl
open Go.RowKit

/-! ## A function's way in and out -/
def envFrom (i : Nat) : List Value → Env
  | [] => []
  | v :: l => (i, v) :: envFrom (i + 1) l
theorem look_envFrom : ∀ (l : List Value) (i x : Nat) (v : Value), look (envFrom i l) x = some v → i ≤ x ∧ l[x - i]? = some v
  | [], _, _, _, h => by simp [envFrom, look] at h
  | u :: l, i, x, v, h => by
    simp only [envFrom, look] at h
    by_cases hx : i = x
    · subst hx
      have : Nat.beq i i = true := by simp
      rw [this] at h
      simpa using h
    · rw [nbeq_false hx] at h
      obtain ⟨h1, h2⟩ := look_envFrom l (i + 1) x v (by simpa using h)
      refine ⟨by omega, ?_⟩
      rw [show x - i = (x - (i + 1)) + 1 by omega]
      simpa using h2
section
variable {P : Program} {w0 : World} {f : FuncId} {fn : Func} {c : Code} {H : Heap} {R : Value → Heap → Prop} {n : Nat}
theorem L_enter {l : List Value} {env : Env} (hf : P.funcs[f]? = some fn) (hb : fn.body = some c) (hn : fn.ntmps = n) (hl : Nat.ble l.length n = true) (he : envFrom 0 l = env)
    (h : W P none w0 (FPost P w0 fn R) n [] [.code c] env H) : LCalls P w0 f l.toArray H R := by
  intro w hs
  refine callsIn_of_wp_marks hf hb trivial ?_
  have hl' : l.length ≤ n := by simpa using hl
  refine h _ w ⟨by simp [hn]; omega, fun x v hx => ?_⟩ rfl hs
  subst he
  obtain ⟨_, h2⟩ := look_envFrom l 0 x v hx
  have h3 : x < l.length := (List.getElem?_eq_some_iff.1 h2).1
  simp only [Array.getD_eq_getD_getElem?]
  rw [Array.getElem?_append_left (by simpa using h3)]
  simpa using congrArg (Option.getD · undef) h2
end
section
variable {P : Program} {w0 : World} {fn : Func} {R : Value → Heap → Prop} {n : Nat} {k : List It} {env : Env} {H H' : Heap}
theorem run_res1 {t : Nat} {tmps : Array Value} {w : World} (hr : fn.results = #[.tmp t]) : (results fn tmps).run P w = .ok (tmps.getD t undef) w := results_tmp hr tmps P w
theorem run_res2 {t u : Nat} {tmps : Array Value} {w : World} (hr : fn.results = #[.tmp t, .tmp u]) : (results fn tmps).run P w = .ok (.tuple #[tmps.getD t undef, tmps.getD u undef]) w := results_tmp2 hr tmps P w
theorem run_res3 {t u s : Nat} {tmps : Array Value} {w : World} (hr : fn.results = #[.tmp t, .tmp u, .tmp s]) : (results fn tmps).run P w = .ok (.tuple #[tmps.getD t undef, tmps.getD u undef, tmps.getD s undef]) w := by
  simp [results, hr]
theorem run_res0 {tmps : Array Value} {w : World} (hr : fn.results = #[]) : (results fn tmps).run P w = .ok (.tuple #[]) w := results_none hr tmps P w
theorem leaves_nil {tmps : Array Value} {w : World} {v : Value} (hr : (results fn tmps).run P w = .ok v w) (hs : Sat w0 H w) (hR : R v H) :
    LeavesInM Fence.wide 0 P fn tmps (LPost w0 R) [] .returning w := ⟨v, hr, v, H, rfl, hR, hs⟩
theorem W_ret1 {t : Nat} {v : Value} (hr : fn.results = #[.tmp t]) (hv : look env t = some v) (hR : R v H) : W P none w0 (FPost P w0 fn R) n [] (.code .ret :: k) env H :=
  W_ret fun a w ha hd hs => by
    show LeavesInM _ _ _ _ _ _ a.defers _ _
    rw [hd]
    exact leaves_nil (run_res1 hr) hs (by rw [ha.val _ _ hv]; exact hR)
theorem W_ret2 {t u : Nat} {v1 v2 : Value} (hr : fn.results = #[.tmp t, .tmp u]) (hv : look env t = some v1) (hu : look env u = some v2) (hR : R (.tuple #[v1, v2]) H) : W P none w0 (FPost P w0 fn R) n [] (.code .ret :: k) env H :=
  W_ret fun a w ha hd hs => by
    show LeavesInM _ _ _ _ _ _ a.defers _ _
    rw [hd]
    exact leaves_nil (run_res2 hr) hs (by rw [ha.val _ _ hv, ha.val _ _ hu]; exact hR)
theorem W_ret3 {t u s : Nat} {v1 v2 v3 : Value} (hr : fn.results = #[.tmp t, .tmp u, .tmp s]) (hv : look env t = some v1) (hu : look env u = some v2) (hs3 : look env s = some v3) (hR : R (.tuple #[v1, v2, v3]) H) : W P none w0 (FPost P w0 fn R) n [] (.code .ret :: k) env H :=
  W_ret fun a w ha hd hs => by
    show LeavesInM _ _ _ _ _ _ a.defers _ _
    rw [hd]
    exact leaves_nil (run_res3 hr) hs (by rw [ha.val _ _ hv, ha.val _ _ hu, ha.val _ _ hs3]; exact hR)
theorem W_ret0 (hr : fn.results = #[]) (hR : R (.tuple #[]) H) : W P none w0 (FPost P w0 fn R) n [] (.code .ret :: k) env H :=
  W_ret fun a w ha hd hs => by
    show LeavesInM _ _ _ _ _ _ a.defers _ _
    rw [hd]
    exact leaves_nil (run_res0 hr) hs hR
theorem W_end0 (hr : fn.results = #[]) (hR : R (.tuple #[]) H) : W P none w0 (FPost P w0 fn R) n [] [] env H :=
  fun a w ha hd hs => by
    show LeavesInM _ _ _ _ _ _ a.defers _ _
    rw [hd]
    exact leaves_nil (run_res0 hr) hs hR
end
/-! ## Calls -/
section
variable {P : Program} {rd : Option Nat} {w0 : World} {Q : Exit → Act → World → Prop} {n : Nat} {ds : List Deferred} {k : List It} {env env' : Env} {H H' : Heap} {all : Array Oper} {rest : List Oper}
variable {d : Option Nat} {x y c : Operand} {t u : TypeId} {pos : String} {aft : Array Edge} {v : Value} {tys : Array TypeId}
theorem W_callG {o : Oper} {f : FuncId} {args : Array Value} {R : Value → Heap → Prop} (hg : o.guard = none) (hdef : ∀ c, o.op ≠ .defer c) (hd : dok n o.dst = true)
    (hr : ∀ a w, Agree n env a → Sat w0 H w → (execOp a.eval o).run P w = .ok (.enter f args) w) (hL : LCalls P w0 f args H R)
    (h : ∀ v H', R v H' → W P rd w0 Q n ds (.ops all rest :: k) (put o.dst v env) H') : W P rd w0 Q n ds (.ops all (o :: rest) :: k) env H := by
  intro a w ha hds hs
  show wpListIn (fen rd) 0 P all (Cont P rd Q k) (o :: rest) a w
  unfold wpListIn
  rw [if_pos (by simp [Region.wanted, hg])]
  refine ⟨fun _ _ => trivial, ?_⟩
  rw [Oper.semAt_eq _ _ _ hdef, hr a w ha hs, Oper.uponIn_enter]
  refine ⟨fun h => by simp [Fence.wide] at h, ?_⟩
  have hc : CallsIn (fen rd) 0 P f args w _ := hL w hs
  refine hc.mono ?_
  rintro e w' ⟨v, H', rfl, hR, hs'⟩
  exact h v H' hR (a.put o.dst v) w' (ha.put hd) (by cases o.dst <;> exact hds) hs'
theorem W_call {f : FuncId} {l : List Operand} {vs : List Value} {R : Value → Heap → Prop} (hc : OpVs env l vs) (hf : ∀ (args : Array Value) (w : World), (callFunc f args).run P w = .ok (.enter f args) w) (hd : dok n d = true)
    (hL : LCalls P w0 f vs.toArray H R) (h : ∀ v H', R v H' → W P rd w0 Q n ds (.ops all rest :: k) (put d v env) H') :
    W P rd w0 Q n ds (.ops all (⟨d, .call ⟨.value (.func f), l.toArray, tys⟩, t, pos, aft, none⟩ :: rest) :: k) env H :=
  W_callG rfl nofun hd (fun a w ha _ => by
    have : l.map a.eval = vs := ha.opvs hc
    simp [execOp, resolve, Act.eval, Deferred.ofValue, invoke, this, hf, Result.andThen]) hL h
/-- the contract of a function that hands back one known value and leaves all as it was -/
def Pure (P : Program) (T : World → Prop) (f : FuncId) (args : List Value) (v : Value) : Prop := ∀ w0 H, T w0 → LCalls P w0 f args.toArray H (fun v' H' => v' = v ∧ H' = H)
theorem W_callp {f : FuncId} {l : List Operand} {vs : List Value} (hc : OpVs env l vs) (hf : ∀ (args : Array Value) (w : World), (callFunc f args).run P w = .ok (.enter f args) w) (hd : dok n d = true)
    {T : World → Prop} (hT : T w0) (hL : Pure P T f vs v) (h : W P rd w0 Q n ds (.ops all rest :: k) (put d v env) H) :
    W P rd w0 Q n ds (.ops all (⟨d, .call ⟨.value (.func f), l.toArray, tys⟩, t, pos, aft, none⟩ :: rest) :: k) env H :=
  W_call hc hf hd (hL w0 H hT) (by rintro v' H' ⟨rfl, rfl⟩; exact h)
/-- a call of a function value: its own first and captured values around the arguments -/
theorem W_callv {f : FuncId} {l : List Operand} {vs : List Value} {fa ca : Array Value} {R : Value → Heap → Prop} (hx : opv env x = some (.func (.func f) fa ca)) (hc : OpVs env l vs) (hf : ∀ (args : Array Value) (w : World), (callFunc f args).run P w = .ok (.enter f args) w) (hd : dok n d = true)
    (hL : LCalls P w0 f (fa ++ vs.toArray ++ ca) H R) (h : ∀ v H', R v H' → W P rd w0 Q n ds (.ops all rest :: k) (put d v env) H') :
    W P rd w0 Q n ds (.ops all (⟨d, .call ⟨.value x, l.toArray, tys⟩, t, pos, aft, none⟩ :: rest) :: k) env H :=
  W_callG rfl nofun hd (fun a w ha _ => by
    have : l.map a.eval = vs := ha.opvs hc
    simp [execOp, resolve, ha.opv hx, Deferred.ofValue, invoke, this, hf, Result.andThen]) hL h
end
/-- a contract of the kit's own, that makes one block -/
theorem L_of_alloc {P : Program} {w0 : World} {H : Heap} {f : FuncId} {args : Array Value} {T : World → Prop} {C : Array Value} {e : TypeId} {g : Addr → Value}
    (h : ∀ w, T w → Calls P f args w fun en w' => en = .returned (g ⟨w.heap.size, 0, none⟩) ∧ w' = w.alloc (.cells C e)) (hT : ∀ w, Sat w0 H w → T w) :
    LCalls P w0 f args H (fun v H' => ∃ b, v = g ⟨b, 0, none⟩ ∧ H' = (b, .cells e C.size C.toList) :: H) := fun w hs => by
  refine (callsIn_wide.2 (h w (hT w hs))).mono ?_
  rintro en w' ⟨rfl, rfl⟩
  exact ⟨_, _, rfl, ⟨_, rfl, rfl⟩, hs.alloc _ (At.alloc_cells w C e)⟩
/-- a contract of the kit's own, that leaves all that was as it was -/
theorem L_of_below {P : Program} {w0 : World} {H : Heap} {v : Value} {f : FuncId} {args : Array Value} {T : World → Prop} (h : ∀ w, T w → Calls P f args w fun en w' => en = .returned v ∧ Below w.heap.size w w') (hT : ∀ w, Sat w0 H w → T w) :
    LCalls P w0 f args H (fun v' H' => v' = v ∧ H' = H) := fun w hs => by
  refine (callsIn_wide.2 (h w (hT w hs))).mono ?_
  rintro en w' ⟨rfl, hb⟩
  exact ⟨_, _, rfl, ⟨rfl, rfl⟩, hs.below' hb⟩
/-! ## Builtins, indexes, slices -/
section
variable {P : Program} {rd : Option Nat} {w0 : World} {Q : Exit → Act → World → Prop} {n : Nat} {ds : List Deferred} {k : List It} {env env' : Env} {H H' : Heap} {all : Array Oper} {rest : List Oper}
variable {d : Nat} {x y c : Operand} {t u ty : TypeId} {pos : String} {aft : Array Edge} {v : Value} {tys : Array TypeId}
theorem W_len {ad : Option Addr} {len cap s by_ : Nat} {e : TypeId} {z : Value} {m : Int} (hx : opv env x = some (.slice ad len cap)) (ht : Ty P t (.slice e) s z by_) (hm : (len : Int) = m) (hd : Nat.blt d n = true)
    (h : W P rd w0 Q n ds (.ops all rest :: k) ((d, .int .i64 m) :: env) H) : W P rd w0 Q n ds (.ops all (⟨some d, .call ⟨.builtin .len, #[x], #[t]⟩, ty, pos, aft, none⟩ :: rest) :: k) env H :=
  W_pure rfl nofun hd (fun a w ha _ => by simp [execOp, resolve, invoke, builtin, Builtin.len_, ha.opv hx, ht.run, goInt, Result.andThen, hm]) h
theorem W_lens {b : ByteArray} {s by_ : Nat} {z : Value} {m : Int} (hx : opv env x = some (.string b)) (ht : Ty P t .string s z by_) (hm : (b.size : Int) = m) (hd : Nat.blt d n = true)
    (h : W P rd w0 Q n ds (.ops all rest :: k) ((d, .int .i64 m) :: env) H) : W P rd w0 Q n ds (.ops all (⟨some d, .call ⟨.builtin .len, #[x], #[t]⟩, ty, pos, aft, none⟩ :: rest) :: k) env H :=
  W_pure rfl nofun hd (fun a w ha _ => by simp [execOp, resolve, invoke, builtin, Builtin.len_, ha.opv hx, ht.run, goInt, Result.andThen, hm]) h
theorem W_min2 {q q' : IntKind} {i j m : Int} (hx : opv env x = some (.int q i)) (hy : opv env y = some (.int q' j)) (hm : (if j < i then j else i) = m) (hd : Nat.blt d n = true)
    (h : W P rd w0 Q n ds (.ops all rest :: k) ((d, .int q m) :: env) H) : W P rd w0 Q n ds (.ops all (⟨some d, .call ⟨.builtin .min, #[x, y], tys⟩, ty, pos, aft, none⟩ :: rest) :: k) env H :=
  W_pure rfl nofun hd (fun a w ha _ => by simp [execOp, resolve, invoke, builtin, Builtin.min_, Builtin.min2, ha.opv hx, ha.opv hy, Result.andThen, ← hm]) h
theorem W_max2 {q q' : IntKind} {i j m : Int} (hx : opv env x = some (.int q i)) (hy : opv env y = some (.int q' j)) (hm : (if j > i then j else i) = m) (hd : Nat.blt d n = true)
    (h : W P rd w0 Q n ds (.ops all rest :: k) ((d, .int q m) :: env) H) : W P rd w0 Q n ds (.ops all (⟨some d, .call ⟨.builtin .max, #[x, y], tys⟩, ty, pos, aft, none⟩ :: rest) :: k) env H :=
  W_pure rfl nofun hd (fun a w ha _ => by simp [execOp, resolve, invoke, builtin, Builtin.max_, Builtin.max2, ha.opv hx, ha.opv hy, Result.andThen, ← hm]) h
/-- the address of a slice's element -/
theorem W_indexAddr {b o len cap j s es by_ eb : Nat} {q : IntKind} {i : Int} {e : TypeId} {z ez : Value} {ed : TypeDesc} (hx : opv env x = some (.slice (some ⟨b, o, none⟩) len cap)) (hy : opv env y = some (.int q i)) (ht : Ty P t (.slice e) s z by_) (he : Ty P e ed es ez eb)
    (hi : i = (j : Int)) (hj : j < len) {at_ : Nat} (hat : o + j * es = at_) (hd : Nat.blt d n = true)
    (h : W P rd w0 Q n ds (.ops all rest :: k) ((d, .pointer (some ⟨b, at_, none⟩)) :: env) H) : W P rd w0 Q n ds (.ops all (⟨some d, .indexAddr t x y, ty, pos, aft, none⟩ :: rest) :: k) env H :=
  W_pure rfl nofun hd (fun a w ha _ => by
    subst hi hat
    simp [execOp, Instr.indexAt, ha.opv hx, ha.opv hy, asIntOf, ht.run, he.size, hj, addr_add, Result.andThen]) h
theorem W_indexAddrZ {b o len cap s es by_ eb : Nat} {q : IntKind} {i : Int} {e : TypeId} {z ez : Value} {ed : TypeDesc} (hx : opv env x = some (.slice (some ⟨b, o, none⟩) len cap)) (hy : opv env y = some (.int q i)) (ht : Ty P t (.slice e) s z by_) (he : Ty P e ed es ez eb)
    (hi : 0 ≤ i) (hj : i < (len : Int)) {at_ : Nat} (hat : o + i.toNat * es = at_) (hd : Nat.blt d n = true)
    (h : W P rd w0 Q n ds (.ops all rest :: k) ((d, .pointer (some ⟨b, at_, none⟩)) :: env) H) : W P rd w0 Q n ds (.ops all (⟨some d, .indexAddr t x y, ty, pos, aft, none⟩ :: rest) :: k) env H :=
  W_indexAddr (j := i.toNat) hx hy ht he (by omega) (by omega) hat hd h
/-- of an array's, behind its address -/
theorem W_indexAddrA {b o len j s es by_ eb : Nat} {q : IntKind} {i : Int} {e : TypeId} {z ez : Value} {ed : TypeDesc} (hx : opv env x = some (.pointer (some ⟨b, o, none⟩))) (hy : opv env y = some (.int q i)) (ht : Ty P t (.array len e) s z by_) (he : Ty P e ed es ez eb)
    (hi : i = (j : Int)) (hj : j < len) {at_ : Nat} (hat : o + j * es = at_) (hd : Nat.blt d n = true)
    (h : W P rd w0 Q n ds (.ops all rest :: k) ((d, .pointer (some ⟨b, at_, none⟩)) :: env) H) : W P rd w0 Q n ds (.ops all (⟨some d, .indexAddr t x y, ty, pos, aft, none⟩ :: rest) :: k) env H :=
  W_pure rfl nofun hd (fun a w ha _ => by
    subst hi hat
    simp [execOp, Instr.indexAt, ha.opv hx, ha.opv hy, asIntOf, ht.run, he.size, hj, addr_add, Instr.sureAddr, Result.andThen]) h
/-- a string's byte -/
theorem W_indexS {b : ByteArray} {j s by_ : Nat} {q : IntKind} {i : Int} {z : Value} {r : UInt8} {m : Int} (hx : opv env x = some (.string b)) (hy : opv env y = some (.int q i)) (ht : Ty P t .string s z by_) (hi : i = (j : Int)) (hr : b[j]? = some r) (hm : (r.toNat : Int) = m) (hd : Nat.blt d n = true)
    (h : W P rd w0 Q n ds (.ops all rest :: k) ((d, .int .u8 m) :: env) H) : W P rd w0 Q n ds (.ops all (⟨some d, .index t x y, ty, pos, aft, none⟩ :: rest) :: k) env H :=
  W_pure rfl nofun hd (fun a w ha _ => by
    subst hi hm
    simp [execOp, Instr.index, ha.opv hx, ha.opv hy, asIntOf, ht.run, hr, Result.andThen]) h
/-- an array value's element of one cell -/
theorem W_indexA {cs : Array Value} {j s by_ len es eb : Nat} {q : IntKind} {i : Int} {e : TypeId} {z ez : Value} {ed : TypeDesc} (hx : opv env x = some (.agg cs)) (hy : opv env y = some (.int q i)) (ht : Ty P t (.array len e) s z by_) (he : Ty P e ed es ez eb) (hf : flat ed = true) (hi : i = (j : Int)) (hj : j < len)
    (hr : cs[j * es]? = some v) (hd : Nat.blt d n = true)
    (h : W P rd w0 Q n ds (.ops all rest :: k) ((d, v) :: env) H) : W P rd w0 Q n ds (.ops all (⟨some d, .index t x y, ty, pos, aft, none⟩ :: rest) :: k) env H :=
  W_pure rfl nofun hd (fun a w ha _ => by
    subst hi
    simp [execOp, Instr.index, ha.opv hx, ha.opv hy, asIntOf, ht.run, he.size, he.isAgg, hf, part, hr, hj, Result.andThen]) h
/-- x[lo:hi] of a slice -/
def optIdx (env : Env) (len : Nat) : Option Operand → Nat → Prop
  | none, i => i = len
  | some o, i => ∃ q : IntKind, opv env o = some (.int q (i : Int))
theorem run_slice_slice {ad : Option Addr} {len cap l hh s es by_ eb : Nat} {lo hi : Option Operand} {e : TypeId} {z ez : Value} {ed : TypeDesc} {a : Act} {w : World} (ha : Agree n env a) (ht : Ty P t (.slice e) s z by_) (he : Ty P e ed es ez eb)
    (hlo : optIdx env 0 lo l) (hhi : optIdx env len hi hh) (h1 : l ≤ hh) (h2 : hh ≤ cap) :
    (Instr.sliceAt t (.slice ad len cap) (lo.map a.eval) (hi.map a.eval) none).run P w = .ok (.slice (if cap = l then ad else ad.map (·.add (l * es))) (hh - l) (cap - l)) w := by
  have hb : (Instr.sliceBounds true len cap (lo.map a.eval) (hi.map a.eval) none).run P w = .ok (l, hh, cap) w := by
    cases lo with
    | none =>
      have hl : l = 0 := hlo
      subst hl
      cases hi with
      | none => have : hh = len := hhi; subst this; simp [Instr.sliceBounds, Result.andThen]
      | some o => obtain ⟨q, hq⟩ := hhi; simp [Instr.sliceBounds, ha.opv hq, Instr.sliceBound, asIntOf, h2, Result.andThen]
    | some o' =>
      obtain ⟨q', hq'⟩ := hlo
      cases hi with
      | none => have : hh = len := hhi; subst this; simp [Instr.sliceBounds, ha.opv hq', Instr.sliceBound, asIntOf, h1, Result.andThen]
      | some o => obtain ⟨q, hq⟩ := hhi; simp [Instr.sliceBounds, ha.opv hq, ha.opv hq', Instr.sliceBound, asIntOf, h1, h2, Result.andThen]
  simp [Instr.sliceAt, Instr.slice, ht.run, hb, he.size, Result.andThen]
/-- x[:hi] -/
theorem W_slice0 {ad : Option Addr} {len cap hh s es by_ eb : Nat} {lo hi : Option Operand} {e : TypeId} {z ez : Value} {ed : TypeDesc} (hx : opv env x = some (.slice ad len cap)) (ht : Ty P t (.slice e) s z by_) (he : Ty P e ed es ez eb)
    (hlo : optIdx env 0 lo 0) (hhi : optIdx env len hi hh) (h2 : hh ≤ cap) (hd : Nat.blt d n = true)
    (h : W P rd w0 Q n ds (.ops all rest :: k) ((d, .slice ad hh cap) :: env) H) : W P rd w0 Q n ds (.ops all (⟨some d, .slice t x lo hi none, ty, pos, aft, none⟩ :: rest) :: k) env H :=
  W_pure rfl nofun hd (fun a w ha _ => by
    have := run_slice_slice (P := P) (w := w) (ad := ad) ha ht he hlo hhi (Nat.zero_le _) h2
    have ea : ∀ x : Option Addr, (if cap = 0 then x else x.map (·.add (0 * es))) = x := fun x => by
      split
      · rfl
      · cases x <;> simp [Addr.add]
    rw [ea] at this
    simp only [Nat.sub_zero] at this
    simp [execOp, ha.opv hx, this, Result.andThen]) h
/-- x[lo:hi]: where nothing is left the address is of no account -/
theorem W_slice {b o len cap l hh s es by_ eb : Nat} {lo hi : Option Operand} {e : TypeId} {z ez : Value} {ed : TypeDesc} (hx : opv env x = some (.slice (some ⟨b, o, none⟩) len cap)) (ht : Ty P t (.slice e) s z by_) (he : Ty P e ed es ez eb)
    (hlo : optIdx env 0 lo l) (hhi : optIdx env len hi hh) (h1 : l ≤ hh) (h2 : hh ≤ cap) (hd : Nat.blt d n = true)
    (h : ∀ o', (l < cap → o' = o + l * es) → W P rd w0 Q n ds (.ops all rest :: k) ((d, .slice (some ⟨b, o', none⟩) (hh - l) (cap - l)) :: env) H) : W P rd w0 Q n ds (.ops all (⟨some d, .slice t x lo hi none, ty, pos, aft, none⟩ :: rest) :: k) env H := by
  refine W_pure (v := .slice (some ⟨b, if cap = l then o else o + l * es, none⟩) (hh - l) (cap - l)) rfl nofun hd (fun a w ha _ => ?_) (h _ (fun hlt => by rw [if_neg (by omega)]))
  have := run_slice_slice (P := P) (w := w) (ad := some ⟨b, o, none⟩) ha ht he hlo hhi h1 h2
  have ea : (if cap = l then some (⟨b, o, none⟩ : Addr) else (some (⟨b, o, none⟩ : Addr)).map (·.add (l * es))) = some ⟨b, if cap = l then o else o + l * es, none⟩ := by
    split <;> simp [addr_add]
  rw [ea] at this
  simp [execOp, ha.opv hx, this, Result.andThen]
end
end Go.Sl
