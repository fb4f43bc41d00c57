/-
  Own work: the small logic, more of its rules; of any program.
-/
import Derived.Test.YtknbohnoiigioaaSlRange
import Derived.Sort.QuietThIn
import Derived.OrdersIn
set_option linter.all false
set_option linter.unusedSimpArgs false
set_option linter.unusedVariables false
namespace Go.Sl
open Go.RowKit
/-- what an operation yields, in whatever world of a class -/
def Ex (P : Program) (n : Nat) (env : Env) (C : World → Prop) (op : Op) (ty : TypeId) (v : Value) : Prop :=
  ∀ a w (d : Option Nat) (pos : String) (aft : Array Edge) (g : Option (Nat × Bool)), Agree n env a → C w → (execOp a.eval ⟨d, op, ty, pos, aft, g⟩).run P w = .ok (.value v) w
section
variable {P : Program} {w0 : World} {n : Nat} {env : Env} {H : Heap} {x y c : Operand} {t u ty : TypeId} {v : Value} {tys : Array TypeId} {q q' : IntKind} {i j : Int} {r : Value}

theorem X_move (hx : opv env x = some v) {C : World → Prop} : Ex P n env C (.move x) t (v) := fun a w d pos aft g ha _ => by simp [execOp, ha.opv hx]
theorem X_assign (hx : opv env x = some v) {C : World → Prop} : Ex P n env C (.assign x) t (v) := fun a w d pos aft g ha _ => by simp [execOp, ha.opv hx]
theorem X_pickb {b p q : Bool} (hc : opv env c = some (.bool b)) (hx : b = true → opv env x = some (.bool p)) (hy : b = false → opv env y = some (.bool q)) {C : World → Prop} : Ex P n env C (.pick c x y) t (.bool (bif b then p else q)) := fun a w d pos aft g ha _ => by
    cases b with
    | true => simp [execOp, ha.opv hc, asBool, ha.opv (hx rfl), Result.andThen]
    | false => simp [execOp, ha.opv hc, asBool, ha.opv (hy rfl), Result.andThen]
theorem X_pickt (hc : opv env c = some (.bool true)) (hx : opv env x = some v) {C : World → Prop} : Ex P n env C (.pick c x y) t (v) := fun a w d pos aft g ha _ => by simp [execOp, ha.opv hc, asBool, ha.opv hx, Result.andThen]
theorem X_pickf (hc : opv env c = some (.bool false)) (hx : opv env y = some v) {C : World → Prop} : Ex P n env C (.pick c x y) t (v) := fun a w d pos aft g ha _ => by simp [execOp, ha.opv hc, asBool, ha.opv hx, Result.andThen]
theorem X_bin {op : BinOp} (hx : opv env x = some (.int q i)) (hy : opv env y = some (.int q' j)) (hop : ∀ P w, (Go.binOp op t (.int q i) (.int q' j)).run P w = .ok r w) {C : World → Prop} : Ex P n env C (.binOp op t x y u) ty (r) := fun a w d pos aft g ha _ => by
    have he : (eqGuard op t x y (.int q i) (.int q' j)).run P w = .ok () w := by
      unfold eqGuard; cases op <;> simp
    simp [execOp, ha.opv hx, ha.opv hy, he, hop, Result.andThen]
theorem X_neg {m : Int} (hx : opv env x = some (.int q i)) (hm : q.wrap (0 - i) = m) {C : World → Prop} : Ex P n env C (.unOp .neg t x) ty (.int q m) := fun a w d pos aft g ha _ => by simp [execOp, ha.opv hx, Op.unary, Op.intArith, ← hm]
theorem X_compl {m : Int} (hx : opv env x = some (.int q i)) (hm : bitsOf .xor q (if q.signed then -1 else q.max) i = m) {C : World → Prop} : Ex P n env C (.unOp .xor t x) ty (.int q m) := fun a w d pos aft g ha _ => by subst hm; simp [execOp, ha.opv hx, Op.unary, Op.intBits, bitsOf]
theorem X_not {b : Bool} (hx : opv env x = some (.bool b)) {C : World → Prop} : Ex P n env C (.unOp .not t x) ty (.bool (!b)) := fun a w d pos aft g ha _ => by simp [execOp, ha.opv hx, Op.unary]
theorem X_conv {m : Int} {td : TypeDesc} {s1 s2 by1 by2 : Nat} {z1 z2 : Value} (hx : opv env x = some (.int q i)) (ht : Ty P t td s1 z1 by1) (hu : Ty P u (.int q') s2 z2 by2) (hm : q'.wrap i = m) {C : World → Prop} : Ex P n env C (.convert t u x) ty (.int q' m) := fun a w d pos aft g ha _ => by simp [execOp, ha.opv hx, convert, ht.run, hu.run, Conv.intToInt, hm]
theorem X_beq {b c : Bool} {s1 by1 : Nat} {z1 : Value} (hx : opv env x = some (.bool b)) (hy : opv env y = some (.bool c)) (ht : Ty P t .bool s1 z1 by1) {C : World → Prop} : Ex P n env C (.binOp .eql t x y u) ty (.bool (b == c)) := fun a w d pos aft g ha _ => by
    have he : (eqGuard .eql t x y (.bool b) (.bool c)).run P w = .ok () w := by simp [eqGuard]
    simp [execOp, ha.opv hx, ha.opv hy, he, Go.binOp, run_eqb ht, Result.andThen]
theorem X_bne {b c : Bool} {s1 by1 : Nat} {z1 : Value} (hx : opv env x = some (.bool b)) (hy : opv env y = some (.bool c)) (ht : Ty P t .bool s1 z1 by1) {C : World → Prop} : Ex P n env C (.binOp .neq t x y u) ty (.bool (!(b == c))) := fun a w d pos aft g ha _ => by
    have he : (eqGuard .neq t x y (.bool b) (.bool c)).run P w = .ok () w := by simp [eqGuard]
    simp [execOp, ha.opv hx, ha.opv hy, he, Go.binOp, run_eqb ht, Result.andThen]
theorem X_eq {v1 v2 : Value} {b : Bool} (hx : opv env x = some v1) (hy : opv env y = some v2) (he : ∀ P' (_ : P' = P) w, (do eqGuard .eql t x y v1 v2; Go.binOp .eql t v1 v2 : Sem Value).run P' w = .ok (.bool b) w) {C : World → Prop} : Ex P n env C (.binOp .eql t x y u) ty (.bool b) := fun a w d pos aft g ha _ => by
    have := he P rfl w
    simp only [execOp, ha.opv hx, ha.opv hy, Sem.run_bind, this] at this ⊢
    simp [this]
theorem X_ne {v1 v2 : Value} {b : Bool} (hx : opv env x = some v1) (hy : opv env y = some v2) (he : ∀ P' (_ : P' = P) w, (do eqGuard .neq t x y v1 v2; Go.binOp .neq t v1 v2 : Sem Value).run P' w = .ok (.bool b) w) {C : World → Prop} : Ex P n env C (.binOp .neq t x y u) ty (.bool b) := fun a w d pos aft g ha _ => by
    have := he P rfl w
    simp only [execOp, ha.opv hx, ha.opv hy, Sem.run_bind, this] at this ⊢
    simp [this]
theorem X_extract {vs : Array Value} {i : Nat} {ty : TypeId} (hx : opv env x = some (.tuple vs)) (hv : vs[i]? = some v) {C : World → Prop} : Ex P n env C (.extract x i) ty (v) := fun a w d pos aft g ha _ => by simp [execOp, ha.opv hx, Instr.extract, hv]
theorem X_field {cs : Array Value} {f off s : Nat} {ty : TypeId} (hx : opv env x = some (.agg cs)) (hf : Fld P t f off s false) (hv : cs[off]? = some v) {C : World → Prop} : Ex P n env C (.field t x f) ty (v) := fun a w d pos aft g ha _ => by
    obtain ⟨fs, fd, h1, h2, rfl, td, z, b, hT, hfl⟩ := hf.is
    simp [execOp, ha.opv hx, Instr.field, run_underlying h1, h2, asAgg, part, hT.isAgg, hfl, hv, Result.andThen]
theorem X_fieldA {cs : Array Value} {l : List Value} {f off s : Nat} {ty : TypeId} (hx : opv env x = some (.agg cs)) (hf : Fld P t f off s true) (hv : (cs.toList.drop off).take s = l) {C : World → Prop} : Ex P n env C (.field t x f) ty (.agg l.toArray) := fun a w d pos aft g ha _ => by
    obtain ⟨fs, fd, h1, h2, rfl, td, z, b, hT, hfl⟩ := hf.is
    have he : cs.extract fd.offset (fd.offset + s) = l.toArray := by
      apply Array.ext'
      simp [Array.toList_extract, List.extract, hv]
    simp [execOp, ha.opv hx, Instr.field, run_underlying h1, h2, asAgg, part, hT.isAgg, hT.size, hfl, he, Result.andThen]
theorem X_makeFunc {fn : Fn} {fl cl : List Operand} {fv cv : List Value} {ty : TypeId} (hf : OpVs env fl fv) (hc : OpVs env cl cv) {C : World → Prop} : Ex P n env C (.makeFunc fn fl.toArray cl.toArray) ty (.func fn fv.toArray cv.toArray) := fun a w d pos aft g ha _ => by simp [execOp, Instr.makeFunc, ha.opvs hf, ha.opvs hc]
theorem X_load {b i s by_ : Nat} {td : TypeDesc} {z : Value} {ty : TypeId} (hx : opv env x = some (.pointer (some ⟨b, i, none⟩))) (ht : Ty P t td s z by_) (hf : flat td = true) (hc : Cell w0 H b i v) : Ex P n env (Sat w0 H) (.load t x) ty (v) := fun a w d pos aft g ha hs => by
    simp [execOp, ha.opv hx, Instr.loadAt, Instr.sureAddr, loadVar, ht.isAgg, hf, hc w hs, Result.andThen]
theorem X_loadA {b i s by_ : Nat} {td : TypeDesc} {z : Value} {vs : List Value} {ty : TypeId} (hx : opv env x = some (.pointer (some ⟨b, i, none⟩))) (ht : Ty P t td s z by_) (hf : flat td = false) (hl : vs.length = s) (hc : Cells w0 H b i vs) : Ex P n env (Sat w0 H) (.load t x) ty (.agg vs.toArray) := fun a w d pos aft g ha hs => by
    have hcs := run_loadCells_list (P := P) (w := w) ⟨b, i, none⟩ vs (fun j u hu => by rw [addr_add]; exact hc j u hu w hs)
    rw [hl] at hcs
    simp [execOp, ha.opv hx, Instr.loadAt, Instr.sureAddr, loadVar, ht.isAgg, ht.size, hf, hcs, Result.andThen]
theorem X_fieldAddr {b i f off s : Nat} {ag : Bool} {ty : TypeId} (hx : opv env x = some (.pointer (some ⟨b, i, none⟩))) (hf : Fld P t f off s ag) (h0 : s ≠ 0) {C : World → Prop} : Ex P n env C (.fieldAddr t x f) ty (.pointer (some ⟨b, i + off, none⟩)) := fun a w d pos aft g ha _ => by
    obtain ⟨fs, fd, h1, h2, rfl, td, z, b', hT, hfl⟩ := hf.is
    simp [execOp, ha.opv hx, Instr.fieldAt, run_underlying h1, h2, Instr.sureAddr, fieldPlace, hT.size, h0, Result.andThen, addr_add]
theorem X_nilCheck {a : Addr} {ty : TypeId} (hx : opv env x = some (.pointer (some a))) {C : World → Prop} : Ex P n env C (.nilCheck x) ty (.pointer (some a)) := fun a w d pos aft g ha _ => by simp [execOp, ha.opv hx]
theorem X_nilCheckF {fn : Nat} {fa ca : Array Value} {ty : TypeId} (hx : opv env x = some (.func (.func fn) fa ca)) {C : World → Prop} : Ex P n env C (.nilCheck x) ty (.func (.func fn) fa ca) := fun a w d pos aft g ha _ => by simp [execOp, ha.opv hx]
theorem X_len {ad : Option Addr} {len cap s by_ : Nat} {e : TypeId} {z : Value} {m : Int} (hx : opv env x = some (.slice ad len cap)) (ht : Ty P t (.slice e) s z by_) (hm : (len : Int) = m) {C : World → Prop} : Ex P n env C (.call ⟨.builtin .len, #[x], #[t]⟩) ty (.int .i64 m) := fun a w d pos aft g ha _ => by simp [execOp, resolve, invoke, builtin, Builtin.len_, ha.opv hx, ht.run, goInt, Result.andThen, hm]
theorem X_lens {b : ByteArray} {s by_ : Nat} {z : Value} {m : Int} (hx : opv env x = some (.string b)) (ht : Ty P t .string s z by_) (hm : (b.size : Int) = m) {C : World → Prop} : Ex P n env C (.call ⟨.builtin .len, #[x], #[t]⟩) ty (.int .i64 m) := fun a w d pos aft g ha _ => by simp [execOp, resolve, invoke, builtin, Builtin.len_, ha.opv hx, ht.run, goInt, Result.andThen, hm]
theorem X_min2 {q q' : IntKind} {i j m : Int} (hx : opv env x = some (.int q i)) (hy : opv env y = some (.int q' j)) (hm : (if j < i then j else i) = m) {C : World → Prop} : Ex P n env C (.call ⟨.builtin .min, #[x, y], tys⟩) ty (.int q m) := fun a w d pos aft g ha _ => by simp [execOp, resolve, invoke, builtin, Builtin.min_, Builtin.min2, ha.opv hx, ha.opv hy, Result.andThen, ← hm]
theorem X_max2 {q q' : IntKind} {i j m : Int} (hx : opv env x = some (.int q i)) (hy : opv env y = some (.int q' j)) (hm : (if j > i then j else i) = m) {C : World → Prop} : Ex P n env C (.call ⟨.builtin .max, #[x, y], tys⟩) ty (.int q m) := fun a w d pos aft g ha _ => by simp [execOp, resolve, invoke, builtin, Builtin.max_, Builtin.max2, ha.opv hx, ha.opv hy, Result.andThen, ← hm]
theorem X_indexAddr {b o len cap j s es by_ eb : Nat} {q : IntKind} {i : Int} {e : TypeId} {z ez : Value} {ed : TypeDesc} (hx : opv env x = some (.slice (some ⟨b, o, none⟩) len cap)) (hy : opv env y = some (.int q i)) (ht : Ty P t (.slice e) s z by_) (he : Ty P e ed es ez eb)
    (hi : i = (j : Int)) (hj : j < len) {at_ : Nat} (hat : o + j * es = at_) {C : World → Prop} : Ex P n env C (.indexAddr t x y) ty (.pointer (some ⟨b, at_, none⟩)) := fun a w d pos aft g ha _ => by
    subst hi hat
    simp [execOp, Instr.indexAt, ha.opv hx, ha.opv hy, asIntOf, ht.run, he.size, hj, addr_add, Result.andThen]
theorem X_indexAddrA {b o len j s es by_ eb : Nat} {q : IntKind} {i : Int} {e : TypeId} {z ez : Value} {ed : TypeDesc} (hx : opv env x = some (.pointer (some ⟨b, o, none⟩))) (hy : opv env y = some (.int q i)) (ht : Ty P t (.array len e) s z by_) (he : Ty P e ed es ez eb)
    (hi : i = (j : Int)) (hj : j < len) {at_ : Nat} (hat : o + j * es = at_) {C : World → Prop} : Ex P n env C (.indexAddr t x y) ty (.pointer (some ⟨b, at_, none⟩)) := fun a w d pos aft g ha _ => by
    subst hi hat
    simp [execOp, Instr.indexAt, ha.opv hx, ha.opv hy, asIntOf, ht.run, he.size, hj, addr_add, Instr.sureAddr, Result.andThen]
theorem X_indexS {b : ByteArray} {j s by_ : Nat} {q : IntKind} {i : Int} {z : Value} {r : UInt8} {m : Int} (hx : opv env x = some (.string b)) (hy : opv env y = some (.int q i)) (ht : Ty P t .string s z by_) (hi : i = (j : Int)) (hr : b[j]? = some r) (hm : (r.toNat : Int) = m) {C : World → Prop} : Ex P n env C (.index t x y) ty (.int .u8 m) := fun a w d pos aft g ha _ => by
    subst hi hm
    simp [execOp, Instr.index, ha.opv hx, ha.opv hy, asIntOf, ht.run, hr, Result.andThen]
theorem X_indexA {cs : Array Value} {j s by_ len es eb : Nat} {q : IntKind} {i : Int} {e : TypeId} {z ez : Value} {ed : TypeDesc} (hx : opv env x = some (.agg cs)) (hy : opv env y = some (.int q i)) (ht : Ty P t (.array len e) s z by_) (he : Ty P e ed es ez eb) (hf : flat ed = true) (hi : i = (j : Int)) (hj : j < len)
    (hr : cs[j * es]? = some v) {C : World → Prop} : Ex P n env C (.index t x y) ty (v) := fun a w d pos aft g ha _ => by
    subst hi
    simp [execOp, Instr.index, ha.opv hx, ha.opv hy, asIntOf, ht.run, he.size, he.isAgg, hf, part, hr, hj, Result.andThen]
theorem X_slice0 {ad : Option Addr} {len cap hh s es by_ eb : Nat} {lo hi : Option Operand} {e : TypeId} {z ez : Value} {ed : TypeDesc} (hx : opv env x = some (.slice ad len cap)) (ht : Ty P t (.slice e) s z by_) (he : Ty P e ed es ez eb)
    (hlo : optIdx env 0 lo 0) (hhi : optIdx env len hi hh) (h2 : hh ≤ cap) {C : World → Prop} : Ex P n env C (.slice t x lo hi none) ty (.slice ad hh cap) := fun a w d pos aft g ha _ => by
    have := run_slice_slice (P := P) (w := w) (ad := ad) ha ht he hlo hhi (Nat.zero_le _) h2
    have ea : ∀ x : Option Addr, (if cap = 0 then x else x.map (·.add (0 * es))) = x := fun x => by
      split
      · rfl
      · cases x <;> simp [Addr.add]
    rw [ea] at this
    simp only [Nat.sub_zero] at this
    simp [execOp, ha.opv hx, this, Result.andThen]
end
/-! ## Regions that draw their order -/
section
variable {P : Program} {w0 : World} {Q : Exit → Act → World → Prop} {n : Nat} {ds : List Deferred} {k : List It} {env env' : Env} {H H' : Heap} {ops : Array Oper}
def Q0 (P : Program) (Q : Exit → Act → World → Prop) (k : List It) : Exit → Act → World → Prop
  | .normal, a, w => Cont P none Q k .normal a w
  | _, _, _ => False
theorem Q0_of {e : Exit} {a : Act} {w : World} (h : Q0 P Q k e a w) : Cont P none Q k e a w := by cases e <;> first | exact h | exact h.elim
/-- one walk of the lexical order, all operations leaving what is known as it is -/
def WQ (P : Program) (w0 : World) (Q : Exit → Act → World → Prop) (n : Nat) (ds : List Deferred) (k : List It) (ops : Array Oper) (l : List Oper) (env : Env) (H : Heap) : Prop :=
  ∀ a, Agree n env a → a.defers = ds → wpQuietIn (fen none) 0 P ops (Sat w0 H) (fun a' => ∀ w', Sat w0 H w' → Cont P none Q k .normal a' w') l a
theorem W_quiet {id : Nat} {l : List Oper} (hm : P.follows .mixedOrders = true) (hB : Region.lexB .any l.toArray = true) (h : WQ P w0 Q n ds k l.toArray l env H) : W P none w0 Q n ds (.code (.region id l.toArray true) :: k) env H := by
  intro a w ha hd hs
  show (Code.region id l.toArray true).wpIn (fen none) 0 P (Cont P none Q k) a w
  exact wpIn_region_quiet (C := Sat w0 H) rfl hm hB hs.drew (by simpa using h a ha hd)
theorem W_quietsr {id : Nat} {l : List Oper} {y : Code} (hm : P.follows .mixedOrders = true) (hB : Region.lexB .any l.toArray = true) (h : WQ P w0 Q n ds (.code y :: k) l.toArray l env H) : W P none w0 Q n ds (.code (.seq (.region id l.toArray true) y) :: k) env H :=
  W_seq (W_quiet hm hB h)
theorem WQ_nil (h : W P none w0 Q n ds k env H) : WQ P w0 Q n ds k ops [] env H := fun a ha hd => fun w' hs => h a w' ha hd hs
theorem WQ_x {op : Op} {ty : TypeId} {v : Value} {d : Nat} {pos : String} {aft : Array Edge} {rest : List Oper} (hx : Ex P n env (Sat w0 H) op ty v) (hd : Nat.blt d n = true) (h : WQ P w0 Q n ds k ops rest ((d, v) :: env) H) :
    WQ P w0 Q n ds k ops (⟨some d, op, ty, pos, aft, none⟩ :: rest) env H := fun a ha hds => by
  refine ⟨fun _ _ _ _ => trivial, ?_⟩
  rw [if_pos (by simp [Region.wanted])]
  exact ⟨v, fun w hs => by
    unfold Oper.quietAtIn
    rw [hx a w (some d) pos aft none ha hs]
    exact ⟨rfl, rfl⟩, h _ (ha.put (d := some d) hd) hds⟩
theorem WQ_callp {f : FuncId} {l : List Operand} {vs : List Value} {d : Option Nat} {ty : TypeId} {v : Value} {pos : String} {aft : Array Edge} {rest : List Oper} {tys : Array TypeId} (hc : OpVs env l vs) (hf : ∀ (args : Array Value) (w : World), (callFunc f args).run P w = .ok (.enter f args) w) (hd : dok n d = true)
    {T : World → Prop} (hT : T w0) (hL : Pure P T f vs v) (h : WQ P w0 Q n ds k ops rest (put d v env) H) :
    WQ P w0 Q n ds k ops (⟨d, .call ⟨.value (.func f), l.toArray, tys⟩, ty, pos, aft, none⟩ :: rest) env H := fun a ha hds => by
  refine ⟨fun _ _ _ _ => trivial, ?_⟩
  rw [if_pos (by simp [Region.wanted])]
  refine ⟨v, fun w hs => ?_, h _ (ha.put hd) (by cases d <;> exact hds)⟩
  unfold Oper.quietAtIn
  have hl : l.map a.eval = vs := ha.opvs hc
  rw [show (execOp a.eval ⟨d, .call ⟨.value (.func f), l.toArray, tys⟩, ty, pos, aft, none⟩).run P w = .ok (.enter f vs.toArray) w by
    simp [execOp, resolve, Act.eval, Deferred.ofValue, invoke, hl, hf, Result.andThen]]
  refine ⟨rfl, fun h => by simp [Fence.wide] at h, ?_⟩
  have hcl : CallsIn (fen none) 0 P f vs.toArray w _ := hL w0 H hT w hs
  exact hcl.mono fun e w'' ⟨v', H', he, ⟨hv, hH⟩, hs'⟩ => ⟨by rw [he, hv], by rw [← hH]; exact hs'⟩
theorem WQ_gyes {d : Option Nat} {op : Op} {t : TypeId} {pos : String} {aft : Array Edge} {j : Nat} {b : Bool} {dj : Nat} {rest : List Oper} (hj : (ops[j]?).bind (·.dst) = some dj) (ht : look env dj = some (.bool b))
    (h : WQ P w0 Q n ds k ops (⟨d, op, t, pos, aft, none⟩ :: rest) env H) : WQ P w0 Q n ds k ops (⟨d, op, t, pos, aft, some (j, b)⟩ :: rest) env H := fun a ha hds => by
  obtain ⟨h1, h2⟩ := h a ha hds
  rw [if_pos (by simp [Region.wanted])] at h2
  refine ⟨h1, ?_⟩
  have hy := ha.yielded hj ht
  rw [if_pos (by simp [Region.wanted, hy])]
  exact h2
theorem WQ_gno {d : Option Nat} {op : Op} {t : TypeId} {pos : String} {aft : Array Edge} {j : Nat} {b b' : Bool} {dj : Nat} {rest : List Oper} (hj : (ops[j]?).bind (·.dst) = some dj) (ht : look env dj = some (.bool b')) (hb : (b' == b) = false) (hd : dok n d = true)
    (h : WQ P w0 Q n ds k ops rest (put d undef env) H) : WQ P w0 Q n ds k ops (⟨d, op, t, pos, aft, some (j, b)⟩ :: rest) env H := fun a ha hds => by
  refine ⟨fun _ _ _ _ => trivial, ?_⟩
  have hy := ha.yielded hj ht
  rw [if_neg (by simp only [Region.wanted, hy]; simpa using hb)]
  exact h _ (ha.put hd) (by cases d <;> exact hds)
theorem WQ_env (hs : sub env' env) {l : List Oper} (h : WQ P w0 Q n ds k ops l env' H) : WQ P w0 Q n ds k ops l env H := fun a ha hd => h a (ha.weaken (look_of_sub hs)) hd
/-- any order: what is ready is taken -/
def WA (P : Program) (w0 : World) (Q : Exit → Act → World → Prop) (n : Nat) (ds : List Deferred) (k : List It) (ops : Array Oper) (fuel : Nat) (listed : Array Bool) (env : Env) (H : Heap) : Prop :=
  ∀ a w, Agree n env a → a.defers = ds → Sat w0 H w → wpAnyIn (fen none) 0 P .any ops (Q0 P Q k) fuel listed a w
theorem W_any {id : Nat} {l : List Oper} (hm : P.follows .mixedOrders = true) (h : WA P w0 Q n ds k l.toArray l.length (Array.replicate l.length false) env H) : W P none w0 Q n ds (.code (.region id l.toArray true) :: k) env H := by
  intro a w ha hd hs
  show (Code.region id l.toArray true).wpIn (fen none) 0 P (Cont P none Q k) a w
  exact wpIn_mono (wpIn_region_any hm (by simpa using h a _ ha hd hs.drew)) fun _ _ _ => Q0_of
theorem W_anysr {id : Nat} {l : List Oper} {y : Code} (hm : P.follows .mixedOrders = true) (h : WA P w0 Q n ds (.code y :: k) l.toArray l.length (Array.replicate l.length false) env H) : W P none w0 Q n ds (.code (.seq (.region id l.toArray true) y) :: k) env H :=
  W_seq (W_any hm h)
theorem WA_done {fuel : Nat} {listed : Array Bool} (hr : Region.ready .any ops listed = []) (h : W P none w0 Q n ds k env H) : WA P w0 Q n ds k ops fuel listed env H := fun a w ha hd hs => wpAnyIn_done hr (show Q0 P Q k .normal a w from h a w ha hd hs) fuel
/-- one that yields the same in whatever world is taken first -/
theorem WA_take (i : Nat) {op : Op} {ty : TypeId} {v : Value} {d : Nat} {pos : String} {aft : Array Edge} {fuel : Nat} {listed l' : Array Bool} (hi : ops[i]? = some ⟨some d, op, ty, pos, aft, none⟩) (hs : Region.noSelect ops = true) (hf : Region.free .any ops listed i = true) (hr : (Region.ready .any ops listed).contains i = true)
    (hcall : ∀ c, op ≠ .call c) (hdef : ∀ c, op ≠ .defer c) (hl : listed.setIfInBounds i true = l') (hx : Ex P n env (fun _ => True) op ty v) (hd : Nat.blt d n = true)
    (h : WA P w0 Q n ds k ops fuel l' ((d, v) :: env) H) : WA P w0 Q n ds k ops (fuel + 1) listed env H := fun a w ha hds hsat => by
  subst hl
  refine wpAnyIn_take rfl hi hs hf hr (fun _ _ _ hq => hq.elim) ⟨.inl ⟨by simp [Region.wanted], fun w => hx a w _ _ _ _ ha trivial⟩, fun w => ?_⟩ (h _ w (ha.put (d := some d) hd) hds hsat)
  unfold Oper.about
  cases op <;> first | rfl | exact absurd rfl (hcall _) | exact absurd rfl (hdef _)
/-- only one is ready: it is walked as ever -/
theorem WA_one (i : Nat) {o : Oper} {fuel : Nat} {listed l' : Array Bool} (hr : Region.ready .any ops listed = [i]) (hi : ops[i]? = some o) (hl : listed.setIfInBounds i true = l') (hdef : ∀ c, o.op ≠ .defer c)
    (h : W P none w0 (fun _ _ _ => False) n ds [.ops ops [o], .goal (fun a w => wpAnyIn (fen none) 0 P .any ops (Q0 P Q k) fuel l' a w)] env H) : WA P w0 Q n ds k ops (fuel + 1) listed env H := fun a w ha hds hsat => by
  subst hl
  refine wpAnyIn_all hr (by simp) fun j hj => ?_
  obtain rfl : j = i := by simpa using hj
  have h1 : wpListIn (fen none) 0 P ops _ [o] a w := h a w ha hds hsat
  unfold wpOpIn
  rw [hi]
  unfold wpListIn at h1
  show if _ then _ else _
  split
  · rename_i hw
    rw [if_pos hw] at h1
    unfold Oper.wpIn
    refine ⟨h1.1, ?_⟩
    have h2 := h1.2
    generalize (o.semAt (fen none).round a.eval).run P w = r at h2 ⊢
    cases r with
    | ok x w' =>
      cases x <;> simp only [Oper.uponIn] at h2 ⊢ <;>
        first
          | exact h2
          | exact ⟨h2.1, CallsIn.mono h2.2 (fun e w'' he => by cases e <;> first | exact he | exact he.elim | (obtain ⟨_, _, hf⟩ := he; exact hf.elim))⟩
          | exact ⟨h2.1, RowsIn.mono h2.2 (fun _ _ he => he)⟩
          | exact ⟨h2.1, RoundIn.mono h2.2 (fun e w'' he => by cases e <;> first | exact he | exact he.elim | (obtain ⟨_, _, hf⟩ := he; exact hf.elim))⟩
    | halt x w' => cases x <;> simp only [Oper.uponIn] at h2 ⊢ <;> first | exact h2 | exact h2.elim
  · rename_i hw
    rw [if_neg hw] at h1
    exact h1
theorem WA_goal {fuel : Nat} {l' : Array Bool} {k' : List It} {Q' : Exit → Act → World → Prop} (h : WA P w0 Q n ds k ops fuel l' env H) : W P none w0 Q' n ds (.goal (fun a w => wpAnyIn (fen none) 0 P .any ops (Q0 P Q k) fuel l' a w) :: k') env H :=
  W_goal fun a w ha hd hs => h a w ha hd hs
end
end Go.Sl
