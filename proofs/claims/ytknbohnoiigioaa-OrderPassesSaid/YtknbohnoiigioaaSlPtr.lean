/-
  Own work: the small logic, more of its rules; of any program.
-/
import Derived.Test.YtknbohnoiigioaaSlCut
set_option linter.all false
set_option linter.unusedSimpArgs false
set_option linter.unusedVariables false
namespace Go.Sl
open Go.RowKit
section
variable {P : Program} {rd : Option Nat} {w0 : World} {Q : Exit → Act → World → Prop} {n : Nat} {ds : List Deferred} {k : List It} {env env' : Env} {H H' : Heap} {all : Array Oper} {rest : List Oper}
variable {d : Nat} {x y c : Operand} {t u ty : TypeId} {pos : String} {aft : Array Edge} {v : Value}
/-- a pointer held against nil -/
theorem run_ptrNil {ad : Option Addr} {s by_ : Nat} {e : TypeId} {z : Value} (ht : Ty P t (.pointer e) s z by_) (w : World) : (Op.equal t (.pointer ad) (.pointer none)).run P w = .ok ad.isNone w := by
  have h1 : ∀ m, (Op.equalIn (m + 1) t (.pointer ad) (.pointer none)).run P w = .ok ad.isNone w := fun m => by
    simp only [Op.equalIn, Sem.run_bind, ht.run, Result.andThen]
    cases ad <;> rfl
  exact h1 9999
theorem X_ptrNil {ad : Option Addr} {s by_ : Nat} {e : TypeId} {z : Value} {C : World → Prop} (hx : opv env x = some (.pointer ad)) (hy : opv env y = some (.pointer none)) (ht : Ty P t (.pointer e) s z by_) :
    Ex P n env C (.binOp .eql t x y u) ty (.bool ad.isNone) := fun a w d pos aft g ha _ => by
  have he : (eqGuard .eql t x y (.pointer ad) (.pointer none)).run P w = .ok () w := by simp [eqGuard]
  have h2 : (Go.binOp .eql t (.pointer ad) (.pointer none)).run P w = .ok (.bool ad.isNone) w := by
    simp [Go.binOp, run_ptrNil ht, Result.andThen]
  simp [execOp, ha.opv hx, ha.opv hy, he, h2, Result.andThen]
theorem X_ptrNotNil {ad : Option Addr} {s by_ : Nat} {e : TypeId} {z : Value} {C : World → Prop} (hx : opv env x = some (.pointer ad)) (hy : opv env y = some (.pointer none)) (ht : Ty P t (.pointer e) s z by_) :
    Ex P n env C (.binOp .neq t x y u) ty (.bool (!ad.isNone)) := fun a w d pos aft g ha _ => by
  have he : (eqGuard .neq t x y (.pointer ad) (.pointer none)).run P w = .ok () w := by simp [eqGuard]
  have h2 : (Go.binOp .neq t (.pointer ad) (.pointer none)).run P w = .ok (.bool (!ad.isNone)) w := by
    simp [Go.binOp, run_ptrNil ht, Result.andThen]
  simp [execOp, ha.opv hx, ha.opv hy, he, h2, Result.andThen]
/-- a[lo:hi] of an array behind its address -/
theorem X_sliceArr {b o len l hh s es by_ eb : Nat} {lo hi : Option Operand} {e : TypeId} {z ez : Value} {ed : TypeDesc} {C : World → Prop} (hx : opv env x = some (.pointer (some ⟨b, o, none⟩))) (ht : Ty P t (.array len e) s z by_) (he : Ty P e ed es ez eb)
    (hlo : optIdx env 0 lo l) (hhi : optIdx env len hi hh) (h1 : l ≤ hh) (h2 : hh ≤ len) (h3 : l < len) : Ex P n env C (.slice t x lo hi none) ty (.slice (some ⟨b, o + l * es, none⟩) (hh - l) (len - l)) := fun a w d pos aft g ha _ => by
  have hb : (Instr.sliceBounds false len len (lo.map a.eval) (hi.map a.eval) none).run P w = .ok (l, hh, len) w := by
    cases lo with
    | none =>
      have hl : l = 0 := hlo
      subst hl
      cases hi with
      | none => have : hh = len := hhi; subst this; simp [Instr.sliceBounds, Result.andThen]
      | some o => obtain ⟨q, hq⟩ := hhi; simp [Instr.sliceBounds, ha.opv hq, Instr.sliceBound, asIntOf, h2, Result.andThen]
    | some o' =>
      obtain ⟨q', hq'⟩ := hlo
      cases hi with
      | none => have : hh = len := hhi; subst this; simp [Instr.sliceBounds, ha.opv hq', Instr.sliceBound, asIntOf, h1, Result.andThen]
      | some o => obtain ⟨q, hq⟩ := hhi; simp [Instr.sliceBounds, ha.opv hq, ha.opv hq', Instr.sliceBound, asIntOf, h1, h2, Result.andThen]
  have hne : ¬ len = l := by omega
  simp [execOp, Instr.sliceAt, ha.opv hx, ht.run, Instr.sureAddr, hb, he.size, Result.andThen, hne, addr_add]
/-- copy into a block of one's own -/
theorem W_copy {b o dlen dcap m cap kk s sl bl bytes tot : Nat} {ad : Option Addr} {e e' : TypeId} {zl z : Value} {de : TypeDesc} {l l' news : List Value} {od : Option Nat} (hx : opv env x = some (.slice (some ⟨b, o, none⟩) dlen dcap)) (hy : opv env y = some (.slice ad m cap)) (ht : Ty P t (.slice e) sl zl bl) (he : Ty P e de s z bytes)
    (hk : min m dlen = kk) (hl : news.length = kk * s) (hnews : Holds w0 H ad news) (h1 : news.all Value.oneCell' = true) (hm : (b, Blk.cells e' tot l) ∈ H) (hi : o + news.length ≤ l.length) (hl' : spliceL l o news = l') (hu : Upd b (.cells e' tot l) (.cells e' tot l') H H') (hd : dok n od = true)
    (h : W P rd w0 Q n ds (.ops all rest :: k) (put od (.int .i64 (kk : Int)) env) H') : W P rd w0 Q n ds (.ops all (⟨od, .call ⟨.builtin .copy, #[x, y], #[t, u]⟩, ty, pos, aft, none⟩ :: rest) :: k) env H :=
  W_gen rfl nofun hd fun a w ha hs => by
    subst hl' hk
    obtain ⟨hb, cur, hc, hsz, htk⟩ := hs.own _ hm
    have hlen : l.length ≤ cur.size := by
      have := congrArg List.length htk
      simp only [List.length_take, Array.length_toList] at this
      omega
    have h1' : ∀ v ∈ news, v.oneCell' = true := fun v hv => List.all_eq_true.1 h1 v hv
    have hst := run_storeCells_at P b o e' news 0 cur w hc (by omega) h1'
    simp only [Nat.add_zero] at hst
    have hfc : (Builtin.firstCells s (min m dlen) (.slice ad m cap)).run P w = .ok news.toArray w := by
      cases ad with
      | none =>
        have : news = [] := by
          cases hn : news with
          | nil => rfl
          | cons y ys =>
            obtain ⟨_, _, e, _⟩ := hnews 0 y (by rw [hn]; rfl)
            cases e
        subst this
        simp [Builtin.firstCells]
      | some a0 =>
        obtain ⟨b1, o1, sp⟩ := a0
        by_cases hz : news = []
        · subst hz
          have h0 : min m dlen * s = 0 := by simpa using hl.symm
          have := run_loadCells_list (P := P) (w := w) ⟨b1, o1, sp⟩ [] (fun j u hu => by simp at hu)
          simp only [List.length_nil] at this
          simp [Builtin.firstCells, h0, this, Result.andThen]
        · have hpos : 0 < news.length := List.length_pos_iff.2 hz
          obtain ⟨b2, o2, e2, _⟩ := hnews 0 _ (List.getElem?_eq_getElem hpos)
          cases e2
          have := run_loadCells_list (P := P) (w := w) ⟨b1, o1, none⟩ news (fun j u hu => by
            obtain ⟨b3, o3, e3, hc3⟩ := hnews j u hu
            cases e3
            rw [addr_add]; exact hc3 w hs)
          rw [hl] at this
          simp [Builtin.firstCells, this, Result.andThen]
    refine ⟨.int .i64 ((min m dlen : Nat) : Int), H', _, .inl ?_, hs.upd hu (setRow_below (cs := (List.take o cur.toList ++ news ++ List.drop (o + news.length) cur.toList).toArray) hb) (fun j hj _ => setRow_other w b j _ hj) ?_, h⟩
    · simp [execOp, resolve, invoke, builtin, Builtin.copy_, ha.opv hx, ha.opv hy, ht.run, he.size, Builtin.lenOf, hfc, hst, goInt, Result.andThen]
    · refine ⟨_, setRow_heap w b cur _ e' _ hc, ?_, ?_⟩
      · simp only [List.size_toArray, List.length_append, List.length_take, List.length_drop, Array.length_toList]
        omega
      · rw [spliceL_length (by simpa using hi)]
        show (List.take o cur.toList ++ news ++ List.drop (o + news.length) cur.toList).take l.length = spliceL l o news
        unfold spliceL
        have e1 : l.take o = cur.toList.take o := by rw [← htk, List.take_take]; congr 1; omega
        have e2 : l.drop (o + news.length) = (cur.toList.drop (o + news.length)).take (l.length - (o + news.length)) := by
          conv => lhs; rw [← htk]
          rw [List.drop_take]
        rw [e1, e2, List.append_assoc, List.append_assoc, List.take_append, List.take_append]
        congr 1
        · rw [List.take_take]; congr 1; omega
        · congr 1
          · rw [List.take_of_length_le]; simp only [List.length_take, Array.length_toList]; omega
          · congr 1; simp only [List.length_take, Array.length_toList]; omega
end
end Go.Sl
