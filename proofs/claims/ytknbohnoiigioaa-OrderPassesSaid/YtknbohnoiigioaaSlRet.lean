/-
  Own work: the small logic, more of its rules; of any program.
-/
import Derived.Test.YtknbohnoiigioaaSlLoop
set_option linter.all false
set_option linter.unusedSimpArgs false
set_option linter.unusedVariables false
namespace Go.Sl
open Go.RowKit
/-- what stands in a result's place when a function returns -/
inductive Res1 (P : Program) (w0 : World) (env : Env) (H : Heap) : ResultVar → Value → Prop
  | tmp {t : Nat} {v : Value} (h : look env t = some v) : Res1 P w0 env H (.tmp t) v
  | own {t ty b s e tot by_ : Nat} {td : TypeDesc} {z : Value} {vs : List Value} (hv : look env t = some (.pointer (some ⟨b, 0, none⟩))) (ht : Ty P ty td s z by_) (hf : flat td = false) (hm : (b, Blk.cells e tot vs) ∈ H) (hl : vs.length = s) : Res1 P w0 env H (.cell t ty) (.agg vs.toArray)
  | one {t ty b i s by_ : Nat} {td : TypeDesc} {z v : Value} (hv : look env t = some (.pointer (some ⟨b, i, none⟩))) (ht : Ty P ty td s z by_) (hf : flat td = true) (hc : Cell w0 H b i v) : Res1 P w0 env H (.cell t ty) v
def resOf (tmps : Array Value) : ResultVar → Sem Value
  | .tmp t => pure (tmps.getD t undef)
  | .cell a t => do loadVar t (← asAddr (tmps.getD a undef))
theorem Res1.run {P : Program} {w0 w : World} {env : Env} {H : Heap} {r : ResultVar} {v : Value} {n : Nat} {a : Act} (h : Res1 P w0 env H r v) (ha : Agree n env a) (hs : Sat w0 H w) : (resOf a.tmps r).run P w = .ok v w := by
  cases h with
  | tmp h => simp [resOf, ha.val _ _ h]
  | @own t ty b s e tot by_ td z vs hv ht hf hm hl =>
    have hc : Cells w0 H b 0 vs := Cells.own hm (by simp)
    have hcs := run_loadCells_list (P := P) (w := w) ⟨b, 0, none⟩ vs (fun j u hu => by rw [addr_add]; exact hc j u hu w hs)
    rw [hl] at hcs
    simp [resOf, ha.val _ _ hv, asAddr, loadVar, ht.isAgg, ht.size, hf, hcs, Result.andThen]
  | one hv ht hf hc => simp [resOf, ha.val _ _ hv, asAddr, loadVar, ht.isAgg, hf, hc w hs, Result.andThen]
section
variable {P : Program} {w0 : World} {fn : Func} {R : Value → Heap → Prop} {n : Nat} {ds : List Deferred} {k : List It} {env : Env} {H H' H2 : Heap} {r1 r2 r3 : ResultVar} {v1 v2 v3 : Value}
theorem results_eq (fn : Func) (tmps : Array Value) : results fn tmps = (do let vs ← fn.results.mapM (resOf tmps); pure (if h : vs.size = 1 then vs[0] else .tuple vs)) := by
  unfold results resOf; rfl
theorem run_res2G {a : Act} {w : World} (hr : fn.results = #[r1, r2]) (h1 : Res1 P w0 env H r1 v1) (h2 : Res1 P w0 env H r2 v2) (ha : Agree n env a) (hs : Sat w0 H w) : (results fn a.tmps).run P w = .ok (.tuple #[v1, v2]) w := by
  have e1 := h1.run ha hs
  have e2 := h2.run ha hs
  simp [results_eq, hr, e1, e2, Result.andThen]
theorem run_res3G {a : Act} {w : World} (hr : fn.results = #[r1, r2, r3]) (h1 : Res1 P w0 env H r1 v1) (h2 : Res1 P w0 env H r2 v2) (h3 : Res1 P w0 env H r3 v3) (ha : Agree n env a) (hs : Sat w0 H w) : (results fn a.tmps).run P w = .ok (.tuple #[v1, v2, v3]) w := by
  have e1 := h1.run ha hs
  have e2 := h2.run ha hs
  have e3 := h3.run ha hs
  simp [results_eq, hr, e1, e2, e3, Result.andThen]
theorem W_ret2G (hr : fn.results = #[r1, r2]) (hM : Marks ds H H') (h1 : Res1 P w0 env H' r1 v1) (h2 : Res1 P w0 env H' r2 v2) (hu : HSub H' H2) (hR : R (.tuple #[v1, v2]) H2) : W P none w0 (FPost P w0 fn R) n ds (.code .ret :: k) env H :=
  W_ret fun a w ha hd hs => by
    show LeavesInM _ _ _ _ _ _ a.defers _ _
    rw [hd]
    exact leaves_marks hM hu (fun w hs' => run_res2G hr h1 h2 ha hs') hs hR
theorem W_ret3G (hr : fn.results = #[r1, r2, r3]) (hM : Marks ds H H') (h1 : Res1 P w0 env H' r1 v1) (h2 : Res1 P w0 env H' r2 v2) (h3 : Res1 P w0 env H' r3 v3) (hu : HSub H' H2) (hR : R (.tuple #[v1, v2, v3]) H2) : W P none w0 (FPost P w0 fn R) n ds (.code .ret :: k) env H :=
  W_ret fun a w ha hd hs => by
    show LeavesInM _ _ _ _ _ _ a.defers _ _
    rw [hd]
    exact leaves_marks hM hu (fun w hs' => run_res3G hr h1 h2 h3 ha hs') hs hR
end
end Go.Sl
