/-
  Own work: a small logic for walking through a function's code: facts on slots, owned blocks of memory, and its rules; of any program.
-/
import Derived.Test.YtcmfldfeakmdoaaGreatDoorTpS2
set_option linter.all false
set_option linter.unusedSimpArgs false
set_option linter.unusedVariables false
namespace Go.Sl
open Go.RowKit
section
variable {P : Program} {w0 : World} {fn : Func} {R : Value → Heap → Prop} {n : Nat} {ds : List Deferred} {k : List It} {env : Env} {H H' H2 : Heap} {r1 r2 r3 r4 : ResultVar} {v1 v2 v3 v4 : Value}
theorem run_res4G {a : Act} {w : World} (hr : fn.results = #[r1, r2, r3, r4]) (h1 : Res1 P w0 env H r1 v1) (h2 : Res1 P w0 env H r2 v2) (h3 : Res1 P w0 env H r3 v3) (h4 : Res1 P w0 env H r4 v4) (ha : Agree n env a) (hs : Sat w0 H w) : (results fn a.tmps).run P w = .ok (.tuple #[v1, v2, v3, v4]) w := by
  have e1 := h1.run ha hs
  have e2 := h2.run ha hs
  have e3 := h3.run ha hs
  have e4 := h4.run ha hs
  simp [results_eq, hr, e1, e2, e3, e4, Result.andThen]
theorem W_ret4G (hr : fn.results = #[r1, r2, r3, r4]) (hM : Marks ds H H') (h1 : Res1 P w0 env H' r1 v1) (h2 : Res1 P w0 env H' r2 v2) (h3 : Res1 P w0 env H' r3 v3) (h4 : Res1 P w0 env H' r4 v4) (hu : HSub H' H2) (hR : R (.tuple #[v1, v2, v3, v4]) H2) : W P none w0 (FPost P w0 fn R) n ds (.code .ret :: k) env H :=
  W_ret fun a w ha hd hs => by
    show LeavesInM _ _ _ _ _ _ a.defers _ _
    rw [hd]
    exact leaves_marks hM hu (fun w hs' => run_res4G hr h1 h2 h3 h4 ha hs') hs hR
end
end Go.Sl
