/-
  Own work: what a law leaves behind, read as the row asks; of any program.
-/
import Derived.Test.YtknbohnoiigioaaSlBuild
import Derived.ProofKit
import Derived.OpenShut
import Derived.Deep.DeepHandedRow
import Derived.Deep.DeepWitnessRowRef
import Derived.Lib.LaidTab
import Derived.SevenTiedAt
set_option linter.all false
set_option linter.unusedSimpArgs false
set_option linter.unusedVariables false
namespace Go.Sl
open Go.ChangeShapes Go.WideShapes Go.ChangeAt Go.RowKit
section
variable {H : Type} {enc : TypeId × Value → H} {P : Program}
theorem trodAll_sameAt {w w' : World} {base : Nat} {spare : Nat → Bool} {held : Bool} : ∀ {ts : List TypeId} {vs : List Value} {ds : List (DataW H)} {ps : List MemPlace},
    DataW.TrodAll enc P w base spare held ts vs ds ps → (∀ p ∈ ps, w.sameAt w' p) → DataW.TrodAll enc P w' base spare held ts vs ds ps
  | [], [], [], _, h, _ => h
  | _ :: _, _ :: _, _ :: _, _, ⟨p, q, ⟨n, h1⟩, h2, e⟩, hs =>
    ⟨p, q, ⟨n, DataW.trod_carry _ _ _ _ h1 (fun x hx => hs x (by rw [e]; exact List.mem_append_left _ hx))⟩, trodAll_sameAt h2 (fun x hx => hs x (by rw [e]; exact List.mem_append_right _ hx)), e⟩
/-- WHAT A LAW's CALL LEAVES, read as the row asks: true; the arguments read as they did. -/
theorem law_post {f : Func} {s : ChangeSpec} {apart fresh handsOn again : Bool} {W W' : World} {args : Array Value} {ds gs : List (DataW H)} {before p q : List MemPlace} {t : TypeId}
    (hk : Kids P (· < P.types.size)) (hz : ∀ t e, t < P.types.size → P.underlying t = some (.slice e) → 0 < P.cellsOf e) (hts : ∀ t ∈ f.params.toList, t < P.types.size)
    (hW : DataW.Whole enc P f.params.toList s.vars apart W args.toList ds gs before) (hA : DataW.TrodAll enc P W 0 (fun _ => true) true f.params.toList args.toList ds p) (hgs : gs = []) (hp : before = p ++ q) (hq : q = []) (hv : s.vars = [])
    (hfn : s.fn H (ds ++ gs) = { results := [.lit (.bool true)], args := ds }) (hrt : f.resultTypes = #[t]) (ht : P.underlying t = some .bool) (hb : Below W.heap.size W W') :
    s.post enc P f apart fresh handsOn again W args (.bool true) W' := by
  subst hgs hp hq
  have hlt : ∀ p' ∈ p, p'.block < W.heap.size := fun p' hp' => hW.lt p' (by simpa using hp')
  have hold : ∀ p' ∈ p ++ [], (fun b => decide (b < W.heap.size)) p'.block = true := fun p' hp' => by simpa using hlt p' (by simpa using hp')
  have hargs : ∀ sp : Nat → Bool, (∀ p' ∈ p ++ [], sp p'.block = true) → DataW.TrodAll enc P W' 0 sp true f.params.toList args.toList (s.fn H (ds ++ [])).args p := fun sp hsp => by
    rw [hfn]
    exact trodAll_sameAt (DataW.TrodAll.respare hk hz hts hA (fun p' hp' => hsp p' (by simpa using hp'))) (fun p' hp' => hb.same (hlt p' hp'))
  have hres : ∀ (b : Nat) (sp : Nat → Bool) (hd : Bool), DataW.TrodAll enc P W' b sp hd f.resultTypes.toList ((Value.bool true).resultList f.resultTypes.size) (s.fn H (ds ++ [])).results [] := fun b sp hd => by
    rw [hfn, hrt]
    exact trodAll_mk1 (shut_bool ht _)
  have hvars : ∀ sp : Nat → Bool, (∀ p' ∈ p ++ [], sp p'.block = true) → DataW.TrodVars enc P W' sp s.vars (s.fn H (ds ++ [])).vars [] := fun sp _ => by
    rw [hfn, hv]; rfl
  have hok : ∀ (j : Nat) (t' : TypeId) (r : Value), f.resultTypes[j]? = some t' → ((Value.bool true).resultList f.resultTypes.size)[j]? = some r → Value.okWide P W' .any 0 t' r := by
    exact ok_one hrt rfl (okWide_bool_mk ht _)
  refine ⟨ds, [], p ++ [], [], p, [], hW, hres _ _ _, hargs _ hold, hvars _ hold, World.keptBut_mono (fun p' hp' => ⟨hp', ?_⟩) (hb.frame (· ∈ p ++ [])), fun _ => ?_⟩
  · rw [List.mem_append] at hp'
    exact Or.inr hp'
  · obtain ⟨_, _, _, _, _, hz', hn⟩ := hW
    refine ⟨hok, _, _, ([] ++ p) ++ [], ⟨[] ++ p, [], trodAll_append (hargs _ (fun _ _ => rfl)) (hres _ _ _), hvars _ (fun _ _ => rfl), rfl, ?_, ?_⟩, ?_⟩
    · intro b off hp'
      have hin : MemPlace.cell b off ∈ p ++ [] := by simpa using hp'
      rw [hb.frozen (hlt (MemPlace.cell b off) (by simpa using hin))]
      exact hz' b off hin
    · intro ha; simpa using hn ha
    · intro p' hp' _; simpa using hp'
end
/-- a pure contract, as the kit's calls -/
theorem Pure.calls {P : Program} {T : World → Prop} {f : FuncId} {args : List Value} {v : Value} (h : Pure P T f args v) {W : World} (hT : T W) : Calls P f args.toArray W fun e w' => e = .returned v ∧ Below W.heap.size W w' :=
  callsIn_wide.1 ((h W [] hT W (Sat.nil (Below.refl _ _))).mono fun _ _ ⟨_, _, he, ⟨hv, _⟩, hs⟩ => ⟨by rw [he, hv], hs.below⟩)
end Go.Sl
