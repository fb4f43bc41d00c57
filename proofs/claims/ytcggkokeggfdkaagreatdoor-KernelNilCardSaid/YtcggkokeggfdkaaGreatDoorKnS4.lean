/-
  Own work: a small logic for walking through a function's code: facts on slots, owned blocks of memory, and its rules; of any program.
-/
import Derived.Test.YtcggkokeggfdkaaGreatDoorKnS3
import Derived.Shelf.Strings.Fields
import Derived.Test.YtcggkokeggfdkaaGreatDoorKnS1
import Derived.Test.YtcggkokeggfdkaaGreatDoorKnS2
import Derived.Shelf.SlSortCmp.Whole1
set_option linter.all false
set_option linter.unusedSimpArgs false
set_option linter.unusedVariables false
namespace Go.Sl.Ev
open Go.RowKit
section
variable {P : Program} {ρ ρ' : Rho} {n : Nat} {E E' : EnvA} {a : Act} {w w' w0 : World} {s s' : St} {v : AV} {rec_ : Rq → St → Option (List (Rs × St))} {rd : Option Nat} {ops : Array Oper}
noncomputable def resV (P : Program) (E : EnvA) (s : St) : ResultVar → Option AV
  | .tmp t => E.get t
  | .cell t ty => match E.get t with
    | some (.pt b i) => match loadN P ty with
      | some (k, fl) => match s.read b i k with
        | some l => bif fl then nth l 0 else some (.ag l)
        | none => none
      | none => none
    | _ => none
noncomputable def resF (tmps : Array Value) : ResultVar → Sem Value
  | .tmp t => pure (tmps.getD t undef)
  | .cell a t => do loadVar t (← asAddr (tmps.getD a undef))
theorem resV_spec (ha : Ag ρ n E a) (hs : SatE w0 ρ s w) {r : ResultVar} (h : resV P E s r = some v) : ∃ u, AV.R ρ v u ∧ (resF a.tmps r).run P w = .ok u w := by
  cases r with
  | tmp t =>
    exact ⟨_, ha.val t _ h, by simp [resF]⟩
  | cell t ty =>
    simp only [resV] at h
    split at h
    · rename_i b i hx
      obtain ⟨r, c, h1, ex⟩ := ha.val t _ hx
      split at h
      · rename_i k fl hk
        split at h
        · rename_i l hl
          obtain ⟨l', h2, h3, h4⟩ := hs.read h1 hl
          unfold loadN at hk
          split at hk
          · rename_i hf
            cases hk
            simp only [cond_true] at h
            rw [nth_eq] at h
            obtain ⟨u, hu, hR⟩ := h2.at h
            have := h4 0 u hu
            simp only [Nat.add_zero] at this
            have ex' : a.tmps[t]?.getD undef = .pointer (some ⟨r, i, none⟩) := by rw [← Array.getD_eq_getD_getElem?]; exact ex
            exact ⟨u, hR, by simp [resF, ex', asAddr, loadVar, run_fl hf, this, Result.andThen]⟩
          · rename_i hf
            split at hk
            · rename_i k' hsz
              cases hk
              simp only [cond_false, Option.some.injEq] at h
              subst h
              have hcs := run_loadCells_list (P := P) (w := w) ⟨r, i, none⟩ l' (fun j u hu => by rw [addr_add]; exact h4 j u hu)
              rw [h3] at hcs
              have ex' : a.tmps[t]?.getD undef = .pointer (some ⟨r, i, none⟩) := by rw [← Array.getD_eq_getD_getElem?]; exact ex
              exact ⟨.agg l'.toArray, ⟨_, rfl, by simpa using h2⟩, by simp [resF, ex', asAddr, loadVar, run_fl hf, run_sz hsz, hcs, Result.andThen]⟩
            · cases hk
          · cases hk
        · cases h
      · cases h
    · cases h
noncomputable def resVs (P : Program) (E : EnvA) (s : St) : List ResultVar → Option (List AV)
  | [] => some []
  | r :: l => match resV P E s r with
    | some v => match resVs P E s l with
      | some vs => some (v :: vs)
      | none => none
    | none => none
theorem resVs_spec (ha : Ag ρ n E a) (hs : SatE w0 ρ s w) : ∀ {l : List ResultVar} {vs : List AV}, resVs P E s l = some vs → ∃ us, AV.Rs ρ vs us ∧ us.length = l.length ∧ (l.mapM (resF a.tmps)).run P w = .ok us w
  | [], _, h => by cases h; exact ⟨[], trivial, rfl, by simp⟩
  | r :: l, vs, h => by
    simp only [resVs] at h
    split at h
    · rename_i v hv
      split at h
      · rename_i us hus
        cases h
        obtain ⟨u, h1, h2⟩ := resV_spec ha hs hv
        obtain ⟨us', h3, h4, h5⟩ := resVs_spec ha hs hus
        exact ⟨u :: us', ⟨h1, h3⟩, by simp [h4], by simp [List.mapM_cons, h2, h5, Result.andThen]⟩
      · cases h
    · cases h
noncomputable def retV (P : Program) (E : EnvA) (s : St) (l : List ResultVar) : Option AV := match resVs P E s l with
  | some [v] => some v
  | some vs => some (.tu vs)
  | none => none
theorem retV_spec (ha : Ag ρ n E a) (hs : SatE w0 ρ s w) {fn : Func} (h : retV P E s fn.results.toList = some v) : ∃ u, AV.R ρ v u ∧ (results fn a.tmps).run P w = .ok u w := by
  have run : ∀ us : List Value, (fn.results.toList.mapM (resF a.tmps)).run P w = .ok us w → (results fn a.tmps).run P w = .ok (if h : us.toArray.size = 1 then us.toArray[0] else .tuple us.toArray) w := fun us hu => by
    have hm : (fn.results.mapM (resF a.tmps)).run P w = .ok us.toArray w := by
      rw [Array.mapM_eq_mapM_toList]
      simp [hu, Result.andThen]
    have e : results fn a.tmps = (do
      let vs ← fn.results.mapM (resF a.tmps)
      pure (if h : vs.size = 1 then vs[0] else .tuple vs)) := by
      unfold results
      congr 1
    rw [e]
    simp only [Sem.run_bind, hm, Result.andThen, Sem.run_pure]
  unfold retV at h
  split at h
  · rename_i v1 hv
    cases h
    obtain ⟨us, h1, h2, h3⟩ := resVs_spec ha hs hv
    match us, h1 with
    | [u], h1 => exact ⟨u, h1.1, by simpa using run [u] h3⟩
    | [], h1 => simp [AV.Rs] at h1
    | _ :: _ :: _, h1 => simp [AV.Rs] at h1
  · rename_i vs hne hv
    cases h
    obtain ⟨us, h1, h2, h3⟩ := resVs_spec ha hs hv
    have hl : us.length ≠ 1 := fun e => by
      match us, e with
      | [u], _ =>
        match vs, h1 with
        | [v1], _ => exact hne v1 rfl
        | [], h1 => simp [AV.Rs] at h1
        | _ :: _ :: _, h1 => simp [AV.Rs] at h1
    refine ⟨.tuple us.toArray, ⟨_, rfl, by simpa using h1⟩, ?_⟩
    rw [run us h3, dif_neg (by simpa using hl)]
  · cases h
noncomputable def leaveM : List Nat → St → Option St
  | [], s => some s
  | d :: ds, s => match s.ob d with
    | .mark => leaveM ds (s.put d .dead)
    | _ => none
theorem leaveM_spec {fn : Func} {R : Ending → World → Prop} {tmps : Array Value} : ∀ {ds : List Nat} {ms : List Deferred} {s : St} {w : World}, leaveM ds s = some s' → Dag ρ ds ms → SatE w0 ρ s w →
    (∀ w', SatE w0 ρ s' w' → ∃ u, (results fn tmps).run P w' = .ok u w' ∧ R (.returned u) w') → LeavesInM Fence.wide 0 P fn tmps R ms .returning w
  | [], [], s, w, h, _, hs, hK => by
    cases h
    obtain ⟨u, h1, h2⟩ := hK w hs
    exact ⟨u, h1, h2⟩
  | d :: ds, m :: ms, s, w, h, hd, hs, hK => by
    obtain ⟨⟨D, c, h1, rfl⟩, h2⟩ := hd
    simp only [leaveM] at h
    split at h
    · rename_i ho
      obtain ⟨g1, g2, g3⟩ := hs.obs d D c h1
      rw [ho] at g3
      have hk := hs.kill (hs.lt' h1)
      have hs' : SatE w0 ρ (s.put d .dead) (w.putObj D (.deferred none)) := by
        refine ⟨hk.below.trans ⟨rfl, rfl, rfl, by simp, fun k hk => World.putObj_heap_other (by omega)⟩, hk.len, hk.nb, fun b r c' hb => ?_, hk.inj⟩
        obtain ⟨k1, k2, k3⟩ := hk.obs b r c' hb
        refine ⟨k1, by simpa using k2, ?_⟩
        by_cases e : r = D
        · subst e
          by_cases hdd : (s.put d .dead).ob b = .dead
          · rw [hdd]; trivial
          · exfalso
            rw [St.ob_put (hs.lt' h1) (hs.lt' hb)] at hdd
            by_cases ed : d = b
            · rw [if_pos ed] at hdd; exact hdd rfl
            · rw [if_neg ed] at hdd
              exact ed (hs.inj d b r c c' h1 hb (by rw [ho]; simp) hdd)
        · rw [World.putObj_heap_other e]; exact k3
      exact ⟨by simp, .inl ⟨D, _, rfl, run_takeDeferred g3, leaveM_spec h h2 hs' hK⟩⟩
    · cases h
  | [], _ :: _, _, _, _, hd, _, _ => by simp [Dag] at hd
  | _ :: _, [], _, _, _, hd, _, _ => by simp [Dag] at hd
end
end Go.Sl.Ev
namespace Go.Sl.Ev
open Go.RowKit
noncomputable def contL {α β : Type} (L : List α) (f : α → Option (List β)) : Option (List β) := match L with
  | [x] => f x
  | L => bindL L f
theorem contL_spec {α β : Type} {f : α → Option (List β)} {L : List α} {R : List β} (h : contL L f = some R) : ∀ x ∈ L, ∃ r, f x = some r ∧ ∀ y ∈ r, y ∈ R := by
  unfold contL at h
  split at h
  · rename_i x
    intro y hy
    cases List.mem_singleton.1 hy
    exact ⟨R, h, fun _ h => h⟩
  · exact bindL_spec h
section
variable (P : Program) (xr : FuncId → List AV → St → Option (Option (AV × St))) (rec_ : Rq → St → Option (List (Rs × St)))
noncomputable def argGo : List AV → Nat → EnvA → EnvA
  | [], _, E => E
  | v :: l, i, E => argGo l (i + 1) (E.set i v)
noncomputable def argE (k : Nat) (l : List AV) : EnvA := argGo l 0 ⟨k, .u none⟩
noncomputable def putsE : List Nat → List AV → EnvA → EnvA
  | p :: ps, v :: vs, E => putsE ps vs (E.set p v)
  | _, _, E => E
noncomputable def rangeE (E : EnvA) (ds : List Nat) (gf : FuncId) (ca : List AV) (ps : List Nat) (asg body : Code) (m : Nat) (s : St) : Option (List (Rs × St)) :=
  match s.new (.loop .ready none ps asg body E m) with
  | some (l, s2) => match rec_ (.fn gf (.yi l :: ca)) s2 with
    | some L => contL L fun r => match r with
      | (.val _, s3) => match s3.ob l with
        | .loop .ready none _ _ _ _ _ => some [(.ex .nrm E ds, s3.put l .dead)]
        | .loop .done none _ _ _ _ _ => some [(.ex .nrm E ds, s3.put l .dead)]
        | .loop .done (some .ret) _ _ _ _ _ => some [(.ex .ret E ds, s3.put l .dead)]
        | .loop .done (some (.exit id)) _ _ _ _ _ => some [(.ex (.ext id) E ds, s3.put l .dead)]
        | _ => none
      | _ => none
    | none => none
  | none => none
noncomputable def stepC (rd : Option Nat) (c : Code) (E : EnvA) (ds : List Nat) (s : St) : Option (List (Rs × St)) :=
  match c with
  | .skip => some [(.ex .nrm E ds, s)]
  | .label _ => some [(.ex .nrm E ds, s)]
  | .region _ ops dr => match evRegion P rec_ ops dr E s with
    | some [(E', s')] => some [(.ex .nrm E' ds, s')]
    | some L => some (L.map fun r => (.ex .nrm r.1 ds, r.2))
    | none => none
  | .seq a b => match rec_ (.code rd a E ds) s with
    | some L => contL L fun r => match r with
      | (.ex .nrm E1 ds1, s1) => rec_ (.code rd b E1 ds1) s1
      | (.ex .ret E1 ds1, s1) => some [(.ex .ret E1 ds1, s1)]
      | (.ex (.ext id) E1 ds1, s1) => some [(.ex (.ext id) E1 ds1, s1)]
      | _ => none
    | none => none
  | .cond c x y => match opr E c with
    | some (.vl (.bool true)) => rec_ (.code rd x E ds) s
    | some (.vl (.bool false)) => rec_ (.code rd y E ds) s
    | _ => none
  | .block id c => match rec_ (.code rd c E ds) s with
    | some L => contL L fun r => match r with
      | (.ex (.ext i) E1 ds1, s1) => bif decide (i = id) then some [(.ex .nrm E1 ds1, s1)] else some [(.ex (.ext i) E1 ds1, s1)]
      | (.ex .nrm E1 ds1, s1) => some [(.ex .nrm E1 ds1, s1)]
      | (.ex .ret E1 ds1, s1) => some [(.ex .ret E1 ds1, s1)]
      | _ => none
    | none => none
  | .loop c => match rec_ (.code rd c E ds) s with
    | some L => contL L fun r => match r with
      | (.ex .nrm E1 ds1, s1) => rec_ (.code rd (.loop c) E1 ds1) s1
      | (.ex .ret E1 ds1, s1) => some [(.ex .ret E1 ds1, s1)]
      | (.ex (.ext id) E1 ds1, s1) => some [(.ex (.ext id) E1 ds1, s1)]
      | _ => none
    | none => none
  | .exit id => some [(.ex (.ext id) E ds, s)]
  | .ret => some [(.ex .ret E ds, s)]
  | .scope c => rec_ (.code rd c E ds) s
  | .rangeFunc g ps asg body => match opr E g with
    | some (.fn gf [] ca) => match rd with
      | none => match s.new .mark with
        | some (m, s1) => rangeE rec_ E (m :: ds) gf ca ps.toList asg body m s1
        | none => none
      | some l0 => match s.ob l0 with
        | .loop _ _ _ _ _ _ m => rangeE rec_ E ds gf ca ps.toList asg body m s
        | _ => none
    | _ => none
  | _ => none
noncomputable def endF (l : List ResultVar) (r : Rs × St) : Option (List (Rs × St)) := match r with
  | (.ex .nrm E1 ds1, s1) => match leaveM ds1 s1 with
    | some s2 => match retV P E1 s2 l with
      | some v => some [(.val v, s2)]
      | none => none
    | none => none
  | (.ex .ret E1 ds1, s1) => match leaveM ds1 s1 with
    | some s2 => match retV P E1 s2 l with
      | some v => some [(.val v, s2)]
      | none => none
    | none => none
  | _ => none
noncomputable def stepF (f : FuncId) (args : List AV) (s : St) : Option (List (Rs × St)) :=
  match xr f args s with
  | some (some (v, s')) => some [(.val v, s')]
  | some none => none
  | none => match P.funcs[f]? with
    | some fn => match fn.body with
      | some c => bif Nat.ble args.length fn.ntmps then (match rec_ (.code none c (argE fn.ntmps args) []) s with
        | some L => contL L (endF P fn.results.toList)
        | none => none) else none
      | none => none
    | none => none
noncomputable def endRd (l : Nat) (r : Rs × St) : Option (List (Rs × St)) := match r with
  | (.ex x _ _, s3) => match s3.ob l with
    | .loop _ _ ps4 asg4 body4 E4 m4 => match x with
      | .nrm => some [(.val (.vl (.bool true)), s3.put l (.loop .ready none ps4 asg4 body4 E4 m4))]
      | .ret => some [(.val (.vl (.bool false)), s3.put l (.loop .done (some .ret) ps4 asg4 body4 E4 m4))]
      | .ext id => some [(.val (.vl (.bool false)), s3.put l (.loop .done (some (.exit id)) ps4 asg4 body4 E4 m4))]
    | _ => none
  | _ => none
noncomputable def stepR (l : Nat) (args : List AV) (s : St) : Option (List (Rs × St)) :=
  match s.ob l with
  | .loop .ready none ps asg body E _ => bif Nat.beq args.length ps.length then (match rec_ (.code (some l) asg (putsE ps args E) []) s with
    | some L => contL L fun r => match r with
      | (.ex .nrm E2 [], s1) => match s1.ob l with
        | .loop .ready none ps2 asg2 body2 E3 m2 => match rec_ (.code (some l) body E2 []) (s1.put l (.loop .busy none ps2 asg2 body2 E3 m2)) with
          | some L2 => contL L2 (endRd l)
          | none => none
        | _ => none
      | _ => none
    | none => none) else none
  | _ => none
noncomputable def ev : Nat → Rq → St → Option (List (Rs × St))
  | 0, _, _ => none
  | k + 1, .code rd c E ds, s => stepC P (ev k) rd c E ds s
  | k + 1, .fn f args, s => stepF P xr (ev k) f args s
  | k + 1, .round l args, s => stepR (ev k) l args s
end
section
variable {P : Program} {w0 : World} {xr : FuncId → List AV → St → Option (Option (AV × St))}
structure Exts (P : Program) (w0 : World) (xr : FuncId → List AV → St → Option (Option (AV × St))) : Prop where
  enter : ∀ {f : FuncId} {args : List AV} {s : St} {r : AV × St}, xr f args s = some (some r) → ∃ fn c, P.funcs[f]? = some fn ∧ fn.body = some c
  calls : ∀ {f : FuncId} {args : List AV} {s s' : St} {v : AV}, xr f args s = some (some (v, s')) → ∀ {ρ : Rho} {w : World} {args' : List Value}, AV.Rs ρ args args' → SatE w0 ρ s w → CallsIn Fence.wide 0 P f args'.toArray w (Post w0 ρ [(.val v, s')])
theorem argGo_n : ∀ {l : List AV} {i : Nat} {E : EnvA}, (argGo l i E).n = E.n
  | [], _, _ => rfl
  | v :: l, i, E => by show (argGo l (i + 1) (E.set i v)).n = _; rw [argGo_n, EnvA.set_n]
theorem argE_len {k : Nat} {l : List AV} : (argE k l).n = k := argGo_n
theorem argGo_at {ρ : Rho} {all : List Value} : ∀ {l : List AV} {m : List Value} {i : Nat} {E : EnvA}, AV.Rs ρ l m → (∀ j u, m[j]? = some u → all[i + j]? = some u) → (∀ x v, E.get x = some v → ∃ u, all[x]? = some u ∧ AV.R ρ v u) → ∀ x v, (argGo l i E).get x = some v → ∃ u, all[x]? = some u ∧ AV.R ρ v u
  | [], _, _, _, _, _, hE, x, v, h => hE x v h
  | y :: l, [], _, _, hr, _, _, _, _, _ => by simp [AV.Rs] at hr
  | y :: l, u :: m, i, E, hr, hm, hE, x, v, h => by
    refine argGo_at (m := m) (i := i + 1) (E := E.set i y) hr.2 (fun j u' hu => by rw [show i + 1 + j = i + (j + 1) by omega]; exact hm (j + 1) u' (by simpa using hu)) (fun x v hx => ?_) x v h
    rcases EnvA.get_set hx with ⟨rfl, rfl, _⟩ | ⟨_, hx⟩ | ⟨_, hx⟩ | ⟨_, hx⟩
    · exact ⟨u, by have := hm 0 u rfl; simpa using this, hr.1⟩
    · exact hE x v hx
    · exact hE x v hx
    · exact hE x v hx
theorem argE_at {ρ : Rho} {k : Nat} {l : List AV} {m : List Value} {x : Nat} {v : AV} (hr : AV.Rs ρ l m) (h : (argE k l).get x = some v) : ∃ u, m[x]? = some u ∧ AV.R ρ v u :=
  argGo_at (all := m) hr (fun j u hu => by simpa using hu) (fun x v hx => by
    unfold EnvA.get at hx
    cases hb : (Nat.blt x k && Nat.blt x 512) with
    | false => simp only [hb] at hx; cases hx
    | true => simp only [hb] at hx; cases hx) x v h
theorem putsE_ag {ρ : Rho} : ∀ {ps : List Nat} {vs : List AV} {us : List Value} {E : EnvA} {n : Nat} {a : Act}, Ag ρ n E a → AV.Rs ρ vs us → Ag ρ n (putsE ps vs E) { a with tmps := (ps.zip us).foldl (fun t (x : Nat × Value) => t.setIfInBounds x.1 x.2) a.tmps }
  | [], _, _, _, _, _, ha, _ => by simpa [putsE] using ha
  | _ :: _, [], [], _, _, _, ha, _ => by simpa [putsE] using ha
  | p :: ps, v :: vs, u :: us, E, n, a, ha, hr => by
    have h1 : Ag ρ n (E.set p v) (a.put (some p) u) := ha.put hr.1 (some p)
    have := putsE_ag (ps := ps) h1 hr.2
    simpa [putsE, Act.put] using this
  | _ :: _, [], _ :: _, _, _, _, _, hr => by simp [AV.Rs] at hr
  | _ :: _, _ :: _, [], _, _, _, _, hr => by simp [AV.Rs] at hr
theorem putsE_len : ∀ {ps : List Nat} {vs : List AV} {E : EnvA}, (putsE ps vs E).length = E.length
  | [], _, _ => by simp [putsE]
  | _ :: _, [], _ => by simp [putsE]
  | p :: ps, v :: vs, E => by
    show (putsE ps vs (E.set p v)).n = E.n
    have := putsE_len (ps := ps) (vs := vs) (E := E.set p v)
    exact this.trans (EnvA.set_n _ _ _)
theorem exOf_then {x : Ex} (hx : x ≠ .nrm) {K : Act → World → Prop} {Q : Exit → Act → World → Prop} {a : Act} {w : World} (h : Q (exOf x) a w) : Exit.then K Q (exOf x) a w := by
  cases x with
  | nrm => exact absurd rfl hx
  | ext id => exact h
  | ret => exact h
end
end Go.Sl.Ev
namespace Go.Sl.Ev
open Go.RowKit
section
variable {P : Program} {w0 : World} {xr : FuncId → List AV → St → Option (Option (AV × St))} {rec_ : Rq → St → Option (List (Rs × St))}
theorem new_mark {w : World} {ρ : Rho} {s s1 : St} {m : Nat} (hs : SatE w0 ρ s w) (h : s.new .mark = some (m, s1)) :
    ρ <+: ρ ++ [(w.heap.size, 0)] ∧ (ρ ++ [(w.heap.size, 0)])[m]? = some (w.heap.size, 0) ∧ SatE w0 (ρ ++ [(w.heap.size, 0)]) s1 (w.alloc (.deferred (some []))) :=
  hs.add h (alloc_below w _) (Nat.le_refl _) (by rw [World.size_alloc]; omega) (World.alloc_heap_new w _)
theorem new_loop {w : World} {ρ : Rho} {s s1 : St} {l m : Nat} {ps : List Nat} {asg body : Code} {E : EnvA} {fn : FuncId} {tmps : Array Value} {D c : Nat} (hs : SatE w0 ρ s w) (h : s.new (.loop .ready none ps asg body E m) = some (l, s1)) (hD : ρ[m]? = some (D, c))
    (ht : tmps.size = E.length) (hv : ∀ x v, E.get x = some v → AV.R ρ v (tmps.getD x undef)) :
    ρ <+: ρ ++ [(w.heap.size, 0)] ∧ (ρ ++ [(w.heap.size, 0)])[l]? = some (w.heap.size, 0) ∧ SatE w0 (ρ ++ [(w.heap.size, 0)]) s1 (w.alloc (.loop { state := .ready, pending := none, fn, tmps, params := ps.toArray, assign := asg, body, defers := D })) :=
  hs.add h (alloc_below w _) (Nat.le_refl _) (by rw [World.size_alloc]; omega) (by
    rw [World.alloc_heap_new]
    have hp : ρ <+: ρ ++ [(w.heap.size, 0)] := ⟨_, rfl⟩
    exact ⟨_, rfl, rfl, rfl, rfl, rfl, rfl, ⟨D, c, pre_get hp hD, rfl⟩, ht, fun x v hx => (hv x v hx).mono hp⟩)
theorem putObj_kill {w : World} {ρ : Rho} {s : St} {l r c : Nat} {o : Obj} (hs : SatE w0 ρ s w) (hl : ρ[l]? = some (r, c)) (hd : s.ob l ≠ .dead) : SatE w0 ρ (s.put l .dead) (w.putObj r o) := by
  obtain ⟨g1, g2, _⟩ := hs.obs l r c hl
  exact hs.turn hl hd ⟨rfl, rfl, rfl, by simp, fun k hk => World.putObj_heap_other (by omega)⟩ (fun k hk => World.putObj_heap_other hk) trivial
theorem range_spec (hg : Good P w0 rec_) {E : EnvA} {ds : List Nat} {gf : FuncId} {ca : List AV} {ps : Array Nat} {asg body : Code} {m : Nat} {s : St} {L : List (Rs × St)} (h : rangeE rec_ E ds gf ca ps.toList asg body m s = some L)
    {ρ : Rho} {a : Act} {w : World} {rd' : Option Nat} {Q : Exit → Act → World → Prop} {fn : FuncId} {D c : Nat} {mk : List Deferred} {ca' : Array Value} {g : Operand} {w1 : World} {l0 : Nat}
    (ha : Ag ρ E.length E a) (hd : Dag ρ ds (mk ++ a.defers)) (hs : SatE w0 ρ s w) (hD : ρ[m]? = some (D, c)) (hE : EndE w0 ρ L Q) (hca : AV.Rs ρ ca ca'.toList) (hgv : a.eval g = .func (.func gf) #[] ca')
    (hw1 : w1 = w.alloc (.loop { state := .ready, pending := none, fn, tmps := a.tmps, params := ps, assign := asg, body, defers := D })) (hl0 : l0 = w.heap.size) :
    ∃ (d : Deferred) (w₁' : World) (f : FuncId) (args : Array Value) (w₂ : World),
      (resolve a.eval (rangeCall g l0) 0).run P w1 = .ok d w₁' ∧ (∀ f', Target.leads P w₁' d.target d.args = some f' → (fen rd').fn f') ∧ (invoke d.target d.args).run P w₁' = .ok (.enter f args) w₂ ∧ ((fen rd').depth.isSome = true → 1 ≤ 0) ∧
      CallsIn (fen rd') (0 - 1) P f args w₂ (rangePost (fen rd') 0 P l0 Q { a with defers := mk ++ a.defers }) := by
  subst hw1 hl0
  unfold rangeE at h
  split at h
  · rename_i l s2 hn
    obtain ⟨p1, p2, p3⟩ := new_loop (fn := fn) (tmps := a.tmps) hs hn hD (by rw [ha.size]) ha.val
    have e0 : ps.toList.toArray = ps := by simp
    rw [e0] at p3
    generalize hW1 : w.alloc (.loop { state := .ready, pending := none, fn, tmps := a.tmps, params := ps, assign := asg, body, defers := D }) = W1 at p3
    split at h
    · rename_i L3 hr
      have hargs : AV.Rs (ρ ++ [(w.heap.size, 0)]) (.yi l :: ca) (Value.func (.yield w.heap.size) #[] #[] :: ca'.toList) := ⟨⟨_, _, p2, rfl⟩, hca.mono p1⟩
      have hc := hg.fn hr hargs p3
      have hen := hg.enter hr (#[.func (.yield w.heap.size) #[] #[]] ++ ca') W1
      have e1 : (Value.func (.yield w.heap.size) #[] #[] :: ca'.toList).toArray = #[.func (.yield w.heap.size) #[] #[]] ++ ca' := by apply Array.ext'; simp
      rw [e1] at hc
      have hev : ∀ v, a.eval (.const v) = v := fun _ => rfl
      refine ⟨{ target := .fn (.func gf) ca', args := #[.func (.yield w.heap.size) #[] #[]] }, W1, gf, #[.func (.yield w.heap.size) #[] #[]] ++ ca', W1, ?_, fun _ _ => trivial, ?_, fun h => by simp [Fence.wide] at h, ?_⟩
      · simp [resolve, hgv, hev, Deferred.ofValue, Result.andThen]
      · simp [invoke, hen, Result.andThen]
      · have hc' : CallsIn (fen rd') 0 P gf (#[.func (.yield w.heap.size) #[] #[]] ++ ca') W1 _ := hc
        refine hc'.mono ?_
        rintro e w' ⟨v3, s3, ρ', u, q0, q1, rfl, q2, q3⟩
        obtain ⟨L4, h, hL4⟩ := contL_spec h _ q0
        simp only at h
        have hl' := pre_get q1 p2
        have ha' : Ag ρ' E.length E { a with defers := mk ++ a.defers } := ⟨ha.size, ha.len, fun x v hx => ((ha.val x v hx).mono p1).mono q1⟩
        have hd' : Dag ρ' ds (mk ++ a.defers) := (hd.mono p1).mono q1
        obtain ⟨g1, g2, g3⟩ := q3.obs l _ _ hl'
        split at h
        all_goals first
          | (cases h; done)
          | skip
        · rename_i ho
          cases h
          rw [ho] at g3
          obtain ⟨r, e1, e2, e3, _⟩ := g3
          refine ⟨r.pending, _, run_endLoop e1 (by rw [e2]; simp), ?_⟩
          rw [e3]
          exact hE _ _ _ _ (hL4 _ List.mem_cons_self) ρ' _ _ (p1.trans q1) ha' hd' (putObj_kill q3 hl' (by rw [ho]; simp))
        · rename_i ho
          cases h
          rw [ho] at g3
          obtain ⟨r, e1, e2, e3, _⟩ := g3
          refine ⟨r.pending, _, run_endLoop e1 (by rw [e2]; simp), ?_⟩
          rw [e3]
          exact hE _ _ _ _ (hL4 _ List.mem_cons_self) ρ' _ _ (p1.trans q1) ha' hd' (putObj_kill q3 hl' (by rw [ho]; simp))
        · rename_i ho
          cases h
          rw [ho] at g3
          obtain ⟨r, e1, e2, e3, _⟩ := g3
          refine ⟨r.pending, _, run_endLoop e1 (by rw [e2]; simp), ?_⟩
          rw [e3]
          exact wpIn_ret (hE _ _ _ _ (hL4 _ List.mem_cons_self) ρ' _ _ (p1.trans q1) ha' hd' (putObj_kill q3 hl' (by rw [ho]; simp)))
        · rename_i id ho
          cases h
          rw [ho] at g3
          obtain ⟨r, e1, e2, e3, _⟩ := g3
          refine ⟨r.pending, _, run_endLoop e1 (by rw [e2]; simp), ?_⟩
          rw [e3]
          exact wpIn_exit (hE _ _ _ _ (hL4 _ List.mem_cons_self) ρ' _ _ (p1.trans q1) ha' hd' (putObj_kill q3 hl' (by rw [ho]; simp)))
    · cases h
  · cases h
end
end Go.Sl.Ev
namespace Go.Sl.Ev
open Go.RowKit
section
variable {P : Program} {w0 : World} {xr : FuncId → List AV → St → Option (Option (AV × St))} {rec_ : Rq → St → Option (List (Rs × St))}
theorem EndE.one {ρ : Rho} {L : List (Rs × St)} {Q : Exit → Act → World → Prop} {x : Ex} {E : EnvA} {ds : List Nat} {s : St} (h : EndE w0 ρ L Q) (hm : (Rs.ex x E ds, s) ∈ L) {a : Act} {w : World} (ha : Ag ρ E.length E a) (hd : Dag ρ ds a.defers) (hs : SatE w0 ρ s w) : Q (exOf x) a w :=
  h x E ds s hm ρ a w ⟨[], by simp⟩ ha hd hs
theorem stepC_spec (hm : P.follows .mixedOrders = true) (hg : Good P w0 rec_)
    (hloop : ∀ {rd : Option Nat} {c : Code} {E : EnvA} {ds : List Nat} {s : St} {L : List (Rs × St)}, stepC P rec_ rd (.loop c) E ds s = some L → ∀ {ρ : Rho} {a : Act} {w : World} {rd' : Option Nat} {Q : Exit → Act → World → Prop}, RdR ρ rd rd' → Ag ρ E.length E a → Dag ρ ds a.defers → SatE w0 ρ s w → EndE w0 ρ L Q → (Code.loop c).wpIn (fen rd') 0 P Q a w)
    {rd : Option Nat} {c : Code} {E : EnvA} {ds : List Nat} {s : St} {L : List (Rs × St)} (h : stepC P rec_ rd c E ds s = some L)
    {ρ : Rho} {a : Act} {w : World} {rd' : Option Nat} {Q : Exit → Act → World → Prop} (hr : RdR ρ rd rd') (ha : Ag ρ E.length E a) (hd : Dag ρ ds a.defers) (hs : SatE w0 ρ s w) (hE : EndE w0 ρ L Q) : c.wpIn (fen rd') 0 P Q a w := by
  cases c with
  | skip =>
    cases h
    exact wpIn_skip (hE.one List.mem_cons_self ha hd hs)
  | label l =>
    cases h
    exact wpIn_label (hE.one List.mem_cons_self ha hd hs)
  | exit id =>
    cases h
    exact wpIn_exit (hE.one List.mem_cons_self ha hd hs)
  | ret =>
    cases h
    exact wpIn_ret (hE.one List.mem_cons_self ha hd hs)
  | region id ops dr =>
    simp only [stepC] at h
    split at h
    · rename_i E2 s2 hreg
      cases h
      refine evRegion_spec hm hg hreg ha hs fun E3 s3 hm3 ρ2 a2 w2 q1 q2 q3 q4 => ?_
      cases List.mem_singleton.1 hm3
      exact (hE.mono q1).one List.mem_cons_self q2 (by rw [q3]; exact hd.mono q1) q4
    · rename_i L2 _ hreg
      cases h
      refine evRegion_spec hm hg hreg ha hs fun E3 s3 hm3 ρ2 a2 w2 q1 q2 q3 q4 => ?_
      exact (hE.mono q1).one (x := .nrm) (ds := ds) (List.mem_map.2 ⟨_, hm3, rfl⟩) q2 (by rw [q3]; exact hd.mono q1) q4
    · cases h
  | seq c1 c2 =>
    simp only [stepC] at h
    refine wpIn_seq ?_
    split at h
    · rename_i L1 h1
      refine hg.code h1 hr ha hd hs fun x1 E1 ds1 s1 hm1 ρ1 a1 w1 p1 p2 p3 p4 => ?_
      obtain ⟨L2, h2, hL2⟩ := contL_spec h _ hm1
      cases x1 with
      | nrm => exact hg.code h2 (hr.mono p1) p2 p3 p4 ((hE.sub hL2).mono p1)
      | ret => cases h2; exact exOf_then (by simp) (((hE.sub hL2).mono p1).one List.mem_cons_self p2 p3 p4)
      | ext id => cases h2; exact exOf_then (by simp) (((hE.sub hL2).mono p1).one List.mem_cons_self p2 p3 p4)
    · cases h
  | cond cc x1 y1 =>
    simp only [stepC] at h
    split at h
    · rename_i hc
      exact wpIn_cond_true (ha.opr hc) (hg.code h hr ha hd hs hE)
    · rename_i hc
      exact wpIn_cond_false (ha.opr hc) (hg.code h hr ha hd hs hE)
    · cases h
  | block id c1 =>
    simp only [stepC] at h
    refine wpIn_block ?_
    split at h
    · rename_i L1 h1
      refine hg.code h1 hr ha hd hs fun x1 E1 ds1 s1 hm1 ρ1 a1 w1 p1 p2 p3 p4 => ?_
      obtain ⟨L2, h2, hL2⟩ := contL_spec h _ hm1
      have hE' := (hE.sub hL2).mono p1
      cases x1 with
      | nrm => cases h2; exact hE'.one (x := .nrm) List.mem_cons_self p2 p3 p4
      | ret => cases h2; exact hE'.one (x := .ret) List.mem_cons_self p2 p3 p4
      | ext i =>
        simp only at h2
        show Exit.inBlock id Q (.exit i) a1 w1
        by_cases e : i = id
        · subst e
          simp only [decide_true, cond_true, Option.some.injEq] at h2
          subst h2
          simp only [Exit.inBlock, if_true]
          exact hE'.one (x := .nrm) List.mem_cons_self p2 p3 p4
        · simp only [e, decide_false, cond_false, Option.some.injEq] at h2
          subst h2
          simp only [Exit.inBlock, if_neg e]
          exact hE'.one (x := .ext i) List.mem_cons_self p2 p3 p4
    · cases h
  | loop c1 => exact hloop h hr ha hd hs hE
  | scope c1 =>
    simp only [stepC] at h
    refine wpIn_mono (wpIn_scope (Q := fun e a w => (∃ x, e = exOf x) ∧ Q e a w) (fun l a w hq => by
      obtain ⟨⟨x, hx⟩, _⟩ := hq
      cases x <;> cases hx) (hg.code h hr ha hd hs fun x1 E1 ds1 s1 hm1 ρ1 a1 w1 p1 p2 p3 p4 => ⟨⟨x1, rfl⟩, hE x1 E1 ds1 s1 hm1 ρ1 a1 w1 p1 p2 p3 p4⟩)) fun _ _ _ hq => hq.2
  | rangeFunc g ps asg body =>
    simp only [stepC] at h
    split at h
    · rename_i gf ca hgv
      obtain ⟨fa', ca', e1, e2, e3⟩ := ha.opr hgv
      have : fa' = #[] := by
        have := e2.len
        apply Array.eq_empty_of_size_eq_zero
        simpa using this.symm
      subst this
      refine wpIn_rangeFunc fun fn _ => ?_
      split at h
      · rename_i rd
        split at h
        · rename_i m s1 hmk
          cases rd' with
          | some r => simp [RdR] at hr
          | none =>
            obtain ⟨p1, p2, p3⟩ := new_mark hs hmk
            have ha1 := ha.mono p1
            have hd1 : Dag (ρ ++ [(w.heap.size, 0)]) (m :: ds) ([mark w.heap.size] ++ a.defers) := ⟨⟨_, _, p2, rfl⟩, hd.mono p1⟩
            obtain ⟨d, w1', f, args, w2, k1, k2, k3, k4, k5⟩ := range_spec (fn := fn) (rd' := none) (mk := [mark w.heap.size]) (g := g) hg h ha1 hd1 p3 p2 (hE.mono p1) (e3.mono p1) e1 rfl rfl
            have hent := run_enterLoop_outer (P := P) (w := w) fn a.tmps ps asg body
            exact ⟨_, _, _, d, w1', f, args, w2, hent, by rw [World.size_alloc] at k1; exact k1, k2, k3, k4, by rw [World.size_alloc] at k5; exact k5⟩
        · cases h
      · rename_i rd l0
        split at h
        · rename_i st pe ps0 asg0 body0 E0 m ho
          cases rd' with
          | none => simp [RdR] at hr
          | some r =>
            obtain ⟨c0, hrc⟩ := hr
            obtain ⟨_, _, g3⟩ := hs.obs l0 r c0 hrc
            rw [ho] at g3
            obtain ⟨r0, f1, _, _, _, _, _, ⟨D, c, f7, rfl⟩, _⟩ := g3
            obtain ⟨d, w1', f, args, w2, k1, k2, k3, k4, k5⟩ := range_spec (fn := fn) (rd' := some r) (mk := []) (g := g) hg h ha (by simpa using hd) hs f7 hE e3 e1 rfl rfl
            have hent := run_enterLoop_inner (P := P) f1 fn a.tmps ps asg body
            exact ⟨_, _, _, d, w1', f, args, w2, hent, k1, k2, k3, k4, k5⟩
        · cases h
    · cases h
  | _ => cases h
end
end Go.Sl.Ev
namespace Go.Sl.Ev
open Go.RowKit
section
variable {P : Program} {w0 : World} {xr : FuncId → List AV → St → Option (Option (AV × St))} {rec_ : Rq → St → Option (List (Rs × St))}
theorem loop_spec {k : Nat} (hg : ∀ m, m ≤ k → Good P w0 (ev P xr m)) {rd : Option Nat} {c : Code} {E : EnvA} {ds : List Nat} {s : St} {L : List (Rs × St)} (h : stepC P (ev P xr k) rd (.loop c) E ds s = some L)
    {ρ : Rho} {a : Act} {w : World} {rd' : Option Nat} {Q : Exit → Act → World → Prop} (hr : RdR ρ rd rd') (ha : Ag ρ E.length E a) (hd : Dag ρ ds a.defers) (hs : SatE w0 ρ s w) (hE : EndE w0 ρ L Q) : (Code.loop c).wpIn (fen rd') 0 P Q a w := by
  refine wpIn_loop_ghost (fun m a' w' => m ≤ k ∧ ∃ E1 ds1 s1 ρ1 L1, ρ <+: ρ1 ∧ (∀ y ∈ L1, y ∈ L) ∧ stepC P (ev P xr m) rd (.loop c) E1 ds1 s1 = some L1 ∧ Ag ρ1 E1.length E1 a' ∧ Dag ρ1 ds1 a'.defers ∧ SatE w0 ρ1 s1 w') k ⟨Nat.le_refl _, E, ds, s, ρ, L, ⟨[], by simp⟩, fun _ h => h, h, ha, hd, hs⟩ ?_
  rintro m a1 w1 ⟨hmk, E1, ds1, s1, ρ1, L1, p1, hL1, h1, ha1, hd1, hs1⟩
  simp only [stepC] at h1
  have hgm := hg m hmk
  split at h1
  · rename_i L2 h2
    refine hgm.code h2 (hr.mono p1) ha1 hd1 hs1 fun x3 E3 ds3 s3 hm3 ρ3 a3 w3 q1 q2 q3 q4 => ?_
    obtain ⟨L4, h4, hL4⟩ := contL_spec h1 _ hm3
    cases x3 with
    | nrm =>
      cases m with
      | zero => cases h2
      | succ m => exact ⟨m, Nat.lt_succ_self _, by omega, E3, ds3, s3, ρ3, L4, p1.trans q1, fun y hy => hL1 y (hL4 y hy), h4, q2, q3, q4⟩
    | ret => cases h4; exact exOf_then (by simp) ((hE.mono (p1.trans q1)).one (hL1 _ (hL4 _ List.mem_cons_self)) q2 q3 q4)
    | ext id => cases h4; exact exOf_then (by simp) ((hE.mono (p1.trans q1)).one (hL1 _ (hL4 _ List.mem_cons_self)) q2 q3 q4)
  · cases h1
noncomputable def namesOk (P : Program) : Prop := ∀ (f : FuncId) (fn : Func), P.funcs[f]? = some fn → (fn.name == "runtime.NumGoroutine") = false
theorem enter_of (hn : namesOk P) {f : FuncId} {fn : Func} {c : Code} (hf : P.funcs[f]? = some fn) (hb : fn.body = some c) (args : Array Value) (w : World) : (callFunc f args).run P w = .ok (.enter f args) w := by
  have h := hn f fn hf
  have h' : ¬ fn.name = "runtime.NumGoroutine" := by simpa using h
  simp [callFunc, Sem.run_bind, hf, h', hb, Result.andThen]
theorem fn_spec (hg : Good P w0 rec_) (hx : Exts P w0 xr) {f : FuncId} {args : List AV} {s : St} {L : List (Rs × St)} (h : stepF P xr rec_ f args s = some L) {ρ : Rho} {w : World} {args' : List Value} (hr : AV.Rs ρ args args') (hs : SatE w0 ρ s w) : CallsIn Fence.wide 0 P f args'.toArray w (Post w0 ρ L) := by
  unfold stepF at h
  split at h
  · rename_i v2 s2 he
    cases h
    exact hx.calls he hr hs
  · cases h
  · split at h
    · rename_i fn hf
      split at h
      · rename_i c hb
        cases hle : Nat.ble args.length fn.ntmps with
        | false => rw [hle] at h; cases h
        | true =>
          rw [hle] at h
          simp only [cond_true] at h
          have hle' : args.length ≤ fn.ntmps := by simpa using hle
          have hl := hr.len
          refine callsIn_of_wp_marks hf hb trivial ?_
          have ha : Ag ρ (argE fn.ntmps args).length (argE fn.ntmps args) { tmps := args'.toArray ++ Array.replicate (fn.ntmps - args'.toArray.size) undef, defers := [] } := by
            refine ⟨by simp [argE_len]; omega, rfl, fun x v hx => ?_⟩
            obtain ⟨u, h1, h2⟩ := argE_at hr hx
            have hlt := (List.getElem?_eq_some_iff.1 h1).1
            simp only [Array.getD_eq_getD_getElem?]
            rw [Array.getElem?_append_left (by simpa using hlt)]
            have : args'.toArray[x]? = some u := by simpa using h1
            rw [this]; exact h2
          split at h
          · rename_i L1 h1
            refine hg.code h1 (rd' := none) trivial ha trivial hs fun x1 E1 ds1 s1 hm1 ρ1 a1 w1 p1 p2 p3 p4 => ?_
            obtain ⟨L2, h2, hL2⟩ := contL_spec h _ hm1
            have key : ∀ {s2 : St} {v : AV}, leaveM ds1 s1 = some s2 → retV P E1 s2 fn.results.toList = some v → L2 = [(.val v, s2)] → LeavesInM Fence.wide 0 P fn a1.tmps (Post w0 ρ L) a1.defers .returning w1 := by
              rintro s2 v h3 h4 rfl
              exact leaveM_spec h3 p3 p4 fun w2 hs2 => by
                obtain ⟨u, k1, k2⟩ := retV_spec p2 hs2 h4
                exact ⟨u, k2, v, s2, ρ1, u, hL2 _ List.mem_cons_self, p1, rfl, k1, hs2⟩
            have fin : x1 ≠ .nrm → x1 ≠ .ret → False := fun n1 n2 => by
              cases x1 with
              | nrm => exact n1 rfl
              | ret => exact n2 rfl
              | ext id => cases h2
            unfold endF at h2
            cases x1 with
            | nrm =>
              simp only at h2
              split at h2
              · rename_i s2 h3
                split at h2
                · rename_i v2 h4
                  cases h2
                  exact key h3 h4 rfl
                · cases h2
              · cases h2
            | ret =>
              simp only at h2
              split at h2
              · rename_i s2 h3
                split at h2
                · rename_i v2 h4
                  cases h2
                  exact key h3 h4 rfl
                · cases h2
              · cases h2
            | ext id => cases h2
          · cases h
      · cases h
    · cases h
theorem round_spec (hg : Good P w0 rec_) {l : Nat} {args : List AV} {s : St} {L : List (Rs × St)} (h : stepR rec_ l args s = some L) {ρ : Rho} {w : World} {args' : List Value} {r c : Nat} (hl : ρ[l]? = some (r, c)) (hr : AV.Rs ρ args args') (hs : SatE w0 ρ s w) : YieldAt Fence.wide 0 P r args'.toArray w (Post w0 ρ L) := by
  unfold stepR at h
  split at h
  · rename_i ps asg body E m ho
    cases hlen : Nat.beq args.length ps.length with
    | false => rw [hlen] at h; cases h
    | true =>
      rw [hlen] at h
      simp only [cond_true] at h
      have hlen' : args.length = ps.length := by simpa using hlen
      have hl1 := hr.len
      obtain ⟨_, _, g3⟩ := hs.obs l r c hl
      rw [ho] at g3
      obtain ⟨R, f1, f2, f3, f4, f5, f6, f7, f8, f9⟩ := g3
      have hy := run_yield (P := P) (args := args'.toArray) f1 (by rw [f4]; simp; omega)
      refine ⟨_, _, _, _, hy, roundIn_of_wpIn (F := Fence.wide) trivial ?_⟩
      split at h
      · rename_i L1 h1
        have hA0 : Ag ρ E.length E { tmps := R.tmps, defers := [] } := ⟨f8, rfl, f9⟩
        have hA := putsE_ag (ps := ps) (us := args') hA0 hr
        have e1 : ({ tmps := (R.params.zip args'.toArray).foldl (fun t (x : Nat × Value) => t.setIfInBounds x.1 x.2) R.tmps, defers := [] } : Act) = { tmps := (ps.zip args').foldl (fun t (x : Nat × Value) => t.setIfInBounds x.1 x.2) R.tmps, defers := [] } := by
          rw [f4]; simp
        have hA' : Ag ρ (putsE ps args E).length (putsE ps args E) { tmps := (R.params.zip args'.toArray).foldl (fun t (x : Nat × Value) => t.setIfInBounds x.1 x.2) R.tmps, defers := [] } := by
          rw [putsE_len]; exact e1 ▸ hA
        rw [← f5] at h1
        refine hg.code h1 (rd' := some r) ⟨c, hl⟩ hA' trivial hs fun x1 E1 ds1 s1 hm1 ρ1 a1 w1 p1 p2 p3 p4 => ?_
        obtain ⟨L2, h2, hL2⟩ := contL_spec h _ hm1
        split at h2
        · rename_i E2 s1' heq
          cases heq
          split at h2
          · rename_i ps2 asg2 body2 E3 m2 ho2
            have hl2 := pre_get p1 hl
            obtain ⟨k1, k2, k3⟩ := p4.obs l r c hl2
            rw [ho2] at k3
            obtain ⟨R2, b1, b2, b3, b4, b5, b6, b7, b8, b9⟩ := k3
            have hbr := run_beginRound (P := P) b1 b2
            refine ⟨_, hbr, ?_⟩
            have hs2 : SatE w0 ρ1 (s1.put l (.loop .busy none ps2 asg2 body2 E3 m2)) (w1.putObj r (.loop { R2 with state := .busy })) :=
              p4.turn hl2 (by rw [ho2]; simp) ⟨rfl, rfl, rfl, by simp, fun k hk => World.putObj_heap_other (by omega)⟩ (fun k hk => World.putObj_heap_other hk) (by
                rw [World.putObj_heap_same k2]
                exact ⟨_, rfl, rfl, b3, b4, b5, b6, b7, b8, b9⟩)
            have hd0 : a1.defers = [] := by
              cases hdd : a1.defers with
              | nil => rfl
              | cons y ys => rw [hdd] at p3; simp [Dag] at p3
            split at h2
            · rename_i L3 h3
              rw [f6]
              refine hg.code h3 (rd' := some r) ⟨c, hl2⟩ p2 (by rw [hd0]; trivial) hs2 fun x E4 ds4 s3 hm3 ρ3 a3 w3 q1 q2 q3 q4 => ?_
              obtain ⟨L4, h4, hL4⟩ := contL_spec h2 _ hm3
              unfold endRd at h4
              simp only at h4
              · split at h4
                · rename_i st5 pe5 ps4 asg4 body4 E5 m4 ho4
                  have hl3 := pre_get q1 hl2
                  obtain ⟨d1, d2, d3⟩ := q4.obs l r c hl3
                  rw [ho4] at d3
                  obtain ⟨R4, t1, t2, t3, t4, t5, t6, t7, t8, t9⟩ := d3
                  have done : ∀ (j : Option Code) (st : LoopState), (if j.isNone then LoopState.ready else .done) = st → L4 = [(.val (.vl (.bool j.isNone)), s3.put l (.loop st j ps4 asg4 body4 E5 m4))] → ∃ v2 w2, (Instr.endRound r j).run P w3 = .ok v2 w2 ∧ Post w0 ρ L (.returned v2) w2 := by
                    rintro j st rfl rfl
                    refine ⟨_, _, run_endRound j t1, _, _, ρ3, _, hL2 _ (hL4 _ List.mem_cons_self), p1.trans q1, rfl, rfl, q4.turn hl3 (by rw [ho4]; simp) ⟨rfl, rfl, rfl, by simp, fun k hk => World.putObj_heap_other (by omega)⟩ (fun k hk => World.putObj_heap_other hk) ?_⟩
                    rw [World.putObj_heap_same d2]
                    exact ⟨_, rfl, rfl, rfl, t4, t5, t6, t7, t8, t9⟩
                  cases x with
                  | nrm => cases h4; exact done none .ready rfl rfl
                  | ret => cases h4; exact done (some .ret) .done rfl rfl
                  | ext id => cases h4; exact done (some (.exit id)) .done rfl rfl
                · cases h4
            · cases h2
          · cases h2
        · cases h2
      · cases h
  · cases h
theorem good (hm : P.follows .mixedOrders = true) (hn : namesOk P) (hx : Exts P w0 xr) : ∀ k, Good P w0 (ev P xr k) := by
  intro k
  induction k using Nat.strongRecOn with
  | _ k ih =>
    cases k with
    | zero => exact ⟨fun h => (nomatch h), fun h => (nomatch h), fun h => (nomatch h), fun h => (nomatch h)⟩
    | succ k =>
      have hg := ih k (Nat.lt_succ_self k)
      refine ⟨fun h _ _ _ hr hs => fn_spec hg hx h hr hs, fun {f args s L} h args' w => ?_, fun h _ _ _ _ _ hl hr hs => round_spec hg h hl hr hs, fun h _ _ _ _ _ hr ha hd hs hE => stepC_spec hm hg (fun h _ _ _ _ _ hr ha hd hs hE => loop_spec (fun m hm => ih m (Nat.lt_succ_of_le hm)) h hr ha hd hs hE) h hr ha hd hs hE⟩
      have h : stepF P xr (ev P xr k) f args s = some L := h
      unfold stepF at h
      split at h
      · rename_i v2 s2 he
        obtain ⟨fn, c, h1, h2⟩ := hx.enter he
        exact enter_of hn h1 h2 _ _
      · cases h
      · split at h
        · rename_i fn hf
          split at h
          · rename_i c hb
            exact enter_of hn hf hb _ _
          · cases h
        · cases h
end
end Go.Sl.Ev
namespace Go.Sl.Ev
open Go.RowKit
section
variable {P : Program} {w0 : World} {xr : FuncId → List AV → St → Option (Option (AV × St))}
noncomputable def xFields (F : FuncId) (e : TypeId) (f : FuncId) (args : List AV) (s : St) : Option (Option (AV × St)) :=
  bif Nat.beq f F then some (match args with
    | [.vl (.string b)] => bif Nat.blt b.size 4294967281 && b.data.toList.all (fun c => Nat.blt c.toNat 128) then
        (match s.new (.c e ((Lib.fields b.data.toList).map fun l => .vl (.string ⟨l.toArray⟩))) with
        | some (r, s') => some (.sl r 0 (Lib.fields b.data.toList).length (Lib.fields b.data.toList).length, s')
        | none => none) else none
    | _ => none) else none
theorem exts_fields {F : FuncId} {e : TypeId} (hb : ∃ fn c, P.funcs[F]? = some fn ∧ fn.body = some c)
    (h : ∀ (s : ByteArray) (w : World), Below w0.heap.size w0 w → s.size < 4294967281 → (∀ (j : Nat) b, s.data.toList[j]? = some b → b.toNat < 128) →
      Calls P F #[.string s] w fun en w' => en = .returned (.slice (some ⟨w.heap.size, 0, none⟩) (Lib.fields s.data.toList).length (Lib.fields s.data.toList).length) ∧ w' = w.alloc (.cells ((Lib.fields s.data.toList).map fun l => Value.string ⟨l.toArray⟩).toArray e)) :
    Exts P w0 (xFields F e) := by
  have at_ : ∀ {f : FuncId} {args : List AV} {s : St} {r : AV × St}, xFields F e f args s = some (some r) → f = F := fun {f args s r} h => by
    unfold xFields at h
    by_cases e : f = F
    · exact e
    · rw [nbeq_false e] at h; cases h
  refine ⟨fun h => by rw [at_ h]; exact hb, fun {f args s s' v} hx ρ w args' hr hs => ?_⟩
  have hf := at_ hx
  subst hf
  unfold xFields at hx
  simp only [Nat.beq_refl, cond_true, Option.some.injEq] at hx
  split at hx
  · rename_i b
    obtain ⟨q1, q2, hx⟩ := two hx
    have q1' : b.size < 4294967281 := by simpa [Nat.blt_eq] using q1
    split at hx
    · rename_i r s2 hn
      cases hx
      match args', hr with
      | [y], hr =>
        have hy : y = .string b := hr.1
        subst hy
        have hc := h b w hs.below q1' (fun j c hj => by
          have := List.all_eq_true.1 q2 c (List.mem_of_getElem? hj)
          simpa [Nat.blt_eq] using this)
        refine (callsIn_wide.2 hc).mono ?_
        rintro en w' ⟨rfl, rfl⟩
        have hR : AV.Rs ρ ((Lib.fields b.data.toList).map fun l => AV.vl (.string ⟨l.toArray⟩)) (((Lib.fields b.data.toList).map fun l => Value.string ⟨l.toArray⟩).toArray).toList := by
          have := AV.Rs.vs (ρ := ρ) ((Lib.fields b.data.toList).map fun l => Value.string ⟨l.toArray⟩)
          rw [List.map_map] at this
          exact this
        obtain ⟨h1, h2, h3⟩ := hs.row hn hR
        exact ⟨_, _, _, _, List.mem_cons_self, h1, rfl, ⟨_, _, h2, rfl⟩, h3⟩
      | [], hr => simp [AV.Rs] at hr
      | _ :: _ :: _, hr => simp [AV.Rs] at hr
    · cases hx
  · cases hx
noncomputable def isT : Rs × St → Bool
  | (.val (.vl (.bool true)), _) => true
  | _ => false
noncomputable def evT (P : Program) (xr : FuncId → List AV → St → Option (Option (AV × St))) (k : Nat) (f : FuncId) : Bool := match ev P xr k (.fn f []) ⟨0, .u .dead⟩ with
  | some L => L.all isT
  | none => false
theorem satE_nil (w : World) : SatE w [] ⟨0, .u .dead⟩ w := ⟨Below.refl _ _, rfl, by simp, fun b r c h => by simp at h, fun b b' r c c' h => by simp at h⟩
theorem evT_pure {k : Nat} {f : FuncId} {T : World → Prop} (hm : P.follows .mixedOrders = true) (hn : namesOk P) (hx : ∀ w0 w, T w0 → Below w0.heap.size w0 w → Exts P w xr) (h : evT P xr k f = true) : Pure P T f [] (.bool true) := by
  intro w0 H hT w hs
  unfold evT at h
  split at h
  · rename_i L he
    have hg := good hm hn (hx w0 w hT hs.below) k
    have hc := hg.fn he (ρ := []) (w := w) (args' := []) trivial (satE_nil w)
    refine hc.mono ?_
    rintro e w' ⟨v, s', ρ', u, hm', _, rfl, hu, hs'⟩
    have := List.all_eq_true.1 h _ hm'
    unfold isT at this
    split at this
    · rename_i heq
      cases heq
      cases hu
      exact ⟨_, _, rfl, ⟨rfl, rfl⟩, hs.below' hs'.below⟩
    · cases this
  · cases h
end
end Go.Sl.Ev
namespace Go.Sl.Ev
open Go.RowKit
mutual
noncomputable def gr : AV → Option Value
  | .vl x => some x
  | .tu l => match grs l with
    | some m => some (.tuple m.toArray)
    | none => none
  | .ag l => match grs l with
    | some m => some (.agg m.toArray)
    | none => none
  | _ => none
noncomputable def grs : List AV → Option (List Value)
  | [] => some []
  | x :: l => match gr x with
    | some y => match grs l with
      | some m => some (y :: m)
      | none => none
    | none => none
end
mutual
theorem gr_spec {ρ : Rho} : ∀ {v : AV} {x u : Value}, gr v = some x → AV.R ρ v u → u = x
  | .vl y, x, u, h, hr => by
    simp only [gr, Option.some.injEq] at h
    subst h; exact hr
  | .tu l, x, u, h, hr => by
    simp only [gr] at h
    split at h
    · rename_i m hm
      cases h
      obtain ⟨l', rfl, h2⟩ := hr
      rw [← grs_spec hm h2]
    · cases h
  | .ag l, x, u, h, hr => by
    simp only [gr] at h
    split at h
    · rename_i m hm
      cases h
      obtain ⟨l', rfl, h2⟩ := hr
      rw [← grs_spec hm h2]
    · cases h
  | .pt _ _, _, _, h, _ => by simp [gr] at h
  | .sl _ _ _ _, _, _, h, _ => by simp [gr] at h
  | .sz _ _ _ _, _, _, h, _ => by simp [gr] at h
  | .em, _, _, h, _ => by simp [gr] at h
  | .fn _ _ _, _, _, h, _ => by simp [gr] at h
  | .yi _, _, _, h, _ => by simp [gr] at h
  | .mh _, _, _, h, _ => by simp [gr] at h
theorem grs_spec {ρ : Rho} : ∀ {l : List AV} {m us : List Value}, grs l = some m → AV.Rs ρ l us → us = m
  | [], m, [], h, _ => by
    simp only [grs, Option.some.injEq] at h
    exact h
  | [], _, _ :: _, _, hr => by simp [AV.Rs] at hr
  | _ :: _, _, [], _, hr => by simp [AV.Rs] at hr
  | x :: l, m, u :: us, h, hr => by
    simp only [grs] at h
    split at h
    · rename_i y hy
      split at h
      · rename_i m' hm
        cases h
        rw [gr_spec hy hr.1, grs_spec hm hr.2]
      · cases h
    · cases h
end
section
variable {P : Program} {xr : FuncId → List AV → St → Option (Option (AV × St))}
noncomputable def evG (P : Program) (xr : FuncId → List AV → St → Option (Option (AV × St))) (k : Nat) (f : FuncId) (args : List AV) : Option Value := match ev P xr k (.fn f args) ⟨0, .u .dead⟩ with
  | some [(.val v, _)] => gr v
  | _ => none
theorem exts_none (P : Program) (w0 : World) : Exts P w0 (fun _ _ _ => none) := ⟨fun h => (by cases h), fun h => (by cases h)⟩
theorem evG_pure {k : Nat} {f : FuncId} {args : List AV} {args' : List Value} {x : Value} {T : World → Prop} (hm : P.follows .mixedOrders = true) (hn : namesOk P) (hx : ∀ w0 w, T w0 → Below w0.heap.size w0 w → Exts P w xr) (ha : AV.Rs [] args args') (h : evG P xr k f args = some x) : Pure P T f args' x := by
  intro w0 H hT w hs
  unfold evG at h
  split at h
  · rename_i v s' he
    have hg := good hm hn (hx w0 w hT hs.below) k
    have hc := hg.fn he (ρ := []) (w := w) ha (satE_nil w)
    refine hc.mono ?_
    rintro e w' ⟨v2, s2, ρ', u, hm', _, rfl, hu, hs'⟩
    cases List.mem_singleton.1 hm'
    exact ⟨_, _, rfl, ⟨gr_spec h hu, rfl⟩, hs.below' hs'.below⟩
  · cases h
end
end Go.Sl.Ev
namespace Go.Sl
open Go.RowKit
theorem OwnS.toHolds {w0 : World} {e : TypeId} {s : Nat} {ad : Option Addr} {n cap : Nat} {xs : List Value} {HB H : Heap} (h : OwnS e s (.slice ad n cap) n xs HB) (hs : ∀ p ∈ HB, p ∈ H) : Holds w0 H ad xs := by
  obtain ⟨ad', cap', e', _, _, hh⟩ := Holds.of_own (w0 := w0) (H := H) h hs
  cases e'
  exact hh
end Go.Sl
namespace Go.Sl
open Go.RowKit
section
variable {P : Program} {C : World → Prop} {K : Act → World → Prop} {n : Nat} {ops : Array Oper} {env : Env} {rest : List Oper} {op : Op} {ty : TypeId} {v : Value} {pos : String} {aft : Array Edge}
end
theorem Ex.mono {P : Program} {n : Nat} {env : Env} {C C' : World → Prop} {op : Op} {ty : TypeId} {v : Value} (h : ∀ w, C w → C' w) (hx : Ex P n env C' op ty v) : Ex P n env C op ty v := fun a w d pos aft g ha hw => hx a w d pos aft g ha (h w hw)
end Go.Sl
