/-
  Own work: the small logic, its rules for the operations that are guarded by others; of any program.
-/
import Derived.Test.YtknbohnoiigioaaSlCall
set_option linter.all false
set_option linter.unusedSimpArgs false
set_option linter.unusedVariables false
namespace Go.Sl
open Go.RowKit

/-! ## '&&' and '||': the guarded operations are walked once; their ways meet again at the pick -/
def isPick (dj : Nat) (o : Oper) : Bool :=
  match o.op with
  | .pick (.tmp t) _ _ => Nat.beq t dj
  | _ => false
def spanPick (dj : Nat) : List Oper → Option (List Oper × Oper × List Oper)
  | [] => none
  | o :: l => bif isPick dj o then some ([], o, l) else
    match spanPick dj l with
    | some (g, p, r) => some (o :: g, p, r)
    | none => none
theorem spanPick_eq {dj : Nat} : ∀ {l g : List Oper} {p : Oper} {r : List Oper}, spanPick dj l = some (g, p, r) → l = g ++ p :: r
  | [], _, _, _, h => by simp [spanPick] at h
  | o :: l, g, p, r, h => by
    simp only [spanPick] at h
    cases hp : isPick dj o with
    | true => rw [hp] at h; simp at h; obtain ⟨rfl, rfl, rfl⟩ := h; rfl
    | false =>
      rw [hp] at h
      simp only [cond_false] at h
      cases hs : spanPick dj l with
      | none => rw [hs] at h; cases h
      | some x =>
        obtain ⟨g', p', r'⟩ := x
        rw [hs] at h
        simp only [Option.some.injEq, Prod.mk.injEq] at h
        obtain ⟨rfl, rfl, rfl⟩ := h
        rw [spanPick_eq hs]; rfl
/-- the slot on which an operation's guard looks -/
def gslot (all : Array Oper) (o : Oper) : Option Nat :=
  match o.guard with
  | some jb => (all[jb.1]?).bind (·.dst)
  | none => none
/-- every operation of the list is passed over: its guard's slot is one of 'dead' -/
def skips (all : Array Oper) : List Nat → List Oper → Bool
  | _, [] => true
  | dead, o :: l =>
    match o.dst with
    | some d =>
      match gslot all o with
      | some x => dead.elem x && skips all (d :: dead) l
      | none => false
    | none => false
def freshOps (env : Env) : List Oper → Bool
  | [] => true
  | o :: l =>
    match o.dst with
    | some d => (look env d).isNone && freshOps env l
    | none => freshOps env l
section
variable {P : Program} {rd : Option Nat} {w0 : World} {Q : Exit → Act → World → Prop} {n : Nat} {ds : List Deferred} {k : List It} {env env' : Env} {H H' : Heap} {all : Array Oper} {rest : List Oper}
theorem skips_mono {all : Array Oper} : ∀ (l : List Oper) (D D' : List Nat), (∀ x, x ∈ D → x ∈ D') → skips all D l = true → skips all D' l = true
  | [], _, _, _, _ => rfl
  | o :: l, D, D', hDD, h => by
    simp only [skips] at h ⊢
    cases hd : o.dst with
    | none => simp [hd] at h
    | some d =>
      cases hg : gslot all o with
      | none => simp [hd, hg] at h
      | some y =>
        simp only [hd, hg, Bool.and_eq_true, List.elem_eq_mem, decide_eq_true_eq] at h ⊢
        exact ⟨hDD _ h.1, skips_mono l _ _ (fun x hx => by
          cases hx with
          | head => exact List.mem_cons_self
          | tail _ hx => exact List.mem_cons_of_mem _ (hDD x hx)) h.2⟩
theorem wp_skips {b0 : Bool} {dj : Nat} : ∀ (l l2 : List Oper) (dead : List Nat) (a : Act) (w : World),
    skips all (dj :: dead) l = true → freshOps ((dj, .bool b0) :: env) l = true → (∀ o ∈ l, ∀ j b, o.guard = some (j, b) → gslot all o = some dj → b = !b0) →
    Agree n ((dj, .bool b0) :: env) a → (∀ x ∈ dead, x ≠ dj → a.tmps.getD x undef = undef) → a.defers = ds →
    (∀ a', Agree n ((dj, .bool b0) :: env) a' → a'.defers = ds → wpListIn (fen rd) 0 P all (Cont P rd Q k) l2 a' w) → wpListIn (fen rd) 0 P all (Cont P rd Q k) (l ++ l2) a w
  | [], l2, dead, a, w, _, _, _, ha, _, hd, hK => hK a ha hd
  | o :: l, l2, dead, a, w, hsk, hfr, hg, ha, hdead, hd, hK => by
    simp only [skips] at hsk
    cases hdo : o.dst with
    | none => simp [hdo] at hsk
    | some d =>
      cases hgs : gslot all o with
      | none => simp [hdo, hgs] at hsk
      | some x =>
        simp only [hdo, hgs, Bool.and_eq_true, List.elem_eq_mem, decide_eq_true_eq] at hsk
        obtain ⟨hx, hsk⟩ := hsk
        simp only [freshOps, hdo, Bool.and_eq_true, Option.isNone_iff_eq_none] at hfr
        obtain ⟨j, b, hgo, hdj⟩ : ∃ j b, o.guard = some (j, b) ∧ (all[j]?).bind (·.dst) = some x := by
          unfold gslot at hgs
          cases hgo : o.guard with
          | none => simp [hgo] at hgs
          | some jb => exact ⟨jb.1, jb.2, rfl, by simpa [hgo] using hgs⟩
        have hwant : ¬ (Region.wanted o (yielded all a.tmps) = true) := by
          simp only [Region.wanted, hgo, yielded, hdj, Option.bind_some]
          by_cases hxd : x = dj
          · subst hxd
            have hv := ha.val x (.bool b0) (by simp [look])
            have hb := hg o List.mem_cons_self j b hgo hgs
            subst hb
            cases hc : a.tmps[x]? with
            | none => simp
            | some u =>
              rw [Array.getD_eq_getD_getElem?, hc] at hv
              simp only [Option.getD_some] at hv
              subst hv
              cases b0 <;> simp
          · have hu := hdead x (by cases hx with
              | head => exact absurd rfl hxd
              | tail _ h => exact h) hxd
            cases hc : a.tmps[x]? with
            | none => simp
            | some u =>
              rw [Array.getD_eq_getD_getElem?, hc] at hu
              simp only [Option.getD_some] at hu
              subst hu
              simp [undef]
        show wpListIn (fen rd) 0 P all (Cont P rd Q k) (o :: (l ++ l2)) a w
        unfold wpListIn
        rw [if_neg hwant]
        refine ⟨fun _ _ => trivial, ?_⟩
        have hput : ∀ y, y ≠ d → (a.put o.dst undef).tmps.getD y undef = a.tmps.getD y undef := fun y hy => by
          simp only [Act.put, hdo, Array.getD_eq_getD_getElem?]
          rw [Array.getElem?_setIfInBounds_ne (fun e => hy e.symm)]
        have hputd : (a.put o.dst undef).tmps.getD d undef = undef := by
          simp only [Act.put, hdo, Array.getD_eq_getD_getElem?, Array.getElem?_setIfInBounds]
          by_cases hdl : d < a.tmps.size
          · simp [hdl]
          · simp [hdl]
        refine wp_skips l l2 (d :: dead) (a.put o.dst undef) w ?_ hfr.2 (fun o' ho' => hg o' (List.mem_cons_of_mem _ ho')) ?_ ?_ (by simp [Act.put, hdo, hd]) hK
        · exact skips_mono l _ _ (fun x hx => by
            cases hx with
            | head => exact List.mem_cons_of_mem _ List.mem_cons_self
            | tail _ hx => cases hx with
              | head => exact List.mem_cons_self
              | tail _ hx => exact List.mem_cons_of_mem _ (List.mem_cons_of_mem _ hx)) hsk
        · refine ⟨by simp [Act.put, hdo, ha.size], fun y v hy => ?_⟩
          have hyd : y ≠ d := fun e => by subst e; rw [hfr.1] at hy; cases hy
          rw [hput y hyd]
          exact ha.val y v hy
        · intro y hy hyd
          by_cases hyd' : y = d
          · subst hyd'; exact hputd
          · rw [hput y hyd']
            exact hdead y (by cases hy with
              | head => exact absurd rfl hyd'
              | tail _ h => exact h) hyd
/-- 'cur' says all that E says -/
inductive Ext (E : Env) : Env → Prop
  | refl : Ext E E
  | cons {x : Nat} {v : Value} {cur : Env} (h : look E x = none) (hs : Ext E cur) : Ext E ((x, v) :: cur)
theorem Ext.look {E cur : Env} (h : Ext E cur) : ∀ x v, Sl.look E x = some v → Sl.look cur x = some v := by
  induction h with
  | refl => exact fun _ _ h => h
  | @cons x u cur' hn _ ih =>
    intro y v hy
    simp only [Sl.look]
    by_cases hxy : x = y
    · subst hxy; rw [hn] at hy; cases hy
    · rw [nbeq_false hxy]; exact ih y v hy
/-- behind the guarded operations: the slot 's' holds 'v', and all that E says stands -/
def Met (w0 : World) (n : Nat) (ds : List Deferred) (s : Operand) (v : Value) (E : Env) (H : Heap) (a : Act) (w : World) : Prop :=
  Agree n E a ∧ a.eval s = v ∧ a.defers = ds ∧ Sat w0 H w
theorem W_met {s : Operand} {v : Value} {E : Env} (hv : opv env s = some v) (hx : Ext E env) : W P rd w0 Q n ds (.ops all [] :: .goal (Met w0 n ds s v E H) :: k) env H :=
  fun a w ha hd hs => ⟨⟨ha.size, fun y u hy => ha.val _ _ (hx.look _ _ hy)⟩, ha.opv hv, hd, hs⟩
def wantsAll (all : Array Oper) (dj : Nat) (b : Bool) (l : List Oper) : Bool :=
  l.all fun o => match o.guard, gslot all o with
    | some (_, b'), some x => !(Nat.beq x dj) || (b' == b)
    | _, _ => true
theorem Agree.here {E : Env} {a : Act} {x : Nat} {v : Value} (h : Agree n E a) (hx : look E x = some v) : Agree n ((x, v) :: E) a := ⟨h.size, fun y u hy => by
  simp only [look] at hy
  by_cases hsy : x = y
  · subst hsy
    have : Nat.beq x x = true := by simp
    rw [this] at hy
    simp at hy; subst hy
    exact h.val _ _ hx
  · rw [nbeq_false hsy] at hy
    exact h.val _ _ hy⟩
theorem Agree.unhere {E : Env} {a : Act} {x : Nat} {v : Value} (h : Agree n ((x, v) :: E) a) (hx : ∀ u, look E x = some u → u = v) : Agree n E a := ⟨h.size, fun y u hy => by
  by_cases hsy : x = y
  · subst hsy
    rw [hx u hy]
    exact h.val _ _ (by simp [look])
  · exact h.val _ _ (by simp only [look, nbeq_false hsy]; exact hy)⟩
theorem wp_met {J : Act → World → Prop} : ∀ (l1 l2 : List Oper) (a : Act) (w : World),
    wpListIn (fen rd) 0 P all (Cont P rd Q (.goal J :: k)) l1 a w →
    (∀ a w, J a w → wpListIn (fen rd) 0 P all (Cont P rd Q k) l2 a w) →
    wpListIn (fen rd) 0 P all (Cont P rd Q k) (l1 ++ l2) a w
  | [], _, a, w, h1, h2 => h2 a w h1
  | o :: l1, l2, a, w, h1, h2 => by
    show wpListIn (fen rd) 0 P all (Cont P rd Q k) (o :: (l1 ++ l2)) a w
    unfold wpListIn at h1 ⊢
    split at h1
    · rename_i hw
      rw [if_pos hw]
      refine ⟨h1.1, ?_⟩
      have h3 := h1.2
      generalize (o.semAt (fen rd).round a.eval).run P w = r at h3 ⊢
      cases r with
      | ok x w' =>
        cases x <;> simp only [Oper.uponIn] at h3 ⊢
        case value v => exact wp_met l1 l2 _ _ h3 h2
        case skip => exact wp_met l1 l2 _ _ h3 h2
        case defer d => exact wp_met l1 l2 _ _ h3 h2
        case enter f args =>
          refine ⟨h3.1, h3.2.mono ?_⟩
          intro e w'' he
          cases e with
          | returned v => exact wp_met l1 l2 _ _ he h2
          | panicked c => exact he
          | outgrown => exact he
        case row r args => exact ⟨h3.1, h3.2.mono fun v w'' he => wp_met l1 l2 _ _ he h2⟩
        case round l f tmps as body =>
          refine ⟨h3.1, h3.2.mono ?_⟩
          intro e w'' he
          cases e with
          | returned v => exact wp_met l1 l2 _ _ he h2
          | panicked c => exact he
          | outgrown => exact he
      | halt x w' => cases x <;> simp only [Oper.uponIn] at h3 ⊢ <;> exact h3
    · rename_i hw
      rw [if_neg hw]
      exact ⟨h1.1, wp_met l1 l2 _ _ h1.2 h2⟩
/-- a guard that is known to hold (or none) -/
def gok (all : Array Oper) (env : Env) : Option (Nat × Bool) → Bool
  | none => true
  | some (j, b) =>
    match (all[j]?).bind (·.dst) with
    | some x => match look env x with
      | some (.bool c) => c == b
      | _ => false
    | none => false
theorem Agree.yielded {E : Env} {a : Act} (ha : Agree n E a) {j x : Nat} {b : Bool} (hj : (all[j]?).bind (·.dst) = some x) (ht : look E x = some (.bool b)) : yielded all a.tmps j = some b := by
  have hv := ha.val _ _ ht
  unfold Go.yielded
  rw [hj]
  simp only [Option.bind_some]
  have hlt : x < a.tmps.size := by
    rcases Nat.lt_or_ge x a.tmps.size with h | h
    · exact h
    · rw [Array.getD_eq_getD_getElem?, Array.getElem?_eq_none h] at hv; simp [undef] at hv
  rw [Array.getD_eq_getD_getElem?, Array.getElem?_eq_getElem hlt] at hv
  rw [Array.getElem?_eq_getElem hlt]
  simp only [Option.getD_some] at hv
  rw [hv]
theorem wanted_gok {E : Env} {a : Act} (ha : Agree n E a) {d : Option Nat} {op : Op} {ty : TypeId} {pos : String} {aft : Array Edge} {pg : Option (Nat × Bool)} (h : gok all E pg = true) : Region.wanted ⟨d, op, ty, pos, aft, pg⟩ (Go.yielded all a.tmps) = true := by
  cases pg with
  | none => rfl
  | some jb =>
    obtain ⟨j, b⟩ := jb
    simp only [gok] at h
    split at h
    · rename_i x hx
      split at h
      · rename_i c hc
        have := ha.yielded hx hc
        simp only [Region.wanted, this]
        cases c <;> cases b <;> simp_all
      · cases h
    · cases h
theorem W_short {b0 t c : Bool} {j dj d : Nat} {G rest : List Oper} {d0 : Option Nat} {op0 : Op} {ty0 : TypeId} {pos0 : String} {aft0 : Array Edge} {l : List Oper} {s px py : Operand} {ty : TypeId} {pos : String} {aft : Array Edge} {pg : Option (Nat × Bool)}
    (hj : (all[j]?).bind (·.dst) = some dj) (ht : look env dj = some (.bool t))
    (hl : spanPick dj (⟨d0, op0, ty0, pos0, aft0, some (j, b0)⟩ :: l) = some (G, ⟨some d, .pick (.tmp dj) px py, ty, pos, aft, pg⟩, rest))
    (hchk : (skips all [dj] G && freshOps ((dj, .bool b0) :: env) G && wantsAll all dj b0 G && dok n (some d) && gok all env pg) = true)
    (hx : (if b0 = true then px else py) = s) (hy : (if b0 = true then py else px) = .const (.bool (!b0)))
    (h1 : t = b0 → W P rd w0 Q n ds (.ops all G :: .goal (Met w0 n ds s (.bool c) ((dj, .bool b0) :: env) H) :: k) ((dj, .bool b0) :: env) H)
    (h2 : W P rd w0 Q n ds (.ops all rest :: k) ((d, .bool (bif b0 then t && c else t || c)) :: env) H) :
    W P rd w0 Q n ds (.ops all (⟨d0, op0, ty0, pos0, aft0, some (j, b0)⟩ :: l) :: k) env H := by
  intro a w ha hds hs
  show wpListIn (fen rd) 0 P all (Cont P rd Q k) (_ :: l) a w
  rw [spanPick_eq hl]
  simp only [Bool.and_eq_true] at hchk
  obtain ⟨⟨⟨⟨c1, c2⟩, c4⟩, c5⟩, c6⟩ := hchk
  have pick : ∀ (a' : Act) (w' : World), Agree n env a' → a'.defers = ds → Sat w0 H w' → (t = b0 → a'.eval s = .bool c) →
      wpListIn (fen rd) 0 P all (Cont P rd Q k) (⟨some d, .pick (.tmp dj) px py, ty, pos, aft, pg⟩ :: rest) a' w' := by
    intro a' w' ha' hds' hs' hev
    have hdj : a'.eval (.tmp dj) = .bool t := ha'.val _ _ ht
    have hval : (if t = true then a'.eval px else a'.eval py) = .bool (bif b0 then t && c else t || c) := by
      cases b0 with
      | true =>
        simp only [if_true] at hx hy
        subst hx hy
        cases t with
        | true => simpa using hev rfl
        | false => simp [Act.eval]
      | false =>
        simp only [Bool.false_eq_true, if_false] at hx hy
        subst hx hy
        cases t with
        | true => simp [Act.eval]
        | false => simpa using hev rfl
    unfold wpListIn
    rw [if_pos (wanted_gok ha' c6)]
    refine ⟨fun _ _ => trivial, ?_⟩
    rw [Oper.semAt_eq _ _ _ (fun _ h => by cases h)]
    have : (execOp a'.eval ⟨some d, .pick (.tmp dj) px py, ty, pos, aft, pg⟩).run P w' = .ok (.value (.bool (bif b0 then t && c else t || c))) w' := by
      rw [← hval]
      cases t <;> simp [execOp, hdj, asBool]
    rw [this, Oper.uponIn_value]
    exact h2 _ w' (ha'.put c5) hds' hs'
  by_cases htb : t = b0
  · subst htb
    refine wp_met G _ a w (h1 rfl a w (ha.here ht) hds hs) ?_
    rintro a' w' ⟨ha', hev, hds', hs'⟩
    exact pick a' w' (ha'.unhere (fun u hu => by rw [ht] at hu; exact (Option.some.inj hu).symm)) hds' hs' (fun _ => hev)
  · have htn : t = !b0 := by cases t <;> cases b0 <;> simp_all
    have hfr : ∀ (G : List Oper), freshOps ((dj, .bool b0) :: env) G = true → freshOps ((dj, .bool t) :: env) G = true := by
      intro G
      induction G with
      | nil => exact fun _ => rfl
      | cons o G ih =>
        intro h
        simp only [freshOps] at h ⊢
        cases hod : o.dst with
        | none => simp only [hod] at h; exact ih h
        | some d' =>
          simp only [hod, Bool.and_eq_true, Option.isNone_iff_eq_none] at h ⊢
          refine ⟨?_, ih h.2⟩
          have := h.1
          simp only [look] at this ⊢
          cases hb : Nat.beq dj d' with
          | true => rw [hb] at this; simp at this
          | false => rw [hb] at this; simpa using this
    refine wp_skips (b0 := t) (dj := dj) G _ [] a w c1 (hfr G c2) ?_ (ha.here ht) (fun _ h => by cases h) hds ?_
    · intro o' ho' j' b' hg' hgs'
      have := List.all_eq_true.1 c4 o' ho'
      simp only [hg', hgs'] at this
      have hbb : Nat.beq dj dj = true := by simp
      rw [hbb] at this
      simp at this
      rw [this, htn]; simp
    · intro a' ha' hds'
      exact pick a' w (ha'.unhere (fun u hu => by rw [ht] at hu; exact (Option.some.inj hu).symm)) hds' hs (fun e => absurd e htb)
end
end Go.Sl
namespace Go.Sl
section
variable {P : Program} {rd : Option Nat} {w0 : World} {Q : Exit → Act → World → Prop} {n : Nat} {ds : List Deferred} {k : List It} {env env' : Env} {H H' : Heap} {all : Array Oper} {rest : List Oper}
theorem W_sr {id : Nat} {l : List Oper} {y : Code} (h : W P rd w0 Q n ds (.ops l.toArray l :: .code y :: k) env H) : W P rd w0 Q n ds (.code (.seq (.region id l.toArray false) y) :: k) env H :=
  W_seq (W_region h)
theorem W_ss {x y z : Code} (h : W P rd w0 Q n ds (.code x :: .code y :: .code z :: k) env H) : W P rd w0 Q n ds (.code (.seq (.seq x y) z) :: k) env H :=
  W_seq (W_seq h)
theorem W_condT {c : Operand} {x y : Code} {t : Bool} (hc : opv env c = some (.bool t)) (ht : t = true) (h : W P rd w0 Q n ds (.code x :: k) env H) : W P rd w0 Q n ds (.code (.cond c x y) :: k) env H :=
  W_cond hc (fun _ => h) (fun hf => absurd (ht.symm.trans hf) (by simp))
theorem W_condF {c : Operand} {x y : Code} {t : Bool} (hc : opv env c = some (.bool t)) (ht : t = false) (h : W P rd w0 Q n ds (.code y :: k) env H) : W P rd w0 Q n ds (.code (.cond c x y) :: k) env H :=
  W_cond hc (fun hf => absurd (ht.symm.trans hf) (by simp)) (fun _ => h)
/-- a test on a slot: the slot is known behind it -/
theorem W_condS {s : Nat} {x y : Code} {t : Bool} (hc : look env s = some (.bool t)) (ht : t = true → W P rd w0 Q n ds (.code x :: k) ((s, .bool true) :: env) H)
    (hf : t = false → W P rd w0 Q n ds (.code y :: k) ((s, .bool false) :: env) H) : W P rd w0 Q n ds (.code (.cond (.tmp s) x y) :: k) env H := by
  refine W_cond (x := x) (y := y) (c := .tmp s) (t := t) hc (fun e => ?_) (fun e => ?_)
  · intro a w ha hd hs
    exact ht e a w (ha.here (by rw [hc, e])) hd hs
  · intro a w ha hd hs
    exact hf e a w (ha.here (by rw [hc, e])) hd hs
theorem W_condPS {s : Nat} {x y : Code} {t : Bool} {p : Prop} (hc : look env s = some (.bool t)) (hp : t = true ↔ p) (ht : p → W P rd w0 Q n ds (.code x :: k) ((s, .bool true) :: env) H)
    (hf : ¬ p → W P rd w0 Q n ds (.code y :: k) ((s, .bool false) :: env) H) : W P rd w0 Q n ds (.code (.cond (.tmp s) x y) :: k) env H :=
  W_condS hc (fun e => ht (hp.1 e)) (fun e => hf (fun h => by rw [hp.2 h] at e; cases e))
/-- a test of which the proposition is wanted -/
theorem W_condP {c : Operand} {x y : Code} {t : Bool} {p : Prop} (hc : opv env c = some (.bool t)) (hp : t = true ↔ p) (ht : p → W P rd w0 Q n ds (.code x :: k) env H)
    (hf : ¬ p → W P rd w0 Q n ds (.code y :: k) env H) : W P rd w0 Q n ds (.code (.cond c x y) :: k) env H :=
  W_cond hc (fun e => ht (hp.1 e)) (fun e => hf (fun h => by rw [hp.2 h] at e; cases e))
end
end Go.Sl
namespace Go.Sl
section
variable {P : Program} {rd : Option Nat} {w0 : World} {Q : Exit → Act → World → Prop} {n : Nat} {ds : List Deferred} {k : List It} {env env' : Env} {H H' : Heap} {all : Array Oper} {rest : List Oper}
theorem W_and {t c : Bool} {j dj d : Nat} {G rest : List Oper} {d0 : Option Nat} {op0 : Op} {ty0 : TypeId} {pos0 : String} {aft0 : Array Edge} {l : List Oper} {s : Operand} {ty : TypeId} {pos : String} {aft : Array Edge} {pg : Option (Nat × Bool)}
    (hj : (all[j]?).bind (·.dst) = some dj) (ht : look env dj = some (.bool t))
    (hl : spanPick dj (⟨d0, op0, ty0, pos0, aft0, some (j, true)⟩ :: l) = some (G, ⟨some d, .pick (.tmp dj) s (.const (.bool false)), ty, pos, aft, pg⟩, rest))
    (hchk : (skips all [dj] G && freshOps ((dj, .bool true) :: env) G && wantsAll all dj true G && dok n (some d) && gok all env pg) = true)
    (h1 : t = true → W P rd w0 Q n ds (.ops all G :: .goal (Met w0 n ds s (.bool c) ((dj, .bool true) :: env) H) :: k) ((dj, .bool true) :: env) H)
    (h2 : W P rd w0 Q n ds (.ops all rest :: k) ((d, .bool (t && c)) :: env) H) :
    W P rd w0 Q n ds (.ops all (⟨d0, op0, ty0, pos0, aft0, some (j, true)⟩ :: l) :: k) env H :=
  W_short hj ht hl hchk rfl rfl h1 h2
theorem W_or {t c : Bool} {j dj d : Nat} {G rest : List Oper} {d0 : Option Nat} {op0 : Op} {ty0 : TypeId} {pos0 : String} {aft0 : Array Edge} {l : List Oper} {s : Operand} {ty : TypeId} {pos : String} {aft : Array Edge} {pg : Option (Nat × Bool)}
    (hj : (all[j]?).bind (·.dst) = some dj) (ht : look env dj = some (.bool t))
    (hl : spanPick dj (⟨d0, op0, ty0, pos0, aft0, some (j, false)⟩ :: l) = some (G, ⟨some d, .pick (.tmp dj) (.const (.bool true)) s, ty, pos, aft, pg⟩, rest))
    (hchk : (skips all [dj] G && freshOps ((dj, .bool false) :: env) G && wantsAll all dj false G && dok n (some d) && gok all env pg) = true)
    (h1 : t = false → W P rd w0 Q n ds (.ops all G :: .goal (Met w0 n ds s (.bool c) ((dj, .bool false) :: env) H) :: k) ((dj, .bool false) :: env) H)
    (h2 : W P rd w0 Q n ds (.ops all rest :: k) ((d, .bool (t || c)) :: env) H) :
    W P rd w0 Q n ds (.ops all (⟨d0, op0, ty0, pos0, aft0, some (j, false)⟩ :: l) :: k) env H :=
  W_short hj ht hl hchk rfl rfl h1 h2
end
end Go.Sl
