/-
  Own work: a small logic for walking through a function's code: facts on slots, owned blocks of memory, and the rules of sequence, block, condition, exit and loop; of any program.
-/
import Derived.WalkKit
import Derived.RangeFuncRecord
import Derived.Sort.QuietThIn
import Derived.Sort.LoopGhostIn
import Derived.ProofKit
import Derived.OpenShut
import Derived.Deep.DeepHandedRow
import Derived.Deep.DeepWitnessRowRef
import Derived.Lib.LaidTab
import Derived.SevenTiedAt
set_option linter.all false
set_option linter.unusedSimpArgs false
set_option linter.unusedVariables false
namespace Go.Sl
open Go.RowKit

/-! ## Facts on slots -/
abbrev Env := List (Nat × Value)
def look : Env → Nat → Option Value
  | [], _ => none
  | (y, v) :: e, x => bif Nat.beq y x then some v else look e x
def opv (env : Env) : Operand → Option Value
  | .tmp t => look env t
  | .const v => some v
  | .global g => some (.pointer (some ⟨g, 0, none⟩))
  | .func f => some (.func (.func f) #[] #[])
theorem nbeq_false {a b : Nat} (h : ¬ a = b) : Nat.beq a b = false := by
  cases hb : Nat.beq a b with
  | false => rfl
  | true => exact absurd (Nat.eq_of_beq_eq_true hb) h
structure Agree (n : Nat) (env : Env) (a : Act) : Prop where
  size : a.tmps.size = n
  val : ∀ x v, look env x = some v → a.tmps.getD x undef = v
theorem Agree.opv {n : Nat} {env : Env} {a : Act} (h : Agree n env a) {x : Operand} {v : Value} (hx : opv env x = some v) : a.eval x = v := by
  cases x with
  | tmp t => exact h.val t v hx
  | const u => simpa [Sl.opv, Act.eval] using hx
  | global g => simpa [Sl.opv, Act.eval] using hx
  | func f => simpa [Sl.opv, Act.eval] using hx
def put (d : Option Nat) (v : Value) (env : Env) : Env :=
  match d with
  | some d => (d, v) :: env
  | none => env
def dok (n : Nat) (d : Option Nat) : Bool :=
  match d with
  | some d => Nat.blt d n
  | none => true
theorem Agree.put {n : Nat} {env : Env} {a : Act} (h : Agree n env a) {d : Option Nat} {v : Value} (hd : dok n d = true) : Agree n (put d v env) (a.put d v) := by
  cases d with
  | none => exact h
  | some d =>
    have hd' : d < n := by simpa [dok, Nat.blt_eq] using hd
    refine ⟨by simp [Act.put, h.size], fun x u hx => ?_⟩
    simp only [Sl.put, look] at hx
    by_cases hxd : d = x
    · subst hxd
      have hx' : v = u := by simpa using hx
      subst hx'
      simp [Act.put, Array.getD_eq_getD_getElem?, h.size, hd']
    · have hbeq : Nat.beq d x = false := nbeq_false hxd
      rw [hbeq] at hx
      have := h.val x u (by simpa using hx)
      simp only [Act.put, Array.getD_eq_getD_getElem?] at this ⊢
      rw [Array.getElem?_setIfInBounds_ne hxd]
      exact this
/-- facts may be forgotten -/
def sub (env' env : Env) : Prop := ∀ p ∈ env', look env p.1 = some p.2
theorem Agree.weaken {n : Nat} {env env' : Env} {a : Act} (h : Agree n env a) (hs : ∀ x v, look env' x = some v → look env x = some v) : Agree n env' a :=
  ⟨h.size, fun x v hx => h.val x v (hs x v hx)⟩
theorem look_mem : ∀ {env : Env} {x : Nat} {v : Value}, look env x = some v → (x, v) ∈ env
  | (y, u) :: e, x, v, h => by
    simp only [look] at h
    by_cases hxy : Nat.beq y x = true
    · rw [hxy] at h
      have : y = x := by simpa using hxy
      subst this
      have : u = v := by simpa using h
      subst this
      exact List.mem_cons_self
    · have hf : Nat.beq y x = false := by cases hb : Nat.beq y x <;> simp_all
      rw [hf] at h
      exact List.mem_cons_of_mem _ (look_mem (by simpa using h))
theorem look_of_sub {env env' : Env} (h : sub env' env) : ∀ x v, look env' x = some v → look env x = some v :=
  fun x v hx => h (x, v) (look_mem hx)
theorem sub_nil (env : Env) : sub [] env := fun _ h => by cases h
theorem sub_cons {x : Nat} {v : Value} {e env : Env} (h : look env x = some v) (hs : sub e env) : sub ((x, v) :: e) env := fun p hp => by
  cases hp with
  | head => exact h
  | tail _ h' => exact hs p h'

/-! ## Memory -/
inductive Blk where
  | cells (e : TypeId) (tot : Nat) (l : List Value)
  | obj (o : Obj)
abbrev Heap := List (Nat × Blk)
def At (w : World) (b : Nat) : Blk → Prop
  | .cells e tot l => ∃ c, w.heap[b]? = some (.cells c e (0, 0)) ∧ c.size = tot ∧ c.toList.take l.length = l
  | .obj o => w.heap[b]? = some o
structure Sat (w0 : World) (H : Heap) (w : World) : Prop where
  below : Below w0.heap.size w0 w
  nodup : (H.map (·.1)).Nodup
  own : ∀ p ∈ H, w0.heap.size ≤ p.1 ∧ At w p.1 p.2
theorem At.of_block {w w' : World} {b : Nat} {k : Blk} (h : At w b k) (e : w'.heap[b]? = w.heap[b]?) : At w' b k := by
  cases k with
  | cells t tot l => obtain ⟨c, h1, h2⟩ := h; exact ⟨c, e.trans h1, h2⟩
  | obj o => exact e.trans h
theorem At.lt {w : World} {b : Nat} {k : Blk} (h : At w b k) : b < w.heap.size := by
  cases k with
  | cells t tot l => obtain ⟨c, h1, h2⟩ := h; exact (Array.getElem?_eq_some_iff.1 h1).1
  | obj o => exact (Array.getElem?_eq_some_iff.1 h).1
/-- nothing that is known has turned -/
theorem Sat.below' {w0 w w' : World} {H : Heap} (h : Sat w0 H w) (hb : Below w.heap.size w w') : Sat w0 H w' :=
  ⟨h.below.trans (hb.mono h.below.size), h.nodup, fun p hp => ⟨(h.own p hp).1, (h.own p hp).2.of_block (hb.block _ (h.own p hp).2.lt)⟩⟩
theorem Sat.drew {w0 w : World} {H : Heap} (h : Sat w0 H w) : Sat w0 H w.drew := h.below' (Below.refl _ _).drew
theorem Sat.drop {w0 w : World} {p : Nat × Blk} {H : Heap} (h : Sat w0 (p :: H) w) : Sat w0 H w :=
  ⟨h.below, (List.nodup_cons.1 h.nodup).2, fun q hq => h.own q (List.mem_cons_of_mem _ hq)⟩
theorem Sat.perm {w0 w : World} {H H' : Heap} (h : Sat w0 H w) (hp : H.Perm H') : Sat w0 H' w :=
  ⟨h.below, (hp.map (·.1)).nodup_iff.1 h.nodup, fun q hq => h.own q (hp.mem_iff.2 hq)⟩
theorem Sat.sublist {w0 w : World} {H H' : Heap} (h : Sat w0 H w) (hp : List.Sublist H' H) : Sat w0 H' w :=
  ⟨h.below, h.nodup.sublist (hp.map (·.1)), fun q hq => h.own q (hp.subset hq)⟩
theorem Sat.nil {w0 w : World} (h : Below w0.heap.size w0 w) : Sat w0 [] w := ⟨h, List.nodup_nil, fun _ h => by cases h⟩
/-- a new block, at the heap's end -/
theorem Sat.alloc {w0 w : World} {H : Heap} (h : Sat w0 H w) (o : Obj) {k : Blk} (hk : At (w.alloc o) w.heap.size k) : Sat w0 ((w.heap.size, k) :: H) (w.alloc o) := by
  have hb : Below w.heap.size w (w.alloc o) := (Below.refl _ _).alloc (Nat.le_refl _) o
  have h' := h.below' hb
  refine ⟨h'.below, ?_, fun p hp => ?_⟩
  · simp only [List.map_cons, List.nodup_cons]
    refine ⟨fun hm => ?_, h.nodup⟩
    obtain ⟨q, hq, he⟩ := List.mem_map.1 hm
    have := (h.own q hq).2.lt
    omega
  · cases hp with
    | head => exact ⟨h.below.size, hk⟩
    | tail _ hp => exact h'.own p hp
theorem At.alloc_cells (w : World) (c : Array Value) (t : TypeId) : At (w.alloc (.cells c t)) w.heap.size (.cells t c.size c.toList) :=
  ⟨c, World.alloc_heap_new w _, rfl, List.take_of_length_le (by simp)⟩
theorem At.alloc_obj (w : World) (o : Obj) : At (w.alloc o) w.heap.size (.obj o) := World.alloc_heap_new w o
theorem At.cell {w : World} {b i : Nat} {e tot : Nat} {l : List Value} {v : Value} (h : At w b (.cells e tot l)) (hv : l[i]? = some v) : w.cell? ⟨b, i, none⟩ = some v := by
  obtain ⟨c, h1, h2, h3⟩ := h
  simp only [World.cell?, h1]
  have hl : i < l.length := (List.getElem?_eq_some_iff.1 hv).1
  have h4 : (c.toList.take l.length)[i]? = some v := by rw [h3]; exact hv
  rw [List.getElem?_take_of_lt hl] at h4
  simpa using h4
theorem At.frozen {w : World} {b i : Nat} {e tot : Nat} {l : List Value} (h : At w b (.cells e tot l)) : w.frozen? ⟨b, i, none⟩ = false := by
  obtain ⟨c, h1, h2⟩ := h
  simp [World.frozen?, h1]
theorem Sat.cell {w0 w : World} {H : Heap} (h : Sat w0 H w) {b i e tot : Nat} {l : List Value} {v : Value} (hm : (b, Blk.cells e tot l) ∈ H) (hv : l[i]? = some v) : w.cell? ⟨b, i, none⟩ = some v :=
  (h.own _ hm).2.cell hv
theorem Sat.frozen {w0 w : World} {H : Heap} (h : Sat w0 H w) {b i e tot : Nat} {l : List Value} (hm : (b, Blk.cells e tot l) ∈ H) : w.frozen? ⟨b, i, none⟩ = false :=
  (h.own _ hm).2.frozen
theorem Sat.old {w0 w : World} {H : Heap} (h : Sat w0 H w) {a : Addr} {v : Value} (hv : w0.cell? a = some v) : w.cell? a = some v := by
  have hlt : a.block < w0.heap.size := by
    unfold World.cell? at hv
    cases hh : w0.heap[a.block]? with
    | none => simp [hh] at hv
    | some o => exact (Array.getElem?_eq_some_iff.1 hh).1
  rw [h.below.cell hlt]; exact hv
/-- one entry turned -/
inductive Upd (b : Nat) (k : Blk) (k' : Blk) : Heap → Heap → Prop
  | head (H : Heap) : Upd b k k' ((b, k) :: H) ((b, k') :: H)
  | tail {p : Nat × Blk} {H H' : Heap} (h : Upd b k k' H H') : Upd b k k' (p :: H) (p :: H')
  | app {S H H' : Heap} (h : Upd b k k' H H') : Upd b k k' (S ++ H) (S ++ H')
theorem Upd.mem {b : Nat} {k k' : Blk} {H H' : Heap} (h : Upd b k k' H H') : (b, k) ∈ H := by
  induction h with
  | head H => exact List.mem_cons_self
  | tail _ ih => exact List.mem_cons_of_mem _ ih
  | app _ ih => exact List.mem_append_right _ ih
theorem Upd.keys {b : Nat} {k k' : Blk} {H H' : Heap} (h : Upd b k k' H H') : H'.map (·.1) = H.map (·.1) := by
  induction h with
  | head H => rfl
  | tail _ ih => simp [ih]
  | app _ ih => simp [ih]
theorem Upd.cases {b : Nat} {k k' : Blk} {H H' : Heap} (h : Upd b k k' H H') : ∀ p ∈ H', p = (b, k') ∨ p ∈ H := by
  induction h with
  | head H => intro p hp; cases hp with
    | head => exact .inl rfl
    | tail _ hp => exact .inr (List.mem_cons_of_mem _ hp)
  | tail _ ih => intro p hp; cases hp with
    | head => exact .inr List.mem_cons_self
    | tail _ hp => rcases ih p hp with h | h
                   · exact .inl h
                   · exact .inr (List.mem_cons_of_mem _ h)
  | app _ ih => intro p hp; rcases List.mem_append.1 hp with hp | hp
                · exact .inr (List.mem_append_left _ hp)
                · rcases ih p hp with h | h
                  · exact .inl h
                  · exact .inr (List.mem_append_right _ h)
theorem key_unique {H : Heap} (hn : (H.map (·.1)).Nodup) {p q : Nat × Blk} (hp : p ∈ H) (hq : q ∈ H) (he : p.1 = q.1) : p = q := by
  induction H with
  | nil => cases hp
  | cons x H ih =>
    simp only [List.map_cons, List.nodup_cons] at hn
    cases hp with
    | head => cases hq with
      | head => rfl
      | tail _ hq => exact absurd (List.mem_map.2 ⟨q, hq, he.symm⟩) hn.1
    | tail _ hp => cases hq with
      | head => exact absurd (List.mem_map.2 ⟨p, hp, he⟩) hn.1
      | tail _ hq => exact ih hn.2 hp hq
theorem Sat.upd {w0 w w' : World} {H H' : Heap} {b : Nat} {k k' : Blk} (h : Sat w0 H w) (hu : Upd b k k' H H') (hb : Below w0.heap.size w w')
    (hother : ∀ j, j ≠ b → j < w.heap.size → w'.heap[j]? = w.heap[j]?) (hk : At w' b k') : Sat w0 H' w' := by
  refine ⟨h.below.trans hb, by rw [hu.keys]; exact h.nodup, fun p hp => ?_⟩
  by_cases he : p.1 = b
  · have hm : (b, k') ∈ H' := by
      clear hk hb h hp
      induction hu with
      | head H => exact List.mem_cons_self
      | tail _ ih => exact List.mem_cons_of_mem _ ih
      | app _ ih => exact List.mem_append_right _ ih
    have : p = (b, k') := key_unique (by rw [hu.keys]; exact h.nodup) hp hm he
    subst this
    exact ⟨(h.own _ hu.mem).1, hk⟩
  · rcases hu.cases p hp with e | hm
    · exact absurd (by rw [e]) he
    · exact ⟨(h.own p hm).1, (h.own p hm).2.of_block (hother _ he (h.own p hm).2.lt)⟩

/-! ## The walk's state -/
inductive It where
  | code (c : Code)
  | blk (id : Nat)
  | ops (all : Array Oper) (l : List Oper)
  | goal (J : Act → World → Prop)
abbrev fen (rd : Option Nat) : Fence := { Fence.wide with round := rd }
def Cont (P : Program) (rd : Option Nat) (Q : Exit → Act → World → Prop) : List It → Exit → Act → World → Prop
  | [] => Q
  | .code c :: k => Exit.then (c.wpIn (fen rd) 0 P (Cont P rd Q k)) (Cont P rd Q k)
  | .blk id :: k => Exit.inBlock id (Cont P rd Q k)
  | .ops all l :: k => Exit.then (wpListIn (fen rd) 0 P all (Cont P rd Q k) l) (Cont P rd Q k)
  | .goal J :: k => Exit.then J (Cont P rd Q k)
/-- FROM EVERY ACTIVATION OF WHICH THE FACTS 'env' HOLD, IN EVERY WORLD OF WHICH THE FACTS 'H' HOLD, what stands in 'k' is walked to its end. -/
def W (P : Program) (rd : Option Nat) (w0 : World) (Q : Exit → Act → World → Prop) (n : Nat) (ds : List Deferred) (k : List It) (env : Env) (H : Heap) : Prop :=
  ∀ a w, Agree n env a → a.defers = ds → Sat w0 H w → Cont P rd Q k .normal a w
/-- a function's contract -/
def LCalls (P : Program) (w0 : World) (f : FuncId) (args : Array Value) (H : Heap) (R : Value → Heap → Prop) : Prop :=
  ∀ w, Sat w0 H w → CallsIn Fence.wide 0 P f args w fun e w' => ∃ v H', e = .returned v ∧ R v H' ∧ Sat w0 H' w'
theorem LCalls.mono {P : Program} {w0 : World} {f : FuncId} {args : Array Value} {H : Heap} {R R' : Value → Heap → Prop} (h : LCalls P w0 f args H R) (hr : ∀ v H', R v H' → R' v H') : LCalls P w0 f args H R' :=
  fun w hs => (h w hs).mono fun _ _ ⟨v, H', e, r, s⟩ => ⟨v, H', e, hr _ _ r, s⟩
def LPost (w0 : World) (R : Value → Heap → Prop) : Ending → World → Prop := fun e w' => ∃ v H', e = .returned v ∧ R v H' ∧ Sat w0 H' w'
def FPost (P : Program) (w0 : World) (fn : Func) (R : Value → Heap → Prop) : Exit → Act → World → Prop := bodyPostM Fence.wide 0 P fn (LPost w0 R)

section rules
variable {P : Program} {rd : Option Nat} {w0 : World} {Q : Exit → Act → World → Prop} {n : Nat} {ds : List Deferred} {k : List It} {env env' : Env} {H H' : Heap}
theorem W_env (hs : sub env' env) (h : W P rd w0 Q n ds k env' H) : W P rd w0 Q n ds k env H :=
  fun a w ha hd hs' => h a w (ha.weaken (look_of_sub hs)) hd hs'
theorem W_perm (hp : List.Perm H H') (h : W P rd w0 Q n ds k env H') : W P rd w0 Q n ds k env H :=
  fun a w ha hd hs' => h a w ha hd (hs'.perm hp)
theorem W_drop (hp : List.Sublist H' H) (h : W P rd w0 Q n ds k env H') : W P rd w0 Q n ds k env H :=
  fun a w ha hd hs' => h a w ha hd (hs'.sublist hp)
theorem W_seq {x y : Code} (h : W P rd w0 Q n ds (.code x :: .code y :: k) env H) : W P rd w0 Q n ds (.code (.seq x y) :: k) env H :=
  fun a w ha hd hs => wpIn_seq (h a w ha hd hs)
theorem W_block {id : Nat} {c : Code} (h : W P rd w0 Q n ds (.code c :: .blk id :: k) env H) : W P rd w0 Q n ds (.code (.block id c) :: k) env H :=
  fun a w ha hd hs => wpIn_block (h a w ha hd hs)
theorem W_skip (h : W P rd w0 Q n ds k env H) : W P rd w0 Q n ds (.code .skip :: k) env H :=
  fun a w ha hd hs => wpIn_skip (h a w ha hd hs)
theorem W_blk {id : Nat} (h : W P rd w0 Q n ds k env H) : W P rd w0 Q n ds (.blk id :: k) env H := h
theorem W_cond {c : Operand} {x y : Code} {t : Bool} (hc : opv env c = some (.bool t)) (ht : t = true → W P rd w0 Q n ds (.code x :: k) env H)
    (hf : t = false → W P rd w0 Q n ds (.code y :: k) env H) : W P rd w0 Q n ds (.code (.cond c x y) :: k) env H :=
  fun a w ha hd hs => wpIn_cond_split (ha.opv hc) (fun e => ht e a w ha hd hs) (fun e => hf e a w ha hd hs)
theorem W_region {id : Nat} {l : List Oper} (h : W P rd w0 Q n ds (.ops l.toArray l :: k) env H) : W P rd w0 Q n ds (.code (.region id l.toArray false) :: k) env H :=
  fun a w ha hd hs => wpIn_region_lit (h a w ha hd hs)
theorem W_nil {all : Array Oper} (h : W P rd w0 Q n ds k env H) : W P rd w0 Q n ds (.ops all [] :: k) env H := h
theorem W_goal {J : Act → World → Prop} (h : ∀ a w, Agree n env a → a.defers = ds → Sat w0 H w → J a w) : W P rd w0 Q n ds (.goal J :: k) env H := h
/-- what the exit 'id' meets -/
def exitK (id : Nat) : List It → Option (List It)
  | [] => none
  | .blk i :: k => if i = id then some k else exitK id k
  | _ :: k => exitK id k
theorem cont_exit {id : Nat} : ∀ {k k' : List It}, exitK id k = some k' → ∀ a w, Cont P rd Q k' .normal a w → Cont P rd Q k (.exit id) a w
  | .blk i :: k, k', h, a, w, hq => by
    simp only [exitK] at h
    by_cases hi : i = id
    · rw [if_pos hi] at h; cases h; simp [Cont, Exit.inBlock, hi, hq]
    · rw [if_neg hi] at h
      have : ¬ id = i := fun e => hi e.symm
      simp [Cont, Exit.inBlock, this, cont_exit h a w hq]
  | .code c :: k, k', h, a, w, hq => cont_exit (k := k) h a w hq
  | .ops _ _ :: k, k', h, a, w, hq => cont_exit (k := k) h a w hq
  | .goal _ :: k, k', h, a, w, hq => cont_exit (k := k) h a w hq
theorem W_exit {id : Nat} {k' : List It} (he : exitK id k = some k') (h : W P rd w0 Q n ds k' env H) : W P rd w0 Q n ds (.code (.exit id) :: k) env H :=
  fun a w ha hd hs => wpIn_exit (cont_exit he a w (h a w ha hd hs))
theorem cont_ret : ∀ {k : List It} (a : Act) (w : World), Q .ret a w → Cont P rd Q k .ret a w
  | [], _, _, h => h
  | .blk _ :: k, a, w, h => cont_ret (k := k) a w h
  | .code _ :: k, a, w, h => cont_ret (k := k) a w h
  | .ops _ _ :: k, a, w, h => cont_ret (k := k) a w h
  | .goal _ :: k, a, w, h => cont_ret (k := k) a w h
theorem W_ret (h : ∀ a w, Agree n env a → a.defers = ds → Sat w0 H w → Q .ret a w) : W P rd w0 Q n ds (.code .ret :: k) env H :=
  fun a w ha hd hs => wpIn_ret (cont_ret a w (h a w ha hd hs))
theorem W_loop {X : Type} {c : Code} (E : X → Env) (HH : X → Heap) (I : X → Prop) (μ : X → Nat) (x0 : X) (h0 : I x0) (he : sub (E x0) env) (hh : H = HH x0)
    (round : ∀ x, I x → W P rd w0 Q n ds (.code c :: .goal (fun a w => ∃ x', I x' ∧ μ x' < μ x ∧ Agree n (E x') a ∧ a.defers = ds ∧ Sat w0 (HH x') w) :: k) (E x) (HH x)) :
    W P rd w0 Q n ds (.code (.loop c) :: k) env H := by
  intro a w ha hd hs
  subst hh
  refine wpIn_loop_ghost (fun m a' w' => ∃ x, μ x = m ∧ I x ∧ Agree n (E x) a' ∧ a'.defers = ds ∧ Sat w0 (HH x) w') (μ x0) ⟨x0, rfl, h0, ha.weaken (look_of_sub he), hd, hs⟩ ?_
  rintro m a' w' ⟨x, rfl, hI, hA, hD, hS⟩
  refine wpIn_mono (round x hI a' w' hA hD hS) fun e a2 w2 hq => ?_
  cases e with
  | normal =>
    obtain ⟨x', h1, h2, h3, h4, h5⟩ := hq
    exact ⟨μ x', h2, x', rfl, h1, h3, h4, h5⟩
  | exit id => exact hq
  | goto l => exact hq
  | ret => exact hq
  | panic ch => exact hq
  | outgrown => exact hq
end rules
end Go.Sl
namespace Go.Sl
open Go.RowKit

/-- what is known of a type -/
structure Ty (P : Program) (t : TypeId) (d : TypeDesc) (s : Nat) (z : Value) (bytes : Nat) : Prop where
  und : P.underlying t = some d
  info : ∃ i, P.info? t = some i ∧ i.size = s ∧ i.zero = some z ∧ i.bytes = bytes
def flat : TypeDesc → Bool
  | .struct _ | .array _ _ => false
  | _ => true
section
variable {P : Program} {t : TypeId} {d : TypeDesc} {s : Nat} {z : Value} {by_ : Nat}
theorem Ty.run (h : Ty P t d s z by_) (w : World) : (underlying t).run P w = .ok d w := run_underlying h.und w
theorem Ty.size (h : Ty P t d s z by_) (w : World) : (sizeOf t).run P w = .ok s w := by
  obtain ⟨i, h1, h2, _⟩ := h.info; simp [sizeOf, typeInfo, h1, Result.andThen, h2]
theorem Ty.zero (h : Ty P t d s z by_) (w : World) : (zeroValue t).run P w = .ok z w := by
  obtain ⟨i, h1, _, h3, _⟩ := h.info; simp [zeroValue, typeInfo, h1, Result.andThen, h3]
theorem Ty.isAgg (h : Ty P t d s z by_) (w : World) : (isAgg t).run P w = .ok (!flat d) w := by
  have := h.run w
  cases d <;> simp [Go.isAgg, this, Result.andThen, flat]
theorem Ty.tinfo (h : Ty P t d s z by_) (w : World) : ∃ i, (typeInfo t).run P w = .ok i w ∧ i.size = s ∧ i.zero = some z ∧ i.bytes = by_ := by
  obtain ⟨i, h1, h2⟩ := h.info; exact ⟨i, by simp [typeInfo, h1, Result.andThen], h2⟩
end

section core
variable {P : Program} {rd : Option Nat} {w0 : World} {Q : Exit → Act → World → Prop} {n : Nat} {ds : List Deferred} {k : List It} {env env' : Env} {H H' : Heap} {all : Array Oper} {rest : List Oper}
/-- one operation that yields a value -/
theorem W_gen {o : Oper} (hg : o.guard = none) (hdef : ∀ c, o.op ≠ .defer c) (hd : dok n o.dst = true)
    (h : ∀ a w, Agree n env a → Sat w0 H w → ∃ v H' w', ((execOp a.eval o).run P w = .ok (.value v) w' ∨ ((execOp a.eval o).run P w = .ok .skip w' ∧ v = undef)) ∧ Sat w0 H' w' ∧ W P rd w0 Q n ds (.ops all rest :: k) (put o.dst v env) H') :
    W P rd w0 Q n ds (.ops all (o :: rest) :: k) env H := by
  intro a w ha hds hs
  obtain ⟨v, H', w', hr, hs', hW⟩ := h a w ha hs
  show wpListIn (fen rd) 0 P all (Cont P rd Q k) (o :: rest) a w
  unfold wpListIn
  rw [if_pos (by simp [Region.wanted, hg])]
  refine ⟨fun _ _ => trivial, ?_⟩
  rw [Oper.semAt_eq _ _ _ hdef]
  rcases hr with hr | ⟨hr, rfl⟩
  · rw [hr, Oper.uponIn_value]
    exact hW (a.put o.dst v) w' (ha.put hd) (by cases o.dst <;> exact hds) hs'
  · rw [hr, Oper.uponIn_skip]
    exact hW (a.put o.dst _) w' (ha.put hd) (by cases o.dst <;> exact hds) hs'
/-- a value that hangs on the slots alone -/
theorem W_pure {o : Oper} {v : Value} (hg : o.guard = none) (hdef : ∀ c, o.op ≠ .defer c) (hd : dok n o.dst = true)
    (hv : ∀ a w, Agree n env a → Sat w0 H w → (execOp a.eval o).run P w = .ok (.value v) w) (h : W P rd w0 Q n ds (.ops all rest :: k) (put o.dst v env) H) :
    W P rd w0 Q n ds (.ops all (o :: rest) :: k) env H :=
  W_gen hg hdef hd fun a w ha hs => ⟨v, H, w, .inl (hv a w ha hs), hs, h⟩
/-- guards -/
theorem W_gyes {d : Option Nat} {op : Op} {t : TypeId} {pos : String} {aft : Array Edge} {j : Nat} {b : Bool} {dj : Nat}
    (hj : (all[j]?).bind (·.dst) = some dj) (ht : look env dj = some (.bool b))
    (h : W P rd w0 Q n ds (.ops all (⟨d, op, t, pos, aft, none⟩ :: rest) :: k) env H) : W P rd w0 Q n ds (.ops all (⟨d, op, t, pos, aft, some (j, b)⟩ :: rest) :: k) env H := by
  intro a w ha hds hs
  have h1 := h a w ha hds hs
  have hv := ha.val _ _ ht
  have hy : yielded all a.tmps j = some b := by
    unfold yielded
    rw [hj]
    simp only [Option.bind_some]
    have hlt : dj < a.tmps.size := by
      rcases Nat.lt_or_ge dj a.tmps.size with h | h
      · exact h
      · rw [Array.getD_eq_getD_getElem?, Array.getElem?_eq_none h] at hv; simp [undef] at hv
    rw [Array.getD_eq_getD_getElem?, Array.getElem?_eq_getElem hlt] at hv
    rw [Array.getElem?_eq_getElem hlt]
    simp only [Option.getD_some] at hv
    rw [hv]
  show wpListIn (fen rd) 0 P all (Cont P rd Q k) (_ :: rest) a w
  have h1' : wpListIn (fen rd) 0 P all (Cont P rd Q k) (⟨d, op, t, pos, aft, none⟩ :: rest) a w := h1
  unfold wpListIn at h1' ⊢
  rw [if_pos (by simp [Region.wanted])] at h1'
  rw [if_pos (by simp [Region.wanted, hy])]
  exact h1'
theorem W_gno {d : Option Nat} {op : Op} {t : TypeId} {pos : String} {aft : Array Edge} {j : Nat} {b : Bool} {dj : Nat}
    (hj : (all[j]?).bind (·.dst) = some dj) (ht : look env dj = some (.bool (!b))) (hd : dok n d = true)
    (h : W P rd w0 Q n ds (.ops all rest :: k) (put d undef env) H) : W P rd w0 Q n ds (.ops all (⟨d, op, t, pos, aft, some (j, b)⟩ :: rest) :: k) env H := by
  intro a w ha hds hs
  have hv := ha.val _ _ ht
  have hy : yielded all a.tmps j = some (!b) := by
    unfold yielded
    rw [hj]
    simp only [Option.bind_some]
    have hlt : dj < a.tmps.size := by
      rcases Nat.lt_or_ge dj a.tmps.size with h | h
      · exact h
      · rw [Array.getD_eq_getD_getElem?, Array.getElem?_eq_none h] at hv; simp [undef] at hv
    rw [Array.getD_eq_getD_getElem?, Array.getElem?_eq_getElem hlt] at hv
    rw [Array.getElem?_eq_getElem hlt]
    simp only [Option.getD_some] at hv
    rw [hv]
  show wpListIn (fen rd) 0 P all (Cont P rd Q k) (_ :: rest) a w
  unfold wpListIn
  rw [if_neg (by simp [Region.wanted, hy])]
  exact ⟨fun _ _ => trivial, h (a.put d undef) w (ha.put hd) (by cases d <;> exact hds) hs⟩
/-- the ways of an '&&' or '||' meet again: 'l' is walked to its end, then slot 's' holds 'v' and all else is as it was said ahead of it -/
theorem W_join (m : Nat) (env' : Env) {l : List Oper}
    (h1 : W P rd w0 Q n ds (.ops all (l.take m) :: .goal (fun a w => Agree n env' a ∧ a.defers = ds ∧ Sat w0 H w) :: k) env H)
    (h2 : W P rd w0 Q n ds (.ops all (l.drop m) :: k) env' H) : W P rd w0 Q n ds (.ops all l :: k) env H := by
  intro a w ha hds hs
  have h := h1 a w ha hds hs
  show wpListIn (fen rd) 0 P all (Cont P rd Q k) l a w
  have key : ∀ (l1 l2 : List Oper) (a : Act) (w : World),
      wpListIn (fen rd) 0 P all (Cont P rd Q (.goal (fun a w => Agree n env' a ∧ a.defers = ds ∧ Sat w0 H w) :: k)) l1 a w →
      (∀ a w, Agree n env' a → a.defers = ds → Sat w0 H w → wpListIn (fen rd) 0 P all (Cont P rd Q k) l2 a w) →
      wpListIn (fen rd) 0 P all (Cont P rd Q k) (l1 ++ l2) a w := by
    intro l1
    induction l1 with
    | nil => intro l2 a w h1 h2; exact h2 a w h1.1 h1.2.1 h1.2.2
    | cons o l1 ih =>
      intro l2 a w h1 h2
      simp only [List.cons_append]
      unfold wpListIn at h1 ⊢
      split at h1
      · rename_i hw
        rw [if_pos hw]
        refine ⟨h1.1, ?_⟩
        have h3 := h1.2
        generalize (o.semAt (fen rd).round a.eval).run P w = r at h3 ⊢
        cases r with
        | ok x w' =>
          cases x <;> simp only [Oper.uponIn] at h3 ⊢
          case value v => exact ih l2 _ _ h3 h2
          case skip => exact ih l2 _ _ h3 h2
          case defer d => exact ih l2 _ _ h3 h2
          case enter f args =>
            refine ⟨h3.1, h3.2.mono ?_⟩
            intro e w'' he
            cases e with
            | returned v => exact ih l2 _ _ he h2
            | panicked c => exact he
            | outgrown => exact he
          case row r args => exact ⟨h3.1, h3.2.mono fun v w'' he => ih l2 _ _ he h2⟩
          case round l f tmps as body =>
            refine ⟨h3.1, h3.2.mono ?_⟩
            intro e w'' he
            cases e with
            | returned v => exact ih l2 _ _ he h2
            | panicked c => exact he
            | outgrown => exact he
        | halt x w' => cases x <;> simp only [Oper.uponIn] at h3 ⊢ <;> exact h3
      · rename_i hw
        rw [if_neg hw]
        exact ⟨h1.1, ih l2 _ _ h1.2 h2⟩
  have := key (l.take m) (l.drop m) a w h (fun a w ha hd hs => h2 a w ha hd hs)
  rwa [List.take_append_drop] at this
end core

section ops
variable {P : Program} {rd : Option Nat} {w0 : World} {Q : Exit → Act → World → Prop} {n : Nat} {ds : List Deferred} {k : List It} {env env' : Env} {H H' : Heap} {all : Array Oper} {rest : List Oper}
variable {d : Nat} {x y c : Operand} {t u : TypeId} {pos : String} {aft : Array Edge} {v : Value}
theorem W_move (hx : opv env x = some v) (hd : Nat.blt d n = true) (h : W P rd w0 Q n ds (.ops all rest :: k) ((d, v) :: env) H) :
    W P rd w0 Q n ds (.ops all (⟨some d, .move x, t, pos, aft, none⟩ :: rest) :: k) env H :=
  W_pure rfl nofun hd (fun a w ha _ => by simp [execOp, ha.opv hx]) h
theorem W_assign (hx : opv env x = some v) (hd : Nat.blt d n = true) (h : W P rd w0 Q n ds (.ops all rest :: k) ((d, v) :: env) H) :
    W P rd w0 Q n ds (.ops all (⟨some d, .assign x, t, pos, aft, none⟩ :: rest) :: k) env H :=
  W_pure rfl nofun hd (fun a w ha _ => by simp [execOp, ha.opv hx]) h
/-- a pick of which both sides are bools -/
theorem W_pickb {b p q : Bool} (hc : opv env c = some (.bool b)) (hx : b = true → opv env x = some (.bool p)) (hy : b = false → opv env y = some (.bool q)) (hd : Nat.blt d n = true)
    (h : W P rd w0 Q n ds (.ops all rest :: k) ((d, .bool (bif b then p else q)) :: env) H) :
    W P rd w0 Q n ds (.ops all (⟨some d, .pick c x y, t, pos, aft, none⟩ :: rest) :: k) env H :=
  W_pure rfl nofun hd (fun a w ha _ => by
    cases b with
    | true => simp [execOp, ha.opv hc, asBool, ha.opv (hx rfl), Result.andThen]
    | false => simp [execOp, ha.opv hc, asBool, ha.opv (hy rfl), Result.andThen]) h
theorem W_pickt (hc : opv env c = some (.bool true)) (hx : opv env x = some v) (hd : Nat.blt d n = true)
    (h : W P rd w0 Q n ds (.ops all rest :: k) ((d, v) :: env) H) :
    W P rd w0 Q n ds (.ops all (⟨some d, .pick c x y, t, pos, aft, none⟩ :: rest) :: k) env H :=
  W_pure rfl nofun hd (fun a w ha _ => by simp [execOp, ha.opv hc, asBool, ha.opv hx, Result.andThen]) h
theorem W_pickf (hc : opv env c = some (.bool false)) (hx : opv env y = some v) (hd : Nat.blt d n = true)
    (h : W P rd w0 Q n ds (.ops all rest :: k) ((d, v) :: env) H) :
    W P rd w0 Q n ds (.ops all (⟨some d, .pick c x y, t, pos, aft, none⟩ :: rest) :: k) env H :=
  W_pure rfl nofun hd (fun a w ha _ => by simp [execOp, ha.opv hc, asBool, ha.opv hx, Result.andThen]) h

/-! ### Integers -/
section bin
variable {q q' : IntKind} {i j : Int} {r : Value} {ty : TypeId}
theorem W_bin {op : BinOp} (hx : opv env x = some (.int q i)) (hy : opv env y = some (.int q' j)) (hop : ∀ P w, (Go.binOp op t (.int q i) (.int q' j)).run P w = .ok r w) (hd : Nat.blt d n = true)
    (h : W P rd w0 Q n ds (.ops all rest :: k) ((d, r) :: env) H) : W P rd w0 Q n ds (.ops all (⟨some d, .binOp op t x y u, ty, pos, aft, none⟩ :: rest) :: k) env H :=
  W_pure rfl nofun hd (fun a w ha _ => by
    have he : (eqGuard op t x y (.int q i) (.int q' j)).run P w = .ok () w := by
      unfold eqGuard; cases op <;> simp
    simp [execOp, ha.opv hx, ha.opv hy, he, hop, Result.andThen]) h
theorem b_add {m : Int} (h : q.wrap (i + j) = m) (P : Program) (w : World) : (Go.binOp .add t (.int q i) (.int q j)).run P w = .ok (.int q m) w := by simp [Go.binOp, Op.intArith, h]
theorem b_sub {m : Int} (h : q.wrap (i - j) = m) (P : Program) (w : World) : (Go.binOp .sub t (.int q i) (.int q j)).run P w = .ok (.int q m) w := by simp [Go.binOp, Op.intArith, h]
theorem b_mul {m : Int} (h : q.wrap (i * j) = m) (P : Program) (w : World) : (Go.binOp .mul t (.int q i) (.int q j)).run P w = .ok (.int q m) w := by simp [Go.binOp, Op.intArith, h]
theorem b_quo {m : Int} (h0 : j ≠ 0) (h : q.wrap (i.tdiv j) = m) (P : Program) (w : World) : (Go.binOp .quo t (.int q i) (.int q j)).run P w = .ok (.int q m) w := by simp [Go.binOp, Op.intDiv, h, h0]
theorem b_rem {m : Int} (h0 : j ≠ 0) (h : i.tmod j = m) (P : Program) (w : World) : (Go.binOp .rem t (.int q i) (.int q j)).run P w = .ok (.int q m) w := by simp [Go.binOp, Op.intDiv, h, h0]
/-- the bits of a word -/
def bitsOf (op : BinOp) (q : IntKind) (i j : Int) : Int :=
  let a := BitVec.ofInt q.bits i
  let b := BitVec.ofInt q.bits j
  q.wrap (match op with
    | .and => a &&& b
    | .or => a ||| b
    | .xor => a ^^^ b
    | _ => a &&& ~~~b).toNat
theorem b_and {m : Int} (h : bitsOf .and q i j = m) (P : Program) (w : World) : (Go.binOp .and t (.int q i) (.int q j)).run P w = .ok (.int q m) w := by
  subst h; simp [Go.binOp, Op.intBits, bitsOf]
theorem b_or {m : Int} (h : bitsOf .or q i j = m) (P : Program) (w : World) : (Go.binOp .or t (.int q i) (.int q j)).run P w = .ok (.int q m) w := by
  subst h; simp [Go.binOp, Op.intBits, bitsOf]
theorem b_xor {m : Int} (h : bitsOf .xor q i j = m) (P : Program) (w : World) : (Go.binOp .xor t (.int q i) (.int q j)).run P w = .ok (.int q m) w := by
  subst h; simp [Go.binOp, Op.intBits, bitsOf]
theorem b_andNot {m : Int} (h : bitsOf .andNot q i j = m) (P : Program) (w : World) : (Go.binOp .andNot t (.int q i) (.int q j)).run P w = .ok (.int q m) w := by
  subst h; simp [Go.binOp, Op.intBits, bitsOf]
theorem b_shl {m : Int} (h0 : 0 ≤ j) (h : q.wrap (i * 2 ^ (min j.toNat q.bits)) = m) (P : Program) (w : World) : (Go.binOp .shl t (.int q i) (.int q' j)).run P w = .ok (.int q m) w := by
  have : ¬ j < 0 := by omega
  simp [Go.binOp, Op.shift, h, this]
theorem b_shr {m : Int} (h0 : 0 ≤ j) (h : i.fdiv (2 ^ (min j.toNat q.bits)) = m) (P : Program) (w : World) : (Go.binOp .shr t (.int q i) (.int q' j)).run P w = .ok (.int q m) w := by
  have : ¬ j < 0 := by omega
  simp [Go.binOp, Op.shift, h, this]
theorem b_eql (P : Program) (w : World) : (Go.binOp .eql t (.int q i) (.int q j)).run P w = .ok (.bool (decide (i = j))) w := by simp [Go.binOp, Op.intCmp]; rfl
theorem b_neq (P : Program) (w : World) : (Go.binOp .neq t (.int q i) (.int q j)).run P w = .ok (.bool (decide (i ≠ j))) w := by
  simp [Go.binOp, Op.intCmp, bne]; rfl
theorem b_lss (P : Program) (w : World) : (Go.binOp .lss t (.int q i) (.int q j)).run P w = .ok (.bool (decide (i < j))) w := by simp [Go.binOp, Op.intCmp]
theorem b_leq (P : Program) (w : World) : (Go.binOp .leq t (.int q i) (.int q j)).run P w = .ok (.bool (decide (i ≤ j))) w := by simp [Go.binOp, Op.intCmp]
theorem b_gtr (P : Program) (w : World) : (Go.binOp .gtr t (.int q i) (.int q j)).run P w = .ok (.bool (decide (j < i))) w := by simp [Go.binOp, Op.intCmp]
theorem b_geq (P : Program) (w : World) : (Go.binOp .geq t (.int q i) (.int q j)).run P w = .ok (.bool (decide (j ≤ i))) w := by simp [Go.binOp, Op.intCmp]
theorem W_neg {m : Int} (hx : opv env x = some (.int q i)) (hm : q.wrap (0 - i) = m) (hd : Nat.blt d n = true)
    (h : W P rd w0 Q n ds (.ops all rest :: k) ((d, .int q m) :: env) H) : W P rd w0 Q n ds (.ops all (⟨some d, .unOp .neg t x, ty, pos, aft, none⟩ :: rest) :: k) env H :=
  W_pure rfl nofun hd (fun a w ha _ => by simp [execOp, ha.opv hx, Op.unary, Op.intArith, ← hm]) h
theorem W_compl {m : Int} (hx : opv env x = some (.int q i)) (hm : bitsOf .xor q (if q.signed then -1 else q.max) i = m) (hd : Nat.blt d n = true)
    (h : W P rd w0 Q n ds (.ops all rest :: k) ((d, .int q m) :: env) H) : W P rd w0 Q n ds (.ops all (⟨some d, .unOp .xor t x, ty, pos, aft, none⟩ :: rest) :: k) env H :=
  W_pure rfl nofun hd (fun a w ha _ => by subst hm; simp [execOp, ha.opv hx, Op.unary, Op.intBits, bitsOf]) h
theorem W_not {b : Bool} (hx : opv env x = some (.bool b)) (hd : Nat.blt d n = true)
    (h : W P rd w0 Q n ds (.ops all rest :: k) ((d, .bool (!b)) :: env) H) : W P rd w0 Q n ds (.ops all (⟨some d, .unOp .not t x, ty, pos, aft, none⟩ :: rest) :: k) env H :=
  W_pure rfl nofun hd (fun a w ha _ => by simp [execOp, ha.opv hx, Op.unary]) h
theorem W_conv {m : Int} {td : TypeDesc} {s1 s2 by1 by2 : Nat} {z1 z2 : Value} (hx : opv env x = some (.int q i)) (ht : Ty P t td s1 z1 by1) (hu : Ty P u (.int q') s2 z2 by2) (hm : q'.wrap i = m) (hd : Nat.blt d n = true)
    (h : W P rd w0 Q n ds (.ops all rest :: k) ((d, .int q' m) :: env) H) : W P rd w0 Q n ds (.ops all (⟨some d, .convert t u x, ty, pos, aft, none⟩ :: rest) :: k) env H :=
  W_pure rfl nofun hd (fun a w ha _ => by simp [execOp, ha.opv hx, convert, ht.run, hu.run, Conv.intToInt, hm]) h
/-- equality of two bools, two strings -/
theorem run_eqb {b c : Bool} {s1 by1 : Nat} {z1 : Value} (ht : Ty P t .bool s1 z1 by1) (w : World) : (Op.equal t (.bool b) (.bool c)).run P w = .ok (b == c) w := by
  have h1 : ∀ m, (Op.equalIn (m + 1) t (.bool b) (.bool c)).run P w = .ok (b == c) w := fun m => by
    simp only [Op.equalIn, Sem.run_bind, ht.run, Result.andThen]; rfl
  exact h1 9999
theorem W_beq {b c : Bool} {s1 by1 : Nat} {z1 : Value} (hx : opv env x = some (.bool b)) (hy : opv env y = some (.bool c)) (ht : Ty P t .bool s1 z1 by1) (hd : Nat.blt d n = true)
    (h : W P rd w0 Q n ds (.ops all rest :: k) ((d, .bool (b == c)) :: env) H) : W P rd w0 Q n ds (.ops all (⟨some d, .binOp .eql t x y u, ty, pos, aft, none⟩ :: rest) :: k) env H :=
  W_pure rfl nofun hd (fun a w ha _ => by
    have he : (eqGuard .eql t x y (.bool b) (.bool c)).run P w = .ok () w := by simp [eqGuard]
    simp [execOp, ha.opv hx, ha.opv hy, he, Go.binOp, run_eqb ht, Result.andThen]) h
theorem W_bne {b c : Bool} {s1 by1 : Nat} {z1 : Value} (hx : opv env x = some (.bool b)) (hy : opv env y = some (.bool c)) (ht : Ty P t .bool s1 z1 by1) (hd : Nat.blt d n = true)
    (h : W P rd w0 Q n ds (.ops all rest :: k) ((d, .bool (!(b == c))) :: env) H) : W P rd w0 Q n ds (.ops all (⟨some d, .binOp .neq t x y u, ty, pos, aft, none⟩ :: rest) :: k) env H :=
  W_pure rfl nofun hd (fun a w ha _ => by
    have he : (eqGuard .neq t x y (.bool b) (.bool c)).run P w = .ok () w := by simp [eqGuard]
    simp [execOp, ha.opv hx, ha.opv hy, he, Go.binOp, run_eqb ht, Result.andThen]) h
theorem W_seq_s {a b : ByteArray} (hx : opv env x = some (.string a)) (hy : opv env y = some (.string b)) (hd : Nat.blt d n = true)
    (h : W P rd w0 Q n ds (.ops all rest :: k) ((d, .bool (a.toList == b.toList)) :: env) H) : W P rd w0 Q n ds (.ops all (⟨some d, .binOp .eql t x y u, ty, pos, aft, none⟩ :: rest) :: k) env H :=
  W_pure rfl nofun hd (fun a' w ha _ => by
    have he : (eqGuard .eql t x y (.string a) (.string b)).run P w = .ok () w := by simp [eqGuard]
    simp [execOp, ha.opv hx, ha.opv hy, he, Go.binOp, Op.stringOp, Result.andThen]) h
theorem W_sne_s {a b : ByteArray} (hx : opv env x = some (.string a)) (hy : opv env y = some (.string b)) (hd : Nat.blt d n = true)
    (h : W P rd w0 Q n ds (.ops all rest :: k) ((d, .bool (!(a.toList == b.toList))) :: env) H) : W P rd w0 Q n ds (.ops all (⟨some d, .binOp .neq t x y u, ty, pos, aft, none⟩ :: rest) :: k) env H :=
  W_pure rfl nofun hd (fun a' w ha _ => by
    have he : (eqGuard .neq t x y (.string a) (.string b)).run P w = .ok () w := by simp [eqGuard]
    simp [execOp, ha.opv hx, ha.opv hy, he, Go.binOp, Op.stringOp, Result.andThen]) h
/-- whatever '==' of two values comes to, where its run is known -/
theorem W_eq {v1 v2 : Value} {b : Bool} (hx : opv env x = some v1) (hy : opv env y = some v2) (he : ∀ P' (_ : P' = P) w, (do eqGuard .eql t x y v1 v2; Go.binOp .eql t v1 v2 : Sem Value).run P' w = .ok (.bool b) w) (hd : Nat.blt d n = true)
    (h : W P rd w0 Q n ds (.ops all rest :: k) ((d, .bool b) :: env) H) : W P rd w0 Q n ds (.ops all (⟨some d, .binOp .eql t x y u, ty, pos, aft, none⟩ :: rest) :: k) env H :=
  W_pure rfl nofun hd (fun a w ha _ => by
    have := he P rfl w
    simp only [execOp, ha.opv hx, ha.opv hy, Sem.run_bind, this] at this ⊢
    simp [this]) h
theorem W_ne {v1 v2 : Value} {b : Bool} (hx : opv env x = some v1) (hy : opv env y = some v2) (he : ∀ P' (_ : P' = P) w, (do eqGuard .neq t x y v1 v2; Go.binOp .neq t v1 v2 : Sem Value).run P' w = .ok (.bool b) w) (hd : Nat.blt d n = true)
    (h : W P rd w0 Q n ds (.ops all rest :: k) ((d, .bool b) :: env) H) : W P rd w0 Q n ds (.ops all (⟨some d, .binOp .neq t x y u, ty, pos, aft, none⟩ :: rest) :: k) env H :=
  W_pure rfl nofun hd (fun a w ha _ => by
    have := he P rfl w
    simp only [execOp, ha.opv hx, ha.opv hy, Sem.run_bind, this] at this ⊢
    simp [this]) h
end bin

/-! ### Tuples, structs by value, function values -/
theorem W_extract {vs : Array Value} {i : Nat} {ty : TypeId} (hx : opv env x = some (.tuple vs)) (hv : vs[i]? = some v) (hd : Nat.blt d n = true)
    (h : W P rd w0 Q n ds (.ops all rest :: k) ((d, v) :: env) H) : W P rd w0 Q n ds (.ops all (⟨some d, .extract x i, ty, pos, aft, none⟩ :: rest) :: k) env H :=
  W_pure rfl nofun hd (fun a w ha _ => by simp [execOp, ha.opv hx, Instr.extract, hv]) h
/-- what is known of a struct's field: its place, its size, whether it is an aggregate -/
structure Fld (P : Program) (s : TypeId) (f off size : Nat) (agg : Bool) : Prop where
  is : ∃ fs fd, P.underlying s = some (.struct fs) ∧ fs[f]? = some fd ∧ fd.offset = off ∧ ∃ d z b, Ty P fd.type d size z b ∧ flat d = !agg
theorem W_field {cs : Array Value} {f off s : Nat} {ty : TypeId} (hx : opv env x = some (.agg cs)) (hf : Fld P t f off s false) (hv : cs[off]? = some v) (hd : Nat.blt d n = true)
    (h : W P rd w0 Q n ds (.ops all rest :: k) ((d, v) :: env) H) : W P rd w0 Q n ds (.ops all (⟨some d, .field t x f, ty, pos, aft, none⟩ :: rest) :: k) env H :=
  W_pure rfl nofun hd (fun a w ha _ => by
    obtain ⟨fs, fd, h1, h2, rfl, td, z, b, hT, hfl⟩ := hf.is
    simp [execOp, ha.opv hx, Instr.field, run_underlying h1, h2, asAgg, part, hT.isAgg, hfl, hv, Result.andThen]) h
theorem W_fieldA {cs : Array Value} {l : List Value} {f off s : Nat} {ty : TypeId} (hx : opv env x = some (.agg cs)) (hf : Fld P t f off s true) (hv : (cs.toList.drop off).take s = l) (hd : Nat.blt d n = true)
    (h : W P rd w0 Q n ds (.ops all rest :: k) ((d, .agg l.toArray) :: env) H) : W P rd w0 Q n ds (.ops all (⟨some d, .field t x f, ty, pos, aft, none⟩ :: rest) :: k) env H :=
  W_pure rfl nofun hd (fun a w ha _ => by
    obtain ⟨fs, fd, h1, h2, rfl, td, z, b, hT, hfl⟩ := hf.is
    have he : cs.extract fd.offset (fd.offset + s) = l.toArray := by
      apply Array.ext'
      simp [Array.toList_extract, List.extract, hv]
    simp [execOp, ha.opv hx, Instr.field, run_underlying h1, h2, asAgg, part, hT.isAgg, hT.size, hfl, he, Result.andThen]) h
inductive OpVs (env : Env) : List Operand → List Value → Prop
  | nil : OpVs env [] []
  | cons {x : Operand} {v : Value} {l : List Operand} {vs : List Value} (h : opv env x = some v) (hs : OpVs env l vs) : OpVs env (x :: l) (v :: vs)
theorem Agree.opvs {a : Act} (ha : Agree n env a) {l : List Operand} {vs : List Value} (h : OpVs env l vs) : l.map a.eval = vs := by
  induction h with
  | nil => rfl
  | cons h _ ih => simp [ha.opv h, ih]
theorem W_makeFunc {fn : Fn} {fl cl : List Operand} {fv cv : List Value} {ty : TypeId} (hf : OpVs env fl fv) (hc : OpVs env cl cv) (hd : Nat.blt d n = true)
    (h : W P rd w0 Q n ds (.ops all rest :: k) ((d, .func fn fv.toArray cv.toArray) :: env) H) : W P rd w0 Q n ds (.ops all (⟨some d, .makeFunc fn fl.toArray cl.toArray, ty, pos, aft, none⟩ :: rest) :: k) env H :=
  W_pure rfl nofun hd (fun a w ha _ => by simp [execOp, Instr.makeFunc, ha.opvs hf, ha.opvs hc]) h

/-! ### Memory -/
/-- a cell that is known -/
def Cell (w0 : World) (H : Heap) (b i : Nat) (v : Value) : Prop := ∀ w, Sat w0 H w → w.cell? ⟨b, i, none⟩ = some v
theorem Cell.own {b i e tot : Nat} {l : List Value} (hm : (b, Blk.cells e tot l) ∈ H) (hv : l[i]? = some v) : Cell w0 H b i v := fun _ hs => hs.cell hm hv
theorem Cell.old {b i : Nat} (hv : w0.cell? ⟨b, i, none⟩ = some v) : Cell w0 H b i v := fun _ hs => hs.old hv
def Cells (w0 : World) (H : Heap) (b i : Nat) (vs : List Value) : Prop := ∀ (j : Nat) v, vs[j]? = some v → Cell w0 H b (i + j) v
theorem Cells.nil {b i : Nat} : Cells w0 H b i [] := fun j v h => by simp at h
theorem Cells.cons {b i : Nat} {vs : List Value} (h : Cell w0 H b i v) (hs : Cells w0 H b (i + 1) vs) : Cells w0 H b i (v :: vs) := fun j u hu => by
  cases j with
  | zero => simp at hu; subst hu; exact h
  | succ j => have := hs j u (by simpa using hu); rwa [show i + 1 + j = i + (j + 1) by omega] at this
theorem Cells.own {b i e tot : Nat} {l vs : List Value} (hm : (b, Blk.cells e tot l) ∈ H) (hv : (l.drop i).take vs.length = vs) : Cells w0 H b i vs := fun j v h => by
  refine Cell.own hm ?_
  have hl : j < vs.length := (List.getElem?_eq_some_iff.1 h).1
  rw [← hv, List.getElem?_take_of_lt hl, List.getElem?_drop] at h
  exact h
theorem addr_add (b i j : Nat) : (⟨b, i, none⟩ : Addr).add j = ⟨b, i + j, none⟩ := by
  unfold Addr.add; split
  · rename_i h; subst h; rfl
  · rfl
theorem W_load {b i s by_ : Nat} {td : TypeDesc} {z : Value} {ty : TypeId} (hx : opv env x = some (.pointer (some ⟨b, i, none⟩))) (ht : Ty P t td s z by_) (hf : flat td = true) (hc : Cell w0 H b i v) (hd : Nat.blt d n = true)
    (h : W P rd w0 Q n ds (.ops all rest :: k) ((d, v) :: env) H) : W P rd w0 Q n ds (.ops all (⟨some d, .load t x, ty, pos, aft, none⟩ :: rest) :: k) env H :=
  W_pure rfl nofun hd (fun a w ha hs => by
    simp [execOp, ha.opv hx, Instr.loadAt, Instr.sureAddr, loadVar, ht.isAgg, hf, hc w hs, Result.andThen]) h
theorem W_loadA {b i s by_ : Nat} {td : TypeDesc} {z : Value} {vs : List Value} {ty : TypeId} (hx : opv env x = some (.pointer (some ⟨b, i, none⟩))) (ht : Ty P t td s z by_) (hf : flat td = false) (hl : vs.length = s) (hc : Cells w0 H b i vs) (hd : Nat.blt d n = true)
    (h : W P rd w0 Q n ds (.ops all rest :: k) ((d, .agg vs.toArray) :: env) H) : W P rd w0 Q n ds (.ops all (⟨some d, .load t x, ty, pos, aft, none⟩ :: rest) :: k) env H :=
  W_pure rfl nofun hd (fun a w ha hs => by
    have hcs := run_loadCells_list (P := P) (w := w) ⟨b, i, none⟩ vs (fun j u hu => by rw [addr_add]; exact hc j u hu w hs)
    rw [hl] at hcs
    simp [execOp, ha.opv hx, Instr.loadAt, Instr.sureAddr, loadVar, ht.isAgg, ht.size, hf, hcs, Result.andThen]) h
theorem W_fieldAddr {b i f off s : Nat} {ag : Bool} {ty : TypeId} (hx : opv env x = some (.pointer (some ⟨b, i, none⟩))) (hf : Fld P t f off s ag) (h0 : s ≠ 0) (hd : Nat.blt d n = true)
    (h : W P rd w0 Q n ds (.ops all rest :: k) ((d, .pointer (some ⟨b, i + off, none⟩)) :: env) H) : W P rd w0 Q n ds (.ops all (⟨some d, .fieldAddr t x f, ty, pos, aft, none⟩ :: rest) :: k) env H :=
  W_pure rfl nofun hd (fun a w ha _ => by
    obtain ⟨fs, fd, h1, h2, rfl, td, z, b', hT, hfl⟩ := hf.is
    simp [execOp, ha.opv hx, Instr.fieldAt, run_underlying h1, h2, Instr.sureAddr, fieldPlace, hT.size, h0, Result.andThen, addr_add]) h
theorem W_nilCheck {a : Addr} {ty : TypeId} (hx : opv env x = some (.pointer (some a))) (hd : Nat.blt d n = true)
    (h : W P rd w0 Q n ds (.ops all rest :: k) ((d, .pointer (some a)) :: env) H) : W P rd w0 Q n ds (.ops all (⟨some d, .nilCheck x, ty, pos, aft, none⟩ :: rest) :: k) env H :=
  W_pure rfl nofun hd (fun a w ha _ => by simp [execOp, ha.opv hx]) h
theorem W_nilCheckF {fn : Nat} {fa ca : Array Value} {ty : TypeId} (hx : opv env x = some (.func (.func fn) fa ca)) (hd : Nat.blt d n = true)
    (h : W P rd w0 Q n ds (.ops all rest :: k) ((d, .func (.func fn) fa ca) :: env) H) : W P rd w0 Q n ds (.ops all (⟨some d, .nilCheck x, ty, pos, aft, none⟩ :: rest) :: k) env H :=
  W_pure rfl nofun hd (fun a w ha _ => by simp [execOp, ha.opv hx]) h
theorem W_box {l : List Value} {ty : TypeId} (hx : opv env x = some v) (hl : v.cells.toList = l) (hd : Nat.blt d n = true)
    (h : ∀ b : Nat, W P rd w0 Q n ds (.ops all rest :: k) ((d, .pointer (some ⟨b, 0, none⟩)) :: env) ((b, .cells t l.length l) :: H)) : W P rd w0 Q n ds (.ops all (⟨some d, .box t x, ty, pos, aft, none⟩ :: rest) :: k) env H :=
  W_gen rfl nofun hd fun a w ha hs => ⟨.pointer (some ⟨w.heap.size, 0, none⟩), _, w.alloc (.cells v.cells t), .inl (by
    simp [execOp, ha.opv hx, Instr.box, newVar, newRow, Result.andThen]), hs.alloc _ (At.alloc_cells w v.cells t), by
    have := h w.heap.size
    rw [← hl] at this
    simpa [put] using this⟩
theorem W_alloc {l : List Value} {td : TypeDesc} {s by_ : Nat} {z : Value} {ty : TypeId} (ht : Ty P t td s z by_) (hl : z.cells.toList = l) (hd : Nat.blt d n = true)
    (h : ∀ b : Nat, W P rd w0 Q n ds (.ops all rest :: k) ((d, .pointer (some ⟨b, 0, none⟩)) :: env) ((b, .cells t l.length l) :: H)) : W P rd w0 Q n ds (.ops all (⟨some d, .alloc t, ty, pos, aft, none⟩ :: rest) :: k) env H :=
  W_gen rfl nofun hd fun a w ha hs => ⟨.pointer (some ⟨w.heap.size, 0, none⟩), _, w.alloc (.cells z.cells t), .inl (by
    simp [execOp, Instr.alloc, ht.zero, newVar, newRow, Result.andThen]), hs.alloc _ (At.alloc_cells w z.cells t), by
    have := h w.heap.size
    rw [← hl] at this
    simpa [put] using this⟩
theorem At.set {w : World} {b i : Nat} {e tot : Nat} {l : List Value} {v : Value} (h : At w b (.cells e tot l)) : At (w.setCell ⟨b, i, none⟩ v) b (.cells e tot (l.set i v)) := by
  obtain ⟨c, h1, h2, h3⟩ := h
  refine ⟨c.setIfInBounds i v, ?_, by simpa using h2, ?_⟩
  · simp [World.setCell, Array.getElem?_modify, h1]
  · simp only [Array.toList_setIfInBounds, List.length_set]
    rw [List.take_set, h3]
theorem below_set {w0 w : World} {b i : Nat} {v : Value} (hb : w0.heap.size ≤ b) : Below w0.heap.size w (w.setCell ⟨b, i, none⟩ v) := (Below.refl _ _).setCell hb v
theorem W_store {b i e tot s by_ : Nat} {td : TypeDesc} {z : Value} {l l' : List Value} {ty : TypeId} (hx : opv env x = some (.pointer (some ⟨b, i, none⟩))) (hy : opv env y = some v) (ht : Ty P t td s z by_) (h1 : v.oneCell' = true) (hs1 : s = 1)
    (hm : (b, Blk.cells e tot l) ∈ H) (hi : Nat.blt i l.length = true) (hl : l.set i v = l') (hu : Upd b (.cells e tot l) (.cells e tot l') H H')
    (h : W P rd w0 Q n ds (.ops all rest :: k) env H') : W P rd w0 Q n ds (.ops all (⟨none, .store t x y, ty, pos, aft, none⟩ :: rest) :: k) env H :=
  W_gen rfl nofun rfl fun a w ha hs => by
    subst hl hs1
    have hi' : i < l.length := by simpa [Nat.blt_eq] using hi
    obtain ⟨u, hu'⟩ : ∃ u, l[i]? = some u := ⟨_, List.getElem?_eq_getElem hi'⟩
    have hc := hs.cell hm hu'
    have hf := hs.frozen (i := i) hm
    have hsz : v.cells = #[v] := by cases v <;> first | rfl | simp [Value.oneCell'] at h1
    refine ⟨undef, H', w.setCell ⟨b, i, none⟩ v, .inr ⟨?_, rfl⟩, hs.upd hu (below_set (hs.own _ hm).1) (fun j hj _ => Below.heap_setCell _ _ _ _ hj) (hs.own _ hm).2.set, h⟩
    simp [execOp, ha.opv hx, ha.opv hy, Instr.storeAt, Instr.sureAddr, storeVar, ht.size, hsz, storeCells, addr_add, run_store _ _ _ _ _ h1, hc, hf, Result.andThen]
end ops
end Go.Sl
namespace Go.Sl
open Go.RowKit

/-! ## A function's way in and out -/
def envFrom (i : Nat) : List Value → Env
  | [] => []
  | v :: l => (i, v) :: envFrom (i + 1) l
theorem look_envFrom : ∀ (l : List Value) (i x : Nat) (v : Value), look (envFrom i l) x = some v → i ≤ x ∧ l[x - i]? = some v
  | [], _, _, _, h => by simp [envFrom, look] at h
  | u :: l, i, x, v, h => by
    simp only [envFrom, look] at h
    by_cases hx : i = x
    · subst hx
      have : Nat.beq i i = true := by simp
      rw [this] at h
      simpa using h
    · rw [nbeq_false hx] at h
      obtain ⟨h1, h2⟩ := look_envFrom l (i + 1) x v (by simpa using h)
      refine ⟨by omega, ?_⟩
      rw [show x - i = (x - (i + 1)) + 1 by omega]
      simpa using h2
section
variable {P : Program} {w0 : World} {f : FuncId} {fn : Func} {c : Code} {H : Heap} {R : Value → Heap → Prop} {n : Nat}
theorem L_enter {l : List Value} {env : Env} (hf : P.funcs[f]? = some fn) (hb : fn.body = some c) (hn : fn.ntmps = n) (hl : Nat.ble l.length n = true) (he : envFrom 0 l = env)
    (h : W P none w0 (FPost P w0 fn R) n [] [.code c] env H) : LCalls P w0 f l.toArray H R := by
  intro w hs
  refine callsIn_of_wp_marks hf hb trivial ?_
  have hl' : l.length ≤ n := by simpa using hl
  refine h _ w ⟨by simp [hn]; omega, fun x v hx => ?_⟩ rfl hs
  subst he
  obtain ⟨_, h2⟩ := look_envFrom l 0 x v hx
  have h3 : x < l.length := (List.getElem?_eq_some_iff.1 h2).1
  simp only [Array.getD_eq_getD_getElem?]
  rw [Array.getElem?_append_left (by simpa using h3)]
  simpa using congrArg (Option.getD · undef) h2
end
section
variable {P : Program} {w0 : World} {fn : Func} {R : Value → Heap → Prop} {n : Nat} {k : List It} {env : Env} {H H' : Heap}
theorem run_res1 {t : Nat} {tmps : Array Value} {w : World} (hr : fn.results = #[.tmp t]) : (results fn tmps).run P w = .ok (tmps.getD t undef) w := results_tmp hr tmps P w
theorem run_res2 {t u : Nat} {tmps : Array Value} {w : World} (hr : fn.results = #[.tmp t, .tmp u]) : (results fn tmps).run P w = .ok (.tuple #[tmps.getD t undef, tmps.getD u undef]) w := results_tmp2 hr tmps P w
theorem run_res3 {t u s : Nat} {tmps : Array Value} {w : World} (hr : fn.results = #[.tmp t, .tmp u, .tmp s]) : (results fn tmps).run P w = .ok (.tuple #[tmps.getD t undef, tmps.getD u undef, tmps.getD s undef]) w := by
  simp [results, hr]
theorem run_res0 {tmps : Array Value} {w : World} (hr : fn.results = #[]) : (results fn tmps).run P w = .ok (.tuple #[]) w := results_none hr tmps P w
theorem leaves_nil {tmps : Array Value} {w : World} {v : Value} (hr : (results fn tmps).run P w = .ok v w) (hs : Sat w0 H w) (hR : R v H) :
    LeavesInM Fence.wide 0 P fn tmps (LPost w0 R) [] .returning w := ⟨v, hr, v, H, rfl, hR, hs⟩
theorem W_ret1 {t : Nat} {v : Value} (hr : fn.results = #[.tmp t]) (hv : look env t = some v) (hR : R v H) : W P none w0 (FPost P w0 fn R) n [] (.code .ret :: k) env H :=
  W_ret fun a w ha hd hs => by
    show LeavesInM _ _ _ _ _ _ a.defers _ _
    rw [hd]
    exact leaves_nil (run_res1 hr) hs (by rw [ha.val _ _ hv]; exact hR)
theorem W_ret2 {t u : Nat} {v1 v2 : Value} (hr : fn.results = #[.tmp t, .tmp u]) (hv : look env t = some v1) (hu : look env u = some v2) (hR : R (.tuple #[v1, v2]) H) : W P none w0 (FPost P w0 fn R) n [] (.code .ret :: k) env H :=
  W_ret fun a w ha hd hs => by
    show LeavesInM _ _ _ _ _ _ a.defers _ _
    rw [hd]
    exact leaves_nil (run_res2 hr) hs (by rw [ha.val _ _ hv, ha.val _ _ hu]; exact hR)
theorem W_ret3 {t u s : Nat} {v1 v2 v3 : Value} (hr : fn.results = #[.tmp t, .tmp u, .tmp s]) (hv : look env t = some v1) (hu : look env u = some v2) (hs3 : look env s = some v3) (hR : R (.tuple #[v1, v2, v3]) H) : W P none w0 (FPost P w0 fn R) n [] (.code .ret :: k) env H :=
  W_ret fun a w ha hd hs => by
    show LeavesInM _ _ _ _ _ _ a.defers _ _
    rw [hd]
    exact leaves_nil (run_res3 hr) hs (by rw [ha.val _ _ hv, ha.val _ _ hu, ha.val _ _ hs3]; exact hR)
theorem W_ret0 (hr : fn.results = #[]) (hR : R (.tuple #[]) H) : W P none w0 (FPost P w0 fn R) n [] (.code .ret :: k) env H :=
  W_ret fun a w ha hd hs => by
    show LeavesInM _ _ _ _ _ _ a.defers _ _
    rw [hd]
    exact leaves_nil (run_res0 hr) hs hR
theorem W_end0 (hr : fn.results = #[]) (hR : R (.tuple #[]) H) : W P none w0 (FPost P w0 fn R) n [] [] env H :=
  fun a w ha hd hs => by
    show LeavesInM _ _ _ _ _ _ a.defers _ _
    rw [hd]
    exact leaves_nil (run_res0 hr) hs hR
end
/-! ## Calls -/
section
variable {P : Program} {rd : Option Nat} {w0 : World} {Q : Exit → Act → World → Prop} {n : Nat} {ds : List Deferred} {k : List It} {env env' : Env} {H H' : Heap} {all : Array Oper} {rest : List Oper}
variable {d : Option Nat} {x y c : Operand} {t u : TypeId} {pos : String} {aft : Array Edge} {v : Value} {tys : Array TypeId}
theorem W_callG {o : Oper} {f : FuncId} {args : Array Value} {R : Value → Heap → Prop} (hg : o.guard = none) (hdef : ∀ c, o.op ≠ .defer c) (hd : dok n o.dst = true)
    (hr : ∀ a w, Agree n env a → Sat w0 H w → (execOp a.eval o).run P w = .ok (.enter f args) w) (hL : LCalls P w0 f args H R)
    (h : ∀ v H', R v H' → W P rd w0 Q n ds (.ops all rest :: k) (put o.dst v env) H') : W P rd w0 Q n ds (.ops all (o :: rest) :: k) env H := by
  intro a w ha hds hs
  show wpListIn (fen rd) 0 P all (Cont P rd Q k) (o :: rest) a w
  unfold wpListIn
  rw [if_pos (by simp [Region.wanted, hg])]
  refine ⟨fun _ _ => trivial, ?_⟩
  rw [Oper.semAt_eq _ _ _ hdef, hr a w ha hs, Oper.uponIn_enter]
  refine ⟨fun h => by simp [Fence.wide] at h, ?_⟩
  have hc : CallsIn (fen rd) 0 P f args w _ := hL w hs
  refine hc.mono ?_
  rintro e w' ⟨v, H', rfl, hR, hs'⟩
  exact h v H' hR (a.put o.dst v) w' (ha.put hd) (by cases o.dst <;> exact hds) hs'
theorem W_call {f : FuncId} {l : List Operand} {vs : List Value} {R : Value → Heap → Prop} (hc : OpVs env l vs) (hf : ∀ (args : Array Value) (w : World), (callFunc f args).run P w = .ok (.enter f args) w) (hd : dok n d = true)
    (hL : LCalls P w0 f vs.toArray H R) (h : ∀ v H', R v H' → W P rd w0 Q n ds (.ops all rest :: k) (put d v env) H') :
    W P rd w0 Q n ds (.ops all (⟨d, .call ⟨.value (.func f), l.toArray, tys⟩, t, pos, aft, none⟩ :: rest) :: k) env H :=
  W_callG rfl nofun hd (fun a w ha _ => by
    have : l.map a.eval = vs := ha.opvs hc
    simp [execOp, resolve, Act.eval, Deferred.ofValue, invoke, this, hf, Result.andThen]) hL h
/-- the contract of a function that hands back one known value and leaves all as it was -/
def Pure (P : Program) (T : World → Prop) (f : FuncId) (args : List Value) (v : Value) : Prop := ∀ w0 H, T w0 → LCalls P w0 f args.toArray H (fun v' H' => v' = v ∧ H' = H)
theorem W_callp {f : FuncId} {l : List Operand} {vs : List Value} (hc : OpVs env l vs) (hf : ∀ (args : Array Value) (w : World), (callFunc f args).run P w = .ok (.enter f args) w) (hd : dok n d = true)
    {T : World → Prop} (hT : T w0) (hL : Pure P T f vs v) (h : W P rd w0 Q n ds (.ops all rest :: k) (put d v env) H) :
    W P rd w0 Q n ds (.ops all (⟨d, .call ⟨.value (.func f), l.toArray, tys⟩, t, pos, aft, none⟩ :: rest) :: k) env H :=
  W_call hc hf hd (hL w0 H hT) (by rintro v' H' ⟨rfl, rfl⟩; exact h)
/-- a call of a function value: its own first and captured values around the arguments -/
theorem W_callv {f : FuncId} {l : List Operand} {vs : List Value} {fa ca : Array Value} {R : Value → Heap → Prop} (hx : opv env x = some (.func (.func f) fa ca)) (hc : OpVs env l vs) (hf : ∀ (args : Array Value) (w : World), (callFunc f args).run P w = .ok (.enter f args) w) (hd : dok n d = true)
    (hL : LCalls P w0 f (fa ++ vs.toArray ++ ca) H R) (h : ∀ v H', R v H' → W P rd w0 Q n ds (.ops all rest :: k) (put d v env) H') :
    W P rd w0 Q n ds (.ops all (⟨d, .call ⟨.value x, l.toArray, tys⟩, t, pos, aft, none⟩ :: rest) :: k) env H :=
  W_callG rfl nofun hd (fun a w ha _ => by
    have : l.map a.eval = vs := ha.opvs hc
    simp [execOp, resolve, ha.opv hx, Deferred.ofValue, invoke, this, hf, Result.andThen]) hL h
end
/-- a contract of the kit's own, that makes one block -/
theorem L_of_alloc {P : Program} {w0 : World} {H : Heap} {f : FuncId} {args : Array Value} {T : World → Prop} {C : Array Value} {e : TypeId} {g : Addr → Value}
    (h : ∀ w, T w → Calls P f args w fun en w' => en = .returned (g ⟨w.heap.size, 0, none⟩) ∧ w' = w.alloc (.cells C e)) (hT : ∀ w, Sat w0 H w → T w) :
    LCalls P w0 f args H (fun v H' => ∃ b, v = g ⟨b, 0, none⟩ ∧ H' = (b, .cells e C.size C.toList) :: H) := fun w hs => by
  refine (callsIn_wide.2 (h w (hT w hs))).mono ?_
  rintro en w' ⟨rfl, rfl⟩
  exact ⟨_, _, rfl, ⟨_, rfl, rfl⟩, hs.alloc _ (At.alloc_cells w C e)⟩
/-- a contract of the kit's own, that leaves all that was as it was -/
theorem L_of_below {P : Program} {w0 : World} {H : Heap} {v : Value} {f : FuncId} {args : Array Value} {T : World → Prop} (h : ∀ w, T w → Calls P f args w fun en w' => en = .returned v ∧ Below w.heap.size w w') (hT : ∀ w, Sat w0 H w → T w) :
    LCalls P w0 f args H (fun v' H' => v' = v ∧ H' = H) := fun w hs => by
  refine (callsIn_wide.2 (h w (hT w hs))).mono ?_
  rintro en w' ⟨rfl, hb⟩
  exact ⟨_, _, rfl, ⟨rfl, rfl⟩, hs.below' hb⟩
/-! ## Builtins, indexes, slices -/
section
variable {P : Program} {rd : Option Nat} {w0 : World} {Q : Exit → Act → World → Prop} {n : Nat} {ds : List Deferred} {k : List It} {env env' : Env} {H H' : Heap} {all : Array Oper} {rest : List Oper}
variable {d : Nat} {x y c : Operand} {t u ty : TypeId} {pos : String} {aft : Array Edge} {v : Value} {tys : Array TypeId}
theorem W_len {ad : Option Addr} {len cap s by_ : Nat} {e : TypeId} {z : Value} {m : Int} (hx : opv env x = some (.slice ad len cap)) (ht : Ty P t (.slice e) s z by_) (hm : (len : Int) = m) (hd : Nat.blt d n = true)
    (h : W P rd w0 Q n ds (.ops all rest :: k) ((d, .int .i64 m) :: env) H) : W P rd w0 Q n ds (.ops all (⟨some d, .call ⟨.builtin .len, #[x], #[t]⟩, ty, pos, aft, none⟩ :: rest) :: k) env H :=
  W_pure rfl nofun hd (fun a w ha _ => by simp [execOp, resolve, invoke, builtin, Builtin.len_, ha.opv hx, ht.run, goInt, Result.andThen, hm]) h
theorem W_lens {b : ByteArray} {s by_ : Nat} {z : Value} {m : Int} (hx : opv env x = some (.string b)) (ht : Ty P t .string s z by_) (hm : (b.size : Int) = m) (hd : Nat.blt d n = true)
    (h : W P rd w0 Q n ds (.ops all rest :: k) ((d, .int .i64 m) :: env) H) : W P rd w0 Q n ds (.ops all (⟨some d, .call ⟨.builtin .len, #[x], #[t]⟩, ty, pos, aft, none⟩ :: rest) :: k) env H :=
  W_pure rfl nofun hd (fun a w ha _ => by simp [execOp, resolve, invoke, builtin, Builtin.len_, ha.opv hx, ht.run, goInt, Result.andThen, hm]) h
theorem W_min2 {q q' : IntKind} {i j m : Int} (hx : opv env x = some (.int q i)) (hy : opv env y = some (.int q' j)) (hm : (if j < i then j else i) = m) (hd : Nat.blt d n = true)
    (h : W P rd w0 Q n ds (.ops all rest :: k) ((d, .int q m) :: env) H) : W P rd w0 Q n ds (.ops all (⟨some d, .call ⟨.builtin .min, #[x, y], tys⟩, ty, pos, aft, none⟩ :: rest) :: k) env H :=
  W_pure rfl nofun hd (fun a w ha _ => by simp [execOp, resolve, invoke, builtin, Builtin.min_, Builtin.min2, ha.opv hx, ha.opv hy, Result.andThen, ← hm]) h
theorem W_max2 {q q' : IntKind} {i j m : Int} (hx : opv env x = some (.int q i)) (hy : opv env y = some (.int q' j)) (hm : (if j > i then j else i) = m) (hd : Nat.blt d n = true)
    (h : W P rd w0 Q n ds (.ops all rest :: k) ((d, .int q m) :: env) H) : W P rd w0 Q n ds (.ops all (⟨some d, .call ⟨.builtin .max, #[x, y], tys⟩, ty, pos, aft, none⟩ :: rest) :: k) env H :=
  W_pure rfl nofun hd (fun a w ha _ => by simp [execOp, resolve, invoke, builtin, Builtin.max_, Builtin.max2, ha.opv hx, ha.opv hy, Result.andThen, ← hm]) h
/-- the address of a slice's element -/
theorem W_indexAddr {b o len cap j s es by_ eb : Nat} {q : IntKind} {i : Int} {e : TypeId} {z ez : Value} {ed : TypeDesc} (hx : opv env x = some (.slice (some ⟨b, o, none⟩) len cap)) (hy : opv env y = some (.int q i)) (ht : Ty P t (.slice e) s z by_) (he : Ty P e ed es ez eb)
    (hi : i = (j : Int)) (hj : j < len) {at_ : Nat} (hat : o + j * es = at_) (hd : Nat.blt d n = true)
    (h : W P rd w0 Q n ds (.ops all rest :: k) ((d, .pointer (some ⟨b, at_, none⟩)) :: env) H) : W P rd w0 Q n ds (.ops all (⟨some d, .indexAddr t x y, ty, pos, aft, none⟩ :: rest) :: k) env H :=
  W_pure rfl nofun hd (fun a w ha _ => by
    subst hi hat
    simp [execOp, Instr.indexAt, ha.opv hx, ha.opv hy, asIntOf, ht.run, he.size, hj, addr_add, Result.andThen]) h
theorem W_indexAddrZ {b o len cap s es by_ eb : Nat} {q : IntKind} {i : Int} {e : TypeId} {z ez : Value} {ed : TypeDesc} (hx : opv env x = some (.slice (some ⟨b, o, none⟩) len cap)) (hy : opv env y = some (.int q i)) (ht : Ty P t (.slice e) s z by_) (he : Ty P e ed es ez eb)
    (hi : 0 ≤ i) (hj : i < (len : Int)) {at_ : Nat} (hat : o + i.toNat * es = at_) (hd : Nat.blt d n = true)
    (h : W P rd w0 Q n ds (.ops all rest :: k) ((d, .pointer (some ⟨b, at_, none⟩)) :: env) H) : W P rd w0 Q n ds (.ops all (⟨some d, .indexAddr t x y, ty, pos, aft, none⟩ :: rest) :: k) env H :=
  W_indexAddr (j := i.toNat) hx hy ht he (by omega) (by omega) hat hd h
/-- of an array's, behind its address -/
theorem W_indexAddrA {b o len j s es by_ eb : Nat} {q : IntKind} {i : Int} {e : TypeId} {z ez : Value} {ed : TypeDesc} (hx : opv env x = some (.pointer (some ⟨b, o, none⟩))) (hy : opv env y = some (.int q i)) (ht : Ty P t (.array len e) s z by_) (he : Ty P e ed es ez eb)
    (hi : i = (j : Int)) (hj : j < len) {at_ : Nat} (hat : o + j * es = at_) (hd : Nat.blt d n = true)
    (h : W P rd w0 Q n ds (.ops all rest :: k) ((d, .pointer (some ⟨b, at_, none⟩)) :: env) H) : W P rd w0 Q n ds (.ops all (⟨some d, .indexAddr t x y, ty, pos, aft, none⟩ :: rest) :: k) env H :=
  W_pure rfl nofun hd (fun a w ha _ => by
    subst hi hat
    simp [execOp, Instr.indexAt, ha.opv hx, ha.opv hy, asIntOf, ht.run, he.size, hj, addr_add, Instr.sureAddr, Result.andThen]) h
/-- a string's byte -/
theorem W_indexS {b : ByteArray} {j s by_ : Nat} {q : IntKind} {i : Int} {z : Value} {r : UInt8} {m : Int} (hx : opv env x = some (.string b)) (hy : opv env y = some (.int q i)) (ht : Ty P t .string s z by_) (hi : i = (j : Int)) (hr : b[j]? = some r) (hm : (r.toNat : Int) = m) (hd : Nat.blt d n = true)
    (h : W P rd w0 Q n ds (.ops all rest :: k) ((d, .int .u8 m) :: env) H) : W P rd w0 Q n ds (.ops all (⟨some d, .index t x y, ty, pos, aft, none⟩ :: rest) :: k) env H :=
  W_pure rfl nofun hd (fun a w ha _ => by
    subst hi hm
    simp [execOp, Instr.index, ha.opv hx, ha.opv hy, asIntOf, ht.run, hr, Result.andThen]) h
/-- an array value's element of one cell -/
theorem W_indexA {cs : Array Value} {j s by_ len es eb : Nat} {q : IntKind} {i : Int} {e : TypeId} {z ez : Value} {ed : TypeDesc} (hx : opv env x = some (.agg cs)) (hy : opv env y = some (.int q i)) (ht : Ty P t (.array len e) s z by_) (he : Ty P e ed es ez eb) (hf : flat ed = true) (hi : i = (j : Int)) (hj : j < len)
    (hr : cs[j * es]? = some v) (hd : Nat.blt d n = true)
    (h : W P rd w0 Q n ds (.ops all rest :: k) ((d, v) :: env) H) : W P rd w0 Q n ds (.ops all (⟨some d, .index t x y, ty, pos, aft, none⟩ :: rest) :: k) env H :=
  W_pure rfl nofun hd (fun a w ha _ => by
    subst hi
    simp [execOp, Instr.index, ha.opv hx, ha.opv hy, asIntOf, ht.run, he.size, he.isAgg, hf, part, hr, hj, Result.andThen]) h
/-- x[lo:hi] of a slice -/
def optIdx (env : Env) (len : Nat) : Option Operand → Nat → Prop
  | none, i => i = len
  | some o, i => ∃ q : IntKind, opv env o = some (.int q (i : Int))
theorem run_slice_slice {ad : Option Addr} {len cap l hh s es by_ eb : Nat} {lo hi : Option Operand} {e : TypeId} {z ez : Value} {ed : TypeDesc} {a : Act} {w : World} (ha : Agree n env a) (ht : Ty P t (.slice e) s z by_) (he : Ty P e ed es ez eb)
    (hlo : optIdx env 0 lo l) (hhi : optIdx env len hi hh) (h1 : l ≤ hh) (h2 : hh ≤ cap) :
    (Instr.sliceAt t (.slice ad len cap) (lo.map a.eval) (hi.map a.eval) none).run P w = .ok (.slice (if cap = l then ad else ad.map (·.add (l * es))) (hh - l) (cap - l)) w := by
  have hb : (Instr.sliceBounds true len cap (lo.map a.eval) (hi.map a.eval) none).run P w = .ok (l, hh, cap) w := by
    cases lo with
    | none =>
      have hl : l = 0 := hlo
      subst hl
      cases hi with
      | none => have : hh = len := hhi; subst this; simp [Instr.sliceBounds, Result.andThen]
      | some o => obtain ⟨q, hq⟩ := hhi; simp [Instr.sliceBounds, ha.opv hq, Instr.sliceBound, asIntOf, h2, Result.andThen]
    | some o' =>
      obtain ⟨q', hq'⟩ := hlo
      cases hi with
      | none => have : hh = len := hhi; subst this; simp [Instr.sliceBounds, ha.opv hq', Instr.sliceBound, asIntOf, h1, Result.andThen]
      | some o => obtain ⟨q, hq⟩ := hhi; simp [Instr.sliceBounds, ha.opv hq, ha.opv hq', Instr.sliceBound, asIntOf, h1, h2, Result.andThen]
  simp [Instr.sliceAt, Instr.slice, ht.run, hb, he.size, Result.andThen]
/-- x[:hi] -/
theorem W_slice0 {ad : Option Addr} {len cap hh s es by_ eb : Nat} {lo hi : Option Operand} {e : TypeId} {z ez : Value} {ed : TypeDesc} (hx : opv env x = some (.slice ad len cap)) (ht : Ty P t (.slice e) s z by_) (he : Ty P e ed es ez eb)
    (hlo : optIdx env 0 lo 0) (hhi : optIdx env len hi hh) (h2 : hh ≤ cap) (hd : Nat.blt d n = true)
    (h : W P rd w0 Q n ds (.ops all rest :: k) ((d, .slice ad hh cap) :: env) H) : W P rd w0 Q n ds (.ops all (⟨some d, .slice t x lo hi none, ty, pos, aft, none⟩ :: rest) :: k) env H :=
  W_pure rfl nofun hd (fun a w ha _ => by
    have := run_slice_slice (P := P) (w := w) (ad := ad) ha ht he hlo hhi (Nat.zero_le _) h2
    have ea : ∀ x : Option Addr, (if cap = 0 then x else x.map (·.add (0 * es))) = x := fun x => by
      split
      · rfl
      · cases x <;> simp [Addr.add]
    rw [ea] at this
    simp only [Nat.sub_zero] at this
    simp [execOp, ha.opv hx, this, Result.andThen]) h
/-- x[lo:hi]: where nothing is left the address is of no account -/
theorem W_slice {b o len cap l hh s es by_ eb : Nat} {lo hi : Option Operand} {e : TypeId} {z ez : Value} {ed : TypeDesc} (hx : opv env x = some (.slice (some ⟨b, o, none⟩) len cap)) (ht : Ty P t (.slice e) s z by_) (he : Ty P e ed es ez eb)
    (hlo : optIdx env 0 lo l) (hhi : optIdx env len hi hh) (h1 : l ≤ hh) (h2 : hh ≤ cap) (hd : Nat.blt d n = true)
    (h : ∀ o', (l < cap → o' = o + l * es) → W P rd w0 Q n ds (.ops all rest :: k) ((d, .slice (some ⟨b, o', none⟩) (hh - l) (cap - l)) :: env) H) : W P rd w0 Q n ds (.ops all (⟨some d, .slice t x lo hi none, ty, pos, aft, none⟩ :: rest) :: k) env H := by
  refine W_pure (v := .slice (some ⟨b, if cap = l then o else o + l * es, none⟩) (hh - l) (cap - l)) rfl nofun hd (fun a w ha _ => ?_) (h _ (fun hlt => by rw [if_neg (by omega)]))
  have := run_slice_slice (P := P) (w := w) (ad := some ⟨b, o, none⟩) ha ht he hlo hhi h1 h2
  have ea : (if cap = l then some (⟨b, o, none⟩ : Addr) else (some (⟨b, o, none⟩ : Addr)).map (·.add (l * es))) = some ⟨b, if cap = l then o else o + l * es, none⟩ := by
    split <;> simp [addr_add]
  rw [ea] at this
  simp [execOp, ha.opv hx, this, Result.andThen]
end
end Go.Sl
namespace Go.Sl
open Go.RowKit

/-! ## '&&' and '||': the guarded operations are walked once; their ways meet again at the pick -/
def isPick (dj : Nat) (o : Oper) : Bool :=
  match o.op with
  | .pick (.tmp t) _ _ => Nat.beq t dj
  | _ => false
def spanPick (dj : Nat) : List Oper → Option (List Oper × Oper × List Oper)
  | [] => none
  | o :: l => bif isPick dj o then some ([], o, l) else
    match spanPick dj l with
    | some (g, p, r) => some (o :: g, p, r)
    | none => none
theorem spanPick_eq {dj : Nat} : ∀ {l g : List Oper} {p : Oper} {r : List Oper}, spanPick dj l = some (g, p, r) → l = g ++ p :: r
  | [], _, _, _, h => by simp [spanPick] at h
  | o :: l, g, p, r, h => by
    simp only [spanPick] at h
    cases hp : isPick dj o with
    | true => rw [hp] at h; simp at h; obtain ⟨rfl, rfl, rfl⟩ := h; rfl
    | false =>
      rw [hp] at h
      simp only [cond_false] at h
      cases hs : spanPick dj l with
      | none => rw [hs] at h; cases h
      | some x =>
        obtain ⟨g', p', r'⟩ := x
        rw [hs] at h
        simp only [Option.some.injEq, Prod.mk.injEq] at h
        obtain ⟨rfl, rfl, rfl⟩ := h
        rw [spanPick_eq hs]; rfl
/-- the slot on which an operation's guard looks -/
def gslot (all : Array Oper) (o : Oper) : Option Nat :=
  match o.guard with
  | some jb => (all[jb.1]?).bind (·.dst)
  | none => none
/-- every operation of the list is passed over: its guard's slot is one of 'dead' -/
def skips (all : Array Oper) : List Nat → List Oper → Bool
  | _, [] => true
  | dead, o :: l =>
    match o.dst with
    | some d =>
      match gslot all o with
      | some x => dead.elem x && skips all (d :: dead) l
      | none => false
    | none => false
def freshOps (env : Env) : List Oper → Bool
  | [] => true
  | o :: l =>
    match o.dst with
    | some d => (look env d).isNone && freshOps env l
    | none => freshOps env l
section
variable {P : Program} {rd : Option Nat} {w0 : World} {Q : Exit → Act → World → Prop} {n : Nat} {ds : List Deferred} {k : List It} {env env' : Env} {H H' : Heap} {all : Array Oper} {rest : List Oper}
theorem skips_mono {all : Array Oper} : ∀ (l : List Oper) (D D' : List Nat), (∀ x, x ∈ D → x ∈ D') → skips all D l = true → skips all D' l = true
  | [], _, _, _, _ => rfl
  | o :: l, D, D', hDD, h => by
    simp only [skips] at h ⊢
    cases hd : o.dst with
    | none => simp [hd] at h
    | some d =>
      cases hg : gslot all o with
      | none => simp [hd, hg] at h
      | some y =>
        simp only [hd, hg, Bool.and_eq_true, List.elem_eq_mem, decide_eq_true_eq] at h ⊢
        exact ⟨hDD _ h.1, skips_mono l _ _ (fun x hx => by
          cases hx with
          | head => exact List.mem_cons_self
          | tail _ hx => exact List.mem_cons_of_mem _ (hDD x hx)) h.2⟩
theorem wp_skips {b0 : Bool} {dj : Nat} : ∀ (l l2 : List Oper) (dead : List Nat) (a : Act) (w : World),
    skips all (dj :: dead) l = true → freshOps ((dj, .bool b0) :: env) l = true → (∀ o ∈ l, ∀ j b, o.guard = some (j, b) → gslot all o = some dj → b = !b0) →
    Agree n ((dj, .bool b0) :: env) a → (∀ x ∈ dead, x ≠ dj → a.tmps.getD x undef = undef) → a.defers = ds →
    (∀ a', Agree n ((dj, .bool b0) :: env) a' → a'.defers = ds → wpListIn (fen rd) 0 P all (Cont P rd Q k) l2 a' w) → wpListIn (fen rd) 0 P all (Cont P rd Q k) (l ++ l2) a w
  | [], l2, dead, a, w, _, _, _, ha, _, hd, hK => hK a ha hd
  | o :: l, l2, dead, a, w, hsk, hfr, hg, ha, hdead, hd, hK => by
    simp only [skips] at hsk
    cases hdo : o.dst with
    | none => simp [hdo] at hsk
    | some d =>
      cases hgs : gslot all o with
      | none => simp [hdo, hgs] at hsk
      | some x =>
        simp only [hdo, hgs, Bool.and_eq_true, List.elem_eq_mem, decide_eq_true_eq] at hsk
        obtain ⟨hx, hsk⟩ := hsk
        simp only [freshOps, hdo, Bool.and_eq_true, Option.isNone_iff_eq_none] at hfr
        obtain ⟨j, b, hgo, hdj⟩ : ∃ j b, o.guard = some (j, b) ∧ (all[j]?).bind (·.dst) = some x := by
          unfold gslot at hgs
          cases hgo : o.guard with
          | none => simp [hgo] at hgs
          | some jb => exact ⟨jb.1, jb.2, rfl, by simpa [hgo] using hgs⟩
        have hwant : ¬ (Region.wanted o (yielded all a.tmps) = true) := by
          simp only [Region.wanted, hgo, yielded, hdj, Option.bind_some]
          by_cases hxd : x = dj
          · subst hxd
            have hv := ha.val x (.bool b0) (by simp [look])
            have hb := hg o List.mem_cons_self j b hgo hgs
            subst hb
            cases hc : a.tmps[x]? with
            | none => simp
            | some u =>
              rw [Array.getD_eq_getD_getElem?, hc] at hv
              simp only [Option.getD_some] at hv
              subst hv
              cases b0 <;> simp
          · have hu := hdead x (by cases hx with
              | head => exact absurd rfl hxd
              | tail _ h => exact h) hxd
            cases hc : a.tmps[x]? with
            | none => simp
            | some u =>
              rw [Array.getD_eq_getD_getElem?, hc] at hu
              simp only [Option.getD_some] at hu
              subst hu
              simp [undef]
        show wpListIn (fen rd) 0 P all (Cont P rd Q k) (o :: (l ++ l2)) a w
        unfold wpListIn
        rw [if_neg hwant]
        refine ⟨fun _ _ => trivial, ?_⟩
        have hput : ∀ y, y ≠ d → (a.put o.dst undef).tmps.getD y undef = a.tmps.getD y undef := fun y hy => by
          simp only [Act.put, hdo, Array.getD_eq_getD_getElem?]
          rw [Array.getElem?_setIfInBounds_ne (fun e => hy e.symm)]
        have hputd : (a.put o.dst undef).tmps.getD d undef = undef := by
          simp only [Act.put, hdo, Array.getD_eq_getD_getElem?, Array.getElem?_setIfInBounds]
          by_cases hdl : d < a.tmps.size
          · simp [hdl]
          · simp [hdl]
        refine wp_skips l l2 (d :: dead) (a.put o.dst undef) w ?_ hfr.2 (fun o' ho' => hg o' (List.mem_cons_of_mem _ ho')) ?_ ?_ (by simp [Act.put, hdo, hd]) hK
        · exact skips_mono l _ _ (fun x hx => by
            cases hx with
            | head => exact List.mem_cons_of_mem _ List.mem_cons_self
            | tail _ hx => cases hx with
              | head => exact List.mem_cons_self
              | tail _ hx => exact List.mem_cons_of_mem _ (List.mem_cons_of_mem _ hx)) hsk
        · refine ⟨by simp [Act.put, hdo, ha.size], fun y v hy => ?_⟩
          have hyd : y ≠ d := fun e => by subst e; rw [hfr.1] at hy; cases hy
          rw [hput y hyd]
          exact ha.val y v hy
        · intro y hy hyd
          by_cases hyd' : y = d
          · subst hyd'; exact hputd
          · rw [hput y hyd']
            exact hdead y (by cases hy with
              | head => exact absurd rfl hyd'
              | tail _ h => exact h) hyd
/-- 'cur' says all that E says -/
inductive Ext (E : Env) : Env → Prop
  | refl : Ext E E
  | cons {x : Nat} {v : Value} {cur : Env} (h : look E x = none) (hs : Ext E cur) : Ext E ((x, v) :: cur)
theorem Ext.look {E cur : Env} (h : Ext E cur) : ∀ x v, Sl.look E x = some v → Sl.look cur x = some v := by
  induction h with
  | refl => exact fun _ _ h => h
  | @cons x u cur' hn _ ih =>
    intro y v hy
    simp only [Sl.look]
    by_cases hxy : x = y
    · subst hxy; rw [hn] at hy; cases hy
    · rw [nbeq_false hxy]; exact ih y v hy
/-- behind the guarded operations: the slot 's' holds 'v', and all that E says stands -/
def Met (w0 : World) (n : Nat) (ds : List Deferred) (s : Operand) (v : Value) (E : Env) (H : Heap) (a : Act) (w : World) : Prop :=
  Agree n E a ∧ a.eval s = v ∧ a.defers = ds ∧ Sat w0 H w
theorem W_met {s : Operand} {v : Value} {E : Env} (hv : opv env s = some v) (hx : Ext E env) : W P rd w0 Q n ds (.ops all [] :: .goal (Met w0 n ds s v E H) :: k) env H :=
  fun a w ha hd hs => ⟨⟨ha.size, fun y u hy => ha.val _ _ (hx.look _ _ hy)⟩, ha.opv hv, hd, hs⟩
def wantsAll (all : Array Oper) (dj : Nat) (b : Bool) (l : List Oper) : Bool :=
  l.all fun o => match o.guard, gslot all o with
    | some (_, b'), some x => !(Nat.beq x dj) || (b' == b)
    | _, _ => true
theorem Agree.here {E : Env} {a : Act} {x : Nat} {v : Value} (h : Agree n E a) (hx : look E x = some v) : Agree n ((x, v) :: E) a := ⟨h.size, fun y u hy => by
  simp only [look] at hy
  by_cases hsy : x = y
  · subst hsy
    have : Nat.beq x x = true := by simp
    rw [this] at hy
    simp at hy; subst hy
    exact h.val _ _ hx
  · rw [nbeq_false hsy] at hy
    exact h.val _ _ hy⟩
theorem Agree.unhere {E : Env} {a : Act} {x : Nat} {v : Value} (h : Agree n ((x, v) :: E) a) (hx : ∀ u, look E x = some u → u = v) : Agree n E a := ⟨h.size, fun y u hy => by
  by_cases hsy : x = y
  · subst hsy
    rw [hx u hy]
    exact h.val _ _ (by simp [look])
  · exact h.val _ _ (by simp only [look, nbeq_false hsy]; exact hy)⟩
theorem wp_met {J : Act → World → Prop} : ∀ (l1 l2 : List Oper) (a : Act) (w : World),
    wpListIn (fen rd) 0 P all (Cont P rd Q (.goal J :: k)) l1 a w →
    (∀ a w, J a w → wpListIn (fen rd) 0 P all (Cont P rd Q k) l2 a w) →
    wpListIn (fen rd) 0 P all (Cont P rd Q k) (l1 ++ l2) a w
  | [], _, a, w, h1, h2 => h2 a w h1
  | o :: l1, l2, a, w, h1, h2 => by
    show wpListIn (fen rd) 0 P all (Cont P rd Q k) (o :: (l1 ++ l2)) a w
    unfold wpListIn at h1 ⊢
    split at h1
    · rename_i hw
      rw [if_pos hw]
      refine ⟨h1.1, ?_⟩
      have h3 := h1.2
      generalize (o.semAt (fen rd).round a.eval).run P w = r at h3 ⊢
      cases r with
      | ok x w' =>
        cases x <;> simp only [Oper.uponIn] at h3 ⊢
        case value v => exact wp_met l1 l2 _ _ h3 h2
        case skip => exact wp_met l1 l2 _ _ h3 h2
        case defer d => exact wp_met l1 l2 _ _ h3 h2
        case enter f args =>
          refine ⟨h3.1, h3.2.mono ?_⟩
          intro e w'' he
          cases e with
          | returned v => exact wp_met l1 l2 _ _ he h2
          | panicked c => exact he
          | outgrown => exact he
        case row r args => exact ⟨h3.1, h3.2.mono fun v w'' he => wp_met l1 l2 _ _ he h2⟩
        case round l f tmps as body =>
          refine ⟨h3.1, h3.2.mono ?_⟩
          intro e w'' he
          cases e with
          | returned v => exact wp_met l1 l2 _ _ he h2
          | panicked c => exact he
          | outgrown => exact he
      | halt x w' => cases x <;> simp only [Oper.uponIn] at h3 ⊢ <;> exact h3
    · rename_i hw
      rw [if_neg hw]
      exact ⟨h1.1, wp_met l1 l2 _ _ h1.2 h2⟩
/-- a guard that is known to hold (or none) -/
def gok (all : Array Oper) (env : Env) : Option (Nat × Bool) → Bool
  | none => true
  | some (j, b) =>
    match (all[j]?).bind (·.dst) with
    | some x => match look env x with
      | some (.bool c) => c == b
      | _ => false
    | none => false
theorem Agree.yielded {E : Env} {a : Act} (ha : Agree n E a) {j x : Nat} {b : Bool} (hj : (all[j]?).bind (·.dst) = some x) (ht : look E x = some (.bool b)) : yielded all a.tmps j = some b := by
  have hv := ha.val _ _ ht
  unfold Go.yielded
  rw [hj]
  simp only [Option.bind_some]
  have hlt : x < a.tmps.size := by
    rcases Nat.lt_or_ge x a.tmps.size with h | h
    · exact h
    · rw [Array.getD_eq_getD_getElem?, Array.getElem?_eq_none h] at hv; simp [undef] at hv
  rw [Array.getD_eq_getD_getElem?, Array.getElem?_eq_getElem hlt] at hv
  rw [Array.getElem?_eq_getElem hlt]
  simp only [Option.getD_some] at hv
  rw [hv]
theorem wanted_gok {E : Env} {a : Act} (ha : Agree n E a) {d : Option Nat} {op : Op} {ty : TypeId} {pos : String} {aft : Array Edge} {pg : Option (Nat × Bool)} (h : gok all E pg = true) : Region.wanted ⟨d, op, ty, pos, aft, pg⟩ (Go.yielded all a.tmps) = true := by
  cases pg with
  | none => rfl
  | some jb =>
    obtain ⟨j, b⟩ := jb
    simp only [gok] at h
    split at h
    · rename_i x hx
      split at h
      · rename_i c hc
        have := ha.yielded hx hc
        simp only [Region.wanted, this]
        cases c <;> cases b <;> simp_all
      · cases h
    · cases h
theorem W_short {b0 t c : Bool} {j dj d : Nat} {G rest : List Oper} {d0 : Option Nat} {op0 : Op} {ty0 : TypeId} {pos0 : String} {aft0 : Array Edge} {l : List Oper} {s px py : Operand} {ty : TypeId} {pos : String} {aft : Array Edge} {pg : Option (Nat × Bool)}
    (hj : (all[j]?).bind (·.dst) = some dj) (ht : look env dj = some (.bool t))
    (hl : spanPick dj (⟨d0, op0, ty0, pos0, aft0, some (j, b0)⟩ :: l) = some (G, ⟨some d, .pick (.tmp dj) px py, ty, pos, aft, pg⟩, rest))
    (hchk : (skips all [dj] G && freshOps ((dj, .bool b0) :: env) G && wantsAll all dj b0 G && dok n (some d) && gok all env pg) = true)
    (hx : (if b0 = true then px else py) = s) (hy : (if b0 = true then py else px) = .const (.bool (!b0)))
    (h1 : t = b0 → W P rd w0 Q n ds (.ops all G :: .goal (Met w0 n ds s (.bool c) ((dj, .bool b0) :: env) H) :: k) ((dj, .bool b0) :: env) H)
    (h2 : W P rd w0 Q n ds (.ops all rest :: k) ((d, .bool (bif b0 then t && c else t || c)) :: env) H) :
    W P rd w0 Q n ds (.ops all (⟨d0, op0, ty0, pos0, aft0, some (j, b0)⟩ :: l) :: k) env H := by
  intro a w ha hds hs
  show wpListIn (fen rd) 0 P all (Cont P rd Q k) (_ :: l) a w
  rw [spanPick_eq hl]
  simp only [Bool.and_eq_true] at hchk
  obtain ⟨⟨⟨⟨c1, c2⟩, c4⟩, c5⟩, c6⟩ := hchk
  have pick : ∀ (a' : Act) (w' : World), Agree n env a' → a'.defers = ds → Sat w0 H w' → (t = b0 → a'.eval s = .bool c) →
      wpListIn (fen rd) 0 P all (Cont P rd Q k) (⟨some d, .pick (.tmp dj) px py, ty, pos, aft, pg⟩ :: rest) a' w' := by
    intro a' w' ha' hds' hs' hev
    have hdj : a'.eval (.tmp dj) = .bool t := ha'.val _ _ ht
    have hval : (if t = true then a'.eval px else a'.eval py) = .bool (bif b0 then t && c else t || c) := by
      cases b0 with
      | true =>
        simp only [if_true] at hx hy
        subst hx hy
        cases t with
        | true => simpa using hev rfl
        | false => simp [Act.eval]
      | false =>
        simp only [Bool.false_eq_true, if_false] at hx hy
        subst hx hy
        cases t with
        | true => simp [Act.eval]
        | false => simpa using hev rfl
    unfold wpListIn
    rw [if_pos (wanted_gok ha' c6)]
    refine ⟨fun _ _ => trivial, ?_⟩
    rw [Oper.semAt_eq _ _ _ (fun _ h => by cases h)]
    have : (execOp a'.eval ⟨some d, .pick (.tmp dj) px py, ty, pos, aft, pg⟩).run P w' = .ok (.value (.bool (bif b0 then t && c else t || c))) w' := by
      rw [← hval]
      cases t <;> simp [execOp, hdj, asBool]
    rw [this, Oper.uponIn_value]
    exact h2 _ w' (ha'.put c5) hds' hs'
  by_cases htb : t = b0
  · subst htb
    refine wp_met G _ a w (h1 rfl a w (ha.here ht) hds hs) ?_
    rintro a' w' ⟨ha', hev, hds', hs'⟩
    exact pick a' w' (ha'.unhere (fun u hu => by rw [ht] at hu; exact (Option.some.inj hu).symm)) hds' hs' (fun _ => hev)
  · have htn : t = !b0 := by cases t <;> cases b0 <;> simp_all
    have hfr : ∀ (G : List Oper), freshOps ((dj, .bool b0) :: env) G = true → freshOps ((dj, .bool t) :: env) G = true := by
      intro G
      induction G with
      | nil => exact fun _ => rfl
      | cons o G ih =>
        intro h
        simp only [freshOps] at h ⊢
        cases hod : o.dst with
        | none => simp only [hod] at h; exact ih h
        | some d' =>
          simp only [hod, Bool.and_eq_true, Option.isNone_iff_eq_none] at h ⊢
          refine ⟨?_, ih h.2⟩
          have := h.1
          simp only [look] at this ⊢
          cases hb : Nat.beq dj d' with
          | true => rw [hb] at this; simp at this
          | false => rw [hb] at this; simpa using this
    refine wp_skips (b0 := t) (dj := dj) G _ [] a w c1 (hfr G c2) ?_ (ha.here ht) (fun _ h => by cases h) hds ?_
    · intro o' ho' j' b' hg' hgs'
      have := List.all_eq_true.1 c4 o' ho'
      simp only [hg', hgs'] at this
      have hbb : Nat.beq dj dj = true := by simp
      rw [hbb] at this
      simp at this
      rw [this, htn]; simp
    · intro a' ha' hds'
      exact pick a' w (ha'.unhere (fun u hu => by rw [ht] at hu; exact (Option.some.inj hu).symm)) hds' hs (fun e => absurd e htb)
end
end Go.Sl
namespace Go.Sl
section
variable {P : Program} {rd : Option Nat} {w0 : World} {Q : Exit → Act → World → Prop} {n : Nat} {ds : List Deferred} {k : List It} {env env' : Env} {H H' : Heap} {all : Array Oper} {rest : List Oper}
theorem W_sr {id : Nat} {l : List Oper} {y : Code} (h : W P rd w0 Q n ds (.ops l.toArray l :: .code y :: k) env H) : W P rd w0 Q n ds (.code (.seq (.region id l.toArray false) y) :: k) env H :=
  W_seq (W_region h)
theorem W_ss {x y z : Code} (h : W P rd w0 Q n ds (.code x :: .code y :: .code z :: k) env H) : W P rd w0 Q n ds (.code (.seq (.seq x y) z) :: k) env H :=
  W_seq (W_seq h)
theorem W_condT {c : Operand} {x y : Code} {t : Bool} (hc : opv env c = some (.bool t)) (ht : t = true) (h : W P rd w0 Q n ds (.code x :: k) env H) : W P rd w0 Q n ds (.code (.cond c x y) :: k) env H :=
  W_cond hc (fun _ => h) (fun hf => absurd (ht.symm.trans hf) (by simp))
theorem W_condF {c : Operand} {x y : Code} {t : Bool} (hc : opv env c = some (.bool t)) (ht : t = false) (h : W P rd w0 Q n ds (.code y :: k) env H) : W P rd w0 Q n ds (.code (.cond c x y) :: k) env H :=
  W_cond hc (fun hf => absurd (ht.symm.trans hf) (by simp)) (fun _ => h)
/-- a test on a slot: the slot is known behind it -/
theorem W_condS {s : Nat} {x y : Code} {t : Bool} (hc : look env s = some (.bool t)) (ht : t = true → W P rd w0 Q n ds (.code x :: k) ((s, .bool true) :: env) H)
    (hf : t = false → W P rd w0 Q n ds (.code y :: k) ((s, .bool false) :: env) H) : W P rd w0 Q n ds (.code (.cond (.tmp s) x y) :: k) env H := by
  refine W_cond (x := x) (y := y) (c := .tmp s) (t := t) hc (fun e => ?_) (fun e => ?_)
  · intro a w ha hd hs
    exact ht e a w (ha.here (by rw [hc, e])) hd hs
  · intro a w ha hd hs
    exact hf e a w (ha.here (by rw [hc, e])) hd hs
theorem W_condPS {s : Nat} {x y : Code} {t : Bool} {p : Prop} (hc : look env s = some (.bool t)) (hp : t = true ↔ p) (ht : p → W P rd w0 Q n ds (.code x :: k) ((s, .bool true) :: env) H)
    (hf : ¬ p → W P rd w0 Q n ds (.code y :: k) ((s, .bool false) :: env) H) : W P rd w0 Q n ds (.code (.cond (.tmp s) x y) :: k) env H :=
  W_condS hc (fun e => ht (hp.1 e)) (fun e => hf (fun h => by rw [hp.2 h] at e; cases e))
/-- a test of which the proposition is wanted -/
theorem W_condP {c : Operand} {x y : Code} {t : Bool} {p : Prop} (hc : opv env c = some (.bool t)) (hp : t = true ↔ p) (ht : p → W P rd w0 Q n ds (.code x :: k) env H)
    (hf : ¬ p → W P rd w0 Q n ds (.code y :: k) env H) : W P rd w0 Q n ds (.code (.cond c x y) :: k) env H :=
  W_cond hc (fun e => ht (hp.1 e)) (fun e => hf (fun h => by rw [hp.2 h] at e; cases e))
end
end Go.Sl
namespace Go.Sl
section
variable {P : Program} {rd : Option Nat} {w0 : World} {Q : Exit → Act → World → Prop} {n : Nat} {ds : List Deferred} {k : List It} {env env' : Env} {H H' : Heap} {all : Array Oper} {rest : List Oper}
theorem W_and {t c : Bool} {j dj d : Nat} {G rest : List Oper} {d0 : Option Nat} {op0 : Op} {ty0 : TypeId} {pos0 : String} {aft0 : Array Edge} {l : List Oper} {s : Operand} {ty : TypeId} {pos : String} {aft : Array Edge} {pg : Option (Nat × Bool)}
    (hj : (all[j]?).bind (·.dst) = some dj) (ht : look env dj = some (.bool t))
    (hl : spanPick dj (⟨d0, op0, ty0, pos0, aft0, some (j, true)⟩ :: l) = some (G, ⟨some d, .pick (.tmp dj) s (.const (.bool false)), ty, pos, aft, pg⟩, rest))
    (hchk : (skips all [dj] G && freshOps ((dj, .bool true) :: env) G && wantsAll all dj true G && dok n (some d) && gok all env pg) = true)
    (h1 : t = true → W P rd w0 Q n ds (.ops all G :: .goal (Met w0 n ds s (.bool c) ((dj, .bool true) :: env) H) :: k) ((dj, .bool true) :: env) H)
    (h2 : W P rd w0 Q n ds (.ops all rest :: k) ((d, .bool (t && c)) :: env) H) :
    W P rd w0 Q n ds (.ops all (⟨d0, op0, ty0, pos0, aft0, some (j, true)⟩ :: l) :: k) env H :=
  W_short hj ht hl hchk rfl rfl h1 h2
theorem W_or {t c : Bool} {j dj d : Nat} {G rest : List Oper} {d0 : Option Nat} {op0 : Op} {ty0 : TypeId} {pos0 : String} {aft0 : Array Edge} {l : List Oper} {s : Operand} {ty : TypeId} {pos : String} {aft : Array Edge} {pg : Option (Nat × Bool)}
    (hj : (all[j]?).bind (·.dst) = some dj) (ht : look env dj = some (.bool t))
    (hl : spanPick dj (⟨d0, op0, ty0, pos0, aft0, some (j, false)⟩ :: l) = some (G, ⟨some d, .pick (.tmp dj) (.const (.bool true)) s, ty, pos, aft, pg⟩, rest))
    (hchk : (skips all [dj] G && freshOps ((dj, .bool false) :: env) G && wantsAll all dj false G && dok n (some d) && gok all env pg) = true)
    (h1 : t = false → W P rd w0 Q n ds (.ops all G :: .goal (Met w0 n ds s (.bool c) ((dj, .bool false) :: env) H) :: k) ((dj, .bool false) :: env) H)
    (h2 : W P rd w0 Q n ds (.ops all rest :: k) ((d, .bool (t || c)) :: env) H) :
    W P rd w0 Q n ds (.ops all (⟨d0, op0, ty0, pos0, aft0, some (j, false)⟩ :: l) :: k) env H :=
  W_short hj ht hl hchk rfl rfl h1 h2
end
end Go.Sl
namespace Go.Sl
open Go.RowKit
def spliceL (l : List Value) (off : Nat) (c : List Value) : List Value := l.take off ++ c ++ l.drop (off + c.length)
theorem spliceL_length {l c : List Value} {off : Nat} (h : off + c.length ≤ l.length) : (spliceL l off c).length = l.length := by
  simp [spliceL]; omega
theorem foldl_splice : ∀ (c : List Value) (off j0 : Nat) (cells : Array Value), off + j0 + c.length ≤ cells.size →
    ((c.zipIdx j0).foldl (fun cs (x : Value × Nat) => cs.setIfInBounds (off + x.2) x.1) cells).toList = spliceL cells.toList (off + j0) c
  | [], off, j0, cells, _ => by simp [spliceL]
  | x :: c, off, j0, cells, h => by
    simp only [List.zipIdx_cons, List.foldl_cons]
    simp only [List.length_cons] at h
    rw [foldl_splice c off (j0 + 1) _ (by simp; omega)]
    have hlt : off + j0 < cells.toList.length := by simp; omega
    simp only [spliceL, Array.toList_setIfInBounds, List.length_cons]
    rw [show off + (j0 + 1) = off + j0 + 1 by omega]
    rw [show off + j0 + (c.length + 1) = off + j0 + 1 + c.length by omega]
    rw [List.drop_set_of_lt (by omega)]
    rw [List.take_set, List.take_succ_eq_append_getElem hlt, List.set_append_right _ _ (by simp; omega)]
    have hmin : min (off + j0) cells.size = off + j0 := Nat.min_eq_left (by simp at hlt; omega)
    simp [hmin]
def fillL (l : List Value) : List (Nat × List Value) → List Value
  | [] => l
  | (off, c) :: r => fillL (spliceL l off c) r
theorem fillL_length : ∀ (ps : List (Nat × List Value)) (l : List Value), (∀ p ∈ ps, p.1 + p.2.length ≤ l.length) → (fillL l ps).length = l.length
  | [], _, _ => rfl
  | (off, c) :: r, l, h => by
    have h1 := h (off, c) List.mem_cons_self
    simp only [fillL]
    rw [fillL_length r _ (fun p hp => by rw [spliceL_length h1]; exact h p (List.mem_cons_of_mem _ hp)), spliceL_length h1]
theorem fill_run {place : Nat → Option (Nat × Nat)} : ∀ (parts : List (Nat × Value)) (ps : List (Nat × List Value)) (cells : Array Value),
    List.length parts = List.length ps → (∀ (i : Nat) p q, parts[i]? = some p → ps[i]? = some q → place p.1 = some (q.1, q.2.length) ∧ p.2.cells.toList = q.2 ∧ q.1 + q.2.length ≤ cells.size) →
    ∃ out, Instr.fill place cells parts = some out ∧ out.toList = fillL cells.toList ps
  | [], [], cells, _, _ => ⟨cells, rfl, rfl⟩
  | (i, v) :: parts, (off, c) :: ps, cells, hl, h => by
    obtain ⟨h1, h2, h3⟩ := h 0 (i, v) (off, c) rfl rfl
    simp only at h1 h2 h3
    have hsz : v.cells.size = c.length := by rw [← h2]; simp
    have hf : (v.cells.zipIdx.foldl (fun cs (x : Value × Nat) => cs.setIfInBounds (off + x.2) x.1) cells).toList = spliceL cells.toList off c := by
      rw [← Array.foldl_toList, Array.toList_zipIdx, h2]
      have := foldl_splice c off 0 cells (by simpa using h3)
      simpa using this
    have hs2 : (v.cells.zipIdx.foldl (fun cs (x : Value × Nat) => cs.setIfInBounds (off + x.2) x.1) cells).size = cells.size := by
      rw [← Array.length_toList, hf, spliceL_length (by simpa using h3)]; simp
    obtain ⟨out, ho, hol⟩ := fill_run parts ps (v.cells.zipIdx.foldl (fun cs (x : Value × Nat) => cs.setIfInBounds (off + x.2) x.1) cells) (by simpa using hl)
      (fun k p q hp hq => by rw [hs2]; exact h (k + 1) p q (by simpa using hp) (by simpa using hq))
    refine ⟨out, ?_, by rw [hol, hf]; rfl⟩
    unfold Instr.fill
    simp only [h1]
    rw [if_neg (by simp [hsz]; simpa using h3)]
    exact ho
/-- the parts of a literal: places and cells -/
inductive Parts (env : Env) (place : Nat → Option (Nat × Nat)) (tot : Nat) : List (Nat × Operand) → List (Nat × List Value) → Prop
  | nil : Parts env place tot [] []
  | cons {i off s : Nat} {x : Operand} {v : Value} {c : List Value} {l : List (Nat × Operand)} {ps : List (Nat × List Value)} (hx : opv env x = some v) (hp : place i = some (off, s)) (hc : v.cells.toList = c) (hs : c.length = s)
      (ht : Nat.ble (off + s) tot = true) (h : Parts env place tot l ps) : Parts env place tot ((i, x) :: l) ((off, c) :: ps)
theorem Parts.run {n tot : Nat} {env : Env} {a : Act} {place : Nat → Option (Nat × Nat)} (ha : Agree n env a) {l : List (Nat × Operand)} {ps : List (Nat × List Value)} (h : Parts env place tot l ps) {cells : Array Value} (hc : cells.size = tot) :
    ∃ out, Instr.fill place cells (l.map fun (i, x) => (i, a.eval x)) = some out ∧ out.toList = fillL cells.toList ps := by
  subst hc
  refine fill_run _ _ _ ?_ ?_
  · induction h with
    | nil => rfl
    | cons _ _ _ _ _ _ ih => simpa using ih
  · induction h with
    | nil => intro i p q hp; simp at hp
    | cons hx hp hc hs ht _ ih =>
      intro k p q h1 h2
      cases k with
      | zero =>
        simp at h1 h2
        subst h1 h2
        refine ⟨by rw [hs]; exact hp, by rw [ha.opv hx]; exact hc, ?_⟩
        simp only
        rw [hs]; simpa using ht
      | succ k => exact ih k p q (by simpa using h1) (by simpa using h2)
section
variable {P : Program} {rd : Option Nat} {w0 : World} {Q : Exit → Act → World → Prop} {n : Nat} {ds : List Deferred} {k : List It} {env env' : Env} {H H' : Heap} {all : Array Oper} {rest : List Oper}
variable {d : Nat} {x y c : Operand} {t u ty : TypeId} {pos : String} {aft : Array Edge} {v : Value} {tys : Array TypeId}
/-- a literal slice -/
def rowPlace (es : Nat) : Nat → Option (Nat × Nat) := fun i => some (i * es, es)
def zerosL (z : List Value) (m : Nat) : List Value := (List.range m).map fun i => z.getD (i % z.length) undef
theorem W_buildSlice {len s es by_ eb m : Nat} {e : TypeId} {z ez : Value} {ed : TypeDesc} {parts : List (Nat × Operand)} {ps : List (Nat × List Value)} {l : List Value} (ht : Ty P t (.slice e) s z by_) (he : Ty P e ed es ez eb)
    (hp : Parts env (rowPlace es) m parts ps) (hm : len * es = m) (hsz : Nat.ble m 16777216 = true) (hz : Nat.beq ez.cells.size es = true) (hes : Nat.blt 0 es = true) (hl : fillL (zerosL ez.cells.toList m) ps = l) (hll : l.length = m) (hd : Nat.blt d n = true)
    (h : ∀ b : Nat, W P rd w0 Q n ds (.ops all rest :: k) ((d, .slice (some ⟨b, 0, none⟩) len len) :: env) ((b, .cells e m l) :: H)) :
    W P rd w0 Q n ds (.ops all (⟨some d, .buildSlice t len parts.toArray, ty, pos, aft, none⟩ :: rest) :: k) env H := by
  subst hm
  refine W_gen rfl nofun hd fun a w ha hs => ?_
  have hz' : ez.cells.size = es := by simpa using hz
  have hes' : 0 < es := by simpa using hes
  have hsz' : len * es ≤ 16777216 := by simpa using hsz
  have hzl : ((Array.range (len * es)).map (ez.cells[· % ez.cells.size]!)).toList = zerosL ez.cells.toList (len * es) := by
    simp only [zerosL, Array.toList_map, Array.toList_range]
    refine List.map_congr_left fun i hi => ?_
    have hlt : i % ez.cells.size < ez.cells.size := Nat.mod_lt _ (by omega)
    have hlt' : i % ez.cells.toList.length < ez.cells.toList.length := by simpa using hlt
    show ez.cells[i % ez.cells.size]! = ez.cells.toList.getD (i % ez.cells.toList.length) undef
    rw [getElem!_pos ez.cells _ hlt, List.getD, List.getElem?_eq_getElem hlt']
    simp
  obtain ⟨out, ho, hol⟩ := hp.run ha (cells := (Array.range (len * es)).map (ez.cells[· % ez.cells.size]!)) (by simp)
  rw [hzl, hl] at hol
  have hos : out.size = len * es := by rw [← Array.length_toList, hol, hll]
  refine ⟨.slice (some ⟨w.heap.size, 0, none⟩) len len, _, w.alloc (.cells out e), .inl ?_, hs.alloc _ (At.alloc_cells w out e), ?_⟩
  · have hr : (Instr.buildSlice t len (parts.map fun (i, x) => (i, a.eval x)).toArray).run P w = .ok (.slice (some ⟨w.heap.size, 0, none⟩) len len) (w.alloc (.cells out e)) := by
      unfold Instr.buildSlice
      simp only [Sem.run_bind, ht.run, he.size, Result.andThen]
      rw [if_neg (by omega)]
      by_cases h0 : len * es = 0
      · have hl0 : len = 0 := by
          rcases Nat.mul_eq_zero.1 h0 with h | h
          · exact h
          · omega
        subst hl0
        have e0 : ∀ f : Nat → Value, Array.map f (Array.range (0 * es)) = #[] := fun f => by simp
        rw [e0] at ho
        have ho' : Instr.fill (fun i => some (i * es, es)) #[] (parts.map fun (i, x) => (i, a.eval x)) = some out := ho
        simp only [h0, if_true, Sem.run_pure, Result.andThen]
        have e1 : ∀ f : Nat → Value, Array.map f (Array.range 0) = #[] := fun f => by simp
        simp only [e1, ho']
        simp [newRow, Result.andThen]
      · have ho' := ho
        unfold rowPlace at ho'
        simp [h0, he.zero, Result.andThen, ho', newRow]
    simp [execOp, hr, Result.andThen]
  · have := h w.heap.size
    rw [← hol, ← hos] at this
    simpa [put] using this
/-- a literal struct -/
structure StructPl (P : Program) (t : TypeId) (pl : List (Nat × Nat)) : Prop where
  is : ∃ fs, P.underlying t = some (.struct fs) ∧ ∀ w, (fs.mapM fun f => (do pure (f.offset, ← sizeOf f.type) : Sem (Nat × Nat))).run P w = .ok pl.toArray w
theorem W_build {s by_ : Nat} {z : Value} {td : TypeDesc} {pl : List (Nat × Nat)} {parts : List (Nat × Operand)} {ps : List (Nat × List Value)} {l : List Value} (ht : Ty P t td s z by_) (hst : StructPl P t pl)
    (hp : Parts env (fun i => pl[i]?) s parts ps) (hz : Nat.beq z.cells.size s = true) (hl : fillL z.cells.toList ps = l) (hd : Nat.blt d n = true)
    (h : W P rd w0 Q n ds (.ops all rest :: k) ((d, .agg l.toArray) :: env) H) :
    W P rd w0 Q n ds (.ops all (⟨some d, .build t parts.toArray, ty, pos, aft, none⟩ :: rest) :: k) env H :=
  W_pure rfl nofun hd (fun a w ha _ => by
    obtain ⟨fs, h1, h2⟩ := hst.is
    obtain ⟨out, ho, hol⟩ := hp.run ha (cells := z.cells) (by simpa using hz)
    have hout : out = l.toArray := by apply Array.ext'; rw [hol, hl]
    have h2' := h2 w
    have ho' : Instr.fill (pl.toArray[·]?) z.cells (parts.map fun (i, x) => (i, a.eval x)) = some out := by
      simpa using ho
    have hr : (Instr.build t (parts.map fun (i, x) => (i, a.eval x)).toArray).run P w = .ok (.agg l.toArray) w := by
      unfold Instr.build
      simp only [Sem.run_bind, ht.zero, Result.andThen, run_underlying h1]
      rw [h2']
      simp only [ho', hout, Sem.run_pure]
    simp [execOp, hr, Result.andThen]) h
end
end Go.Sl
namespace Go.Sl
open Go.ChangeShapes Go.WideShapes Go.ChangeAt Go.RowKit
section
variable {H : Type} {enc : TypeId × Value → H} {P : Program}
theorem trodAll_sameAt {w w' : World} {base : Nat} {spare : Nat → Bool} {held : Bool} : ∀ {ts : List TypeId} {vs : List Value} {ds : List (DataW H)} {ps : List MemPlace},
    DataW.TrodAll enc P w base spare held ts vs ds ps → (∀ p ∈ ps, w.sameAt w' p) → DataW.TrodAll enc P w' base spare held ts vs ds ps
  | [], [], [], _, h, _ => h
  | _ :: _, _ :: _, _ :: _, _, ⟨p, q, ⟨n, h1⟩, h2, e⟩, hs =>
    ⟨p, q, ⟨n, DataW.trod_carry _ _ _ _ h1 (fun x hx => hs x (by rw [e]; exact List.mem_append_left _ hx))⟩, trodAll_sameAt h2 (fun x hx => hs x (by rw [e]; exact List.mem_append_right _ hx)), e⟩
/-- WHAT A LAW's CALL LEAVES, read as the row asks: true; the arguments read as they did. -/
theorem law_post {f : Func} {s : ChangeSpec} {apart fresh handsOn again : Bool} {W W' : World} {args : Array Value} {ds gs : List (DataW H)} {before p q : List MemPlace} {t : TypeId}
    (hk : Kids P (· < P.types.size)) (hz : ∀ t e, t < P.types.size → P.underlying t = some (.slice e) → 0 < P.cellsOf e) (hts : ∀ t ∈ f.params.toList, t < P.types.size)
    (hW : DataW.Whole enc P f.params.toList s.vars apart W args.toList ds gs before) (hA : DataW.TrodAll enc P W 0 (fun _ => true) true f.params.toList args.toList ds p) (hgs : gs = []) (hp : before = p ++ q) (hq : q = []) (hv : s.vars = [])
    (hfn : s.fn H (ds ++ gs) = { results := [.lit (.bool true)], args := ds }) (hrt : f.resultTypes = #[t]) (ht : P.underlying t = some .bool) (hb : Below W.heap.size W W') :
    s.post enc P f apart fresh handsOn again W args (.bool true) W' := by
  subst hgs hp hq
  have hlt : ∀ p' ∈ p, p'.block < W.heap.size := fun p' hp' => hW.lt p' (by simpa using hp')
  have hold : ∀ p' ∈ p ++ [], (fun b => decide (b < W.heap.size)) p'.block = true := fun p' hp' => by simpa using hlt p' (by simpa using hp')
  have hargs : ∀ sp : Nat → Bool, (∀ p' ∈ p ++ [], sp p'.block = true) → DataW.TrodAll enc P W' 0 sp true f.params.toList args.toList (s.fn H (ds ++ [])).args p := fun sp hsp => by
    rw [hfn]
    exact trodAll_sameAt (DataW.TrodAll.respare hk hz hts hA (fun p' hp' => hsp p' (by simpa using hp'))) (fun p' hp' => hb.same (hlt p' hp'))
  have hres : ∀ (b : Nat) (sp : Nat → Bool) (hd : Bool), DataW.TrodAll enc P W' b sp hd f.resultTypes.toList ((Value.bool true).resultList f.resultTypes.size) (s.fn H (ds ++ [])).results [] := fun b sp hd => by
    rw [hfn, hrt]
    exact trodAll_mk1 (shut_bool ht _)
  have hvars : ∀ sp : Nat → Bool, (∀ p' ∈ p ++ [], sp p'.block = true) → DataW.TrodVars enc P W' sp s.vars (s.fn H (ds ++ [])).vars [] := fun sp _ => by
    rw [hfn, hv]; rfl
  have hok : ∀ (j : Nat) (t' : TypeId) (r : Value), f.resultTypes[j]? = some t' → ((Value.bool true).resultList f.resultTypes.size)[j]? = some r → Value.okWide P W' .any 0 t' r := by
    exact ok_one hrt rfl (okWide_bool_mk ht _)
  refine ⟨ds, [], p ++ [], [], p, [], hW, hres _ _ _, hargs _ hold, hvars _ hold, World.keptBut_mono (fun p' hp' => ⟨hp', ?_⟩) (hb.frame (· ∈ p ++ [])), fun _ => ?_⟩
  · rw [List.mem_append] at hp'
    exact Or.inr hp'
  · obtain ⟨_, _, _, _, _, hz', hn⟩ := hW
    refine ⟨hok, _, _, ([] ++ p) ++ [], ⟨[] ++ p, [], trodAll_append (hargs _ (fun _ _ => rfl)) (hres _ _ _), hvars _ (fun _ _ => rfl), rfl, ?_, ?_⟩, ?_⟩
    · intro b off hp'
      have hin : MemPlace.cell b off ∈ p ++ [] := by simpa using hp'
      rw [hb.frozen (hlt (MemPlace.cell b off) (by simpa using hin))]
      exact hz' b off hin
    · intro ha; simpa using hn ha
    · intro p' hp' _; simpa using hp'
end
/-- a pure contract, as the kit's calls -/
theorem Pure.calls {P : Program} {T : World → Prop} {f : FuncId} {args : List Value} {v : Value} (h : Pure P T f args v) {W : World} (hT : T W) : Calls P f args.toArray W fun e w' => e = .returned v ∧ Below W.heap.size W w' :=
  callsIn_wide.1 ((h W [] hT W (Sat.nil (Below.refl _ _))).mono fun _ _ ⟨_, _, he, ⟨hv, _⟩, hs⟩ => ⟨by rw [he, hv], hs.below⟩)
end Go.Sl
namespace Go.Sl
open Go.ChangeShapes Go.WideShapes Go.ChangeAt Go.RowKit
/-- a slice's row of one-celled elements -/
def InRow (w : World) (ad : Option Addr) (l : List Value) : Prop := ∀ (j : Nat) x, l[j]? = some x → ∃ b o, ad = some ⟨b, o, none⟩ ∧ w.cell? ⟨b, o + j, none⟩ = some x
theorem InRow.take {w : World} {ad : Option Addr} {l : List Value} (h : InRow w ad l) (k : Nat) : InRow w ad (l.take k) := fun j x hx => h j x (by
  rw [List.getElem?_take] at hx
  split at hx
  · exact hx
  · cases hx)
theorem InRow.nil {w : World} {ad : Option Addr} : InRow w ad [] := fun j x hx => by simp at hx
theorem InRow.of_spot {w : World} {a : Addr} {l : List Value} (h : ∀ j x, l[j]? = some x → w.cell? (a.add j) = some x) : InRow w (some a) l := fun j x hx => by
  have h1 := h j x hx
  obtain ⟨b, off, spot⟩ := a
  have h0 : w.cell? (Addr.add ⟨b, off, spot⟩ 0) = some (l[0]'(by have := (List.getElem?_eq_some_iff.1 hx).1; omega)) := h 0 _ (List.getElem?_eq_getElem _)
  have hspot : spot = none := by simpa [Addr.add] using World.cell?_spot h0
  subst hspot
  exact ⟨b, off, rfl, by rw [← Go.WideShapes.add_plain]; exact h1⟩
section
variable {H : Type} {enc : TypeId × Value → H} {P : Program} {w : World} {base : Nat} {held : Bool}
theorem open_row {t e : TypeId} {k : IntKind} {fuel len cap : Nat} {a : Option Addr} {x : DataW H × List MemPlace} (ht : P.underlying t = some (.slice e)) (he : P.underlying e = some (.int k)) (hc : P.cellsOf e = 1)
    (hf : DataW.trod enc P w base (fun _ => true) held fuel t (Value.slice a len cap).cells.toList = some x) :
    ∃ l : List Int, len = l.length ∧ l.length ≤ cap ∧ cap ≤ maxLen ∧ (∀ n ∈ l, (Lit.int k n).wf = true) ∧ InRow w a (l.map fun n => .int k n) := by
  rcases open_ints ht he hc hf with ⟨hcs, _⟩ | ⟨a', len', cap', zs, hcs, _, hle, hmax, hlen, _, hcell, hwf⟩
  · simp [Value.cells] at hcs
    obtain ⟨rfl, rfl, rfl⟩ := hcs
    exact ⟨[], rfl, Nat.zero_le _, Nat.zero_le _, fun n hn => (by simp at hn), InRow.nil⟩
  · simp [Value.cells] at hcs
    obtain ⟨rfl, rfl, rfl⟩ := hcs
    simp only [if_true] at hlen
    refine ⟨zs.take len, by rw [List.length_take]; omega, by rw [List.length_take]; omega, hmax, fun n hn => hwf n (List.mem_of_mem_take hn), InRow.of_spot fun j y hy => ?_⟩
    rw [List.getElem?_map] at hy
    obtain ⟨z, hz, rfl⟩ := Option.map_eq_some_iff.1 hy
    have hz' : zs[j]? = some z := by
      rw [List.getElem?_take] at hz
      split at hz
      · exact hz
      · cases hz
    have hj := (List.getElem?_eq_some_iff.1 hz').1
    rw [hcell j hj]
    simp [List.getD, hz']
end
end Go.Sl
