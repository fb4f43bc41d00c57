/-
  Own work: a small logic for walking through a function's code: facts on slots, owned blocks of memory, and the rules of sequence, block, condition, exit and loop; of any program.
-/
import Derived.WalkKit
import Derived.RangeFuncRecord
import Derived.Sort.QuietThIn
import Derived.Sort.LoopGhostIn
set_option linter.all false
set_option linter.unusedSimpArgs false
set_option linter.unusedVariables false
namespace Go.Sl
open Go.RowKit

/-! ## Facts on slots -/
abbrev Env := List (Nat × Value)
def look : Env → Nat → Option Value
  | [], _ => none
  | (y, v) :: e, x => bif Nat.beq y x then some v else look e x
def opv (env : Env) : Operand → Option Value
  | .tmp t => look env t
  | .const v => some v
  | .global g => some (.pointer (some ⟨g, 0, none⟩))
  | .func f => some (.func (.func f) #[] #[])
theorem nbeq_false {a b : Nat} (h : ¬ a = b) : Nat.beq a b = false := by
  cases hb : Nat.beq a b with
  | false => rfl
  | true => exact absurd (Nat.eq_of_beq_eq_true hb) h
structure Agree (n : Nat) (env : Env) (a : Act) : Prop where
  size : a.tmps.size = n
  val : ∀ x v, look env x = some v → a.tmps.getD x undef = v
theorem Agree.opv {n : Nat} {env : Env} {a : Act} (h : Agree n env a) {x : Operand} {v : Value} (hx : opv env x = some v) : a.eval x = v := by
  cases x with
  | tmp t => exact h.val t v hx
  | const u => simpa [Sl.opv, Act.eval] using hx
  | global g => simpa [Sl.opv, Act.eval] using hx
  | func f => simpa [Sl.opv, Act.eval] using hx
def put (d : Option Nat) (v : Value) (env : Env) : Env :=
  match d with
  | some d => (d, v) :: env
  | none => env
def dok (n : Nat) (d : Option Nat) : Bool :=
  match d with
  | some d => Nat.blt d n
  | none => true
theorem Agree.put {n : Nat} {env : Env} {a : Act} (h : Agree n env a) {d : Option Nat} {v : Value} (hd : dok n d = true) : Agree n (put d v env) (a.put d v) := by
  cases d with
  | none => exact h
  | some d =>
    have hd' : d < n := by simpa [dok, Nat.blt_eq] using hd
    refine ⟨by simp [Act.put, h.size], fun x u hx => ?_⟩
    simp only [Sl.put, look] at hx
    by_cases hxd : d = x
    · subst hxd
      have hx' : v = u := by simpa using hx
      subst hx'
      simp [Act.put, Array.getD_eq_getD_getElem?, h.size, hd']
    · have hbeq : Nat.beq d x = false := nbeq_false hxd
      rw [hbeq] at hx
      have := h.val x u (by simpa using hx)
      simp only [Act.put, Array.getD_eq_getD_getElem?] at this ⊢
      rw [Array.getElem?_setIfInBounds_ne hxd]
      exact this
/-- facts may be forgotten -/
def sub (env' env : Env) : Prop := ∀ p ∈ env', look env p.1 = some p.2
theorem Agree.weaken {n : Nat} {env env' : Env} {a : Act} (h : Agree n env a) (hs : ∀ x v, look env' x = some v → look env x = some v) : Agree n env' a :=
  ⟨h.size, fun x v hx => h.val x v (hs x v hx)⟩
theorem look_mem : ∀ {env : Env} {x : Nat} {v : Value}, look env x = some v → (x, v) ∈ env
  | (y, u) :: e, x, v, h => by
    simp only [look] at h
    by_cases hxy : Nat.beq y x = true
    · rw [hxy] at h
      have : y = x := by simpa using hxy
      subst this
      have : u = v := by simpa using h
      subst this
      exact List.mem_cons_self
    · have hf : Nat.beq y x = false := by cases hb : Nat.beq y x <;> simp_all
      rw [hf] at h
      exact List.mem_cons_of_mem _ (look_mem (by simpa using h))
theorem look_of_sub {env env' : Env} (h : sub env' env) : ∀ x v, look env' x = some v → look env x = some v :=
  fun x v hx => h (x, v) (look_mem hx)
theorem sub_nil (env : Env) : sub [] env := fun _ h => by cases h
theorem sub_cons {x : Nat} {v : Value} {e env : Env} (h : look env x = some v) (hs : sub e env) : sub ((x, v) :: e) env := fun p hp => by
  cases hp with
  | head => exact h
  | tail _ h' => exact hs p h'

/-! ## Memory -/
inductive Blk where
  | cells (e : TypeId) (tot : Nat) (l : List Value)
  | obj (o : Obj)
abbrev Heap := List (Nat × Blk)
def At (w : World) (b : Nat) : Blk → Prop
  | .cells e tot l => ∃ c, w.heap[b]? = some (.cells c e (0, 0)) ∧ c.size = tot ∧ c.toList.take l.length = l
  | .obj o => w.heap[b]? = some o
structure Sat (w0 : World) (H : Heap) (w : World) : Prop where
  below : Below w0.heap.size w0 w
  nodup : (H.map (·.1)).Nodup
  own : ∀ p ∈ H, w0.heap.size ≤ p.1 ∧ At w p.1 p.2
theorem At.of_block {w w' : World} {b : Nat} {k : Blk} (h : At w b k) (e : w'.heap[b]? = w.heap[b]?) : At w' b k := by
  cases k with
  | cells t tot l => obtain ⟨c, h1, h2⟩ := h; exact ⟨c, e.trans h1, h2⟩
  | obj o => exact e.trans h
theorem At.lt {w : World} {b : Nat} {k : Blk} (h : At w b k) : b < w.heap.size := by
  cases k with
  | cells t tot l => obtain ⟨c, h1, h2⟩ := h; exact (Array.getElem?_eq_some_iff.1 h1).1
  | obj o => exact (Array.getElem?_eq_some_iff.1 h).1
/-- nothing that is known has turned -/
theorem Sat.below' {w0 w w' : World} {H : Heap} (h : Sat w0 H w) (hb : Below w.heap.size w w') : Sat w0 H w' :=
  ⟨h.below.trans (hb.mono h.below.size), h.nodup, fun p hp => ⟨(h.own p hp).1, (h.own p hp).2.of_block (hb.block _ (h.own p hp).2.lt)⟩⟩
theorem Sat.drew {w0 w : World} {H : Heap} (h : Sat w0 H w) : Sat w0 H w.drew := h.below' (Below.refl _ _).drew
theorem Sat.drop {w0 w : World} {p : Nat × Blk} {H : Heap} (h : Sat w0 (p :: H) w) : Sat w0 H w :=
  ⟨h.below, (List.nodup_cons.1 h.nodup).2, fun q hq => h.own q (List.mem_cons_of_mem _ hq)⟩
theorem Sat.perm {w0 w : World} {H H' : Heap} (h : Sat w0 H w) (hp : H.Perm H') : Sat w0 H' w :=
  ⟨h.below, (hp.map (·.1)).nodup_iff.1 h.nodup, fun q hq => h.own q (hp.mem_iff.2 hq)⟩
theorem Sat.sublist {w0 w : World} {H H' : Heap} (h : Sat w0 H w) (hp : List.Sublist H' H) : Sat w0 H' w :=
  ⟨h.below, h.nodup.sublist (hp.map (·.1)), fun q hq => h.own q (hp.subset hq)⟩
theorem Sat.nil {w0 w : World} (h : Below w0.heap.size w0 w) : Sat w0 [] w := ⟨h, List.nodup_nil, fun _ h => by cases h⟩
/-- a new block, at the heap's end -/
theorem Sat.alloc {w0 w : World} {H : Heap} (h : Sat w0 H w) (o : Obj) {k : Blk} (hk : At (w.alloc o) w.heap.size k) : Sat w0 ((w.heap.size, k) :: H) (w.alloc o) := by
  have hb : Below w.heap.size w (w.alloc o) := (Below.refl _ _).alloc (Nat.le_refl _) o
  have h' := h.below' hb
  refine ⟨h'.below, ?_, fun p hp => ?_⟩
  · simp only [List.map_cons, List.nodup_cons]
    refine ⟨fun hm => ?_, h.nodup⟩
    obtain ⟨q, hq, he⟩ := List.mem_map.1 hm
    have := (h.own q hq).2.lt
    omega
  · cases hp with
    | head => exact ⟨h.below.size, hk⟩
    | tail _ hp => exact h'.own p hp
theorem At.alloc_cells (w : World) (c : Array Value) (t : TypeId) : At (w.alloc (.cells c t)) w.heap.size (.cells t c.size c.toList) :=
  ⟨c, World.alloc_heap_new w _, rfl, List.take_of_length_le (by simp)⟩
theorem At.alloc_obj (w : World) (o : Obj) : At (w.alloc o) w.heap.size (.obj o) := World.alloc_heap_new w o
theorem At.cell {w : World} {b i : Nat} {e tot : Nat} {l : List Value} {v : Value} (h : At w b (.cells e tot l)) (hv : l[i]? = some v) : w.cell? ⟨b, i, none⟩ = some v := by
  obtain ⟨c, h1, h2, h3⟩ := h
  simp only [World.cell?, h1]
  have hl : i < l.length := (List.getElem?_eq_some_iff.1 hv).1
  have h4 : (c.toList.take l.length)[i]? = some v := by rw [h3]; exact hv
  rw [List.getElem?_take_of_lt hl] at h4
  simpa using h4
theorem At.frozen {w : World} {b i : Nat} {e tot : Nat} {l : List Value} (h : At w b (.cells e tot l)) : w.frozen? ⟨b, i, none⟩ = false := by
  obtain ⟨c, h1, h2⟩ := h
  simp [World.frozen?, h1]
theorem Sat.cell {w0 w : World} {H : Heap} (h : Sat w0 H w) {b i e tot : Nat} {l : List Value} {v : Value} (hm : (b, Blk.cells e tot l) ∈ H) (hv : l[i]? = some v) : w.cell? ⟨b, i, none⟩ = some v :=
  (h.own _ hm).2.cell hv
theorem Sat.frozen {w0 w : World} {H : Heap} (h : Sat w0 H w) {b i e tot : Nat} {l : List Value} (hm : (b, Blk.cells e tot l) ∈ H) : w.frozen? ⟨b, i, none⟩ = false :=
  (h.own _ hm).2.frozen
theorem Sat.old {w0 w : World} {H : Heap} (h : Sat w0 H w) {a : Addr} {v : Value} (hv : w0.cell? a = some v) : w.cell? a = some v := by
  have hlt : a.block < w0.heap.size := by
    unfold World.cell? at hv
    cases hh : w0.heap[a.block]? with
    | none => simp [hh] at hv
    | some o => exact (Array.getElem?_eq_some_iff.1 hh).1
  rw [h.below.cell hlt]; exact hv
/-- one entry turned -/
inductive Upd (b : Nat) (k : Blk) (k' : Blk) : Heap → Heap → Prop
  | head (H : Heap) : Upd b k k' ((b, k) :: H) ((b, k') :: H)
  | tail {p : Nat × Blk} {H H' : Heap} (h : Upd b k k' H H') : Upd b k k' (p :: H) (p :: H')
  | app {S H H' : Heap} (h : Upd b k k' H H') : Upd b k k' (S ++ H) (S ++ H')
theorem Upd.mem {b : Nat} {k k' : Blk} {H H' : Heap} (h : Upd b k k' H H') : (b, k) ∈ H := by
  induction h with
  | head H => exact List.mem_cons_self
  | tail _ ih => exact List.mem_cons_of_mem _ ih
  | app _ ih => exact List.mem_append_right _ ih
theorem Upd.keys {b : Nat} {k k' : Blk} {H H' : Heap} (h : Upd b k k' H H') : H'.map (·.1) = H.map (·.1) := by
  induction h with
  | head H => rfl
  | tail _ ih => simp [ih]
  | app _ ih => simp [ih]
theorem Upd.cases {b : Nat} {k k' : Blk} {H H' : Heap} (h : Upd b k k' H H') : ∀ p ∈ H', p = (b, k') ∨ p ∈ H := by
  induction h with
  | head H => intro p hp; cases hp with
    | head => exact .inl rfl
    | tail _ hp => exact .inr (List.mem_cons_of_mem _ hp)
  | tail _ ih => intro p hp; cases hp with
    | head => exact .inr List.mem_cons_self
    | tail _ hp => rcases ih p hp with h | h
                   · exact .inl h
                   · exact .inr (List.mem_cons_of_mem _ h)
  | app _ ih => intro p hp; rcases List.mem_append.1 hp with hp | hp
                · exact .inr (List.mem_append_left _ hp)
                · rcases ih p hp with h | h
                  · exact .inl h
                  · exact .inr (List.mem_append_right _ h)
theorem key_unique {H : Heap} (hn : (H.map (·.1)).Nodup) {p q : Nat × Blk} (hp : p ∈ H) (hq : q ∈ H) (he : p.1 = q.1) : p = q := by
  induction H with
  | nil => cases hp
  | cons x H ih =>
    simp only [List.map_cons, List.nodup_cons] at hn
    cases hp with
    | head => cases hq with
      | head => rfl
      | tail _ hq => exact absurd (List.mem_map.2 ⟨q, hq, he.symm⟩) hn.1
    | tail _ hp => cases hq with
      | head => exact absurd (List.mem_map.2 ⟨p, hp, he⟩) hn.1
      | tail _ hq => exact ih hn.2 hp hq
theorem Sat.upd {w0 w w' : World} {H H' : Heap} {b : Nat} {k k' : Blk} (h : Sat w0 H w) (hu : Upd b k k' H H') (hb : Below w0.heap.size w w')
    (hother : ∀ j, j ≠ b → j < w.heap.size → w'.heap[j]? = w.heap[j]?) (hk : At w' b k') : Sat w0 H' w' := by
  refine ⟨h.below.trans hb, by rw [hu.keys]; exact h.nodup, fun p hp => ?_⟩
  by_cases he : p.1 = b
  · have hm : (b, k') ∈ H' := by
      clear hk hb h hp
      induction hu with
      | head H => exact List.mem_cons_self
      | tail _ ih => exact List.mem_cons_of_mem _ ih
      | app _ ih => exact List.mem_append_right _ ih
    have : p = (b, k') := key_unique (by rw [hu.keys]; exact h.nodup) hp hm he
    subst this
    exact ⟨(h.own _ hu.mem).1, hk⟩
  · rcases hu.cases p hp with e | hm
    · exact absurd (by rw [e]) he
    · exact ⟨(h.own p hm).1, (h.own p hm).2.of_block (hother _ he (h.own p hm).2.lt)⟩

/-! ## The walk's state -/
inductive It where
  | code (c : Code)
  | blk (id : Nat)
  | ops (all : Array Oper) (l : List Oper)
  | goal (J : Act → World → Prop)
abbrev fen (rd : Option Nat) : Fence := { Fence.wide with round := rd }
def Cont (P : Program) (rd : Option Nat) (Q : Exit → Act → World → Prop) : List It → Exit → Act → World → Prop
  | [] => Q
  | .code c :: k => Exit.then (c.wpIn (fen rd) 0 P (Cont P rd Q k)) (Cont P rd Q k)
  | .blk id :: k => Exit.inBlock id (Cont P rd Q k)
  | .ops all l :: k => Exit.then (wpListIn (fen rd) 0 P all (Cont P rd Q k) l) (Cont P rd Q k)
  | .goal J :: k => Exit.then J (Cont P rd Q k)
/-- FROM EVERY ACTIVATION OF WHICH THE FACTS 'env' HOLD, IN EVERY WORLD OF WHICH THE FACTS 'H' HOLD, what stands in 'k' is walked to its end. -/
def W (P : Program) (rd : Option Nat) (w0 : World) (Q : Exit → Act → World → Prop) (n : Nat) (ds : List Deferred) (k : List It) (env : Env) (H : Heap) : Prop :=
  ∀ a w, Agree n env a → a.defers = ds → Sat w0 H w → Cont P rd Q k .normal a w
/-- a function's contract -/
def LCalls (P : Program) (w0 : World) (f : FuncId) (args : Array Value) (H : Heap) (R : Value → Heap → Prop) : Prop :=
  ∀ w, Sat w0 H w → CallsIn Fence.wide 0 P f args w fun e w' => ∃ v H', e = .returned v ∧ R v H' ∧ Sat w0 H' w'
theorem LCalls.mono {P : Program} {w0 : World} {f : FuncId} {args : Array Value} {H : Heap} {R R' : Value → Heap → Prop} (h : LCalls P w0 f args H R) (hr : ∀ v H', R v H' → R' v H') : LCalls P w0 f args H R' :=
  fun w hs => (h w hs).mono fun _ _ ⟨v, H', e, r, s⟩ => ⟨v, H', e, hr _ _ r, s⟩
def LPost (w0 : World) (R : Value → Heap → Prop) : Ending → World → Prop := fun e w' => ∃ v H', e = .returned v ∧ R v H' ∧ Sat w0 H' w'
def FPost (P : Program) (w0 : World) (fn : Func) (R : Value → Heap → Prop) : Exit → Act → World → Prop := bodyPostM Fence.wide 0 P fn (LPost w0 R)

section rules
variable {P : Program} {rd : Option Nat} {w0 : World} {Q : Exit → Act → World → Prop} {n : Nat} {ds : List Deferred} {k : List It} {env env' : Env} {H H' : Heap}
theorem W_env (hs : sub env' env) (h : W P rd w0 Q n ds k env' H) : W P rd w0 Q n ds k env H :=
  fun a w ha hd hs' => h a w (ha.weaken (look_of_sub hs)) hd hs'
theorem W_perm (hp : List.Perm H H') (h : W P rd w0 Q n ds k env H') : W P rd w0 Q n ds k env H :=
  fun a w ha hd hs' => h a w ha hd (hs'.perm hp)
theorem W_drop (hp : List.Sublist H' H) (h : W P rd w0 Q n ds k env H') : W P rd w0 Q n ds k env H :=
  fun a w ha hd hs' => h a w ha hd (hs'.sublist hp)
theorem W_seq {x y : Code} (h : W P rd w0 Q n ds (.code x :: .code y :: k) env H) : W P rd w0 Q n ds (.code (.seq x y) :: k) env H :=
  fun a w ha hd hs => wpIn_seq (h a w ha hd hs)
theorem W_block {id : Nat} {c : Code} (h : W P rd w0 Q n ds (.code c :: .blk id :: k) env H) : W P rd w0 Q n ds (.code (.block id c) :: k) env H :=
  fun a w ha hd hs => wpIn_block (h a w ha hd hs)
theorem W_skip (h : W P rd w0 Q n ds k env H) : W P rd w0 Q n ds (.code .skip :: k) env H :=
  fun a w ha hd hs => wpIn_skip (h a w ha hd hs)
theorem W_blk {id : Nat} (h : W P rd w0 Q n ds k env H) : W P rd w0 Q n ds (.blk id :: k) env H := h
theorem W_cond {c : Operand} {x y : Code} {t : Bool} (hc : opv env c = some (.bool t)) (ht : t = true → W P rd w0 Q n ds (.code x :: k) env H)
    (hf : t = false → W P rd w0 Q n ds (.code y :: k) env H) : W P rd w0 Q n ds (.code (.cond c x y) :: k) env H :=
  fun a w ha hd hs => wpIn_cond_split (ha.opv hc) (fun e => ht e a w ha hd hs) (fun e => hf e a w ha hd hs)
theorem W_region {id : Nat} {l : List Oper} (h : W P rd w0 Q n ds (.ops l.toArray l :: k) env H) : W P rd w0 Q n ds (.code (.region id l.toArray false) :: k) env H :=
  fun a w ha hd hs => wpIn_region_lit (h a w ha hd hs)
theorem W_nil {all : Array Oper} (h : W P rd w0 Q n ds k env H) : W P rd w0 Q n ds (.ops all [] :: k) env H := h
theorem W_goal {J : Act → World → Prop} (h : ∀ a w, Agree n env a → a.defers = ds → Sat w0 H w → J a w) : W P rd w0 Q n ds (.goal J :: k) env H := h
/-- what the exit 'id' meets -/
def exitK (id : Nat) : List It → Option (List It)
  | [] => none
  | .blk i :: k => if i = id then some k else exitK id k
  | _ :: k => exitK id k
theorem cont_exit {id : Nat} : ∀ {k k' : List It}, exitK id k = some k' → ∀ a w, Cont P rd Q k' .normal a w → Cont P rd Q k (.exit id) a w
  | .blk i :: k, k', h, a, w, hq => by
    simp only [exitK] at h
    by_cases hi : i = id
    · rw [if_pos hi] at h; cases h; simp [Cont, Exit.inBlock, hi, hq]
    · rw [if_neg hi] at h
      have : ¬ id = i := fun e => hi e.symm
      simp [Cont, Exit.inBlock, this, cont_exit h a w hq]
  | .code c :: k, k', h, a, w, hq => cont_exit (k := k) h a w hq
  | .ops _ _ :: k, k', h, a, w, hq => cont_exit (k := k) h a w hq
  | .goal _ :: k, k', h, a, w, hq => cont_exit (k := k) h a w hq
theorem W_exit {id : Nat} {k' : List It} (he : exitK id k = some k') (h : W P rd w0 Q n ds k' env H) : W P rd w0 Q n ds (.code (.exit id) :: k) env H :=
  fun a w ha hd hs => wpIn_exit (cont_exit he a w (h a w ha hd hs))
theorem cont_ret : ∀ {k : List It} (a : Act) (w : World), Q .ret a w → Cont P rd Q k .ret a w
  | [], _, _, h => h
  | .blk _ :: k, a, w, h => cont_ret (k := k) a w h
  | .code _ :: k, a, w, h => cont_ret (k := k) a w h
  | .ops _ _ :: k, a, w, h => cont_ret (k := k) a w h
  | .goal _ :: k, a, w, h => cont_ret (k := k) a w h
theorem W_ret (h : ∀ a w, Agree n env a → a.defers = ds → Sat w0 H w → Q .ret a w) : W P rd w0 Q n ds (.code .ret :: k) env H :=
  fun a w ha hd hs => wpIn_ret (cont_ret a w (h a w ha hd hs))
theorem W_loop {X : Type} {c : Code} (E : X → Env) (HH : X → Heap) (I : X → Prop) (μ : X → Nat) (x0 : X) (h0 : I x0) (he : sub (E x0) env) (hh : H = HH x0)
    (round : ∀ x, I x → W P rd w0 Q n ds (.code c :: .goal (fun a w => ∃ x', I x' ∧ μ x' < μ x ∧ Agree n (E x') a ∧ a.defers = ds ∧ Sat w0 (HH x') w) :: k) (E x) (HH x)) :
    W P rd w0 Q n ds (.code (.loop c) :: k) env H := by
  intro a w ha hd hs
  subst hh
  refine wpIn_loop_ghost (fun m a' w' => ∃ x, μ x = m ∧ I x ∧ Agree n (E x) a' ∧ a'.defers = ds ∧ Sat w0 (HH x) w') (μ x0) ⟨x0, rfl, h0, ha.weaken (look_of_sub he), hd, hs⟩ ?_
  rintro m a' w' ⟨x, rfl, hI, hA, hD, hS⟩
  refine wpIn_mono (round x hI a' w' hA hD hS) fun e a2 w2 hq => ?_
  cases e with
  | normal =>
    obtain ⟨x', h1, h2, h3, h4, h5⟩ := hq
    exact ⟨μ x', h2, x', rfl, h1, h3, h4, h5⟩
  | exit id => exact hq
  | goto l => exact hq
  | ret => exact hq
  | panic ch => exact hq
  | outgrown => exact hq
end rules
end Go.Sl
