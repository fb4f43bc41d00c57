/-
  Own work: the small logic, more of its rules; of any program.
-/
import Derived.Test.YtknbohnoiigioaaSlBuild
import Derived.Laws.OwnMore
import Derived.Laws.MakeOwn
import Derived.Laws.AppendOwn
set_option linter.all false
set_option linter.unusedSimpArgs false
set_option linter.unusedVariables false
namespace Go.Sl
open Go.RowKit
/-! ## Heaps of several segments -/
inductive Take (p : Nat × Blk) : Heap → Heap → Prop
  | here (H : Heap) : Take p (p :: H) H
  | next {q : Nat × Blk} {H H1 : Heap} (h : Take p H H1) : Take p (q :: H) (q :: H1)
  | app {S H H1 : Heap} (h : Take p H H1) : Take p (S ++ H) (S ++ H1)
theorem Take.perm {p : Nat × Blk} {H H1 : Heap} (h : Take p H H1) : H.Perm (p :: H1) := by
  induction h with
  | here H => exact .refl _
  | next _ ih => exact (ih.cons _).trans (.swap _ _ _)
  | app _ ih => exact (ih.append_left _).trans List.perm_middle
theorem Take.mem {p : Nat × Blk} {H H1 : Heap} (h : Take p H H1) : p ∈ H := h.perm.mem_iff.2 List.mem_cons_self
inductive TakeS (S : Heap) : Heap → Heap → Prop
  | here (H : Heap) : TakeS S (S ++ H) H
  | next {q : Nat × Blk} {H H1 : Heap} (h : TakeS S H H1) : TakeS S (q :: H) (q :: H1)
  | app {S' H H1 : Heap} (h : TakeS S H H1) : TakeS S (S' ++ H) (S' ++ H1)
theorem TakeS.perm {S H H1 : Heap} (h : TakeS S H H1) : H.Perm (S ++ H1) := by
  induction h with
  | here H => exact .refl _
  | next _ ih => exact (ih.cons _).trans List.perm_middle.symm
  | app _ ih => exact (ih.append_left _).trans (by rw [← List.append_assoc, ← List.append_assoc]; exact List.perm_append_comm.append_right _)
/-- all of 'H'' lies in 'H', each part once -/
inductive HSub : Heap → Heap → Prop
  | nil (H : Heap) : HSub H []
  | refl (H : Heap) : HSub H H
  | cons {p : Nat × Blk} {H H1 H' : Heap} (h : Take p H H1) (hs : HSub H1 H') : HSub H (p :: H')
  | app {S H H1 H' : Heap} (h : TakeS S H H1) (hs : HSub H1 H') : HSub H (S ++ H')
  | drop {p : Nat × Blk} {H H' : Heap} (hs : HSub H H') : HSub (p :: H) H'
  | dropS {S H H' : Heap} (hs : HSub H H') : HSub (S ++ H) H'
  | cut {b e tot j : Nat} {l : List Value} {H : Heap} : HSub ((b, .cells e tot l) :: H) ((b, .cells e tot (l.take j)) :: H)
  | trans {H H1 H2 : Heap} (h : HSub H H1) (hs : HSub H1 H2) : HSub H H2
theorem Sat.hsub' {w0 w : World} {H H' : Heap} (hs : HSub H H') : ∀ S : Heap, Sat w0 (S ++ H) w → Sat w0 (S ++ H') w := by
  induction hs with
  | nil H => exact fun S h => h.sublist (by rw [List.append_nil]; exact List.sublist_append_left _ _)
  | refl H => exact fun S h => h
  | @cons p H H1 H' hT _ ih =>
    intro S h
    have h1 := h.perm ((hT.perm.append_left S).trans (by rw [← List.singleton_append, ← List.append_assoc]))
    have h2 := ih (S ++ [p]) h1
    rwa [List.append_assoc, List.singleton_append] at h2
  | @app S' H H1 H' hT _ ih =>
    intro S h
    have h1 := h.perm ((hT.perm.append_left S).trans (by rw [← List.append_assoc]))
    have h2 := ih (S ++ S') h1
    rwa [List.append_assoc] at h2
  | @drop p H H' _ ih => exact fun S h => ih S (h.sublist ((List.Sublist.refl S).append (List.sublist_cons_self p H)))
  | @dropS S' H H' _ ih => exact fun S h => ih S (h.sublist ((List.Sublist.refl S).append (List.sublist_append_right S' H)))
  | trans _ _ ih1 ih2 => exact fun S h => ih2 S (ih1 S h)
  | @cut b e tot j l H =>
    intro S h
    refine ⟨h.below, ?_, fun p hp => ?_⟩
    · have := h.nodup
      simpa using this
    · rcases List.mem_append.1 hp with hp | hp
      · exact h.own p (List.mem_append_left _ hp)
      · cases hp with
        | head =>
          obtain ⟨h1, c, h2, h3, h4⟩ := h.own (b, .cells e tot l) (List.mem_append_right _ List.mem_cons_self)
          refine ⟨h1, c, h2, h3, ?_⟩
          show c.toList.take (l.take j).length = l.take j
          rw [List.length_take]
          conv => rhs; rw [← h4]
          rw [List.take_take]
        | tail _ hp => exact h.own p (List.mem_append_right _ (List.mem_cons_of_mem _ hp))
theorem Sat.hsub {w0 w : World} {H H' : Heap} (h : Sat w0 H w) (hs : HSub H H') : Sat w0 H' w := by
  simpa using Sat.hsub' hs [] (by simpa using h)
section
variable {P : Program} {rd : Option Nat} {w0 : World} {Q : Exit → Act → World → Prop} {n : Nat} {ds : List Deferred} {k : List It} {env env' : Env} {H H' : Heap}
theorem W_hsub (hs : HSub H H') (h : W P rd w0 Q n ds k env H') : W P rd w0 Q n ds k env H := fun a w ha hd hs' => h a w ha hd (hs'.hsub hs)
end

/-! ## Slices that are the call's own -/
/-- v: a slice of n elements of s cells each, nil or in a block of its own; xs: the cells -/
inductive OwnS (e : TypeId) (s : Nat) : Value → Nat → List Value → Heap → Prop
  | nil : OwnS e s (.slice none 0 0) 0 [] []
  | own {b n cap : Nat} {xs : List Value} (h1 : xs.length = n * s) (h2 : n ≤ cap) (h3 : cap ≤ maxLen) : OwnS e s (.slice (some ⟨b, 0, none⟩) n cap) n xs [(b, .cells e (cap * s) xs)]
theorem OwnS.length {e : TypeId} {s : Nat} {v : Value} {n : Nat} {xs : List Value} {HB : Heap} (h : OwnS e s v n xs HB) : xs.length = n * s := by
  cases h with
  | nil => simp
  | own h1 _ _ => exact h1
theorem OwnS.shape {e : TypeId} {s : Nat} {v : Value} {n : Nat} {xs : List Value} {HB : Heap} (h : OwnS e s v n xs HB) : ∃ ad cap, v = .slice ad n cap ∧ n ≤ cap ∧ cap ≤ maxLen := by
  cases h with
  | nil => exact ⟨_, _, rfl, Nat.le_refl _, Nat.zero_le _⟩
  | own _ h2 h3 => exact ⟨_, _, rfl, h2, h3⟩
theorem OwnS.pos {e : TypeId} {s : Nat} {v : Value} {n : Nat} {xs : List Value} {HB : Heap} (h : OwnS e s v n xs HB) (hn : 0 < n) : ∃ b cap, v = .slice (some ⟨b, 0, none⟩) n cap ∧ HB = [(b, .cells e (cap * s) xs)] ∧ n ≤ cap := by
  cases h with
  | nil => omega
  | own _ h2 _ => exact ⟨_, _, rfl, rfl, h2⟩
/-- only the first are of account -/
theorem OwnS.cut {e : TypeId} {s : Nat} {ad : Option Addr} {n cap j : Nat} {xs : List Value} {HB : Heap} (h : OwnS e s (.slice ad n cap) n xs HB) (hj : j ≤ n) : ∃ HB', OwnS e s (.slice ad j cap) j (xs.take (j * s)) HB' ∧ ∀ H, HSub (HB ++ H) (HB' ++ H) := by
  cases h with
  | nil => obtain rfl : j = 0 := by omega
           exact ⟨[], by simpa using OwnS.nil, fun H => .refl _⟩
  | own h1 h2 h3 => exact ⟨_, .own (by rw [List.length_take, h1]; have := Nat.mul_le_mul_right s hj; omega) (by omega) h3, fun H => .cut⟩
/-- what an appended slice holds -/
def Holds (w0 : World) (H : Heap) (ad : Option Addr) (l : List Value) : Prop := ∀ (j : Nat) x, l[j]? = some x → ∃ b o, ad = some ⟨b, o, none⟩ ∧ Cell w0 H b (o + j) x
theorem Holds.nil {w0 : World} {H : Heap} {ad : Option Addr} : Holds w0 H ad [] := fun j x h => by simp at h
theorem Holds.own {w0 : World} {H : Heap} {b e tot : Nat} {l : List Value} (hm : (b, Blk.cells e tot l) ∈ H) : Holds w0 H (some ⟨b, 0, none⟩) l := fun j x h => ⟨b, 0, rfl, by rw [Nat.zero_add]; exact Cell.own hm h⟩
theorem ownsRow_of {w0 w : World} {H0 HB : Heap} {e : TypeId} {s : Nat} {v : Value} {n : Nat} {xs : List Value} (ho : OwnS e s v n xs HB) (hs : Sat w0 (HB ++ H0) w) : w.ownsRow w0.heap.size e s v n xs := by
  refine ⟨ho.length, ?_⟩
  cases ho with
  | nil => exact .inl ⟨rfl, rfl⟩
  | @own b n cap xs h1 h2 h3 =>
    obtain ⟨hb, c, hc, hsz, ht⟩ := hs.own (b, .cells e (cap * s) xs) (by simp)
    exact .inr ⟨b, cap, c, rfl, hb, hc, h2, h3, hsz, by rw [← h1]; exact ht⟩
theorem Sat.of_same {w0 w w' : World} {H : Heap} (h : Sat w0 H w) (hb : Below w0.heap.size w w') (hs : ∀ p ∈ H, w'.heap[p.1]? = w.heap[p.1]?) : Sat w0 H w' :=
  ⟨h.below.trans hb, h.nodup, fun p hp => ⟨(h.own p hp).1, (h.own p hp).2.of_block (hs p hp)⟩⟩
theorem setRow_below {w0 w : World} {b : Nat} {cs : Array Value} (hb : w0.heap.size ≤ b) : Below w0.heap.size w (w.setRow b cs) :=
  ⟨rfl, rfl, rfl, by simp [World.setRow], fun k hk => setRow_other w b k cs (by omega)⟩
theorem setRow_size (w : World) (b : Nat) (cs : Array Value) : (w.setRow b cs).heap.size = w.heap.size := by simp [World.setRow]
/-- APPEND TO A SLICE OF ONE's OWN -/
theorem run_app {P : Program} {w0 w : World} {H0 HB : Heap} {t e : TypeId} {s sl bytes bl : Nat} {z zl : Value} {ty : TypeId} (ht : Ty P t (.slice e) sl zl bl) {de : TypeDesc} (he : Ty P e de s z bytes) (hzs : z.cells.size = s) (hsz : 0 < s)
    {v : Value} {n : Nat} {xs : List Value} (ho : OwnS e s v n xs HB) (hs : Sat w0 (HB ++ H0) w)
    {ad : Option Addr} {m c : Nat} {news : List Value} (hl : news.length = m * s) (hnews : ∀ (j : Nat) x, news[j]? = some x → ∃ b o, ad = some ⟨b, o, none⟩ ∧ w.cell? ⟨b, o + j, none⟩ = some x) (h1 : ∀ u ∈ news, u.oneCell' = true)
    (h63 : n + m ≤ maxLen) (hbytes : (n + m) * bytes ≤ 140737488355328) :
    ∃ v' HB' w', (Builtin.append_ #[t, t] ty #[v, .slice ad m c]).run P w = .ok v' w' ∧ OwnS e s v' (n + m) (xs ++ news) HB' ∧ Sat w0 (HB' ++ H0) w' := by
  obtain ⟨i, hi, hsize, hz, hby⟩ := he.info
  subst hsize
  have hsmall : n + m ≤ 9223372036854775807 := by simp only [maxLen] at h63; omega
  by_cases hm : m = 0
  · subst hm
    have hn : news = [] := List.eq_nil_of_length_eq_zero (by simpa using hl)
    subst hn
    refine ⟨v, HB, w, ?_, by simpa using ho, hs⟩
    cases ho with
    | nil => cases ad <;> simp [Builtin.append_, run_underlying ht.und, sizeOf, typeInfo, hi, Builtin.lenOf, Builtin.firstCells, loadCells, loadCellsFrom]
    | own _ h2 _ => cases ad <;> simp [Builtin.append_, run_underlying ht.und, sizeOf, typeInfo, hi, Builtin.lenOf, Builtin.firstCells, loadCells, loadCellsFrom, h2, storeCells]
  · have hpos : 0 < news.length := by rw [hl]; exact Nat.mul_pos (by omega) hsz
    obtain ⟨b0, o0, hb0, _⟩ := hnews 0 _ (List.getElem?_eq_getElem hpos)
    subst hb0
    have hnews' : ∀ (W : World), W.heap = w.heap → ∀ j u, news[j]? = some u → W.cell? (Addr.add ⟨b0, o0, none⟩ j) = some u := fun W hW j u hu => by
      obtain ⟨b, o, he', hc⟩ := hnews j u hu
      cases he'
      rw [addr_add]
      have : W.cell? ⟨b0, o0 + j, none⟩ = w.cell? ⟨b0, o0 + j, none⟩ := by simp [World.cell?, hW]
      rw [this]; exact hc
    have grown : ∀ old : Nat, OwnS e i.size (.slice (some ⟨w.heap.size, 0, none⟩) (n + m) (grownCap w (n + m) old e)) (n + m) (xs ++ news) [(w.heap.size, .cells e (grownCap w (n + m) old e * i.size) (xs ++ news))] ∧
        Sat w0 ([(w.heap.size, Blk.cells e (grownCap w (n + m) old e * i.size) (xs ++ news))] ++ H0) (w.drew.alloc (.cells (xs.toArray ++ news.toArray ++ Builtin.zeroCells z.cells (grownCap w (n + m) old e - (n + m))) e)) := fun old => by
      have hge := grownCap_ge w (n + m) old e
      have hcm : grownCap w (n + m) old e ≤ maxLen := grownCap_le_maxLen w (n + m) old e h63
      have hlen : (xs ++ news).length = (n + m) * i.size := by rw [List.length_append, ho.length, hl, Nat.add_mul]
      refine ⟨.own hlen hge hcm, ?_⟩
      have hs0 : Sat w0 H0 w := hs.sublist (List.sublist_append_right _ _)
      refine hs0.drew.alloc _ ?_
      refine ⟨_, World.alloc_heap_new w.drew _, ?_, ?_⟩
      · simp only [Array.size_append, List.size_toArray, size_zeroCells, hzs, ho.length, hl, ← Nat.add_mul]
        congr 1
        omega
      · simp only [Array.toList_append, List.append_assoc]
        rw [← List.append_assoc]
        exact List.take_left
    cases ho with
    | nil =>
      have hr := run_append_nil (P := P) w t ty e i z ht.und hi hz ⟨b0, o0, none⟩ m c news hl (hnews' w rfl) (by omega) (by omega) (by rw [hby]; simp only [Nat.zero_add] at hbytes; omega)
      obtain ⟨hg1, hg2⟩ := grown 0
      simp only [Nat.zero_add, List.nil_append, Array.empty_append] at hg1 hg2 hr ⊢
      exact ⟨_, _, _, hr, hg1, hg2⟩
    | @own b _ cap _ hx1 hx2 hx3 =>
      obtain ⟨hb, cur, hc, hsz', htk⟩ := hs.own (b, .cells e (cap * i.size) xs) (by simp)
      by_cases hroom : n + m ≤ cap
      · have hfit : n * i.size + news.length ≤ cur.size := by rw [hl, hsz', ← Nat.add_mul]; exact Nat.mul_le_mul_right _ hroom
        have hr := run_append_room (P := P) w t ty e i ht.und hi b n cap cur hc ⟨b0, o0, none⟩ m c news hl (hnews' w rfl) h1 hroom hfit
        have hlen : (xs ++ news).length = (n + m) * i.size := by rw [List.length_append, hx1, hl, Nat.add_mul]
        refine ⟨_, _, _, hr, .own hlen hroom hx3, ?_⟩
        refine hs.upd (b := b) (k := .cells e (cap * i.size) xs) (.head _) (setRow_below hb) (fun j hj _ => setRow_other w b j _ hj) ?_
        refine ⟨_, setRow_heap w b cur _ e _ hc, ?_, ?_⟩
        · simp only [List.size_toArray, List.length_append, List.length_take, List.length_drop, Array.length_toList]
          omega
        · show (List.take (n * i.size) cur.toList ++ news ++ List.drop (n * i.size + news.length) cur.toList).take (xs ++ news).length = _
          rw [← hx1, htk]
          exact List.take_left
      · have holds : ∀ j u, xs[j]? = some u → w.cell? (Addr.add ⟨b, 0, none⟩ j) = some u := fun j u hu => by
          rw [addr_add, Nat.zero_add]
          exact hs.cell (b := b) (e := e) (tot := cap * i.size) (l := xs) (by simp) hu
        have hr := run_append_grow (P := P) w t ty e i z ht.und hi hz ⟨b, 0, none⟩ n cap xs hx1 holds ⟨b0, o0, none⟩ m c news hl (hnews' w rfl) (by omega) (by omega) (growslice_fits (by omega) (by rw [hby]; exact hbytes))
        obtain ⟨hg1, hg2⟩ := grown cap
        exact ⟨_, _, _, hr, hg1, hg2⟩
section
variable {P : Program} {rd : Option Nat} {w0 : World} {Q : Exit → Act → World → Prop} {n : Nat} {ds : List Deferred} {k : List It} {env env' : Env} {H H' : Heap} {all : Array Oper} {rest : List Oper}
variable {d : Nat} {x y c : Operand} {t u ty : TypeId} {pos : String} {aft : Array Edge} {v : Value} {tys : Array TypeId}
theorem W_append {HB H0 : Heap} {e : TypeId} {s sl bytes bl m len cap : Nat} {z zl : Value} {de : TypeDesc} {xs news : List Value} {ad : Option Addr} (hx : opv env x = some v) (hy : opv env y = some (.slice ad m cap)) (ht : Ty P t (.slice e) sl zl bl) (he : Ty P e de s z bytes) (hzs : z.cells.size = s) (hsz : 0 < s)
    (ho : OwnS e s v len xs HB) (hl : news.length = m * s) (hnews : Holds w0 H ad news) (h1 : news.all Value.oneCell' = true) (h63 : len + m ≤ maxLen) (hbytes : (len + m) * bytes ≤ 140737488355328) (hH : HSub H (HB ++ H0)) (hd : Nat.blt d n = true)
    (h : ∀ v' HB', OwnS e s v' (len + m) (xs ++ news) HB' → W P rd w0 Q n ds (.ops all rest :: k) ((d, v') :: env) (HB' ++ H0)) :
    W P rd w0 Q n ds (.ops all (⟨some d, .call ⟨.builtin .append, #[x, y], #[t, t]⟩, ty, pos, aft, none⟩ :: rest) :: k) env H :=
  W_gen rfl nofun hd fun a w ha hs => by
    obtain ⟨v', HB', w', hr, ho', hs'⟩ := run_app (P := P) (ty := ty) (c := cap) ht he hzs hsz ho (hs.hsub hH) hl (fun j x hx => by
      obtain ⟨b, o, e1, e2⟩ := hnews j x hx
      exact ⟨b, o, e1, e2 w hs⟩) (fun u hu => List.all_eq_true.1 h1 u hu) h63 hbytes
    refine ⟨v', HB' ++ H0, w', .inl ?_, hs', h v' HB' ho'⟩
    simp [execOp, resolve, invoke, builtin, ha.opv hx, ha.opv hy, hr, Result.andThen]
/-- make([]T, n) and make([]T, n, c) -/
theorem W_makeSlice {e : TypeId} {s sl bytes bl ln cp : Nat} {z zl : Value} {de : TypeDesc} {l : List Value} {q q' : IntKind} {i j : Int} (hx : opv env x = some (.int q i)) (hy : opv env y = some (.int q' j)) (ht : Ty P t (.slice e) sl zl bl) (he : Ty P e de s z bytes)
    (hi : i = (ln : Int)) (hj : j = (cp : Int)) (hlc : ln ≤ cp) (hb : bytes * cp ≤ 281474976710656) (h63 : cp ≤ maxLen) (hl : (madeCells z.cells (cp * s)).toList = l) (hd : Nat.blt d n = true)
    (h : ∀ b : Nat, W P rd w0 Q n ds (.ops all rest :: k) ((d, .slice (some ⟨b, 0, none⟩) ln cp) :: env) ((b, .cells e (cp * s) l) :: H)) : W P rd w0 Q n ds (.ops all (⟨some d, .makeSlice t x y, ty, pos, aft, none⟩ :: rest) :: k) env H :=
  W_gen rfl nofun hd fun a w ha hs => by
    obtain ⟨inf, hinf, hsize, hz, hby⟩ := he.info
    subst hi hj hsize hby hl
    have hb' : (inf.bytes : Int) * (cp : Int) ≤ 281474976710656 := by
      have h : ((inf.bytes * cp : Nat) : Int) ≤ 281474976710656 := by omega
      rwa [Int.natCast_mul] at h
    have hr := run_make (P := P) w t e inf z ht.und hinf hz q q' ln cp (by omega) (by omega) hb' (by simp only [maxLen] at h63; omega)
    simp only [Int.toNat_natCast] at hr
    refine ⟨.slice (some ⟨w.heap.size, 0, none⟩) ln cp, _, w.alloc (.cells (madeCells z.cells (cp * inf.size)) e), .inl (by simp [execOp, ha.opv hx, ha.opv hy, hr, Result.andThen]), hs.alloc _ ?_, h w.heap.size⟩
    have := At.alloc_cells w (madeCells z.cells (cp * inf.size)) e
    rwa [size_madeCells] at this
/-- a struct, an array stored -/
theorem W_storeA {b i e tot s by_ : Nat} {td : TypeDesc} {z : Value} {cs : Array Value} {l l' : List Value} {ty : TypeId} (hx : opv env x = some (.pointer (some ⟨b, i, none⟩))) (hy : opv env y = some (.agg cs)) (ht : Ty P t td s z by_) (h1 : cs.toList.all Value.oneCell' = true) (hs1 : cs.size = s)
    (hm : (b, Blk.cells e tot l) ∈ H) (hi : i + s ≤ l.length) (hl : spliceL l i cs.toList = l') (hu : Upd b (.cells e tot l) (.cells e tot l') H H')
    (h : W P rd w0 Q n ds (.ops all rest :: k) env H') : W P rd w0 Q n ds (.ops all (⟨none, .store t x y, ty, pos, aft, none⟩ :: rest) :: k) env H :=
  W_gen rfl nofun rfl fun a w ha hs => by
    subst hl hs1
    obtain ⟨hb, cur, hc, hsz, htk⟩ := hs.own _ hm
    have hlen : l.length ≤ cur.size := by
      have := congrArg List.length htk
      simp only [List.length_take, Array.length_toList] at this
      omega
    have h1' : ∀ v ∈ cs.toList, v.oneCell' = true := fun v hv => by
      exact List.all_eq_true.1 h1 v hv
    have hst := run_storeCells_at P b i e cs.toList 0 cur w hc (by simp only [Array.length_toList]; omega) h1'
    simp only [Nat.add_zero, Array.length_toList] at hst
    have hcl : (Value.agg cs).cells = cs := rfl
    refine ⟨undef, H', _, .inr ⟨?_, rfl⟩, hs.upd hu (setRow_below (cs := (List.take i cur.toList ++ cs.toList ++ List.drop (i + cs.size) cur.toList).toArray) hb) (fun j hj _ => setRow_other w b j _ hj) ?_, h⟩
    · simp [execOp, ha.opv hx, ha.opv hy, Instr.storeAt, Instr.sureAddr, storeVar, ht.size, hcl, hst, Result.andThen]
    · refine ⟨_, setRow_heap w b cur _ e _ hc, ?_, ?_⟩
      · simp only [List.size_toArray, List.length_append, List.length_take, List.length_drop, Array.length_toList]
        omega
      · rw [spliceL_length (by simpa using hi)]
        show (List.take i cur.toList ++ cs.toList ++ List.drop (i + cs.size) cur.toList).take l.length = spliceL l i cs.toList
        unfold spliceL
        have e1 : l.take i = cur.toList.take i := by rw [← htk, List.take_take]; congr 1; omega
        have e2 : l.drop (i + cs.toList.length) = (cur.toList.drop (i + cs.size)).take (l.length - (i + cs.size)) := by
          rw [Array.length_toList]
          conv => lhs; rw [← htk]
          rw [List.drop_take]
        rw [e1, e2, List.append_assoc, List.append_assoc, List.take_append, List.take_append]
        congr 1
        · rw [List.take_take]; congr 1; omega
        · congr 1
          · rw [List.take_of_length_le]; simp only [List.length_take, Array.length_toList]; omega
          · congr 1; simp only [List.length_take, Array.length_toList]; omega
end
end Go.Sl
