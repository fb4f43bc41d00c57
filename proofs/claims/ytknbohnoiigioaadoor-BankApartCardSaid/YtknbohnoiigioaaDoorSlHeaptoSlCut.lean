/-
  Own work: the small logic, more of its rules; of any program.
-/
import Derived.Test.YtknbohnoiigioaaDoorSlCoretoSlArgs
import Derived.Laws.OwnMore
import Derived.Laws.MakeOwn
import Derived.Laws.AppendOwn
import Derived.RangeFuncNested
import Derived.Sort.QuietThIn
import Derived.OrdersIn
import Derived.Laws.StructEq
import Derived.Laws.Cover3
import Derived.Laws.IdiomStrings
import Derived.ChangeKeysEq
set_option linter.all false
set_option linter.unusedSimpArgs false
set_option linter.unusedVariables false
namespace Go.Sl
open Go.RowKit
/-! ## Heaps of several segments -/
inductive Take (p : Nat × Blk) : Heap → Heap → Prop
  | here (H : Heap) : Take p (p :: H) H
  | next {q : Nat × Blk} {H H1 : Heap} (h : Take p H H1) : Take p (q :: H) (q :: H1)
  | app {S H H1 : Heap} (h : Take p H H1) : Take p (S ++ H) (S ++ H1)
theorem Take.perm {p : Nat × Blk} {H H1 : Heap} (h : Take p H H1) : H.Perm (p :: H1) := by
  induction h with
  | here H => exact .refl _
  | next _ ih => exact (ih.cons _).trans (.swap _ _ _)
  | app _ ih => exact (ih.append_left _).trans List.perm_middle
theorem Take.mem {p : Nat × Blk} {H H1 : Heap} (h : Take p H H1) : p ∈ H := h.perm.mem_iff.2 List.mem_cons_self
inductive TakeS (S : Heap) : Heap → Heap → Prop
  | here (H : Heap) : TakeS S (S ++ H) H
  | next {q : Nat × Blk} {H H1 : Heap} (h : TakeS S H H1) : TakeS S (q :: H) (q :: H1)
  | app {S' H H1 : Heap} (h : TakeS S H H1) : TakeS S (S' ++ H) (S' ++ H1)
theorem TakeS.perm {S H H1 : Heap} (h : TakeS S H H1) : H.Perm (S ++ H1) := by
  induction h with
  | here H => exact .refl _
  | next _ ih => exact (ih.cons _).trans List.perm_middle.symm
  | app _ ih => exact (ih.append_left _).trans (by rw [← List.append_assoc, ← List.append_assoc]; exact List.perm_append_comm.append_right _)
/-- all of 'H'' lies in 'H', each part once -/
inductive HSub : Heap → Heap → Prop
  | nil (H : Heap) : HSub H []
  | refl (H : Heap) : HSub H H
  | cons {p : Nat × Blk} {H H1 H' : Heap} (h : Take p H H1) (hs : HSub H1 H') : HSub H (p :: H')
  | app {S H H1 H' : Heap} (h : TakeS S H H1) (hs : HSub H1 H') : HSub H (S ++ H')
  | drop {p : Nat × Blk} {H H' : Heap} (hs : HSub H H') : HSub (p :: H) H'
  | dropS {S H H' : Heap} (hs : HSub H H') : HSub (S ++ H) H'
  | cut {b e tot j : Nat} {l : List Value} {H : Heap} : HSub ((b, .cells e tot l) :: H) ((b, .cells e tot (l.take j)) :: H)
  | trans {H H1 H2 : Heap} (h : HSub H H1) (hs : HSub H1 H2) : HSub H H2
theorem Sat.hsub' {w0 w : World} {H H' : Heap} (hs : HSub H H') : ∀ S : Heap, Sat w0 (S ++ H) w → Sat w0 (S ++ H') w := by
  induction hs with
  | nil H => exact fun S h => h.sublist (by rw [List.append_nil]; exact List.sublist_append_left _ _)
  | refl H => exact fun S h => h
  | @cons p H H1 H' hT _ ih =>
    intro S h
    have h1 := h.perm ((hT.perm.append_left S).trans (by rw [← List.singleton_append, ← List.append_assoc]))
    have h2 := ih (S ++ [p]) h1
    rwa [List.append_assoc, List.singleton_append] at h2
  | @app S' H H1 H' hT _ ih =>
    intro S h
    have h1 := h.perm ((hT.perm.append_left S).trans (by rw [← List.append_assoc]))
    have h2 := ih (S ++ S') h1
    rwa [List.append_assoc] at h2
  | @drop p H H' _ ih => exact fun S h => ih S (h.sublist ((List.Sublist.refl S).append (List.sublist_cons_self p H)))
  | @dropS S' H H' _ ih => exact fun S h => ih S (h.sublist ((List.Sublist.refl S).append (List.sublist_append_right S' H)))
  | trans _ _ ih1 ih2 => exact fun S h => ih2 S (ih1 S h)
  | @cut b e tot j l H =>
    intro S h
    refine ⟨h.below, ?_, fun p hp => ?_⟩
    · have := h.nodup
      simpa using this
    · rcases List.mem_append.1 hp with hp | hp
      · exact h.own p (List.mem_append_left _ hp)
      · cases hp with
        | head =>
          obtain ⟨h1, c, h2, h3, h4⟩ := h.own (b, .cells e tot l) (List.mem_append_right _ List.mem_cons_self)
          refine ⟨h1, c, h2, h3, ?_⟩
          show c.toList.take (l.take j).length = l.take j
          rw [List.length_take]
          conv => rhs; rw [← h4]
          rw [List.take_take]
        | tail _ hp => exact h.own p (List.mem_append_right _ (List.mem_cons_of_mem _ hp))
theorem Sat.hsub {w0 w : World} {H H' : Heap} (h : Sat w0 H w) (hs : HSub H H') : Sat w0 H' w := by
  simpa using Sat.hsub' hs [] (by simpa using h)
section
variable {P : Program} {rd : Option Nat} {w0 : World} {Q : Exit → Act → World → Prop} {n : Nat} {ds : List Deferred} {k : List It} {env env' : Env} {H H' : Heap}
theorem W_hsub (hs : HSub H H') (h : W P rd w0 Q n ds k env H') : W P rd w0 Q n ds k env H := fun a w ha hd hs' => h a w ha hd (hs'.hsub hs)
end

/-! ## Slices that are the call's own -/
/-- v: a slice of n elements of s cells each, nil or in a block of its own; xs: the cells -/
inductive OwnS (e : TypeId) (s : Nat) : Value → Nat → List Value → Heap → Prop
  | nil : OwnS e s (.slice none 0 0) 0 [] []
  | own {b n cap : Nat} {xs : List Value} (h1 : xs.length = n * s) (h2 : n ≤ cap) (h3 : cap ≤ maxLen) : OwnS e s (.slice (some ⟨b, 0, none⟩) n cap) n xs [(b, .cells e (cap * s) xs)]
theorem OwnS.length {e : TypeId} {s : Nat} {v : Value} {n : Nat} {xs : List Value} {HB : Heap} (h : OwnS e s v n xs HB) : xs.length = n * s := by
  cases h with
  | nil => simp
  | own h1 _ _ => exact h1
theorem OwnS.shape {e : TypeId} {s : Nat} {v : Value} {n : Nat} {xs : List Value} {HB : Heap} (h : OwnS e s v n xs HB) : ∃ ad cap, v = .slice ad n cap ∧ n ≤ cap ∧ cap ≤ maxLen := by
  cases h with
  | nil => exact ⟨_, _, rfl, Nat.le_refl _, Nat.zero_le _⟩
  | own _ h2 h3 => exact ⟨_, _, rfl, h2, h3⟩
theorem OwnS.pos {e : TypeId} {s : Nat} {v : Value} {n : Nat} {xs : List Value} {HB : Heap} (h : OwnS e s v n xs HB) (hn : 0 < n) : ∃ b cap, v = .slice (some ⟨b, 0, none⟩) n cap ∧ HB = [(b, .cells e (cap * s) xs)] ∧ n ≤ cap := by
  cases h with
  | nil => omega
  | own _ h2 _ => exact ⟨_, _, rfl, rfl, h2⟩
/-- only the first are of account -/
theorem OwnS.cut {e : TypeId} {s : Nat} {ad : Option Addr} {n cap j : Nat} {xs : List Value} {HB : Heap} (h : OwnS e s (.slice ad n cap) n xs HB) (hj : j ≤ n) : ∃ HB', OwnS e s (.slice ad j cap) j (xs.take (j * s)) HB' ∧ ∀ H, HSub (HB ++ H) (HB' ++ H) := by
  cases h with
  | nil => obtain rfl : j = 0 := by omega
           exact ⟨[], by simpa using OwnS.nil, fun H => .refl _⟩
  | own h1 h2 h3 => exact ⟨_, .own (by rw [List.length_take, h1]; have := Nat.mul_le_mul_right s hj; omega) (by omega) h3, fun H => .cut⟩
/-- what an appended slice holds -/
def Holds (w0 : World) (H : Heap) (ad : Option Addr) (l : List Value) : Prop := ∀ (j : Nat) x, l[j]? = some x → ∃ b o, ad = some ⟨b, o, none⟩ ∧ Cell w0 H b (o + j) x
theorem Holds.nil {w0 : World} {H : Heap} {ad : Option Addr} : Holds w0 H ad [] := fun j x h => by simp at h
theorem Holds.own {w0 : World} {H : Heap} {b e tot : Nat} {l : List Value} (hm : (b, Blk.cells e tot l) ∈ H) : Holds w0 H (some ⟨b, 0, none⟩) l := fun j x h => ⟨b, 0, rfl, by rw [Nat.zero_add]; exact Cell.own hm h⟩
theorem ownsRow_of {w0 w : World} {H0 HB : Heap} {e : TypeId} {s : Nat} {v : Value} {n : Nat} {xs : List Value} (ho : OwnS e s v n xs HB) (hs : Sat w0 (HB ++ H0) w) : w.ownsRow w0.heap.size e s v n xs := by
  refine ⟨ho.length, ?_⟩
  cases ho with
  | nil => exact .inl ⟨rfl, rfl⟩
  | @own b n cap xs h1 h2 h3 =>
    obtain ⟨hb, c, hc, hsz, ht⟩ := hs.own (b, .cells e (cap * s) xs) (by simp)
    exact .inr ⟨b, cap, c, rfl, hb, hc, h2, h3, hsz, by rw [← h1]; exact ht⟩
theorem Sat.of_same {w0 w w' : World} {H : Heap} (h : Sat w0 H w) (hb : Below w0.heap.size w w') (hs : ∀ p ∈ H, w'.heap[p.1]? = w.heap[p.1]?) : Sat w0 H w' :=
  ⟨h.below.trans hb, h.nodup, fun p hp => ⟨(h.own p hp).1, (h.own p hp).2.of_block (hs p hp)⟩⟩
theorem setRow_below {w0 w : World} {b : Nat} {cs : Array Value} (hb : w0.heap.size ≤ b) : Below w0.heap.size w (w.setRow b cs) :=
  ⟨rfl, rfl, rfl, by simp [World.setRow], fun k hk => setRow_other w b k cs (by omega)⟩
theorem setRow_size (w : World) (b : Nat) (cs : Array Value) : (w.setRow b cs).heap.size = w.heap.size := by simp [World.setRow]
/-- APPEND TO A SLICE OF ONE's OWN -/
theorem run_app {P : Program} {w0 w : World} {H0 HB : Heap} {t e : TypeId} {s sl bytes bl : Nat} {z zl : Value} {ty : TypeId} (ht : Ty P t (.slice e) sl zl bl) {de : TypeDesc} (he : Ty P e de s z bytes) (hzs : z.cells.size = s) (hsz : 0 < s)
    {v : Value} {n : Nat} {xs : List Value} (ho : OwnS e s v n xs HB) (hs : Sat w0 (HB ++ H0) w)
    {ad : Option Addr} {m c : Nat} {news : List Value} (hl : news.length = m * s) (hnews : ∀ (j : Nat) x, news[j]? = some x → ∃ b o, ad = some ⟨b, o, none⟩ ∧ w.cell? ⟨b, o + j, none⟩ = some x) (h1 : ∀ u ∈ news, u.oneCell' = true)
    (h63 : n + m ≤ maxLen) (hbytes : (n + m) * bytes ≤ 140737488355328) :
    ∃ v' HB' w', (Builtin.append_ #[t, t] ty #[v, .slice ad m c]).run P w = .ok v' w' ∧ OwnS e s v' (n + m) (xs ++ news) HB' ∧ Sat w0 (HB' ++ H0) w' := by
  obtain ⟨i, hi, hsize, hz, hby⟩ := he.info
  subst hsize
  have hsmall : n + m ≤ 9223372036854775807 := by simp only [maxLen] at h63; omega
  by_cases hm : m = 0
  · subst hm
    have hn : news = [] := List.eq_nil_of_length_eq_zero (by simpa using hl)
    subst hn
    refine ⟨v, HB, w, ?_, by simpa using ho, hs⟩
    cases ho with
    | nil => cases ad <;> simp [Builtin.append_, run_underlying ht.und, sizeOf, typeInfo, hi, Builtin.lenOf, Builtin.firstCells, loadCells, loadCellsFrom]
    | own _ h2 _ => cases ad <;> simp [Builtin.append_, run_underlying ht.und, sizeOf, typeInfo, hi, Builtin.lenOf, Builtin.firstCells, loadCells, loadCellsFrom, h2, storeCells]
  · have hpos : 0 < news.length := by rw [hl]; exact Nat.mul_pos (by omega) hsz
    obtain ⟨b0, o0, hb0, _⟩ := hnews 0 _ (List.getElem?_eq_getElem hpos)
    subst hb0
    have hnews' : ∀ (W : World), W.heap = w.heap → ∀ j u, news[j]? = some u → W.cell? (Addr.add ⟨b0, o0, none⟩ j) = some u := fun W hW j u hu => by
      obtain ⟨b, o, he', hc⟩ := hnews j u hu
      cases he'
      rw [addr_add]
      have : W.cell? ⟨b0, o0 + j, none⟩ = w.cell? ⟨b0, o0 + j, none⟩ := by simp [World.cell?, hW]
      rw [this]; exact hc
    have grown : ∀ old : Nat, OwnS e i.size (.slice (some ⟨w.heap.size, 0, none⟩) (n + m) (grownCap w (n + m) old e)) (n + m) (xs ++ news) [(w.heap.size, .cells e (grownCap w (n + m) old e * i.size) (xs ++ news))] ∧
        Sat w0 ([(w.heap.size, Blk.cells e (grownCap w (n + m) old e * i.size) (xs ++ news))] ++ H0) (w.drew.alloc (.cells (xs.toArray ++ news.toArray ++ Builtin.zeroCells z.cells (grownCap w (n + m) old e - (n + m))) e)) := fun old => by
      have hge := grownCap_ge w (n + m) old e
      have hcm : grownCap w (n + m) old e ≤ maxLen := grownCap_le_maxLen w (n + m) old e h63
      have hlen : (xs ++ news).length = (n + m) * i.size := by rw [List.length_append, ho.length, hl, Nat.add_mul]
      refine ⟨.own hlen hge hcm, ?_⟩
      have hs0 : Sat w0 H0 w := hs.sublist (List.sublist_append_right _ _)
      refine hs0.drew.alloc _ ?_
      refine ⟨_, World.alloc_heap_new w.drew _, ?_, ?_⟩
      · simp only [Array.size_append, List.size_toArray, size_zeroCells, hzs, ho.length, hl, ← Nat.add_mul]
        congr 1
        omega
      · simp only [Array.toList_append, List.append_assoc]
        rw [← List.append_assoc]
        exact List.take_left
    cases ho with
    | nil =>
      have hr := run_append_nil (P := P) w t ty e i z ht.und hi hz ⟨b0, o0, none⟩ m c news hl (hnews' w rfl) (by omega) (by omega) (by rw [hby]; simp only [Nat.zero_add] at hbytes; omega)
      obtain ⟨hg1, hg2⟩ := grown 0
      simp only [Nat.zero_add, List.nil_append, Array.empty_append] at hg1 hg2 hr ⊢
      exact ⟨_, _, _, hr, hg1, hg2⟩
    | @own b _ cap _ hx1 hx2 hx3 =>
      obtain ⟨hb, cur, hc, hsz', htk⟩ := hs.own (b, .cells e (cap * i.size) xs) (by simp)
      by_cases hroom : n + m ≤ cap
      · have hfit : n * i.size + news.length ≤ cur.size := by rw [hl, hsz', ← Nat.add_mul]; exact Nat.mul_le_mul_right _ hroom
        have hr := run_append_room (P := P) w t ty e i ht.und hi b n cap cur hc ⟨b0, o0, none⟩ m c news hl (hnews' w rfl) h1 hroom hfit
        have hlen : (xs ++ news).length = (n + m) * i.size := by rw [List.length_append, hx1, hl, Nat.add_mul]
        refine ⟨_, _, _, hr, .own hlen hroom hx3, ?_⟩
        refine hs.upd (b := b) (k := .cells e (cap * i.size) xs) (.head _) (setRow_below hb) (fun j hj _ => setRow_other w b j _ hj) ?_
        refine ⟨_, setRow_heap w b cur _ e _ hc, ?_, ?_⟩
        · simp only [List.size_toArray, List.length_append, List.length_take, List.length_drop, Array.length_toList]
          omega
        · show (List.take (n * i.size) cur.toList ++ news ++ List.drop (n * i.size + news.length) cur.toList).take (xs ++ news).length = _
          rw [← hx1, htk]
          exact List.take_left
      · have holds : ∀ j u, xs[j]? = some u → w.cell? (Addr.add ⟨b, 0, none⟩ j) = some u := fun j u hu => by
          rw [addr_add, Nat.zero_add]
          exact hs.cell (b := b) (e := e) (tot := cap * i.size) (l := xs) (by simp) hu
        have hr := run_append_grow (P := P) w t ty e i z ht.und hi hz ⟨b, 0, none⟩ n cap xs hx1 holds ⟨b0, o0, none⟩ m c news hl (hnews' w rfl) (by omega) (by omega) (growslice_fits (by omega) (by rw [hby]; exact hbytes))
        obtain ⟨hg1, hg2⟩ := grown cap
        exact ⟨_, _, _, hr, hg1, hg2⟩
section
variable {P : Program} {rd : Option Nat} {w0 : World} {Q : Exit → Act → World → Prop} {n : Nat} {ds : List Deferred} {k : List It} {env env' : Env} {H H' : Heap} {all : Array Oper} {rest : List Oper}
variable {d : Nat} {x y c : Operand} {t u ty : TypeId} {pos : String} {aft : Array Edge} {v : Value} {tys : Array TypeId}
theorem W_append {HB H0 : Heap} {e : TypeId} {s sl bytes bl m len cap : Nat} {z zl : Value} {de : TypeDesc} {xs news : List Value} {ad : Option Addr} (hx : opv env x = some v) (hy : opv env y = some (.slice ad m cap)) (ht : Ty P t (.slice e) sl zl bl) (he : Ty P e de s z bytes) (hzs : z.cells.size = s) (hsz : 0 < s)
    (ho : OwnS e s v len xs HB) (hl : news.length = m * s) (hnews : Holds w0 H ad news) (h1 : news.all Value.oneCell' = true) (h63 : len + m ≤ maxLen) (hbytes : (len + m) * bytes ≤ 140737488355328) (hH : HSub H (HB ++ H0)) (hd : Nat.blt d n = true)
    (h : ∀ v' HB', OwnS e s v' (len + m) (xs ++ news) HB' → W P rd w0 Q n ds (.ops all rest :: k) ((d, v') :: env) (HB' ++ H0)) :
    W P rd w0 Q n ds (.ops all (⟨some d, .call ⟨.builtin .append, #[x, y], #[t, t]⟩, ty, pos, aft, none⟩ :: rest) :: k) env H :=
  W_gen rfl nofun hd fun a w ha hs => by
    obtain ⟨v', HB', w', hr, ho', hs'⟩ := run_app (P := P) (ty := ty) (c := cap) ht he hzs hsz ho (hs.hsub hH) hl (fun j x hx => by
      obtain ⟨b, o, e1, e2⟩ := hnews j x hx
      exact ⟨b, o, e1, e2 w hs⟩) (fun u hu => List.all_eq_true.1 h1 u hu) h63 hbytes
    refine ⟨v', HB' ++ H0, w', .inl ?_, hs', h v' HB' ho'⟩
    simp [execOp, resolve, invoke, builtin, ha.opv hx, ha.opv hy, hr, Result.andThen]
/-- make([]T, n) and make([]T, n, c) -/
theorem W_makeSlice {e : TypeId} {s sl bytes bl ln cp : Nat} {z zl : Value} {de : TypeDesc} {l : List Value} {q q' : IntKind} {i j : Int} (hx : opv env x = some (.int q i)) (hy : opv env y = some (.int q' j)) (ht : Ty P t (.slice e) sl zl bl) (he : Ty P e de s z bytes)
    (hi : i = (ln : Int)) (hj : j = (cp : Int)) (hlc : ln ≤ cp) (hb : bytes * cp ≤ 281474976710656) (h63 : cp ≤ maxLen) (hl : (madeCells z.cells (cp * s)).toList = l) (hd : Nat.blt d n = true)
    (h : ∀ b : Nat, W P rd w0 Q n ds (.ops all rest :: k) ((d, .slice (some ⟨b, 0, none⟩) ln cp) :: env) ((b, .cells e (cp * s) l) :: H)) : W P rd w0 Q n ds (.ops all (⟨some d, .makeSlice t x y, ty, pos, aft, none⟩ :: rest) :: k) env H :=
  W_gen rfl nofun hd fun a w ha hs => by
    obtain ⟨inf, hinf, hsize, hz, hby⟩ := he.info
    subst hi hj hsize hby hl
    have hb' : (inf.bytes : Int) * (cp : Int) ≤ 281474976710656 := by
      have h : ((inf.bytes * cp : Nat) : Int) ≤ 281474976710656 := by omega
      rwa [Int.natCast_mul] at h
    have hr := run_make (P := P) w t e inf z ht.und hinf hz q q' ln cp (by omega) (by omega) hb' (by simp only [maxLen] at h63; omega)
    simp only [Int.toNat_natCast] at hr
    refine ⟨.slice (some ⟨w.heap.size, 0, none⟩) ln cp, _, w.alloc (.cells (madeCells z.cells (cp * inf.size)) e), .inl (by simp [execOp, ha.opv hx, ha.opv hy, hr, Result.andThen]), hs.alloc _ ?_, h w.heap.size⟩
    have := At.alloc_cells w (madeCells z.cells (cp * inf.size)) e
    rwa [size_madeCells] at this
/-- a struct, an array stored -/
theorem W_storeA {b i e tot s by_ : Nat} {td : TypeDesc} {z : Value} {cs : Array Value} {l l' : List Value} {ty : TypeId} (hx : opv env x = some (.pointer (some ⟨b, i, none⟩))) (hy : opv env y = some (.agg cs)) (ht : Ty P t td s z by_) (h1 : cs.toList.all Value.oneCell' = true) (hs1 : cs.size = s)
    (hm : (b, Blk.cells e tot l) ∈ H) (hi : i + s ≤ l.length) (hl : spliceL l i cs.toList = l') (hu : Upd b (.cells e tot l) (.cells e tot l') H H')
    (h : W P rd w0 Q n ds (.ops all rest :: k) env H') : W P rd w0 Q n ds (.ops all (⟨none, .store t x y, ty, pos, aft, none⟩ :: rest) :: k) env H :=
  W_gen rfl nofun rfl fun a w ha hs => by
    subst hl hs1
    obtain ⟨hb, cur, hc, hsz, htk⟩ := hs.own _ hm
    have hlen : l.length ≤ cur.size := by
      have := congrArg List.length htk
      simp only [List.length_take, Array.length_toList] at this
      omega
    have h1' : ∀ v ∈ cs.toList, v.oneCell' = true := fun v hv => by
      exact List.all_eq_true.1 h1 v hv
    have hst := run_storeCells_at P b i e cs.toList 0 cur w hc (by simp only [Array.length_toList]; omega) h1'
    simp only [Nat.add_zero, Array.length_toList] at hst
    have hcl : (Value.agg cs).cells = cs := rfl
    refine ⟨undef, H', _, .inr ⟨?_, rfl⟩, hs.upd hu (setRow_below (cs := (List.take i cur.toList ++ cs.toList ++ List.drop (i + cs.size) cur.toList).toArray) hb) (fun j hj _ => setRow_other w b j _ hj) ?_, h⟩
    · simp [execOp, ha.opv hx, ha.opv hy, Instr.storeAt, Instr.sureAddr, storeVar, ht.size, hcl, hst, Result.andThen]
    · refine ⟨_, setRow_heap w b cur _ e _ hc, ?_, ?_⟩
      · simp only [List.size_toArray, List.length_append, List.length_take, List.length_drop, Array.length_toList]
        omega
      · rw [spliceL_length (by simpa using hi)]
        show (List.take i cur.toList ++ cs.toList ++ List.drop (i + cs.size) cur.toList).take l.length = spliceL l i cs.toList
        unfold spliceL
        have e1 : l.take i = cur.toList.take i := by rw [← htk, List.take_take]; congr 1; omega
        have e2 : l.drop (i + cs.toList.length) = (cur.toList.drop (i + cs.size)).take (l.length - (i + cs.size)) := by
          rw [Array.length_toList]
          conv => lhs; rw [← htk]
          rw [List.drop_take]
        rw [e1, e2, List.append_assoc, List.append_assoc, List.take_append, List.take_append]
        congr 1
        · rw [List.take_take]; congr 1; omega
        · congr 1
          · rw [List.take_of_length_le]; simp only [List.length_take, Array.length_toList]; omega
          · congr 1; simp only [List.length_take, Array.length_toList]; omega
end
end Go.Sl
namespace Go.Sl
open Go.RowKit
theorem LCalls.hsub {P : Program} {w0 : World} {f : FuncId} {args : Array Value} {H H' : Heap} {R : Value → Heap → Prop} (h : LCalls P w0 f args H' R) (hs : HSub H H') : LCalls P w0 f args H R := fun w hw => h w (hw.hsub hs)
theorem Sat.putObj {w0 w : World} {H : Heap} {b : Nat} {o o' : Obj} (h : Sat w0 ((b, .obj o) :: H) w) : Sat w0 ((b, .obj o') :: H) (w.putObj b o') :=
  have hlt : b < w.heap.size := (h.own _ List.mem_cons_self).2.lt
  have hb : w0.heap.size ≤ b := (h.own _ List.mem_cons_self).1
  h.upd (.head H) ⟨rfl, rfl, rfl, by simp, fun k hk => World.putObj_heap_other (by omega)⟩ (fun j hj _ => World.putObj_heap_other hj) (World.putObj_heap_same hlt)
/-! ## The marks that loops over functions leave among the deferred calls -/
abbrev mark (D : Nat) : Deferred := { target := .collected D, args := #[] }
inductive Marks : List Deferred → Heap → Heap → Prop
  | nil (H : Heap) : Marks [] H H
  | cons {D : Nat} {ds : List Deferred} {H H1 H' : Heap} (h : Take (D, .obj (.deferred (some []))) H H1) (hs : Marks ds H1 H') : Marks (mark D :: ds) H H'
theorem leaves_marks {P : Program} {w0 : World} {fn : Func} {R : Value → Heap → Prop} {tmps : Array Value} {v : Value} {ds : List Deferred} {H H' H2 : Heap} (hM : Marks ds H H') (hu : HSub H' H2) : ∀ {w : World}, (∀ w, Sat w0 H' w → (results fn tmps).run P w = .ok v w) → Sat w0 H w → R v H2 →
    LeavesInM Fence.wide 0 P fn tmps (LPost w0 R) ds .returning w := by
  induction hM with
  | nil H => exact fun hr hs hR => ⟨v, hr _ hs, v, H2, rfl, hR, hs.hsub hu⟩
  | @cons D ds H H1 H' h _ ih =>
    intro w hr hs hR
    have hs1 := hs.perm h.perm
    exact ⟨by simp, .inl ⟨D, _, rfl, run_takeDeferred (hs1.own _ List.mem_cons_self).2, ih hu hr (hs1.putObj (o' := .deferred none)).drop hR⟩⟩
section
variable {P : Program} {w0 : World} {fn : Func} {R : Value → Heap → Prop} {n : Nat} {ds : List Deferred} {k : List It} {env : Env} {H H' H2 : Heap}
theorem W_ret0m (hr : fn.results = #[]) (hM : Marks ds H H') (hu : HSub H' H2) (hR : R (.tuple #[]) H2) : W P none w0 (FPost P w0 fn R) n ds (.code .ret :: k) env H :=
  W_ret fun a w ha hd hs => by
    show LeavesInM _ _ _ _ _ _ a.defers _ _
    rw [hd]
    exact leaves_marks hM hu (fun w _ => run_res0 hr) hs hR
theorem W_end0m (hr : fn.results = #[]) (hM : Marks ds H H') (hu : HSub H' H2) (hR : R (.tuple #[]) H2) : W P none w0 (FPost P w0 fn R) n ds [] env H :=
  fun a w ha hd hs => by
    show LeavesInM _ _ _ _ _ _ a.defers _ _
    rw [hd]
    exact leaves_marks hM hu (fun w _ => run_res0 hr) hs hR
theorem W_ret1m {t : Nat} {v : Value} (hr : fn.results = #[.tmp t]) (hv : look env t = some v) (hM : Marks ds H H') (hu : HSub H' H2) (hR : R v H2) : W P none w0 (FPost P w0 fn R) n ds (.code .ret :: k) env H :=
  W_ret fun a w ha hd hs => by
    show LeavesInM _ _ _ _ _ _ a.defers _ _
    rw [hd]
    exact leaves_marks hM hu (fun w _ => run_res1 hr) hs (by rw [ha.val _ _ hv]; exact hR)
theorem W_ret2m {t u : Nat} {v1 v2 : Value} (hr : fn.results = #[.tmp t, .tmp u]) (hv : look env t = some v1) (hv2 : look env u = some v2) (hM : Marks ds H H') (hu : HSub H' H2) (hR : R (.tuple #[v1, v2]) H2) : W P none w0 (FPost P w0 fn R) n ds (.code .ret :: k) env H :=
  W_ret fun a w ha hd hs => by
    show LeavesInM _ _ _ _ _ _ a.defers _ _
    rw [hd]
    exact leaves_marks hM hu (fun w _ => run_res2 hr) hs (by rw [ha.val _ _ hv, ha.val _ _ hv2]; exact hR)
theorem W_ret3m {t u s : Nat} {v1 v2 v3 : Value} (hr : fn.results = #[.tmp t, .tmp u, .tmp s]) (hv : look env t = some v1) (hv2 : look env u = some v2) (hs3 : look env s = some v3) (hM : Marks ds H H') (hu : HSub H' H2) (hR : R (.tuple #[v1, v2, v3]) H2) : W P none w0 (FPost P w0 fn R) n ds (.code .ret :: k) env H :=
  W_ret fun a w ha hd hs => by
    show LeavesInM _ _ _ _ _ _ a.defers _ _
    rw [hd]
    exact leaves_marks hM hu (fun w _ => run_res3 hr) hs (by rw [ha.val _ _ hv, ha.val _ _ hv2, ha.val _ _ hs3]; exact hR)
end
/-- a result that lies in a cell of its own -/
theorem run_res1c {P : Program} {w0 w : World} {fn : Func} {H : Heap} {t ty b i s by_ : Nat} {tmps : Array Value} {td : TypeDesc} {z : Value} {vs : List Value} (hr : fn.results = #[.cell t ty]) (hv : tmps.getD t undef = .pointer (some ⟨b, i, none⟩)) (ht : Ty P ty td s z by_) (hf : flat td = false) (hl : vs.length = s) (hc : Cells w0 H b i vs) (hs : Sat w0 H w) :
    (results fn tmps).run P w = .ok (.agg vs.toArray) w := by
  have hcs := run_loadCells_list (P := P) (w := w) ⟨b, i, none⟩ vs (fun j u hu => by rw [addr_add]; exact hc j u hu w hs)
  rw [hl] at hcs
  have hv' : tmps[t]?.getD undef = .pointer (some ⟨b, i, none⟩) := by rw [← Array.getD_eq_getD_getElem?]; exact hv
  simp [results, hr, hv', asAddr, loadVar, ht.isAgg, ht.size, hf, hcs, Result.andThen]
theorem run_res1c1 {P : Program} {w0 w : World} {fn : Func} {H : Heap} {t ty b i s by_ : Nat} {tmps : Array Value} {td : TypeDesc} {z v : Value} (hr : fn.results = #[.cell t ty]) (hv : tmps.getD t undef = .pointer (some ⟨b, i, none⟩)) (ht : Ty P ty td s z by_) (hf : flat td = true) (hc : Cell w0 H b i v) (hs : Sat w0 H w) :
    (results fn tmps).run P w = .ok v w := by
  have hv' : tmps[t]?.getD undef = .pointer (some ⟨b, i, none⟩) := by rw [← Array.getD_eq_getD_getElem?]; exact hv
  simp [results, hr, hv', asAddr, loadVar, ht.isAgg, hf, hc w hs, Result.andThen]
section
variable {P : Program} {w0 : World} {fn : Func} {R : Value → Heap → Prop} {n : Nat} {ds : List Deferred} {k : List It} {env : Env} {H H' H2 : Heap}
/-- the result's cells are read behind the deferred calls -/
theorem W_ret1c {t ty b i s by_ : Nat} {td : TypeDesc} {z : Value} {vs : List Value} (hr : fn.results = #[.cell t ty]) (hv : look env t = some (.pointer (some ⟨b, i, none⟩))) (hM : Marks ds H H') (ht : Ty P ty td s z by_) (hf : flat td = false) (hl : vs.length = s) (hc : Cells w0 H' b i vs) (hu : HSub H' H2) (hR : R (.agg vs.toArray) H2) : W P none w0 (FPost P w0 fn R) n ds (.code .ret :: k) env H :=
  W_ret fun a w ha hd hs => by
    show LeavesInM _ _ _ _ _ _ a.defers _ _
    rw [hd]
    exact leaves_marks hM hu (fun w hs' => run_res1c hr (ha.val _ _ hv) ht hf hl hc hs') hs hR
theorem W_ret1cO {t ty b s e tot by_ : Nat} {td : TypeDesc} {z : Value} {vs : List Value} (hr : fn.results = #[.cell t ty]) (hv : look env t = some (.pointer (some ⟨b, 0, none⟩))) (hM : Marks ds H H') (ht : Ty P ty td s z by_) (hf : flat td = false) (hm : (b, Blk.cells e tot vs) ∈ H') (hl : vs.length = s) (hu : HSub H' H2) (hR : R (.agg vs.toArray) H2) : W P none w0 (FPost P w0 fn R) n ds (.code .ret :: k) env H :=
  W_ret1c hr hv hM ht hf hl (Cells.own hm (by simp)) hu hR
theorem W_ret1c1 {t ty b i s by_ : Nat} {td : TypeDesc} {z v : Value} (hr : fn.results = #[.cell t ty]) (hv : look env t = some (.pointer (some ⟨b, i, none⟩))) (hM : Marks ds H H') (ht : Ty P ty td s z by_) (hf : flat td = true) (hc : Cell w0 H' b i v) (hu : HSub H' H2) (hR : R v H2) : W P none w0 (FPost P w0 fn R) n ds (.code .ret :: k) env H :=
  W_ret fun a w ha hd hs => by
    show LeavesInM _ _ _ _ _ _ a.defers _ _
    rw [hd]
    exact leaves_marks hM hu (fun w hs' => run_res1c1 hr (ha.val _ _ hv) ht hf hc hs') hs hR
end
/-! ## A round of a loop over a function -/
def RoundC (P : Program) (w0 : World) (l : Nat) (args : Array Value) (H : Heap) (R : Value → Heap → Prop) : Prop := ∀ w, Sat w0 H w → YieldAt Fence.wide 0 P l args w (LPost w0 R)
theorem RoundC.hsub {P : Program} {w0 : World} {l : Nat} {args : Array Value} {H H' : Heap} {R : Value → Heap → Prop} (h : RoundC P w0 l args H' R) (hs : HSub H H') : RoundC P w0 l args H R := fun w hw => h w (hw.hsub hs)
theorem RoundC.mono {P : Program} {w0 : World} {l : Nat} {args : Array Value} {H : Heap} {R R' : Value → Heap → Prop} (h : RoundC P w0 l args H R) (hr : ∀ v H', R v H' → R' v H') : RoundC P w0 l args H R' := fun w hw => by
  obtain ⟨fn, tmps, a, b, h1, h2⟩ := h w hw
  exact ⟨fn, tmps, a, b, h1, h2.mono fun _ _ ⟨v, H', e, r, s⟩ => ⟨v, H', e, hr _ _ r, s⟩⟩
/-- the record when a round has ended -/
abbrev Loop.at (r : Loop) (s : LoopState) (p : Option Code) : Loop := { r with state := s, pending := p }
theorem loop_ready {r : Loop} (h1 : r.state = .ready) (h2 : r.pending = none) : Loop.at r .ready none = r := by cases r; simp_all [Loop.at]
def RoundQ (P : Program) (w0 : World) (l : Nat) (r : Loop) (R : Value → Heap → Prop) : Exit → Act → World → Prop
  | .normal, _, w => ∃ H, Sat w0 ((l, .obj (.loop (Loop.at r .busy none))) :: H) w ∧ R (.bool true) ((l, .obj (.loop (Loop.at r .ready none))) :: H)
  | .ret, _, w => ∃ H, Sat w0 ((l, .obj (.loop (Loop.at r .busy none))) :: H) w ∧ R (.bool false) ((l, .obj (.loop (Loop.at r .done (some .ret)))) :: H)
  | .exit id, _, w => ∃ H, Sat w0 ((l, .obj (.loop (Loop.at r .busy none))) :: H) w ∧ R (.bool false) ((l, .obj (.loop (Loop.at r .done (some (.exit id))))) :: H)
  | .goto t, _, w => ∃ H, Sat w0 ((l, .obj (.loop (Loop.at r .busy none))) :: H) w ∧ R (.bool false) ((l, .obj (.loop (Loop.at r .done (some (.goto t))))) :: H)
  | .panic _, _, _ => False
  | .outgrown, _, _ => False
theorem roundPost_of {P : Program} {w0 : World} {l : Nat} {r : Loop} {R : Value → Heap → Prop} {e : Exit} {a : Act} {w : World} (h : RoundQ P w0 l r R e a w) : roundPost P l (LPost w0 R) e a w := by
  have go : ∀ (j : Option Code) (H : Heap), Sat w0 ((l, .obj (.loop (Loop.at r .busy none))) :: H) w → R (.bool j.isNone) ((l, .obj (.loop (Loop.at r (if j.isNone then .ready else .done) j))) :: H) → ∃ v w', (Instr.endRound l j).run P w = .ok v w' ∧ LPost w0 R (.returned v) w' := fun j H hs hR =>
    ⟨_, _, run_endRound j (hs.own _ List.mem_cons_self).2, _, _, rfl, hR, hs.putObj⟩
  cases e with
  | normal => obtain ⟨H, hs, hR⟩ := h; exact go none H hs hR
  | ret => obtain ⟨H, hs, hR⟩ := h; exact go (some .ret) H hs hR
  | exit id => obtain ⟨H, hs, hR⟩ := h; exact go (some (.exit id)) H hs hR
  | goto t => obtain ⟨H, hs, hR⟩ := h; exact go (some (.goto t)) H hs hR
  | panic c => exact h.elim
  | outgrown => exact h.elim
/-- yield's arguments laid into the loop's parameters -/
def envPut : List Nat → List Value → Env → Env
  | p :: ps, v :: vs, env => envPut ps vs ((p, v) :: env)
  | _, _, env => env
theorem agree_envPut {n : Nat} : ∀ (ps : List Nat) (vs : List Value) (env : Env) (a : Act), Agree n env a → ps.all (fun p => Nat.blt p n) = true → Agree n (envPut ps vs env) { a with tmps := (ps.zip vs).foldl (fun t (p, v) => t.setIfInBounds p v) a.tmps }
  | [], _, _, _, h, _ => h
  | _ :: _, [], _, _, h, _ => h
  | p :: ps, v :: vs, env, a, h, hp => by
    simp only [List.all_cons, Bool.and_eq_true] at hp
    have h1 : Agree n ((p, v) :: env) (a.put (some p) v) := h.put (d := some p) (by simpa [dok] using hp.1)
    have h2 := agree_envPut ps vs ((p, v) :: env) (a.put (some p) v) h1 hp.2
    simpa [envPut, Act.put] using h2
/-- the round's beginning, behind the assignment -/
def beginJ (P : Program) (w0 : World) (l : Nat) (r : Loop) (R : Value → Heap → Prop) (a : Act) (w : World) : Prop :=
  ∃ w₂, (Instr.beginRound l).run P w = .ok () w₂ ∧ r.body.wpIn (fen (some l)) 0 P (RoundQ P w0 l r R) a w₂
theorem round_intro {P : Program} {w0 : World} {l : Nat} {r : Loop} {args : Array Value} {H H1 : Heap} {R : Value → Heap → Prop} {n : Nat} {env env' : Env} {vs : List Value} {ps : List Nat} {ca : Code} (hst : r.state = .ready) (hp : r.pending = none)
    (hA : Agree n env { tmps := r.tmps, defers := [] }) (hps : r.params = ps.toArray) (hvs : args = vs.toArray) (hca : r.assign = ca) (hlen : vs.length = ps.length) (hn : ps.all (fun p => Nat.blt p n) = true) (he : envPut ps vs env = env') (hT : Take (l, .obj (.loop r)) H H1)
    (h : W P (some l) w0 (fun _ _ _ => False) n [] [.code ca, .goal (beginJ P w0 l r R)] env' H) : RoundC P w0 l args H R := by
  intro w hs
  have hl : w.heap[l]? = some (.loop r) := (hs.own _ hT.mem).2
  have hy := run_yield (P := P) (args := args) hl (by rw [hps, hvs]; simpa using hlen)
  refine ⟨_, _, _, _, hy, roundIn_of_wpIn (F := Fence.wide) trivial ?_⟩
  have hA' := agree_envPut ps vs env _ hA hn
  rw [he] at hA'
  have hW := h _ w (by
    have e1 : ({ tmps := ((r.params.zip args).foldl (fun t (x : Nat × Value) => t.setIfInBounds x.1 x.2) r.tmps), defers := [] } : Act) = { tmps := (ps.zip vs).foldl (fun t (x : Nat × Value) => t.setIfInBounds x.1 x.2) r.tmps, defers := [] } := by
      rw [hps, hvs]; simp
    exact e1 ▸ hA') rfl hs
  subst hca
  refine wpIn_mono hW fun e a2 w2 hq => ?_
  cases e with
  | normal =>
    obtain ⟨w3, h1, h2⟩ := hq
    exact ⟨w3, h1, wpIn_mono h2 fun _ _ _ hq => roundPost_of hq⟩
  | exit id => exact hq
  | goto l => exact hq
  | ret => exact hq
  | panic ch => exact hq
  | outgrown => exact hq.elim
section
variable {P : Program} {rd : Option Nat} {w0 : World} {Q : Exit → Act → World → Prop} {n : Nat} {ds : List Deferred} {k : List It} {env env' : Env} {H H1 H' : Heap} {all : Array Oper} {rest : List Oper}
theorem W_begin {l : Nat} {r : Loop} {R : Value → Heap → Prop} {cb : Code} (hst : r.state = .ready) (hp : r.pending = none) (hT : Take (l, .obj (.loop r)) H H1) (hcb : r.body = cb)
    (h : W P (some l) w0 (RoundQ P w0 l r R) n ds [.code cb] env ((l, .obj (.loop (Loop.at r .busy none))) :: H1)) : W P (some l) w0 (fun _ _ _ => False) n ds [.goal (beginJ P w0 l r R)] env H := by
  refine W_goal fun a w ha hd hs => ?_
  have hs1 := hs.perm hT.perm
  refine ⟨_, run_beginRound (hs1.own _ List.mem_cons_self).2 hst, ?_⟩
  subst hcb
  have e : ({ r with state := .busy } : Loop) = Loop.at r .busy none := by rw [← hp]
  rw [e]
  refine wpIn_mono (h a _ ha hd hs1.putObj) fun e a2 w2 hq => ?_
  cases e <;> exact hq
theorem W_endround {l : Nat} {r : Loop} {R : Value → Heap → Prop} (hT : Take (l, .obj (.loop (Loop.at r .busy none))) H H1) (hR : R (.bool true) ((l, .obj (.loop (Loop.at r .ready none))) :: H1)) : W P (some l) w0 (RoundQ P w0 l r R) n ds [] env H :=
  fun _ _ _ _ hs => ⟨H1, hs.perm hT.perm, hR⟩
theorem W_retround {l : Nat} {r : Loop} {R : Value → Heap → Prop} (hT : Take (l, .obj (.loop (Loop.at r .busy none))) H H1) (hR : R (.bool false) ((l, .obj (.loop (Loop.at r .done (some .ret)))) :: H1)) : W P (some l) w0 (RoundQ P w0 l r R) n ds (.code .ret :: k) env H :=
  W_ret fun _ _ _ _ hs => ⟨H1, hs.perm hT.perm, hR⟩
theorem cont_exit_none {id : Nat} : ∀ {k : List It}, exitK id k = none → ∀ a w, Q (.exit id) a w → Cont P rd Q k (.exit id) a w
  | [], _, a, w, hq => hq
  | .blk i :: k, h, a, w, hq => by
    simp only [exitK] at h
    by_cases hi : i = id
    · rw [if_pos hi] at h; cases h
    · rw [if_neg hi] at h
      have : ¬ id = i := fun e => hi e.symm
      simp [Cont, Exit.inBlock, this, cont_exit_none h a w hq]
  | .code c :: k, h, a, w, hq => cont_exit_none (k := k) h a w hq
  | .ops _ _ :: k, h, a, w, hq => cont_exit_none (k := k) h a w hq
  | .goal _ :: k, h, a, w, hq => cont_exit_none (k := k) h a w hq
theorem W_exitround {l id : Nat} {r : Loop} {R : Value → Heap → Prop} (he : exitK id k = none) (hT : Take (l, .obj (.loop (Loop.at r .busy none))) H H1) (hR : R (.bool false) ((l, .obj (.loop (Loop.at r .done (some (.exit id))))) :: H1)) : W P (some l) w0 (RoundQ P w0 l r R) n ds (.code (.exit id) :: k) env H :=
  fun a w _ _ hs => wpIn_exit (cont_exit_none he a w ⟨H1, hs.perm hT.perm, hR⟩)
/-- yield called -/
theorem W_yield {d : Option Nat} {x : Operand} {l : List Operand} {vs : List Value} {lp : Nat} {tys : Array TypeId} {t : TypeId} {pos : String} {aft : Array Edge} {R : Value → Heap → Prop} (hx : opv env x = some (.func (.yield lp) #[] #[])) (hc : OpVs env l vs) (hd : dok n d = true)
    (hL : RoundC P w0 lp vs.toArray H R) (h : ∀ v H', R v H' → W P rd w0 Q n ds (.ops all rest :: k) (put d v env) H') :
    W P rd w0 Q n ds (.ops all (⟨d, .call ⟨.value x, l.toArray, tys⟩, t, pos, aft, none⟩ :: rest) :: k) env H := by
  intro a w ha hds hs
  show wpListIn (fen rd) 0 P all (Cont P rd Q k) (⟨d, .call ⟨.value x, l.toArray, tys⟩, t, pos, aft, none⟩ :: rest) a w
  unfold wpListIn
  rw [if_pos (by simp [Region.wanted])]
  refine ⟨fun _ _ => trivial, ?_⟩
  obtain ⟨fn, tmps, asg, body, hy, hrd⟩ := hL w hs
  have hl : l.map a.eval = vs := ha.opvs hc
  rw [Oper.semAt_eq _ _ _ (fun _ h => by cases h), show (execOp a.eval ⟨d, .call ⟨.value x, l.toArray, tys⟩, t, pos, aft, none⟩).run P w = .ok (.round lp fn tmps asg body) w by
    simp [execOp, resolve, ha.opv hx, Deferred.ofValue, invoke, hl, hy, Result.andThen], Oper.uponIn_round]
  refine ⟨fun h => by simp [Fence.wide] at h, ?_⟩
  have hrd' : RoundIn (fen rd) 0 P lp fn tmps asg body w _ := hrd
  refine hrd'.mono ?_
  rintro e w' ⟨v, H', rfl, hR, hs'⟩
  exact h v H' hR (a.put d v) w' (ha.put hd) (by cases d <;> exact hds) hs'
/-- THE STATEMENT, at an outermost loop -/
theorem W_rangeFunc {g : Operand} {ps : Array Nat} {assign body : Code} {gf : FuncId} {lb : Array Value} (hg : opv env g = some (.func (.func gf) #[] lb)) (eg : ∀ (args : Array Value) (w : World), (callFunc gf args).run P w = .ok (.enter gf args) w)
    (hcall : ∀ (l D : Nat) (r : Loop), r.state = .ready → r.pending = none → r.params = ps → r.assign = assign → r.body = body → Agree n env { tmps := r.tmps, defers := [] } →
      LCalls P w0 gf (#[.func (.yield l) #[] #[]] ++ lb) ((l, .obj (.loop r)) :: (D, .obj (.deferred (some []))) :: H)
        (fun _ H' => ∃ st pend H1, HSub H' ((l, .obj (.loop (Loop.at r st pend))) :: H1) ∧ st ≠ .busy ∧ W P none w0 Q n (mark D :: ds) (match pend with | none => k | some c => .code c :: k) env H1)) :
    W P none w0 Q n ds (.code (.rangeFunc g ps assign body) :: k) env H := by
  intro a w ha hd hs
  show (Code.rangeFunc g ps assign body).wpIn (fen none) 0 P (Cont P none Q k) a w
  refine wpIn_rangeFunc fun fn _ => ?_
  have hs1 : Sat w0 ((w.heap.size, .obj (.deferred (some []))) :: H) (w.alloc (.deferred (some []))) := hs.alloc _ (At.alloc_obj _ _)
  have hs2 := hs1.alloc (.loop { state := .ready, pending := none, fn, tmps := a.tmps, params := ps, assign, body, defers := w.heap.size }) (At.alloc_obj _ _)
  rw [World.size_alloc] at hs2
  have hent := run_enterLoop_outer (P := P) (w := w) fn a.tmps ps assign body
  generalize hW1 : (w.alloc (.deferred (some []))).alloc (.loop { state := .ready, pending := none, fn, tmps := a.tmps, params := ps, assign, body, defers := w.heap.size }) = W1 at hs2 hent
  refine ⟨w.heap.size + 1, [mark w.heap.size], W1, { target := .fn (.func gf) lb, args := #[.func (.yield (w.heap.size + 1)) #[] #[]] }, W1, gf, #[.func (.yield (w.heap.size + 1)) #[] #[]] ++ lb, W1, hent, ?_, fun _ _ => trivial, ?_, fun h => by simp [Fence.wide] at h, ?_⟩
  · have hev : ∀ v, a.eval (.const v) = v := fun _ => rfl
    simp [resolve, ha.opv hg, hev, Deferred.ofValue, Result.andThen]
  · simp [invoke, eg, Result.andThen]
  · have hc : CallsIn (fen none) 0 P gf _ _ _ := hcall (w.heap.size + 1) w.heap.size { state := .ready, pending := none, fn, tmps := a.tmps, params := ps, assign, body, defers := w.heap.size } rfl rfl rfl rfl rfl ⟨ha.size, ha.val⟩ _ hs2
    refine hc.mono ?_
    rintro e w' ⟨v, H', rfl, ⟨st, pend, H1, hT, hst, hW⟩, hs'⟩
    have hs3 := hs'.hsub hT
    have hag : Agree n env { a with defers := mark w.heap.size :: a.defers } := ⟨ha.size, ha.val⟩
    refine ⟨pend, _, run_endLoop (hs3.own _ List.mem_cons_self).2 hst, ?_⟩
    cases pend with
    | none => exact hW { a with defers := mark w.heap.size :: a.defers } _ hag (by rw [hd]) (hs3.putObj (o' := .loop { Loop.at _ st none with state := .exhausted })).drop
    | some c =>
      refine wpIn_mono (hW { a with defers := mark w.heap.size :: a.defers } _ hag (by rw [hd]) (hs3.putObj (o' := .loop { Loop.at _ st (some c) with state := .exhausted })).drop) fun e a2 w2 hq => ?_
      cases e <;> exact hq
/-- THE STATEMENT, within a round -/
theorem W_rangeFuncIn {l0 : Nat} {r0 : Loop} {g : Operand} {ps : Array Nat} {assign body : Code} {gf : FuncId} {lb : Array Value} (hg : opv env g = some (.func (.func gf) #[] lb)) (eg : ∀ (args : Array Value) (w : World), (callFunc gf args).run P w = .ok (.enter gf args) w)
    (h0 : (l0, Blk.obj (.loop r0)) ∈ H)
    (hcall : ∀ (l : Nat) (r : Loop), r.state = .ready → r.pending = none → r.params = ps → r.assign = assign → r.body = body → Agree n env { tmps := r.tmps, defers := [] } →
      LCalls P w0 gf (#[.func (.yield l) #[] #[]] ++ lb) ((l, .obj (.loop r)) :: H)
        (fun _ H' => ∃ st pend H1, HSub H' ((l, .obj (.loop (Loop.at r st pend))) :: H1) ∧ st ≠ .busy ∧ W P (some l0) w0 Q n ds (match pend with | none => k | some c => .code c :: k) env H1)) :
    W P (some l0) w0 Q n ds (.code (.rangeFunc g ps assign body) :: k) env H := by
  intro a w ha hd hs
  show (Code.rangeFunc g ps assign body).wpIn (fen (some l0)) 0 P (Cont P (some l0) Q k) a w
  refine wpIn_rangeFunc fun fn _ => ?_
  have hl0 : w.heap[l0]? = some (.loop r0) := (hs.own _ h0).2
  have hs2 := hs.alloc (.loop { state := .ready, pending := none, fn, tmps := a.tmps, params := ps, assign, body, defers := r0.defers }) (At.alloc_obj _ _)
  have hent := run_enterLoop_inner (P := P) hl0 fn a.tmps ps assign body
  generalize hW1 : w.alloc (.loop { state := .ready, pending := none, fn, tmps := a.tmps, params := ps, assign, body, defers := r0.defers }) = W1 at hs2 hent
  refine ⟨w.heap.size, [], W1, { target := .fn (.func gf) lb, args := #[.func (.yield (w.heap.size)) #[] #[]] }, W1, gf, #[.func (.yield (w.heap.size)) #[] #[]] ++ lb, W1, hent, ?_, fun _ _ => trivial, ?_, fun h => by simp [Fence.wide] at h, ?_⟩
  · have hev : ∀ v, a.eval (.const v) = v := fun _ => rfl
    simp [resolve, ha.opv hg, hev, Deferred.ofValue, Result.andThen]
  · simp [invoke, eg, Result.andThen]
  · have hc : CallsIn (fen (some l0)) 0 P gf _ _ _ := hcall w.heap.size { state := .ready, pending := none, fn, tmps := a.tmps, params := ps, assign, body, defers := r0.defers } rfl rfl rfl rfl rfl ⟨ha.size, ha.val⟩ _ hs2
    refine hc.mono ?_
    rintro e w' ⟨v, H', rfl, ⟨st, pend, H1, hT, hst, hW⟩, hs'⟩
    have hs3 := hs'.hsub hT
    have hag : Agree n env { a with defers := [] ++ a.defers } := ⟨ha.size, ha.val⟩
    refine ⟨pend, _, run_endLoop (hs3.own _ List.mem_cons_self).2 hst, ?_⟩
    cases pend with
    | none => exact hW { a with defers := [] ++ a.defers } _ hag (by simpa using hd) (hs3.putObj (o' := .loop { Loop.at _ st none with state := .exhausted })).drop
    | some c =>
      refine wpIn_mono (hW { a with defers := [] ++ a.defers } _ hag (by simpa using hd) (hs3.putObj (o' := .loop { Loop.at _ st (some c) with state := .exhausted })).drop) fun e a2 w2 hq => ?_
      cases e <;> exact hq
/-- a loop whose rounds lay marks: the deferred calls are part of the state -/
theorem W_loopD {X : Type} {c : Code} (E : X → Env) (DS : X → List Deferred) (HH : X → Heap) (I : X → Prop) (μ : X → Nat) (x0 : X) (h0 : I x0) (he : sub (E x0) env) (hd0 : ds = DS x0) (hh : HSub H (HH x0))
    (round : ∀ x, I x → W P rd w0 Q n (DS x) (.code c :: .goal (fun a w => ∃ x', I x' ∧ μ x' < μ x ∧ Agree n (E x') a ∧ a.defers = DS x' ∧ Sat w0 (HH x') w) :: k) (E x) (HH x)) :
    W P rd w0 Q n ds (.code (.loop c) :: k) env H := by
  intro a w ha hd hs
  subst hd0
  refine wpIn_loop_ghost (fun m a' w' => ∃ x, μ x = m ∧ I x ∧ Agree n (E x) a' ∧ a'.defers = DS x ∧ Sat w0 (HH x) w') (μ x0) ⟨x0, rfl, h0, ha.weaken (look_of_sub he), hd, hs.hsub hh⟩ ?_
  rintro m a' w' ⟨x, rfl, hI, hA, hD, hS⟩
  refine wpIn_mono (round x hI a' w' hA hD hS) fun e a2 w2 hq => ?_
  cases e with
  | normal =>
    obtain ⟨x', h1, h2, h3, h4, h5⟩ := hq
    exact ⟨μ x', h2, x', rfl, h1, h3, h4, h5⟩
  | exit id => exact hq
  | goto l => exact hq
  | ret => exact hq
  | panic ch => exact hq
  | outgrown => exact hq
/-- a loop's round is over -/
theorem W_again {X : Type} {E : X → Env} {DS : X → List Deferred} {HH : X → Heap} {I : X → Prop} {μ : X → Nat} {m : Nat} (x' : X) (h1 : I x') (h2 : μ x' < m) (he : sub (E x') env) (hd : ds = DS x') (hh : HSub H (HH x')) :
    W P rd w0 Q n ds (.goal (fun a w => ∃ x', I x' ∧ μ x' < m ∧ Agree n (E x') a ∧ a.defers = DS x' ∧ Sat w0 (HH x') w) :: k) env H :=
  W_goal fun _ _ ha hd' hs => ⟨x', h1, h2, ha.weaken (look_of_sub he), hd'.trans hd, hs.hsub hh⟩
end
end Go.Sl
namespace Go.Sl
open Go.RowKit
/-- what an operation yields, in whatever world of a class -/
def Ex (P : Program) (n : Nat) (env : Env) (C : World → Prop) (op : Op) (ty : TypeId) (v : Value) : Prop :=
  ∀ a w (d : Option Nat) (pos : String) (aft : Array Edge) (g : Option (Nat × Bool)), Agree n env a → C w → (execOp a.eval ⟨d, op, ty, pos, aft, g⟩).run P w = .ok (.value v) w
section
variable {P : Program} {w0 : World} {n : Nat} {env : Env} {H : Heap} {x y c : Operand} {t u ty : TypeId} {v : Value} {tys : Array TypeId} {q q' : IntKind} {i j : Int} {r : Value}

theorem X_move (hx : opv env x = some v) {C : World → Prop} : Ex P n env C (.move x) t (v) := fun a w d pos aft g ha _ => by simp [execOp, ha.opv hx]
theorem X_assign (hx : opv env x = some v) {C : World → Prop} : Ex P n env C (.assign x) t (v) := fun a w d pos aft g ha _ => by simp [execOp, ha.opv hx]
theorem X_pickb {b p q : Bool} (hc : opv env c = some (.bool b)) (hx : b = true → opv env x = some (.bool p)) (hy : b = false → opv env y = some (.bool q)) {C : World → Prop} : Ex P n env C (.pick c x y) t (.bool (bif b then p else q)) := fun a w d pos aft g ha _ => by
    cases b with
    | true => simp [execOp, ha.opv hc, asBool, ha.opv (hx rfl), Result.andThen]
    | false => simp [execOp, ha.opv hc, asBool, ha.opv (hy rfl), Result.andThen]
theorem X_pickt (hc : opv env c = some (.bool true)) (hx : opv env x = some v) {C : World → Prop} : Ex P n env C (.pick c x y) t (v) := fun a w d pos aft g ha _ => by simp [execOp, ha.opv hc, asBool, ha.opv hx, Result.andThen]
theorem X_pickf (hc : opv env c = some (.bool false)) (hx : opv env y = some v) {C : World → Prop} : Ex P n env C (.pick c x y) t (v) := fun a w d pos aft g ha _ => by simp [execOp, ha.opv hc, asBool, ha.opv hx, Result.andThen]
theorem X_bin {op : BinOp} (hx : opv env x = some (.int q i)) (hy : opv env y = some (.int q' j)) (hop : ∀ P w, (Go.binOp op t (.int q i) (.int q' j)).run P w = .ok r w) {C : World → Prop} : Ex P n env C (.binOp op t x y u) ty (r) := fun a w d pos aft g ha _ => by
    have he : (eqGuard op t x y (.int q i) (.int q' j)).run P w = .ok () w := by
      unfold eqGuard; cases op <;> simp
    simp [execOp, ha.opv hx, ha.opv hy, he, hop, Result.andThen]
theorem X_neg {m : Int} (hx : opv env x = some (.int q i)) (hm : q.wrap (0 - i) = m) {C : World → Prop} : Ex P n env C (.unOp .neg t x) ty (.int q m) := fun a w d pos aft g ha _ => by simp [execOp, ha.opv hx, Op.unary, Op.intArith, ← hm]
theorem X_compl {m : Int} (hx : opv env x = some (.int q i)) (hm : bitsOf .xor q (if q.signed then -1 else q.max) i = m) {C : World → Prop} : Ex P n env C (.unOp .xor t x) ty (.int q m) := fun a w d pos aft g ha _ => by subst hm; simp [execOp, ha.opv hx, Op.unary, Op.intBits, bitsOf]
theorem X_not {b : Bool} (hx : opv env x = some (.bool b)) {C : World → Prop} : Ex P n env C (.unOp .not t x) ty (.bool (!b)) := fun a w d pos aft g ha _ => by simp [execOp, ha.opv hx, Op.unary]
theorem X_conv {m : Int} {td : TypeDesc} {s1 s2 by1 by2 : Nat} {z1 z2 : Value} (hx : opv env x = some (.int q i)) (ht : Ty P t td s1 z1 by1) (hu : Ty P u (.int q') s2 z2 by2) (hm : q'.wrap i = m) {C : World → Prop} : Ex P n env C (.convert t u x) ty (.int q' m) := fun a w d pos aft g ha _ => by simp [execOp, ha.opv hx, convert, ht.run, hu.run, Conv.intToInt, hm]
theorem X_beq {b c : Bool} {s1 by1 : Nat} {z1 : Value} (hx : opv env x = some (.bool b)) (hy : opv env y = some (.bool c)) (ht : Ty P t .bool s1 z1 by1) {C : World → Prop} : Ex P n env C (.binOp .eql t x y u) ty (.bool (b == c)) := fun a w d pos aft g ha _ => by
    have he : (eqGuard .eql t x y (.bool b) (.bool c)).run P w = .ok () w := by simp [eqGuard]
    simp [execOp, ha.opv hx, ha.opv hy, he, Go.binOp, run_eqb ht, Result.andThen]
theorem X_bne {b c : Bool} {s1 by1 : Nat} {z1 : Value} (hx : opv env x = some (.bool b)) (hy : opv env y = some (.bool c)) (ht : Ty P t .bool s1 z1 by1) {C : World → Prop} : Ex P n env C (.binOp .neq t x y u) ty (.bool (!(b == c))) := fun a w d pos aft g ha _ => by
    have he : (eqGuard .neq t x y (.bool b) (.bool c)).run P w = .ok () w := by simp [eqGuard]
    simp [execOp, ha.opv hx, ha.opv hy, he, Go.binOp, run_eqb ht, Result.andThen]
theorem X_eq {v1 v2 : Value} {b : Bool} (hx : opv env x = some v1) (hy : opv env y = some v2) (he : ∀ P' (_ : P' = P) w, (do eqGuard .eql t x y v1 v2; Go.binOp .eql t v1 v2 : Sem Value).run P' w = .ok (.bool b) w) {C : World → Prop} : Ex P n env C (.binOp .eql t x y u) ty (.bool b) := fun a w d pos aft g ha _ => by
    have := he P rfl w
    simp only [execOp, ha.opv hx, ha.opv hy, Sem.run_bind, this] at this ⊢
    simp [this]
theorem X_ne {v1 v2 : Value} {b : Bool} (hx : opv env x = some v1) (hy : opv env y = some v2) (he : ∀ P' (_ : P' = P) w, (do eqGuard .neq t x y v1 v2; Go.binOp .neq t v1 v2 : Sem Value).run P' w = .ok (.bool b) w) {C : World → Prop} : Ex P n env C (.binOp .neq t x y u) ty (.bool b) := fun a w d pos aft g ha _ => by
    have := he P rfl w
    simp only [execOp, ha.opv hx, ha.opv hy, Sem.run_bind, this] at this ⊢
    simp [this]
theorem X_extract {vs : Array Value} {i : Nat} {ty : TypeId} (hx : opv env x = some (.tuple vs)) (hv : vs[i]? = some v) {C : World → Prop} : Ex P n env C (.extract x i) ty (v) := fun a w d pos aft g ha _ => by simp [execOp, ha.opv hx, Instr.extract, hv]
theorem X_field {cs : Array Value} {f off s : Nat} {ty : TypeId} (hx : opv env x = some (.agg cs)) (hf : Fld P t f off s false) (hv : cs[off]? = some v) {C : World → Prop} : Ex P n env C (.field t x f) ty (v) := fun a w d pos aft g ha _ => by
    obtain ⟨fs, fd, h1, h2, rfl, td, z, b, hT, hfl⟩ := hf.is
    simp [execOp, ha.opv hx, Instr.field, run_underlying h1, h2, asAgg, part, hT.isAgg, hfl, hv, Result.andThen]
theorem X_fieldA {cs : Array Value} {l : List Value} {f off s : Nat} {ty : TypeId} (hx : opv env x = some (.agg cs)) (hf : Fld P t f off s true) (hv : (cs.toList.drop off).take s = l) {C : World → Prop} : Ex P n env C (.field t x f) ty (.agg l.toArray) := fun a w d pos aft g ha _ => by
    obtain ⟨fs, fd, h1, h2, rfl, td, z, b, hT, hfl⟩ := hf.is
    have he : cs.extract fd.offset (fd.offset + s) = l.toArray := by
      apply Array.ext'
      simp [Array.toList_extract, List.extract, hv]
    simp [execOp, ha.opv hx, Instr.field, run_underlying h1, h2, asAgg, part, hT.isAgg, hT.size, hfl, he, Result.andThen]
theorem X_makeFunc {fn : Fn} {fl cl : List Operand} {fv cv : List Value} {ty : TypeId} (hf : OpVs env fl fv) (hc : OpVs env cl cv) {C : World → Prop} : Ex P n env C (.makeFunc fn fl.toArray cl.toArray) ty (.func fn fv.toArray cv.toArray) := fun a w d pos aft g ha _ => by simp [execOp, Instr.makeFunc, ha.opvs hf, ha.opvs hc]
theorem X_load {b i s by_ : Nat} {td : TypeDesc} {z : Value} {ty : TypeId} (hx : opv env x = some (.pointer (some ⟨b, i, none⟩))) (ht : Ty P t td s z by_) (hf : flat td = true) (hc : Cell w0 H b i v) : Ex P n env (Sat w0 H) (.load t x) ty (v) := fun a w d pos aft g ha hs => by
    simp [execOp, ha.opv hx, Instr.loadAt, Instr.sureAddr, loadVar, ht.isAgg, hf, hc w hs, Result.andThen]
theorem X_loadA {b i s by_ : Nat} {td : TypeDesc} {z : Value} {vs : List Value} {ty : TypeId} (hx : opv env x = some (.pointer (some ⟨b, i, none⟩))) (ht : Ty P t td s z by_) (hf : flat td = false) (hl : vs.length = s) (hc : Cells w0 H b i vs) : Ex P n env (Sat w0 H) (.load t x) ty (.agg vs.toArray) := fun a w d pos aft g ha hs => by
    have hcs := run_loadCells_list (P := P) (w := w) ⟨b, i, none⟩ vs (fun j u hu => by rw [addr_add]; exact hc j u hu w hs)
    rw [hl] at hcs
    simp [execOp, ha.opv hx, Instr.loadAt, Instr.sureAddr, loadVar, ht.isAgg, ht.size, hf, hcs, Result.andThen]
theorem X_fieldAddr {b i f off s : Nat} {ag : Bool} {ty : TypeId} (hx : opv env x = some (.pointer (some ⟨b, i, none⟩))) (hf : Fld P t f off s ag) (h0 : s ≠ 0) {C : World → Prop} : Ex P n env C (.fieldAddr t x f) ty (.pointer (some ⟨b, i + off, none⟩)) := fun a w d pos aft g ha _ => by
    obtain ⟨fs, fd, h1, h2, rfl, td, z, b', hT, hfl⟩ := hf.is
    simp [execOp, ha.opv hx, Instr.fieldAt, run_underlying h1, h2, Instr.sureAddr, fieldPlace, hT.size, h0, Result.andThen, addr_add]
theorem X_nilCheck {a : Addr} {ty : TypeId} (hx : opv env x = some (.pointer (some a))) {C : World → Prop} : Ex P n env C (.nilCheck x) ty (.pointer (some a)) := fun a w d pos aft g ha _ => by simp [execOp, ha.opv hx]
theorem X_nilCheckF {fn : Nat} {fa ca : Array Value} {ty : TypeId} (hx : opv env x = some (.func (.func fn) fa ca)) {C : World → Prop} : Ex P n env C (.nilCheck x) ty (.func (.func fn) fa ca) := fun a w d pos aft g ha _ => by simp [execOp, ha.opv hx]
theorem X_len {ad : Option Addr} {len cap s by_ : Nat} {e : TypeId} {z : Value} {m : Int} (hx : opv env x = some (.slice ad len cap)) (ht : Ty P t (.slice e) s z by_) (hm : (len : Int) = m) {C : World → Prop} : Ex P n env C (.call ⟨.builtin .len, #[x], #[t]⟩) ty (.int .i64 m) := fun a w d pos aft g ha _ => by simp [execOp, resolve, invoke, builtin, Builtin.len_, ha.opv hx, ht.run, goInt, Result.andThen, hm]
theorem X_lens {b : ByteArray} {s by_ : Nat} {z : Value} {m : Int} (hx : opv env x = some (.string b)) (ht : Ty P t .string s z by_) (hm : (b.size : Int) = m) {C : World → Prop} : Ex P n env C (.call ⟨.builtin .len, #[x], #[t]⟩) ty (.int .i64 m) := fun a w d pos aft g ha _ => by simp [execOp, resolve, invoke, builtin, Builtin.len_, ha.opv hx, ht.run, goInt, Result.andThen, hm]
theorem X_min2 {q q' : IntKind} {i j m : Int} (hx : opv env x = some (.int q i)) (hy : opv env y = some (.int q' j)) (hm : (if j < i then j else i) = m) {C : World → Prop} : Ex P n env C (.call ⟨.builtin .min, #[x, y], tys⟩) ty (.int q m) := fun a w d pos aft g ha _ => by simp [execOp, resolve, invoke, builtin, Builtin.min_, Builtin.min2, ha.opv hx, ha.opv hy, Result.andThen, ← hm]
theorem X_max2 {q q' : IntKind} {i j m : Int} (hx : opv env x = some (.int q i)) (hy : opv env y = some (.int q' j)) (hm : (if j > i then j else i) = m) {C : World → Prop} : Ex P n env C (.call ⟨.builtin .max, #[x, y], tys⟩) ty (.int q m) := fun a w d pos aft g ha _ => by simp [execOp, resolve, invoke, builtin, Builtin.max_, Builtin.max2, ha.opv hx, ha.opv hy, Result.andThen, ← hm]
theorem X_indexAddr {b o len cap j s es by_ eb : Nat} {q : IntKind} {i : Int} {e : TypeId} {z ez : Value} {ed : TypeDesc} (hx : opv env x = some (.slice (some ⟨b, o, none⟩) len cap)) (hy : opv env y = some (.int q i)) (ht : Ty P t (.slice e) s z by_) (he : Ty P e ed es ez eb)
    (hi : i = (j : Int)) (hj : j < len) {at_ : Nat} (hat : o + j * es = at_) {C : World → Prop} : Ex P n env C (.indexAddr t x y) ty (.pointer (some ⟨b, at_, none⟩)) := fun a w d pos aft g ha _ => by
    subst hi hat
    simp [execOp, Instr.indexAt, ha.opv hx, ha.opv hy, asIntOf, ht.run, he.size, hj, addr_add, Result.andThen]
theorem X_indexAddrA {b o len j s es by_ eb : Nat} {q : IntKind} {i : Int} {e : TypeId} {z ez : Value} {ed : TypeDesc} (hx : opv env x = some (.pointer (some ⟨b, o, none⟩))) (hy : opv env y = some (.int q i)) (ht : Ty P t (.array len e) s z by_) (he : Ty P e ed es ez eb)
    (hi : i = (j : Int)) (hj : j < len) {at_ : Nat} (hat : o + j * es = at_) {C : World → Prop} : Ex P n env C (.indexAddr t x y) ty (.pointer (some ⟨b, at_, none⟩)) := fun a w d pos aft g ha _ => by
    subst hi hat
    simp [execOp, Instr.indexAt, ha.opv hx, ha.opv hy, asIntOf, ht.run, he.size, hj, addr_add, Instr.sureAddr, Result.andThen]
theorem X_indexS {b : ByteArray} {j s by_ : Nat} {q : IntKind} {i : Int} {z : Value} {r : UInt8} {m : Int} (hx : opv env x = some (.string b)) (hy : opv env y = some (.int q i)) (ht : Ty P t .string s z by_) (hi : i = (j : Int)) (hr : b[j]? = some r) (hm : (r.toNat : Int) = m) {C : World → Prop} : Ex P n env C (.index t x y) ty (.int .u8 m) := fun a w d pos aft g ha _ => by
    subst hi hm
    simp [execOp, Instr.index, ha.opv hx, ha.opv hy, asIntOf, ht.run, hr, Result.andThen]
theorem X_indexA {cs : Array Value} {j s by_ len es eb : Nat} {q : IntKind} {i : Int} {e : TypeId} {z ez : Value} {ed : TypeDesc} (hx : opv env x = some (.agg cs)) (hy : opv env y = some (.int q i)) (ht : Ty P t (.array len e) s z by_) (he : Ty P e ed es ez eb) (hf : flat ed = true) (hi : i = (j : Int)) (hj : j < len)
    (hr : cs[j * es]? = some v) {C : World → Prop} : Ex P n env C (.index t x y) ty (v) := fun a w d pos aft g ha _ => by
    subst hi
    simp [execOp, Instr.index, ha.opv hx, ha.opv hy, asIntOf, ht.run, he.size, he.isAgg, hf, part, hr, hj, Result.andThen]
theorem X_slice0 {ad : Option Addr} {len cap hh s es by_ eb : Nat} {lo hi : Option Operand} {e : TypeId} {z ez : Value} {ed : TypeDesc} (hx : opv env x = some (.slice ad len cap)) (ht : Ty P t (.slice e) s z by_) (he : Ty P e ed es ez eb)
    (hlo : optIdx env 0 lo 0) (hhi : optIdx env len hi hh) (h2 : hh ≤ cap) {C : World → Prop} : Ex P n env C (.slice t x lo hi none) ty (.slice ad hh cap) := fun a w d pos aft g ha _ => by
    have := run_slice_slice (P := P) (w := w) (ad := ad) ha ht he hlo hhi (Nat.zero_le _) h2
    have ea : ∀ x : Option Addr, (if cap = 0 then x else x.map (·.add (0 * es))) = x := fun x => by
      split
      · rfl
      · cases x <;> simp [Addr.add]
    rw [ea] at this
    simp only [Nat.sub_zero] at this
    simp [execOp, ha.opv hx, this, Result.andThen]
end
/-! ## Regions that draw their order -/
section
variable {P : Program} {w0 : World} {Q : Exit → Act → World → Prop} {n : Nat} {ds : List Deferred} {k : List It} {env env' : Env} {H H' : Heap} {ops : Array Oper}
def Q0 (P : Program) (Q : Exit → Act → World → Prop) (k : List It) : Exit → Act → World → Prop
  | .normal, a, w => Cont P none Q k .normal a w
  | _, _, _ => False
theorem Q0_of {e : Exit} {a : Act} {w : World} (h : Q0 P Q k e a w) : Cont P none Q k e a w := by cases e <;> first | exact h | exact h.elim
/-- one walk of the lexical order, all operations leaving what is known as it is -/
def WQ (P : Program) (w0 : World) (Q : Exit → Act → World → Prop) (n : Nat) (ds : List Deferred) (k : List It) (ops : Array Oper) (l : List Oper) (env : Env) (H : Heap) : Prop :=
  ∀ a, Agree n env a → a.defers = ds → wpQuietIn (fen none) 0 P ops (Sat w0 H) (fun a' => ∀ w', Sat w0 H w' → Cont P none Q k .normal a' w') l a
theorem W_quiet {id : Nat} {l : List Oper} (hm : P.follows .mixedOrders = true) (hB : Region.lexB .any l.toArray = true) (h : WQ P w0 Q n ds k l.toArray l env H) : W P none w0 Q n ds (.code (.region id l.toArray true) :: k) env H := by
  intro a w ha hd hs
  show (Code.region id l.toArray true).wpIn (fen none) 0 P (Cont P none Q k) a w
  exact wpIn_region_quiet (C := Sat w0 H) rfl hm hB hs.drew (by simpa using h a ha hd)
theorem W_quietsr {id : Nat} {l : List Oper} {y : Code} (hm : P.follows .mixedOrders = true) (hB : Region.lexB .any l.toArray = true) (h : WQ P w0 Q n ds (.code y :: k) l.toArray l env H) : W P none w0 Q n ds (.code (.seq (.region id l.toArray true) y) :: k) env H :=
  W_seq (W_quiet hm hB h)
theorem WQ_nil (h : W P none w0 Q n ds k env H) : WQ P w0 Q n ds k ops [] env H := fun a ha hd => fun w' hs => h a w' ha hd hs
theorem WQ_x {op : Op} {ty : TypeId} {v : Value} {d : Nat} {pos : String} {aft : Array Edge} {rest : List Oper} (hx : Ex P n env (Sat w0 H) op ty v) (hd : Nat.blt d n = true) (h : WQ P w0 Q n ds k ops rest ((d, v) :: env) H) :
    WQ P w0 Q n ds k ops (⟨some d, op, ty, pos, aft, none⟩ :: rest) env H := fun a ha hds => by
  refine ⟨fun _ _ _ _ => trivial, ?_⟩
  rw [if_pos (by simp [Region.wanted])]
  exact ⟨v, fun w hs => by
    unfold Oper.quietAtIn
    rw [hx a w (some d) pos aft none ha hs]
    exact ⟨rfl, rfl⟩, h _ (ha.put (d := some d) hd) hds⟩
theorem WQ_callp {f : FuncId} {l : List Operand} {vs : List Value} {d : Option Nat} {ty : TypeId} {v : Value} {pos : String} {aft : Array Edge} {rest : List Oper} {tys : Array TypeId} (hc : OpVs env l vs) (hf : ∀ (args : Array Value) (w : World), (callFunc f args).run P w = .ok (.enter f args) w) (hd : dok n d = true)
    {T : World → Prop} (hT : T w0) (hL : Pure P T f vs v) (h : WQ P w0 Q n ds k ops rest (put d v env) H) :
    WQ P w0 Q n ds k ops (⟨d, .call ⟨.value (.func f), l.toArray, tys⟩, ty, pos, aft, none⟩ :: rest) env H := fun a ha hds => by
  refine ⟨fun _ _ _ _ => trivial, ?_⟩
  rw [if_pos (by simp [Region.wanted])]
  refine ⟨v, fun w hs => ?_, h _ (ha.put hd) (by cases d <;> exact hds)⟩
  unfold Oper.quietAtIn
  have hl : l.map a.eval = vs := ha.opvs hc
  rw [show (execOp a.eval ⟨d, .call ⟨.value (.func f), l.toArray, tys⟩, ty, pos, aft, none⟩).run P w = .ok (.enter f vs.toArray) w by
    simp [execOp, resolve, Act.eval, Deferred.ofValue, invoke, hl, hf, Result.andThen]]
  refine ⟨rfl, fun h => by simp [Fence.wide] at h, ?_⟩
  have hcl : CallsIn (fen none) 0 P f vs.toArray w _ := hL w0 H hT w hs
  exact hcl.mono fun e w'' ⟨v', H', he, ⟨hv, hH⟩, hs'⟩ => ⟨by rw [he, hv], by rw [← hH]; exact hs'⟩
theorem WQ_gyes {d : Option Nat} {op : Op} {t : TypeId} {pos : String} {aft : Array Edge} {j : Nat} {b : Bool} {dj : Nat} {rest : List Oper} (hj : (ops[j]?).bind (·.dst) = some dj) (ht : look env dj = some (.bool b))
    (h : WQ P w0 Q n ds k ops (⟨d, op, t, pos, aft, none⟩ :: rest) env H) : WQ P w0 Q n ds k ops (⟨d, op, t, pos, aft, some (j, b)⟩ :: rest) env H := fun a ha hds => by
  obtain ⟨h1, h2⟩ := h a ha hds
  rw [if_pos (by simp [Region.wanted])] at h2
  refine ⟨h1, ?_⟩
  have hy := ha.yielded hj ht
  rw [if_pos (by simp [Region.wanted, hy])]
  exact h2
theorem WQ_gno {d : Option Nat} {op : Op} {t : TypeId} {pos : String} {aft : Array Edge} {j : Nat} {b b' : Bool} {dj : Nat} {rest : List Oper} (hj : (ops[j]?).bind (·.dst) = some dj) (ht : look env dj = some (.bool b')) (hb : (b' == b) = false) (hd : dok n d = true)
    (h : WQ P w0 Q n ds k ops rest (put d undef env) H) : WQ P w0 Q n ds k ops (⟨d, op, t, pos, aft, some (j, b)⟩ :: rest) env H := fun a ha hds => by
  refine ⟨fun _ _ _ _ => trivial, ?_⟩
  have hy := ha.yielded hj ht
  rw [if_neg (by simp only [Region.wanted, hy]; simpa using hb)]
  exact h _ (ha.put hd) (by cases d <;> exact hds)
theorem WQ_env (hs : sub env' env) {l : List Oper} (h : WQ P w0 Q n ds k ops l env' H) : WQ P w0 Q n ds k ops l env H := fun a ha hd => h a (ha.weaken (look_of_sub hs)) hd
/-- any order: what is ready is taken -/
def WA (P : Program) (w0 : World) (Q : Exit → Act → World → Prop) (n : Nat) (ds : List Deferred) (k : List It) (ops : Array Oper) (fuel : Nat) (listed : Array Bool) (env : Env) (H : Heap) : Prop :=
  ∀ a w, Agree n env a → a.defers = ds → Sat w0 H w → wpAnyIn (fen none) 0 P .any ops (Q0 P Q k) fuel listed a w
theorem W_any {id : Nat} {l : List Oper} (hm : P.follows .mixedOrders = true) (h : WA P w0 Q n ds k l.toArray l.length (Array.replicate l.length false) env H) : W P none w0 Q n ds (.code (.region id l.toArray true) :: k) env H := by
  intro a w ha hd hs
  show (Code.region id l.toArray true).wpIn (fen none) 0 P (Cont P none Q k) a w
  exact wpIn_mono (wpIn_region_any hm (by simpa using h a _ ha hd hs.drew)) fun _ _ _ => Q0_of
theorem W_anysr {id : Nat} {l : List Oper} {y : Code} (hm : P.follows .mixedOrders = true) (h : WA P w0 Q n ds (.code y :: k) l.toArray l.length (Array.replicate l.length false) env H) : W P none w0 Q n ds (.code (.seq (.region id l.toArray true) y) :: k) env H :=
  W_seq (W_any hm h)
theorem WA_done {fuel : Nat} {listed : Array Bool} (hr : Region.ready .any ops listed = []) (h : W P none w0 Q n ds k env H) : WA P w0 Q n ds k ops fuel listed env H := fun a w ha hd hs => wpAnyIn_done hr (show Q0 P Q k .normal a w from h a w ha hd hs) fuel
/-- one that yields the same in whatever world is taken first -/
theorem WA_take (i : Nat) {op : Op} {ty : TypeId} {v : Value} {d : Nat} {pos : String} {aft : Array Edge} {fuel : Nat} {listed l' : Array Bool} (hi : ops[i]? = some ⟨some d, op, ty, pos, aft, none⟩) (hs : Region.noSelect ops = true) (hf : Region.free .any ops listed i = true) (hr : (Region.ready .any ops listed).contains i = true)
    (hcall : ∀ c, op ≠ .call c) (hdef : ∀ c, op ≠ .defer c) (hl : listed.setIfInBounds i true = l') (hx : Ex P n env (fun _ => True) op ty v) (hd : Nat.blt d n = true)
    (h : WA P w0 Q n ds k ops fuel l' ((d, v) :: env) H) : WA P w0 Q n ds k ops (fuel + 1) listed env H := fun a w ha hds hsat => by
  subst hl
  refine wpAnyIn_take rfl hi hs hf hr (fun _ _ _ hq => hq.elim) ⟨.inl ⟨by simp [Region.wanted], fun w => hx a w _ _ _ _ ha trivial⟩, fun w => ?_⟩ (h _ w (ha.put (d := some d) hd) hds hsat)
  unfold Oper.about
  cases op <;> first | rfl | exact absurd rfl (hcall _) | exact absurd rfl (hdef _)
/-- only one is ready: it is walked as ever -/
theorem WA_one (i : Nat) {o : Oper} {fuel : Nat} {listed l' : Array Bool} (hr : Region.ready .any ops listed = [i]) (hi : ops[i]? = some o) (hl : listed.setIfInBounds i true = l') (hdef : ∀ c, o.op ≠ .defer c)
    (h : W P none w0 (fun _ _ _ => False) n ds [.ops ops [o], .goal (fun a w => wpAnyIn (fen none) 0 P .any ops (Q0 P Q k) fuel l' a w)] env H) : WA P w0 Q n ds k ops (fuel + 1) listed env H := fun a w ha hds hsat => by
  subst hl
  refine wpAnyIn_all hr (by simp) fun j hj => ?_
  obtain rfl : j = i := by simpa using hj
  have h1 : wpListIn (fen none) 0 P ops _ [o] a w := h a w ha hds hsat
  unfold wpOpIn
  rw [hi]
  unfold wpListIn at h1
  show if _ then _ else _
  split
  · rename_i hw
    rw [if_pos hw] at h1
    unfold Oper.wpIn
    refine ⟨h1.1, ?_⟩
    have h2 := h1.2
    generalize (o.semAt (fen none).round a.eval).run P w = r at h2 ⊢
    cases r with
    | ok x w' =>
      cases x <;> simp only [Oper.uponIn] at h2 ⊢ <;>
        first
          | exact h2
          | exact ⟨h2.1, CallsIn.mono h2.2 (fun e w'' he => by cases e <;> first | exact he | exact he.elim | (obtain ⟨_, _, hf⟩ := he; exact hf.elim))⟩
          | exact ⟨h2.1, RowsIn.mono h2.2 (fun _ _ he => he)⟩
          | exact ⟨h2.1, RoundIn.mono h2.2 (fun e w'' he => by cases e <;> first | exact he | exact he.elim | (obtain ⟨_, _, hf⟩ := he; exact hf.elim))⟩
    | halt x w' => cases x <;> simp only [Oper.uponIn] at h2 ⊢ <;> first | exact h2 | exact h2.elim
  · rename_i hw
    rw [if_neg hw] at h1
    exact h1
theorem WA_goal {fuel : Nat} {l' : Array Bool} {k' : List It} {Q' : Exit → Act → World → Prop} (h : WA P w0 Q n ds k ops fuel l' env H) : W P none w0 Q' n ds (.goal (fun a w => wpAnyIn (fen none) 0 P .any ops (Q0 P Q k) fuel l' a w) :: k') env H :=
  W_goal fun a w ha hd hs => h a w ha hd hs
end
end Go.Sl
namespace Go.Sl
open Go.RowKit
/-- two values of a type of one cell, compared -/
def EqV (P : Program) (t : TypeId) (x y : Value) (b : Bool) : Prop := ∀ d w, (Op.equalIn (d + 1) t x y).run P w = .ok b w
section
variable {P : Program} {t : TypeId} {s by_ : Nat} {z : Value}
theorem eqv_int {k : IntKind} {a b : Int} (ht : Ty P t (.int k) s z by_) : EqV P t (.int k a) (.int k b) (decide (a = b)) := fun d w => by
  rw [run_equalIn_int w d t k k a b ht.und]; rfl
theorem eqv_bool {a b : Bool} (ht : Ty P t .bool s z by_) : EqV P t (.bool a) (.bool b) (a == b) := fun d w => run_equalIn_bool w d t a b ht.und
theorem eqv_string {a b : ByteArray} (ht : Ty P t .string s z by_) : EqV P t (.string a) (.string b) (a.toList == b.toList) := fun d w => run_equalIn_string w d t a b ht.und
inductive EqFs (P : Program) (xs ys : Array Value) : List Field → Bool → Prop
  | nil : EqFs P xs ys [] true
  | cons {f : Field} {fs : List Field} {td : TypeDesc} {s by_ : Nat} {z a b : Value} {r r' : Bool} (hn : f.name ≠ "_") (ht : Ty P f.type td s z by_) (hf : flat td = true) (hx : xs[f.offset]? = some a) (hy : ys[f.offset]? = some b) (he : EqV P f.type a b r) (hs : EqFs P xs ys fs r') : EqFs P xs ys (f :: fs) (r && r')
theorem EqFs.run {xs ys : Array Value} {fs : List Field} {b : Bool} (h : EqFs P xs ys fs b) (d : Nat) (w : World) : (Op.eqFields (d + 1) xs ys fs).run P w = .ok b w := by
  induction h with
  | nil => rfl
  | @cons f fs td s by_ z a b r r' hn ht hf hx hy he _ ih =>
    have hp : ∀ (cs : Array Value) (v : Value), cs[f.offset]? = some v → (part f.type cs f.offset).run P w = .ok v w := fun cs v hv => by
      simp [part, ht.isAgg, hf, hv, Result.andThen]
    simp only [Op.eqFields, if_pos hn, Sem.run_bind, hp xs a hx, hp ys b hy, he d w, Result.andThen_ok]
    cases r with
    | true => simpa using ih
    | false => simp
theorem eq_struct {fs : Array Field} {xs ys : Array Value} {b : Bool} (ht : Ty P t (.struct fs) s z by_) (hp : P.stoodInHeld t = false) (h : EqFs P xs ys fs.toList b) (w : World) : (Op.equalIn 10000 t (.agg xs) (.agg ys)).run P w = .ok b w := by
  have hfs : P.fieldsOf t = fs := by simp [Program.fieldsOf, ht.und]
  rw [run_equalIn_struct w 9999 t xs ys (by rw [hfs]; exact ht.und) hp, hfs]
  exact h.run 9998 w
end
section
variable {P : Program} {rd : Option Nat} {w0 : World} {Q : Exit → Act → World → Prop} {n : Nat} {ds : List Deferred} {k : List It} {env env' : Env} {H H' : Heap} {all : Array Oper} {rest : List Oper}
variable {d : Nat} {x y c : Operand} {t u ty : TypeId} {pos : String} {aft : Array Edge} {v : Value}
theorem X_eqA {fs : Array Field} {xs ys : Array Value} {b : Bool} {s by_ : Nat} {z : Value} {C : World → Prop} (hx : opv env x = some (.agg xs)) (hy : opv env y = some (.agg ys)) (ht : Ty P t (.struct fs) s z by_) (hp : P.stoodInHeld t = false) (hm : P.eqGuardType P.depth t = false) (h : EqFs P xs ys fs.toList b) :
    Ex P n env C (.binOp .eql t x y u) ty (.bool b) := fun a w d pos aft g ha _ => by
  simp [execOp, ha.opv hx, ha.opv hy, run_eqGuard_agg w .eql t x y xs ys hm, run_eql_struct, eq_struct ht hp h, Result.andThen]
theorem X_neA {fs : Array Field} {xs ys : Array Value} {b : Bool} {s by_ : Nat} {z : Value} {C : World → Prop} (hx : opv env x = some (.agg xs)) (hy : opv env y = some (.agg ys)) (ht : Ty P t (.struct fs) s z by_) (hp : P.stoodInHeld t = false) (hm : P.eqGuardType P.depth t = false) (h : EqFs P xs ys fs.toList b) :
    Ex P n env C (.binOp .neq t x y u) ty (.bool (!b)) := fun a w d pos aft g ha _ => by
  simp [execOp, ha.opv hx, ha.opv hy, run_eqGuard_agg w .neq t x y xs ys hm, run_neq_struct, eq_struct ht hp h, Result.andThen]
theorem Cells.part {b i e tot s : Nat} {l vs : List Value} (hm : (b, Blk.cells e tot l) ∈ H) (hl : (l.drop i).take s = vs) : Cells w0 H b i vs := fun j v h => by
  refine Cell.own hm ?_
  subst hl
  rw [List.getElem?_take] at h
  split at h
  · rwa [List.getElem?_drop] at h
  · cases h
/-- an aggregate loaded, of a block of one's own -/
theorem X_loadB {b i e tot s by_ : Nat} {td : TypeDesc} {z : Value} {l vs : List Value} (hx : opv env x = some (.pointer (some ⟨b, i, none⟩))) (ht : Ty P t td s z by_) (hf : flat td = false) (hm : (b, Blk.cells e tot l) ∈ H) (hn : Nat.ble (i + s) l.length = true) (hl : (l.drop i).take s = vs) :
    Ex P n env (Sat w0 H) (.load t x) ty (.agg vs.toArray) :=
  X_loadA hx ht hf (by subst hl; have := Nat.le_of_ble_eq_true hn; simp; omega) (Cells.part hm hl)
theorem W_loadB {b i e tot s by_ : Nat} {td : TypeDesc} {z : Value} {l vs : List Value} (hx : opv env x = some (.pointer (some ⟨b, i, none⟩))) (ht : Ty P t td s z by_) (hf : flat td = false) (hm : (b, Blk.cells e tot l) ∈ H) (hn : Nat.ble (i + s) l.length = true) (hl : (l.drop i).take s = vs) (hd : Nat.blt d n = true)
    (h : W P rd w0 Q n ds (.ops all rest :: k) ((d, .agg vs.toArray) :: env) H) : W P rd w0 Q n ds (.ops all (⟨some d, .load t x, ty, pos, aft, none⟩ :: rest) :: k) env H :=
  W_pure rfl nofun hd (fun a w ha hs => X_loadB hx ht hf hm hn hl a w _ _ _ _ ha hs) h
/-- a call of a function value, pure -/
theorem W_callvp {d : Option Nat} {f : FuncId} {l : List Operand} {vs args : List Value} {fa ca : List Value} {tys : Array TypeId} (hx : opv env x = some (.func (.func f) fa.toArray ca.toArray)) (hc : OpVs env l vs) (ha : fa ++ vs ++ ca = args) (hf : ∀ (args : Array Value) (w : World), (callFunc f args).run P w = .ok (.enter f args) w) (hd : dok n d = true)
    {T : World → Prop} (hT : T w0) (hL : Pure P T f args v) (h : W P rd w0 Q n ds (.ops all rest :: k) (put d v env) H) :
    W P rd w0 Q n ds (.ops all (⟨d, .call ⟨.value x, l.toArray, tys⟩, t, pos, aft, none⟩ :: rest) :: k) env H := by
  subst ha
  refine W_callv hx hc hf hd (R := fun v' H' => v' = v ∧ H' = H) ?_ (by rintro v' H' ⟨rfl, rfl⟩; exact h)
  have := hL w0 H hT
  simpa using this
/-- an operation of which it is known what it yields -/
theorem W_x {op : Op} (hx : Ex P n env (Sat w0 H) op ty v) (hdef : ∀ c, op ≠ .defer c) (hd : Nat.blt d n = true) (h : W P rd w0 Q n ds (.ops all rest :: k) ((d, v) :: env) H) : W P rd w0 Q n ds (.ops all (⟨some d, op, ty, pos, aft, none⟩ :: rest) :: k) env H :=
  W_pure rfl hdef hd (fun a w ha hs => hx a w _ _ _ _ ha hs) h
end
end Go.Sl
namespace Go.Sl
open Go.RowKit
section
variable {P : Program} {w0 : World} {H H' : Heap}
theorem Cell.up {b i : Nat} {v : Value} (h : Cell w0 H b i v) (hs : HSub H' H) : Cell w0 H' b i v := fun w hw => h w (hw.hsub hs)
theorem Cells.up {b i : Nat} {vs : List Value} (h : Cells w0 H b i vs) (hs : HSub H' H) : Cells w0 H' b i vs := fun j v hv => (h j v hv).up hs
theorem Holds.up {ad : Option Addr} {l : List Value} (h : Holds w0 H ad l) (hs : HSub H' H) : Holds w0 H' ad l := fun j x hx => by
  obtain ⟨b, o, e, hc⟩ := h j x hx
  exact ⟨b, o, e, hc.up hs⟩
theorem Holds.take {ad : Option Addr} {l : List Value} (h : Holds w0 H ad l) (k : Nat) : Holds w0 H ad (l.take k) := fun j x hx => h j x (by
  rw [List.getElem?_take] at hx
  split at hx
  · exact hx
  · cases hx)
theorem Holds.old {ad : Option Addr} {l : List Value} (h : ∀ (j : Nat) x, l[j]? = some x → ∃ b o, ad = some ⟨b, o, none⟩ ∧ w0.cell? ⟨b, o + j, none⟩ = some x) : Holds w0 H ad l := fun j x hx => by
  obtain ⟨b, o, e, hc⟩ := h j x hx
  exact ⟨b, o, e, Cell.old hc⟩
theorem Holds.at {ad : Option Addr} {l : List Value} {i : Nat} {v : Value} (h : Holds w0 H ad l) (hv : l[i]? = some v) : ∃ b o, ad = some ⟨b, o, none⟩ ∧ Cell w0 H b (o + i) v := h i v hv
/-- rows of elements of several cells -/
theorem flat_at {α : Type} {f : α → List Value} {s : Nat} (hf : ∀ x, (f x).length = s) : ∀ {l : List α} {i : Nat} {x : α}, l[i]? = some x → ∀ j v, (f x)[j]? = some v → (l.flatMap f)[i * s + j]? = some v
  | [], _, _, h, _, _, _ => by simp at h
  | y :: l, 0, x, h, j, v, hv => by
    have : y = x := by simpa using h
    subst this
    rw [List.flatMap_cons, List.getElem?_append_left (by rw [Nat.zero_mul, Nat.zero_add]; exact (List.getElem?_eq_some_iff.1 hv).1)]
    simpa using hv
  | y :: l, i + 1, x, h, j, v, hv => by
    have ih := flat_at hf (l := l) (i := i) (by simpa using h) j v hv
    rw [List.flatMap_cons, List.getElem?_append_right (by rw [hf, Nat.add_mul]; omega), hf, show (i + 1) * s + j - s = i * s + j by rw [Nat.add_mul]; omega]
    exact ih
theorem flat_length {α : Type} {f : α → List Value} {s : Nat} (hf : ∀ x, (f x).length = s) : ∀ l : List α, (l.flatMap f).length = l.length * s
  | [] => by simp
  | x :: l => by rw [List.flatMap_cons, List.length_append, hf, flat_length hf l, List.length_cons, Nat.add_mul]; omega
theorem Holds.row {α : Type} {f : α → List Value} {s : Nat} (hf : ∀ x, (f x).length = s) (hs : 0 < s) {ad : Option Addr} {l : List α} {i : Nat} {x : α} (h : Holds w0 H ad (l.flatMap f)) (hx : l[i]? = some x) : ∃ b o, ad = some ⟨b, o, none⟩ ∧ Cells w0 H b (o + i * s) (f x) := by
  have h0 : 0 < (f x).length := by rw [hf]; exact hs
  obtain ⟨b, o, e, _⟩ := h _ _ (flat_at hf hx 0 _ (List.getElem?_eq_getElem h0))
  subst e
  refine ⟨b, o, rfl, fun j v hv => ?_⟩
  obtain ⟨b', o', e', hc⟩ := h _ _ (flat_at hf hx j v hv)
  cases e'
  rw [Nat.add_assoc]; exact hc
theorem Holds.of_own {e : TypeId} {s : Nat} {v : Value} {n : Nat} {xs : List Value} {HB : Heap} (h : OwnS e s v n xs HB) (hm : ∀ p ∈ HB, p ∈ H) : ∃ ad cap, v = .slice ad n cap ∧ n ≤ cap ∧ cap ≤ maxLen ∧ Holds w0 H ad xs := by
  cases h with
  | nil => exact ⟨none, 0, rfl, Nat.le_refl _, Nat.zero_le _, Holds.nil⟩
  | own h1 h2 h3 => exact ⟨_, _, rfl, h2, h3, Holds.own (hm _ List.mem_cons_self)⟩
/-- a contract that leaves what is known as it is -/
def PureAt (P : Program) (w0 : World) (H : Heap) (f : FuncId) (args : List Value) (v : Value) : Prop := LCalls P w0 f args.toArray H (fun v' H' => v' = v ∧ H' = H)
theorem Pure.at {T : World → Prop} {f : FuncId} {args : List Value} {v : Value} (h : Pure P T f args v) (hT : T w0) : PureAt P w0 H f args v := h w0 H hT
end
section
variable {P : Program} {rd : Option Nat} {w0 : World} {Q : Exit → Act → World → Prop} {n : Nat} {ds : List Deferred} {k : List It} {env env' : Env} {H H' : Heap} {all : Array Oper} {rest : List Oper}
variable {x y c : Operand} {t u ty : TypeId} {pos : String} {aft : Array Edge} {v : Value}
theorem yielded_undef {a : Act} (ha : Agree n env a) {j dj : Nat} (hj : (all[j]?).bind (·.dst) = some dj) (ht : look env dj = some undef) : yielded all a.tmps j = none := by
  have hv := ha.val _ _ ht
  unfold yielded
  rw [hj]
  simp only [Option.bind_some]
  rcases Nat.lt_or_ge dj a.tmps.size with h | h
  · rw [Array.getD_eq_getD_getElem?, Array.getElem?_eq_getElem h] at hv
    rw [Array.getElem?_eq_getElem h]
    simp only [Option.getD_some] at hv
    rw [hv]; rfl
  · rw [Array.getElem?_eq_none h]
/-- a guard on what was passed over -/
theorem W_gnou {d : Option Nat} {op : Op} {aft : Array Edge} {j : Nat} {b : Bool} {dj : Nat} (hj : (all[j]?).bind (·.dst) = some dj) (ht : look env dj = some undef) (hd : dok n d = true)
    (h : W P rd w0 Q n ds (.ops all rest :: k) (put d undef env) H) : W P rd w0 Q n ds (.ops all (⟨d, op, t, pos, aft, some (j, b)⟩ :: rest) :: k) env H := by
  intro a w ha hds hs
  have hy := yielded_undef ha hj ht
  show wpListIn (fen rd) 0 P all (Cont P rd Q k) (_ :: rest) a w
  unfold wpListIn
  rw [if_neg (by simp [Region.wanted, hy])]
  exact ⟨fun _ _ => trivial, h (a.put d undef) w (ha.put hd) (by cases d <;> exact hds) hs⟩
theorem W_callq {d : Option Nat} {f : FuncId} {l : List Operand} {vs : List Value} {tys : Array TypeId} (hc : OpVs env l vs) (hf : ∀ (args : Array Value) (w : World), (callFunc f args).run P w = .ok (.enter f args) w) (hd : dok n d = true)
    (hL : PureAt P w0 H f vs v) (h : W P rd w0 Q n ds (.ops all rest :: k) (put d v env) H) :
    W P rd w0 Q n ds (.ops all (⟨d, .call ⟨.value (.func f), l.toArray, tys⟩, t, pos, aft, none⟩ :: rest) :: k) env H :=
  W_call hc hf hd hL (by rintro v' H' ⟨rfl, rfl⟩; exact h)
theorem W_callqv {d : Option Nat} {f : FuncId} {l : List Operand} {vs args : List Value} {fa ca : List Value} {tys : Array TypeId} (hx : opv env x = some (.func (.func f) fa.toArray ca.toArray)) (hc : OpVs env l vs) (ha : fa ++ vs ++ ca = args) (hf : ∀ (args : Array Value) (w : World), (callFunc f args).run P w = .ok (.enter f args) w) (hd : dok n d = true)
    (hL : PureAt P w0 H f args v) (h : W P rd w0 Q n ds (.ops all rest :: k) (put d v env) H) :
    W P rd w0 Q n ds (.ops all (⟨d, .call ⟨.value x, l.toArray, tys⟩, t, pos, aft, none⟩ :: rest) :: k) env H := by
  subst ha
  refine W_callv hx hc hf hd (R := fun v' H' => v' = v ∧ H' = H) ?_ (by rintro v' H' ⟨rfl, rfl⟩; exact h)
  have := hL
  unfold PureAt at this
  simpa using this
theorem WQ_callq {ops : Array Oper} {f : FuncId} {l : List Operand} {vs : List Value} {d : Option Nat} {tys : Array TypeId} (hc : OpVs env l vs) (hf : ∀ (args : Array Value) (w : World), (callFunc f args).run P w = .ok (.enter f args) w) (hd : dok n d = true)
    (hL : PureAt P w0 H f vs v) (h : WQ P w0 Q n ds k ops rest (put d v env) H) :
    WQ P w0 Q n ds k ops (⟨d, .call ⟨.value (.func f), l.toArray, tys⟩, ty, pos, aft, none⟩ :: rest) env H := fun a ha hds => by
  refine ⟨fun _ _ _ _ => trivial, ?_⟩
  rw [if_pos (by simp [Region.wanted])]
  refine ⟨v, fun w hs => ?_, h _ (ha.put hd) (by cases d <;> exact hds)⟩
  unfold Oper.quietAtIn
  have hl : l.map a.eval = vs := ha.opvs hc
  rw [show (execOp a.eval ⟨d, .call ⟨.value (.func f), l.toArray, tys⟩, ty, pos, aft, none⟩).run P w = .ok (.enter f vs.toArray) w by
    simp [execOp, resolve, Act.eval, Deferred.ofValue, invoke, hl, hf, Result.andThen]]
  refine ⟨rfl, fun h => by simp [Fence.wide] at h, ?_⟩
  have hcl : CallsIn (fen none) 0 P f vs.toArray w _ := hL w hs
  exact hcl.mono fun e w'' ⟨v', H', he, ⟨hv, hH⟩, hs'⟩ => ⟨by rw [he, hv], by rw [← hH]; exact hs'⟩
/-- the two ways of a condition meet again: what is said of slots and memory behind it -/
def JoinJ (w0 : World) (n : Nat) (ds : List Deferred) (env : Env) (H : Heap) (a : Act) (w : World) : Prop := Agree n env a ∧ a.defers = ds ∧ Sat w0 H w
theorem W_condJ {c : Operand} {x y : Code} {t : Bool} {p : Prop} (env' : Env) (H' : Heap) (hc : opv env c = some (.bool t)) (hp : t = true ↔ p)
    (ht : p → W P rd w0 (fun _ _ _ => False) n ds [.code x, .goal (JoinJ w0 n ds env' H')] env H) (hf : ¬ p → W P rd w0 (fun _ _ _ => False) n ds [.code y, .goal (JoinJ w0 n ds env' H')] env H)
    (h : W P rd w0 Q n ds k env' H') : W P rd w0 Q n ds (.code (.cond c x y) :: k) env H := fun a w ha hd hs => by
  have mono : ∀ z : Code, W P rd w0 (fun _ _ _ => False) n ds [.code z, .goal (JoinJ w0 n ds env' H')] env H → z.wpIn (fen rd) 0 P (Cont P rd Q k) a w := fun z hz => by
    refine wpIn_mono (hz a w ha hd hs) fun e a2 w2 hq => ?_
    cases e with
    | normal => exact h a2 w2 hq.1 hq.2.1 hq.2.2
    | exit id => exact hq.elim
    | goto l => exact hq.elim
    | ret => exact hq.elim
    | panic ch => exact hq.elim
    | outgrown => exact hq.elim
  exact wpIn_cond_split (ha.opv hc) (fun e => mono x (ht (hp.1 e))) (fun e => mono y (hf (fun q => by rw [hp.2 q] at e; cases e)))
theorem W_joined (he : sub env' env) (hh : HSub H H') {k' : List It} : W P rd w0 Q n ds (.goal (JoinJ w0 n ds env' H') :: k') env H := W_goal fun _ _ ha hd hs => ⟨ha.weaken (look_of_sub he), hd, hs.hsub hh⟩
theorem wpIn_scope {F : Fence} {n : Nat} {c : Code} {a : Act} {w : World} {Q : Exit → Act → World → Prop} (hQ : ∀ l a w, Q (.goto l) a w → False) (h : c.wpIn F n P Q a w) : (Code.scope c).wpIn F n P Q a w := by
  intro b k cs hro hb hr
  have s1 : step P (lone (b.atR a (.code (.scope c) :: k)) cs w) = .next (lone (b.atR a (.code c :: .inScope c :: k)) cs w) := step_lone_go (by simp [stepG, stepG.exec, Frame.atR])
  have h0 : (lone (b.atR a (.code (.scope c) :: k)) cs w).fenced P F := fenced_calm hb hr rfl
  have hx : ∀ id, exitTo id (.inScope c :: k) = exitTo id k := fun id => by simp [exitTo]
  obtain ⟨e, a₁, w₁, hq, harr⟩ := h b (.inScope c :: k) cs hro hb hr
  cases e with
  | normal =>
    have s2 : step P (lone (b.atR a₁ (.inScope c :: k)) cs w₁) = .next (lone (b.atR a₁ k) cs w₁) := step_lone_go (by simp [stepG, stepG.exec, Frame.atR])
    exact ⟨.normal, a₁, w₁, hq, .head h0 s1 (StepsIn.trans harr (.one (fenced_calm (fr := b.atR a₁ (.inScope c :: k)) hb hr rfl) s2))⟩
  | exit id =>
    exact ⟨.exit id, a₁, w₁, hq, fun k' hk => .head h0 s1 (harr.1 k' (by rw [hx]; exact hk)),
      fun hr' hk => let ⟨k₁, h1, h2⟩ := harr.2 hr' (by rw [hx]; exact hk); ⟨k₁, h1, .head h0 s1 h2⟩⟩
  | goto l => exact (hQ l a₁ w₁ hq).elim
  | ret => exact ⟨_, a₁, w₁, hq, .of_steps (.one h0 s1) harr⟩
  | panic ch => exact ⟨_, a₁, w₁, hq, .of_steps (.one h0 s1) harr⟩
  | outgrown => exact ⟨_, a₁, w₁, hq, .of_steps (.one h0 s1) harr⟩
theorem cont_goto {l : Nat} : ∀ {k : List It} (a : Act) (w : World), Cont P rd Q k (.goto l) a w → Q (.goto l) a w
  | [], _, _, h => h
  | .blk _ :: k, a, w, h => cont_goto (k := k) a w h
  | .code _ :: k, a, w, h => cont_goto (k := k) a w h
  | .ops _ _ :: k, a, w, h => cont_goto (k := k) a w h
  | .goal _ :: k, a, w, h => cont_goto (k := k) a w h
theorem W_scope {c : Code} (hQ : ∀ l a w, Q (.goto l) a w → False) (h : W P rd w0 Q n ds (.code c :: k) env H) : W P rd w0 Q n ds (.code (.scope c) :: k) env H :=
  fun a w ha hd hs => wpIn_scope (fun l a w hc => hQ l a w (cont_goto a w hc)) (h a w ha hd hs)
theorem W_label {l : Nat} (h : W P rd w0 Q n ds k env H) : W P rd w0 Q n ds (.code (.label l) :: k) env H := fun a w ha hd hs => wpIn_label (h a w ha hd hs)
end
end Go.Sl
namespace Go.Sl
open Go.RowKit
section
variable {P : Program} {rd : Option Nat} {w0 : World} {Q : Exit → Act → World → Prop} {n : Nat} {ds : List Deferred} {k : List It} {env : Env} {H : Heap}
/-- a loop: the slots that stay as they are (C), and those that turn (E) -/
theorem W_loopC {X : Type} {c : Code} (C : Env) (E : X → Env) (DS : X → List Deferred) (HH : X → Heap) (I : X → Prop) (μ : X → Nat) (x0 : X) (h0 : I x0) (hc : sub C env) (he : sub (E x0) env) (hd0 : ds = DS x0) (hh : HSub H (HH x0))
    (round : ∀ x, I x → W P rd w0 Q n (DS x) (.code c :: .goal (fun a w => ∃ x', I x' ∧ μ x' < μ x ∧ Agree n (E x' ++ C) a ∧ a.defers = DS x' ∧ Sat w0 (HH x') w) :: k) (E x ++ C) (HH x)) :
    W P rd w0 Q n ds (.code (.loop c) :: k) env H :=
  W_loopD (fun x => E x ++ C) DS HH I μ x0 h0 (fun p hp => (List.mem_append.1 hp).elim (he p) (hc p)) hd0 hh round
variable {H' : Heap} {all : Array Oper} {rest : List Oper} {d : Nat} {x y c : Operand} {t u ty : TypeId} {pos : String} {aft : Array Edge} {v : Value}
/-- an array is built -/
theorem X_buildArr {s by_ len es eb : Nat} {z ez : Value} {e : TypeId} {ed : TypeDesc} {parts : List (Nat × Operand)} {ps : List (Nat × List Value)} {l : List Value} {C : World → Prop} (ht : Ty P t (.array len e) s z by_) (he : Ty P e ed es ez eb)
    (hp : Parts env (rowPlace es) s parts ps) (hz : Nat.beq z.cells.size s = true) (hl : fillL z.cells.toList ps = l) :
    Ex P n env C (.build t parts.toArray) ty (.agg l.toArray) := fun a w d pos aft g ha _ => by
  obtain ⟨out, ho, hol⟩ := hp.run ha (cells := z.cells) (by simpa using hz)
  have hout : out = l.toArray := by apply Array.ext'; rw [hol, hl]
  have ho' : Instr.fill (fun i => some (i * es, es)) z.cells (parts.map fun (i, x) => (i, a.eval x)) = some out := ho
  have hr : (Instr.build t (parts.map fun (i, x) => (i, a.eval x)).toArray).run P w = .ok (.agg l.toArray) w := by
    unfold Instr.build
    simp only [Sem.run_bind, ht.zero, ht.run, he.size, Result.andThen]
    rw [ho']
    subst hout
    rfl
  simp only [execOp, List.map_toArray, Sem.run_bind, hr]
  simp [Result.andThen]
theorem W_buildArr {s by_ len es eb : Nat} {z ez : Value} {e : TypeId} {ed : TypeDesc} {parts : List (Nat × Operand)} {ps : List (Nat × List Value)} {l : List Value} (ht : Ty P t (.array len e) s z by_) (he : Ty P e ed es ez eb)
    (hp : Parts env (rowPlace es) s parts ps) (hz : Nat.beq z.cells.size s = true) (hl : fillL z.cells.toList ps = l) (hd : Nat.blt d n = true)
    (h : W P rd w0 Q n ds (.ops all rest :: k) ((d, .agg l.toArray) :: env) H) :
    W P rd w0 Q n ds (.ops all (⟨some d, .build t parts.toArray, ty, pos, aft, none⟩ :: rest) :: k) env H :=
  W_pure rfl nofun hd (fun a w ha hs => X_buildArr (C := fun _ => True) ht he hp hz hl a w _ _ _ _ ha trivial) h
end
end Go.Sl
namespace Go.Sl
open Go.RowKit
/-- what stands in a result's place when a function returns -/
inductive Res1 (P : Program) (w0 : World) (env : Env) (H : Heap) : ResultVar → Value → Prop
  | tmp {t : Nat} {v : Value} (h : look env t = some v) : Res1 P w0 env H (.tmp t) v
  | own {t ty b s e tot by_ : Nat} {td : TypeDesc} {z : Value} {vs : List Value} (hv : look env t = some (.pointer (some ⟨b, 0, none⟩))) (ht : Ty P ty td s z by_) (hf : flat td = false) (hm : (b, Blk.cells e tot vs) ∈ H) (hl : vs.length = s) : Res1 P w0 env H (.cell t ty) (.agg vs.toArray)
  | one {t ty b i s by_ : Nat} {td : TypeDesc} {z v : Value} (hv : look env t = some (.pointer (some ⟨b, i, none⟩))) (ht : Ty P ty td s z by_) (hf : flat td = true) (hc : Cell w0 H b i v) : Res1 P w0 env H (.cell t ty) v
def resOf (tmps : Array Value) : ResultVar → Sem Value
  | .tmp t => pure (tmps.getD t undef)
  | .cell a t => do loadVar t (← asAddr (tmps.getD a undef))
theorem Res1.run {P : Program} {w0 w : World} {env : Env} {H : Heap} {r : ResultVar} {v : Value} {n : Nat} {a : Act} (h : Res1 P w0 env H r v) (ha : Agree n env a) (hs : Sat w0 H w) : (resOf a.tmps r).run P w = .ok v w := by
  cases h with
  | tmp h => simp [resOf, ha.val _ _ h]
  | @own t ty b s e tot by_ td z vs hv ht hf hm hl =>
    have hc : Cells w0 H b 0 vs := Cells.own hm (by simp)
    have hcs := run_loadCells_list (P := P) (w := w) ⟨b, 0, none⟩ vs (fun j u hu => by rw [addr_add]; exact hc j u hu w hs)
    rw [hl] at hcs
    simp [resOf, ha.val _ _ hv, asAddr, loadVar, ht.isAgg, ht.size, hf, hcs, Result.andThen]
  | one hv ht hf hc => simp [resOf, ha.val _ _ hv, asAddr, loadVar, ht.isAgg, hf, hc w hs, Result.andThen]
section
variable {P : Program} {w0 : World} {fn : Func} {R : Value → Heap → Prop} {n : Nat} {ds : List Deferred} {k : List It} {env : Env} {H H' H2 : Heap} {r1 r2 r3 : ResultVar} {v1 v2 v3 : Value}
theorem results_eq (fn : Func) (tmps : Array Value) : results fn tmps = (do let vs ← fn.results.mapM (resOf tmps); pure (if h : vs.size = 1 then vs[0] else .tuple vs)) := by
  unfold results resOf; rfl
theorem run_res2G {a : Act} {w : World} (hr : fn.results = #[r1, r2]) (h1 : Res1 P w0 env H r1 v1) (h2 : Res1 P w0 env H r2 v2) (ha : Agree n env a) (hs : Sat w0 H w) : (results fn a.tmps).run P w = .ok (.tuple #[v1, v2]) w := by
  have e1 := h1.run ha hs
  have e2 := h2.run ha hs
  simp [results_eq, hr, e1, e2, Result.andThen]
theorem run_res3G {a : Act} {w : World} (hr : fn.results = #[r1, r2, r3]) (h1 : Res1 P w0 env H r1 v1) (h2 : Res1 P w0 env H r2 v2) (h3 : Res1 P w0 env H r3 v3) (ha : Agree n env a) (hs : Sat w0 H w) : (results fn a.tmps).run P w = .ok (.tuple #[v1, v2, v3]) w := by
  have e1 := h1.run ha hs
  have e2 := h2.run ha hs
  have e3 := h3.run ha hs
  simp [results_eq, hr, e1, e2, e3, Result.andThen]
theorem W_ret2G (hr : fn.results = #[r1, r2]) (hM : Marks ds H H') (h1 : Res1 P w0 env H' r1 v1) (h2 : Res1 P w0 env H' r2 v2) (hu : HSub H' H2) (hR : R (.tuple #[v1, v2]) H2) : W P none w0 (FPost P w0 fn R) n ds (.code .ret :: k) env H :=
  W_ret fun a w ha hd hs => by
    show LeavesInM _ _ _ _ _ _ a.defers _ _
    rw [hd]
    exact leaves_marks hM hu (fun w hs' => run_res2G hr h1 h2 ha hs') hs hR
theorem W_ret3G (hr : fn.results = #[r1, r2, r3]) (hM : Marks ds H H') (h1 : Res1 P w0 env H' r1 v1) (h2 : Res1 P w0 env H' r2 v2) (h3 : Res1 P w0 env H' r3 v3) (hu : HSub H' H2) (hR : R (.tuple #[v1, v2, v3]) H2) : W P none w0 (FPost P w0 fn R) n ds (.code .ret :: k) env H :=
  W_ret fun a w ha hd hs => by
    show LeavesInM _ _ _ _ _ _ a.defers _ _
    rw [hd]
    exact leaves_marks hM hu (fun w hs' => run_res3G hr h1 h2 h3 ha hs') hs hR
end
end Go.Sl
namespace Go.Sl
open Go.RowKit
section
variable {P : Program} {rd : Option Nat} {w0 : World} {Q : Exit → Act → World → Prop} {n : Nat} {ds : List Deferred} {k : List It} {env env' : Env} {H H' : Heap} {all : Array Oper} {rest : List Oper}
variable {d : Nat} {x y c : Operand} {t u ty : TypeId} {pos : String} {aft : Array Edge} {v : Value}
/-- a slice held against nil -/
theorem X_sliceNil {ad : Option Addr} {len cap s by_ : Nat} {e : TypeId} {z : Value} {C : World → Prop} (hx : opv env x = some (.slice ad len cap)) (hy : opv env y = some (.slice none 0 0)) (ht : Ty P t (.slice e) s z by_) :
    Ex P n env C (.binOp .eql t x y u) ty (.bool ad.isNone) := fun a w d pos aft g ha _ => by
  have he : (eqGuard .eql t x y (.slice ad len cap) (.slice none 0 0)).run P w = .ok () w := by simp [eqGuard]
  have h2 : (Go.binOp .eql t (.slice ad len cap) (.slice none 0 0)).run P w = .ok (.bool ad.isNone) w := by
    have := run_equal_slice_nil (P := P) w t e ad len cap ht.und
    simp [Go.binOp, this, Result.andThen]
  simp [execOp, ha.opv hx, ha.opv hy, he, h2, Result.andThen]
theorem X_sliceNotNil {ad : Option Addr} {len cap s by_ : Nat} {e : TypeId} {z : Value} {C : World → Prop} (hx : opv env x = some (.slice ad len cap)) (hy : opv env y = some (.slice none 0 0)) (ht : Ty P t (.slice e) s z by_) :
    Ex P n env C (.binOp .neq t x y u) ty (.bool (!ad.isNone)) := fun a w d pos aft g ha _ => by
  have he : (eqGuard .neq t x y (.slice ad len cap) (.slice none 0 0)).run P w = .ok () w := by simp [eqGuard]
  simp [execOp, ha.opv hx, ha.opv hy, he, run_neq_slice_nil (P := P) w t e ad len cap ht.und, Result.andThen]
/-- a slice of bytes as a string -/
def b8 (l : List Int) : List UInt8 := l.map fun z => UInt8.ofNat z.toNat
theorem X_convBS {ad : Option Addr} {cap s1 s2 by1 by2 s3 by3 : Nat} {e : TypeId} {z1 z2 z3 : Value} {l : List Int} (hx : opv env x = some (.slice ad l.length cap)) (ht : Ty P t (.slice e) s1 z1 by1) (he : Ty P e (.int .u8) s3 z3 by3) (hu : Ty P u .string s2 z2 by2)
    (hh : Holds w0 H ad (l.map (.int .u8))) (hb : ∀ b ∈ l, 0 ≤ b ∧ b < 256) :
    Ex P n env (Sat w0 H) (.convert t u x) ty (.string ⟨(b8 l).toArray⟩) := fun a w d pos aft g ha hs => by
  have hr : (convert t u (.slice ad l.length cap)).run P w = .ok (.string ⟨(b8 l).toArray⟩) w := by
    cases l with
    | nil =>
      cases ad with
      | none => rw [run_convert_bytes_string w t u e none _ cap ht.und he.und hu.und]; rfl
      | some a0 => exact run_convert_bytes_back w t u e a0 cap [] ht.und he.und hu.und (fun j hj => by simp at hj)
    | cons b l =>
      obtain ⟨bb, o, rfl, _⟩ := hh 0 (.int .u8 b) rfl
      have := run_convert_bytes_back (P := P) w t u e ⟨bb, o, none⟩ cap (b8 (b :: l)) ht.und he.und hu.und (fun j hj => by
        have hj' : j < (b :: l).length := by simpa [b8] using hj
        obtain ⟨b2, o2, e2, hc⟩ := hh j (.int .u8 ((b :: l)[j])) (by rw [List.getElem?_map, List.getElem?_eq_getElem hj']; rfl)
        cases e2
        rw [addr_add, hc w hs]
        have hbb := hb _ (List.getElem_mem hj')
        simp only [b8, List.getElem_map]
        congr 2
        rw [UInt8.toNat_ofNat']
        omega)
      have hl : (b8 (b :: l)).length = (b :: l).length := by simp [b8]
      rw [hl] at this
      exact this
  simp [execOp, ha.opv hx, hr, Result.andThen]
theorem b8_inj {l m : List Int} (hl : ∀ b ∈ l, 0 ≤ b ∧ b < 256) (hm : ∀ b ∈ m, 0 ≤ b ∧ b < 256) (h : b8 l = b8 m) : l = m := by
  induction l generalizing m with
  | nil => cases m with
    | nil => rfl
    | cons x m => simp [b8] at h
  | cons x l ih => cases m with
    | nil => simp [b8] at h
    | cons y m =>
      simp only [b8, List.map_cons, List.cons.injEq] at h
      have h1 := hl x List.mem_cons_self
      have h2 := hm y List.mem_cons_self
      have h3 := congrArg UInt8.toNat h.1
      rw [UInt8.toNat_ofNat', UInt8.toNat_ofNat'] at h3
      rw [ih (fun b hb => hl b (List.mem_cons_of_mem _ hb)) (fun b hb => hm b (List.mem_cons_of_mem _ hb)) h.2, show x = y by omega]
theorem ba_toList (l : List UInt8) : (⟨l.toArray⟩ : ByteArray).toList = l := by simpa using ByteArray.toList_eq ⟨l.toArray⟩
theorem b8_eq {l m : List Int} (hl : ∀ b ∈ l, 0 ≤ b ∧ b < 256) (hm : ∀ b ∈ m, 0 ≤ b ∧ b < 256) : ((⟨(b8 l).toArray⟩ : ByteArray).toList == (⟨(b8 m).toArray⟩ : ByteArray).toList) = decide (l = m) := by
  rw [ba_toList, ba_toList]
  by_cases h : l = m
  · subst h; simp
  · rw [decide_eq_false h, ← Bool.not_eq_true, beq_iff_eq]
    exact fun e => h (b8_inj hl hm e)
end
end Go.Sl
namespace Go.Sl
open Go.RowKit
/-! ## Regions that draw their order: operations that read memory are taken first, as long as all others leave what they read -/
section
variable {P : Program} {ops : Array Oper} {C : World → Prop} {Q : Exit → Act → World → Prop}
/-- every order from here on, and 'C' holds all the way -/
def anyC (P : Program) (ops : Array Oper) (C : World → Prop) (Q : Exit → Act → World → Prop) : Nat → Array Bool → Act → World → Prop
  | 0, l, a, w => C w ∧ Region.ready .any ops l = [] ∧ Q .normal a w
  | f + 1, l, a, w => C w ∧ (Region.ready .any ops l = [] → Q .normal a w) ∧ ∀ i ∈ Region.ready .any ops l, wpOpIn (fen none) 0 P ops Q i (anyC P ops C Q f (l.setIfInBounds i true)) a w
theorem anyC.here {f : Nat} {l : Array Bool} {a : Act} {w : World} (h : anyC P ops C Q f l a w) : C w := by
  cases f <;> exact h.1
theorem anyC.any : ∀ {f : Nat} {l : Array Bool} {a : Act} {w : World}, anyC P ops C Q f l a w → wpAnyIn (fen none) 0 P .any ops Q f l a w
  | 0, _, _, _, h => h.2
  | f + 1, _, _, _, h => ⟨h.2.1, fun i hi => wpOpIn_mono (fun _ _ h => h.any) (h.2.2 i hi)⟩
/-- what an operation yields in every world of the class -/
structure TakesC (P : Program) (ops : Array Oper) (C : World → Prop) (o : Oper) (v : Value) (a : Act) : Prop where
  wanted : Region.wanted o (yielded ops a.tmps) = true
  run : ∀ w, C w → (execOp a.eval o).run P w = .ok (.value v) w
  about : ∀ w, C w → o.about P w a.eval = none
structure PassC (P : Program) (ops : Array Oper) (o o' : Oper) (a a' : Act) : Prop where
  run : execOp a'.eval o = execOp a.eval o
  wanted : Region.wanted o (yielded ops a'.tmps) = Region.wanted o (yielded ops a.tmps)
  about : ∀ w, o.about P w a'.eval = o.about P w a.eval
theorem TakesC.pass {o o' : Oper} {v : Value} {a a' : Act} (h : TakesC P ops C o v a) (hs : PassC P ops o o' a a') : TakesC P ops C o v a' :=
  ⟨hs.wanted.trans h.wanted, fun w hw => by rw [hs.run]; exact h.run w hw, fun w hw => by rw [hs.about]; exact h.about w hw⟩
theorem TakesC.op {i : Nat} {o : Oper} {v : Value} {a : Act} {w : World} {K : Act → World → Prop} (hi : ops[i]? = some o) (hy : TakesC P ops C o v a) (hw : C w) (h : K (a.put o.dst v) w) : wpOpIn (fen none) 0 P ops Q i K a w := by
  unfold Go.wpOpIn
  simp only [hi, hy.wanted, if_true, Oper.wpIn, Oper.semAt_none, hy.run w hw, Oper.uponIn]
  exact ⟨fun f hf => (by rw [hy.about w hw] at hf; cases hf), h⟩
theorem op_putC {j : Nat} {oi oj : Oper} {v : Value} (hj : ops[j]? = some oj) (hap : oi.apart ops oj = true) (hsi : ∀ cs b, oi.op ≠ .select cs b) (hsj : ∀ cs b, oj.op ≠ .select cs b)
    (hQ : ∀ c a w, Q (.panic c) (a.put oi.dst v) w → Q (.panic c) a w) {K : Act → World → Prop} {a : Act} {w : World} (h : wpOpIn (fen none) 0 P ops Q j K (a.put oi.dst v) w) :
    wpOpIn (fen none) 0 P ops Q j (fun a' w' => PassC P ops oi oj a a' ∧ K (a'.put oi.dst v) w') a w := by
  obtain ⟨h1, h2, h3⟩ := Oper.apart_spec hap
  have keep : ∀ u, PassC P ops oi oj a (a.put oj.dst u) := fun u => ⟨execOp_put oi hsi a oj.dst u h3, wanted_put oi a oj.dst u h3, fun w => about_put oi w a oj.dst u h3⟩
  have keepD : ∀ d u, PassC P ops oi oj a (Act.put { a with defers := d :: a.defers } oj.dst u) := fun d u => by
    have h := (⟨execOp_put oi hsi { a with defers := d :: a.defers } oj.dst u h3, wanted_put oi { a with defers := d :: a.defers } oj.dst u h3, fun w => about_put oi w { a with defers := d :: a.defers } oj.dst u h3⟩ : PassC P ops oi oj { a with defers := d :: a.defers } _)
    exact ⟨h.run, h.wanted, h.about⟩
  unfold wpOpIn at *
  simp only [hj] at *
  rw [wanted_put oj a oi.dst v h1, about_put oj w a oi.dst v h1] at h
  split
  · rename_i hw
    simp only [hw, if_true] at h
    unfold Oper.wpIn at *
    rw [about_put oj w a oi.dst v h1] at h
    refine ⟨h.1, ?_⟩
    have h := h.2
    rw [Oper.semAt_none, execOp_put oj hsj a oi.dst v h1] at h
    rw [Oper.semAt_none]
    generalize (execOp a.eval oj).run P w = r at *
    cases r with
    | ok x w' =>
      cases x <;> simp only [Oper.uponIn] at h ⊢
      case value u => exact ⟨keep u, by rw [← Act.put_comm a v u h2]; exact h⟩
      case skip => exact ⟨keep _, by rw [← Act.put_comm a v undef h2]; exact h⟩
      case defer d =>
        refine ⟨keepD d _, ?_⟩
        rw [← Act.put_comm _ v undef h2, ← Act.put_defers]
        exact h
      case enter f args =>
        refine ⟨h.1, CallsIn.mono h.2 fun e w'' he => ?_⟩
        cases e with
        | returned u => exact ⟨keep u, by rw [← Act.put_comm a v u h2]; exact he⟩
        | panicked c => exact hQ _ _ _ he
        | outgrown => exact he
      case row row args => exact ⟨h.1, RowsIn.mono h.2 fun u w'' he => ⟨keep u, by rw [← Act.put_comm a v u h2]; exact he⟩⟩
      case round l f tmps assign body =>
        refine ⟨h.1, RoundIn.mono h.2 fun e w'' he => ?_⟩
        cases e with
        | returned u => exact ⟨keep u, by rw [← Act.put_comm a v u h2]; exact he⟩
        | panicked c => exact hQ _ _ _ he
        | outgrown => exact he
    | halt x w' =>
      cases x <;> simp only [Oper.uponIn] at h ⊢
      case panic u => exact hQ _ _ _ h
  · rename_i hw
    simp only [hw] at h
    exact ⟨h.1, keep _, by rw [← Act.put_comm a v undef h2]; exact h.2⟩
theorem anyC_first {i : Nat} {oi : Oper} {v : Value} (hi : ops[i]? = some oi) (hsel : ∀ (j : Nat) (o : Oper) cs b, ops[j]? = some o → o.op ≠ .select cs b) (hQ : ∀ c a w, Q (.panic c) (a.put oi.dst v) w → Q (.panic c) a w) :
    ∀ (f : Nat) (l : Array Bool) (a : Act) (w : World),
      (∀ j oj, ops[j]? = some oj → j ≠ i → l.getD j true = false → (∀ e ∈ oj.after, Region.binds .any e = true → e.on ≠ i) → oi.apart ops oj = true) →
      i ∈ Region.ready .any ops l → TakesC P ops C oi v a → anyC P ops C Q f (l.setIfInBounds i true) (a.put oi.dst v) w → anyC P ops C Q (f + 1) l a w := by
  intro f
  induction f with
  | zero =>
    intro l a w _ hr hy H
    refine ⟨H.1, fun h => (by rw [h] at hr; cases hr), fun j hj => ?_⟩
    by_cases hji : j = i
    · subst hji; exact hy.op hi H.1 H
    · have := ready_mono hj hji
      rw [H.2.1] at this
      cases this
  | succ f ih =>
    intro l a w hfree hr hy H
    refine ⟨H.1, fun h => (by rw [h] at hr; cases hr), fun j hj => ?_⟩
    by_cases hji : j = i
    · subst hji; exact hy.op hi H.1 H
    · have h1 := H.2.2 j (ready_mono hj hji)
      obtain ⟨hjun, oj, hoj, hall⟩ := mem_ready.1 hj
      have hnot : ∀ e ∈ oj.after, Region.binds .any e = true → e.on ≠ i := fun e he hb heq => by
        have h1 := hall e he hb
        have h0 := (mem_ready.1 hr).1
        rw [heq] at h1
        rcases Nat.lt_or_ge i l.size with h' | h'
        · simp [h'] at h0 h1; rw [h0] at h1; cases h1
        · simp [Array.getElem?_eq_none h'] at h1
      have h2 := op_putC hoj (hfree j oj hoj hji hjun hnot) (fun cs b => hsel i oi cs b hi) (fun cs b => hsel j oj cs b hoj) hQ h1
      have hfree' : ∀ k ok, ops[k]? = some ok → k ≠ i → (l.setIfInBounds j true).getD k true = false →
          (∀ e ∈ ok.after, Region.binds .any e = true → e.on ≠ i) → oi.apart ops ok = true := fun k ok hk hki hun hno => by
        refine hfree k ok hk hki ?_ hno
        by_cases hjk : j = k
        · subst hjk; exact hjun
        · rw [getD_set_ne true hjk] at hun; exact hun
      refine wpOpIn_mono (fun a' w' h3 => ih (l.setIfInBounds j true) a' w' hfree' (ready_mono hr (Ne.symm hji)) (hy.pass h3.1) ?_) h2
      rw [Array.setIfInBounds_comm _ _ hji]
      exact h3.2
end
section
variable {P : Program} {w0 : World} {Q : Exit → Act → World → Prop} {n : Nat} {ds : List Deferred} {k : List It} {env env' : Env} {H H' Hc : Heap} {ops : Array Oper}
/-- any order; what is read lies in 'Hc' -/
def WC (P : Program) (w0 : World) (Q : Exit → Act → World → Prop) (n : Nat) (ds : List Deferred) (k : List It) (ops : Array Oper) (Hc : Heap) (fuel : Nat) (listed : Array Bool) (env : Env) (H : Heap) : Prop :=
  ∀ a w, Agree n env a → a.defers = ds → Sat w0 H w → anyC P ops (Sat w0 Hc) (Q0 P Q k) fuel listed a w
theorem W_anyC {id : Nat} {l : List Oper} (Hc : Heap) (hm : P.follows .mixedOrders = true) (h : WC P w0 Q n ds k l.toArray Hc l.length (Array.replicate l.length false) env H) : W P none w0 Q n ds (.code (.region id l.toArray true) :: k) env H := by
  intro a w ha hd hs
  show (Code.region id l.toArray true).wpIn (fen none) 0 P (Cont P none Q k) a w
  exact wpIn_mono (wpIn_region_any hm (by simpa using (h a _ ha hd hs.drew).any)) fun _ _ _ => Q0_of
theorem W_anyCsr {id : Nat} {l : List Oper} {y : Code} (Hc : Heap) (hm : P.follows .mixedOrders = true) (h : WC P w0 Q n ds (.code y :: k) l.toArray Hc l.length (Array.replicate l.length false) env H) : W P none w0 Q n ds (.code (.seq (.region id l.toArray true) y) :: k) env H :=
  W_seq (W_anyC Hc hm h)
theorem WC_done {fuel : Nat} {listed : Array Bool} (hh : HSub H Hc) (hr : Region.ready .any ops listed = []) (h : W P none w0 Q n ds k env H) : WC P w0 Q n ds k ops Hc fuel listed env H := fun a w ha hd hs => by
  have hq : Q0 P Q k .normal a w := h a w ha hd hs
  cases fuel with
  | zero => exact ⟨hs.hsub hh, hr, hq⟩
  | succ f => exact ⟨hs.hsub hh, fun _ => hq, by rw [hr]; simp⟩
/-- it calls no function -/
def NoCall : Op → Bool
  | .call ⟨.builtin _, _, _⟩ => true
  | .call _ => false
  | _ => true
theorem about_nocall {o : Oper} (h : NoCall o.op = true) (w : World) (ρ : Operand → Value) : o.about P w ρ = none := by
  unfold Oper.about
  cases ho : o.op <;> first | rfl | skip
  rename_i c
  obtain ⟨c, args, tys⟩ := c
  rw [ho] at h
  cases c with
  | builtin b => simp [resolve, Result.andThen, Target.leads]
  | _ => simp [NoCall] at h
theorem WC_take (i : Nat) {op : Op} {ty : TypeId} {v : Value} {d : Nat} {pos : String} {aft : Array Edge} {fuel : Nat} {listed l' : Array Bool} (hi : ops[i]? = some ⟨some d, op, ty, pos, aft, none⟩) (hs : Region.noSelect ops = true) (hf : Region.free .any ops listed i = true) (hr : (Region.ready .any ops listed).contains i = true)
    (hcall : NoCall op = true) (hl : listed.setIfInBounds i true = l') (hx : Ex P n env (Sat w0 Hc) op ty v) (hd : Nat.blt d n = true)
    (h : WC P w0 Q n ds k ops Hc fuel l' ((d, v) :: env) H) : WC P w0 Q n ds k ops Hc (fuel + 1) listed env H := fun a w ha hds hsat => by
  subst hl
  exact anyC_first hi (Region.noSelect_spec hs) (fun _ _ _ hq => hq.elim) fuel listed a w (Region.free_spec hi hf) (by simpa using hr)
    ⟨by simp [Region.wanted], fun w hw => hx a w _ _ _ _ ha hw, fun w _ => about_nocall hcall w _⟩ (h _ w (ha.put (d := some d) hd) hds hsat)
theorem wc_op {i : Nat} {o : Oper} {K : Act → World → Prop} {a : Act} {w : World} (hi : ops[i]? = some o) (h1 : wpListIn (fen none) 0 P ops (Cont P none (fun _ _ _ => False) [.goal K]) [o] a w) : wpOpIn (fen none) 0 P ops (Q0 P Q k) i K a w := by
  unfold wpOpIn
  rw [hi]
  unfold wpListIn at h1
  show if _ then _ else _
  split
  · rename_i hw
    rw [if_pos hw] at h1
    unfold Oper.wpIn
    refine ⟨h1.1, ?_⟩
    have h2 := h1.2
    generalize (o.semAt (fen none).round a.eval).run P w = r at h2 ⊢
    cases r with
    | ok x w' =>
      cases x <;> simp only [Oper.uponIn] at h2 ⊢ <;>
        first
          | exact h2
          | exact ⟨h2.1, CallsIn.mono h2.2 (fun e w'' he => by cases e <;> first | exact he | exact he.elim | (obtain ⟨_, _, hf⟩ := he; exact hf.elim))⟩
          | exact ⟨h2.1, RowsIn.mono h2.2 (fun _ _ he => he)⟩
          | exact ⟨h2.1, RoundIn.mono h2.2 (fun e w'' he => by cases e <;> first | exact he | exact he.elim | (obtain ⟨_, _, hf⟩ := he; exact hf.elim))⟩
    | halt x w' => cases x <;> simp only [Oper.uponIn] at h2 ⊢ <;> first | exact h2 | exact h2.elim
  · rename_i hw
    rw [if_neg hw] at h1
    exact h1
/-- only one is ready: it is walked as ever -/
theorem WC_one (i : Nat) {o : Oper} {fuel : Nat} {listed l' : Array Bool} (hh : HSub H Hc) (hr : Region.ready .any ops listed = [i]) (hi : ops[i]? = some o) (hl : listed.setIfInBounds i true = l')
    (h : W P none w0 (fun _ _ _ => False) n ds [.ops ops [o], .goal (fun a w => anyC P ops (Sat w0 Hc) (Q0 P Q k) fuel l' a w)] env H) : WC P w0 Q n ds k ops Hc (fuel + 1) listed env H := fun a w ha hds hsat => by
  subst hl
  refine ⟨hsat.hsub hh, fun h0 => (by rw [hr] at h0; cases h0), fun j hj => ?_⟩
  rw [hr] at hj
  obtain rfl : j = i := by simpa using hj
  exact wc_op hi (h a w ha hds hsat)
theorem WC_two (i j : Nat) {o o' : Oper} {fuel : Nat} {listed l' l'' : Array Bool} (hh : HSub H Hc) (hr : Region.ready .any ops listed = [i, j]) (hi : ops[i]? = some o) (hj : ops[j]? = some o') (hl : listed.setIfInBounds i true = l') (hl' : listed.setIfInBounds j true = l'')
    (h : W P none w0 (fun _ _ _ => False) n ds [.ops ops [o], .goal (fun a w => anyC P ops (Sat w0 Hc) (Q0 P Q k) fuel l' a w)] env H)
    (h' : W P none w0 (fun _ _ _ => False) n ds [.ops ops [o'], .goal (fun a w => anyC P ops (Sat w0 Hc) (Q0 P Q k) fuel l'' a w)] env H) : WC P w0 Q n ds k ops Hc (fuel + 1) listed env H := fun a w ha hds hsat => by
  subst hl hl'
  refine ⟨hsat.hsub hh, fun h0 => (by rw [hr] at h0; cases h0), fun x hx => ?_⟩
  rw [hr] at hx
  rcases (show x = i ∨ x = j by simpa using hx) with rfl | rfl
  · exact wc_op hi (h a w ha hds hsat)
  · exact wc_op hj (h' a w ha hds hsat)
theorem WC_goal {fuel : Nat} {l' : Array Bool} {k' : List It} {Q' : Exit → Act → World → Prop} (h : WC P w0 Q n ds k ops Hc fuel l' env H) : W P none w0 Q' n ds (.goal (fun a w => anyC P ops (Sat w0 Hc) (Q0 P Q k) fuel l' a w) :: k') env H :=
  W_goal fun a w ha hd hs => h a w ha hd hs
/-- the ways of a piece of code meet again -/
theorem W_cut {c : Code} (env' : Env) (H' : Heap) (h1 : W P none w0 (fun _ _ _ => False) n ds [.code c, .goal (JoinJ w0 n ds env' H')] env H) (h : W P none w0 Q n ds k env' H') : W P none w0 Q n ds (.code c :: k) env H := fun a w ha hd hs => by
  show c.wpIn (fen none) 0 P (Cont P none Q k) a w
  refine wpIn_mono (h1 a w ha hd hs) fun e a2 w2 hq => ?_
  cases e with
  | normal => exact h a2 w2 hq.1 hq.2.1 hq.2.2
  | exit id => exact hq.elim
  | goto l => exact hq.elim
  | ret => exact hq.elim
  | panic ch => exact hq.elim
  | outgrown => exact hq.elim
end
end Go.Sl
namespace Go.Sl
open Go.RowKit
section
variable {P : Program} {rd : Option Nat} {w0 : World} {Q : Exit → Act → World → Prop} {n : Nat} {ds : List Deferred} {k : List It} {env env' : Env} {H H' : Heap} {all : Array Oper} {rest : List Oper}
variable {d : Nat} {x y c : Operand} {t u ty : TypeId} {pos : String} {aft : Array Edge} {v : Value}
theorem eqItems_ints {e : TypeId} {q : IntKind} {by_ : Nat} {z : Value} (he : Ty P e (.int q) 1 z by_) (l m : List Int) (w : World) : ∀ is : List Nat, (∀ j ∈ is, j < l.length ∧ j < m.length) →
    (Op.eqItems 9999 e 1 (l.map (.int q)).toArray (m.map (.int q)).toArray is).run P w = .ok (is.all fun j => decide (l.getD j 0 = m.getD j 0)) w
  | [], _ => by simp [Op.eqItems]
  | j :: is, h => by
    obtain ⟨h1, h2⟩ := h j List.mem_cons_self
    have ih := eqItems_ints he l m w is (fun i hi => h i (List.mem_cons_of_mem _ hi))
    have p : ∀ (r : List Int), j < r.length → (part e (r.map (.int q)).toArray (j * 1)).run P w = .ok (.int q (r.getD j 0)) w := fun r hr => by
      simp [part, he.isAgg, flat, Result.andThen, List.getD, hr]
    have e1 : (Op.equalIn 9999 e (.int q (l.getD j 0)) (.int q (m.getD j 0))).run P w = .ok (decide (l.getD j 0 = m.getD j 0)) w := by
      rw [run_equalIn_int w 9998 e q q _ _ he.und]; rfl
    simp only [Op.eqItems, Sem.run_bind, p l h1, p m h2, Result.andThen_ok, e1, List.all_cons]
    cases decide (l.getD j 0 = m.getD j 0) with
    | true => simpa using ih
    | false => simp
theorem range_all_eq {l m : List Int} (h : l.length = m.length) : ((List.range l.length).all fun j => decide (l.getD j 0 = m.getD j 0)) = decide (l = m) := by
  by_cases e : l = m
  · subst e; simp
  · rw [decide_eq_false e, ← Bool.not_eq_true, List.all_eq_true]
    intro hh
    refine e (List.ext_getElem h fun i h1 h2 => ?_)
    have := hh i (List.mem_range.2 h1)
    simpa [List.getD, h1, h2] using this
theorem X_eqArr {e : TypeId} {q : IntKind} {len s by1 by_ : Nat} {z z1 : Value} {l m : List Int} {xs ys : Array Value} {C : World → Prop} (hx : opv env x = some (.agg xs)) (hy : opv env y = some (.agg ys)) (hxs : xs = (l.map (.int q)).toArray) (hys : ys = (m.map (.int q)).toArray)
    (ht : Ty P t (.array len e) s z1 by1) (he : Ty P e (.int q) 1 z by_) (hc : P.cellsOf e = 1) (hg : P.eqGuardType P.depth t = false) (hl : l.length = len) (hm : m.length = len) :
    Ex P n env C (.binOp .eql t x y u) ty (.bool (decide (l = m))) := fun a w d pos aft g ha _ => by
  subst hxs hys hl
  obtain ⟨i, hi, _⟩ := he.info
  have h1 : (Op.equalIn 10000 t (.agg (l.map (.int q)).toArray) (.agg (m.map (.int q)).toArray)).run P w = .ok (decide (l = m)) w := by
    rw [run_equalIn_array w 9999 _ _ ht.und hi, hc, eqItems_ints he l m w _ (fun j hj => by have := List.mem_range.1 hj; omega), range_all_eq hm.symm]
  simp [execOp, ha.opv hx, ha.opv hy, run_eqGuard_agg w .eql t x y _ _ hg, run_eql_struct, h1, Result.andThen]
end
end Go.Sl
namespace Go.Sl
open Go.RowKit
section
variable {P : Program} {rd : Option Nat} {w0 : World} {Q : Exit → Act → World → Prop} {n : Nat} {ds : List Deferred} {k : List It} {env env' : Env} {H H' : Heap}
def CutJ (w0 : World) (n : Nat) (ds : List Deferred) {X : Type} (E : X → Env) (HH : X → Heap) (I : X → Prop) (a : Act) (w : World) : Prop := ∃ x, I x ∧ Agree n (E x) a ∧ a.defers = ds ∧ Sat w0 (HH x) w
/-- a piece of code, and what is known behind it: of something that came up in it -/
theorem W_cutX {X : Type} {c : Code} (E : X → Env) (HH : X → Heap) (I : X → Prop) (h1 : W P rd w0 (fun _ _ _ => False) n ds [.code c, .goal (CutJ w0 n ds E HH I)] env H) (h : ∀ x, I x → W P rd w0 Q n ds k (E x) (HH x)) : W P rd w0 Q n ds (.code c :: k) env H := fun a w ha hd hs => by
  show c.wpIn (fen rd) 0 P (Cont P rd Q k) a w
  refine wpIn_mono (h1 a w ha hd hs) fun e a2 w2 hq => ?_
  cases e with
  | normal =>
    obtain ⟨x, hI, hA, hD, hS⟩ := hq
    exact h x hI a2 w2 hA hD hS
  | exit id => exact hq.elim
  | goto l => exact hq.elim
  | ret => exact hq.elim
  | panic ch => exact hq.elim
  | outgrown => exact hq.elim
theorem W_joinX {X : Type} {E : X → Env} {HH : X → Heap} {I : X → Prop} {k' : List It} (x : X) (hI : I x) (he : sub (E x) env) (hh : HSub H (HH x)) : W P rd w0 Q n ds (.goal (CutJ w0 n ds E HH I) :: k') env H :=
  W_goal fun _ _ ha hd hs => ⟨x, hI, ha.weaken (look_of_sub he), hd, hs.hsub hh⟩
/-- a condition whose ways meet again, of something that came up in them -/
theorem W_condX {X : Type} {c : Operand} {x y : Code} {t : Bool} {p : Prop} (E : X → Env) (HH : X → Heap) (I : X → Prop) (hc : opv env c = some (.bool t)) (hp : t = true ↔ p)
    (ht : p → W P rd w0 (fun _ _ _ => False) n ds [.code x, .goal (CutJ w0 n ds E HH I)] env H) (hf : ¬ p → W P rd w0 (fun _ _ _ => False) n ds [.code y, .goal (CutJ w0 n ds E HH I)] env H)
    (h : ∀ x, I x → W P rd w0 Q n ds k (E x) (HH x)) : W P rd w0 Q n ds (.code (.cond c x y) :: k) env H := fun a w ha hd hs => by
  have mono : ∀ z : Code, W P rd w0 (fun _ _ _ => False) n ds [.code z, .goal (CutJ w0 n ds E HH I)] env H → z.wpIn (fen rd) 0 P (Cont P rd Q k) a w := fun z hz => by
    refine wpIn_mono (hz a w ha hd hs) fun e a2 w2 hq => ?_
    cases e with
    | normal =>
      obtain ⟨x, hI, hA, hD, hS⟩ := hq
      exact h x hI a2 w2 hA hD hS
    | exit id => exact hq.elim
    | goto l => exact hq.elim
    | ret => exact hq.elim
    | panic ch => exact hq.elim
    | outgrown => exact hq.elim
  exact wpIn_cond_split (ha.opv hc) (fun e => mono x (ht (hp.1 e))) (fun e => mono y (hf (fun q => by rw [hp.2 q] at e; cases e)))
theorem X_seq_s {a b : ByteArray} {x y : Operand} {t u ty : TypeId} {C : World → Prop} (hx : opv env x = some (.string a)) (hy : opv env y = some (.string b)) : Ex P n env C (.binOp .eql t x y u) ty (.bool (a.toList == b.toList)) := fun a' w d pos aft g ha _ => by
  have he : (eqGuard .eql t x y (.string a) (.string b)).run P w = .ok () w := by simp [eqGuard]
  simp [execOp, ha.opv hx, ha.opv hy, he, Go.binOp, Op.stringOp, Result.andThen]
theorem X_build {t ty : TypeId} {s by_ : Nat} {z : Value} {td : TypeDesc} {pl : List (Nat × Nat)} {parts : List (Nat × Operand)} {ps : List (Nat × List Value)} {l : List Value} {C : World → Prop} (ht : Ty P t td s z by_) (hst : StructPl P t pl)
    (hp : Parts env (fun i => pl[i]?) s parts ps) (hz : Nat.beq z.cells.size s = true) (hl : fillL z.cells.toList ps = l) : Ex P n env C (.build t parts.toArray) ty (.agg l.toArray) := fun a w d pos aft g ha _ => by
  obtain ⟨fs, h1, h2⟩ := hst.is
  obtain ⟨out, ho, hol⟩ := hp.run ha (cells := z.cells) (by simpa using hz)
  have hout : out = l.toArray := by apply Array.ext'; rw [hol, hl]
  have h2' := h2 w
  have ho' : Instr.fill (pl.toArray[·]?) z.cells (parts.map fun (i, x) => (i, a.eval x)) = some out := by simpa using ho
  have hr : (Instr.build t (parts.map fun (i, x) => (i, a.eval x)).toArray).run P w = .ok (.agg l.toArray) w := by
    unfold Instr.build
    simp only [Sem.run_bind, ht.zero, Result.andThen, run_underlying h1]
    rw [h2']
    simp only [ho', hout, Sem.run_pure]
  simp [execOp, hr, Result.andThen]
theorem X_sliceAt {b o len cap l hh s es by_ eb d' : Nat} {x : Operand} {t ty : TypeId} {lo hi : Option Operand} {e : TypeId} {z ez : Value} {ed : TypeDesc} {C : World → Prop} (hx : opv env x = some (.slice (some ⟨b, o, none⟩) len cap)) (ht : Ty P t (.slice e) s z by_) (he : Ty P e ed es ez eb)
    (hlo : optIdx env 0 lo l) (hhi : optIdx env len hi hh) (h1 : l ≤ hh) (h2 : hh ≤ cap) (hd' : d' = if cap = l then o else o + l * es) : Ex P n env C (.slice t x lo hi none) ty (.slice (some ⟨b, d', none⟩) (hh - l) (cap - l)) := fun a w d pos aft g ha _ => by
  subst hd'
  have := run_slice_slice (P := P) (w := w) (ad := some ⟨b, o, none⟩) ha ht he hlo hhi h1 h2
  have ea : (if cap = l then some (⟨b, o, none⟩ : Addr) else (some (⟨b, o, none⟩ : Addr)).map (·.add (l * es))) = some ⟨b, if cap = l then o else o + l * es, none⟩ := by
    split <;> simp [addr_add]
  rw [ea] at this
  simp [execOp, ha.opv hx, this, Result.andThen]
theorem hsub_left {S H : Heap} : HSub (S ++ H) S := by
  have h : HSub (S ++ H) (S ++ []) := HSub.app (TakeS.here H) (HSub.nil H)
  rwa [List.append_nil] at h
theorem hsub_right {S H : Heap} : HSub (S ++ H) H := .dropS (.refl _)
theorem Holds.drop {b o o' m cap : Nat} {xs : List Value} (h : Holds w0 H (some ⟨b, o, none⟩) xs) (hl : xs.length ≤ cap) (ho : m < cap → o' = o + m) : Holds w0 H (some ⟨b, o', none⟩) (xs.drop m) := fun j x hx => by
  rw [List.getElem?_drop] at hx
  have hj := (List.getElem?_eq_some_iff.1 hx).1
  obtain ⟨b1, o1, e, hc⟩ := h _ _ hx
  cases e
  rw [ho (by omega)]
  exact ⟨b, _, rfl, by rw [Nat.add_assoc]; exact hc⟩
end
end Go.Sl
