/-
  Own work: contracts of functions that the statement reaches, and plain facts on what they compute; each theorem says its conditions.
-/
import Derived.Test.YtknbohnoiigioaaO3
set_option linter.all false
set_option linter.unusedSimpArgs false
set_option linter.unusedVariables false
namespace Go.Proofs.Ytknbohnoiigioaa
open Go Go.Sl
attribute [local irreducible] W

/-- what the map says of a key -/
def kv {K : Type} [DecidableEq K] (m : List K) (τ : K → Nat) (x : K) : Int := if inO m x then (τ x : Int) else 0
theorem kv_in {K : Type} [DecidableEq K] {m : List K} {τ : K → Nat} {x : K} (h : x ∈ m) : kv m τ x = τ x := by unfold kv; rw [if_pos (inO_iff.2 h)]
theorem asc_inj {K : Type} {m : List K} {τ : K → Nat} (h : m.Pairwise (fun x y => τ x < τ y)) {x y : K} (hx : x ∈ m) (hy : y ∈ m) (e : τ x = τ y) : x = y := by
  obtain ⟨i, hi, rfl⟩ := List.getElem_of_mem hx
  obtain ⟨j, hj, rfl⟩ := List.getElem_of_mem hy
  have hp := List.pairwise_iff_getElem.1 h
  rcases Nat.lt_trichotomy i j with hij | rfl | hij
  · have := hp i j hi hj hij; omega
  · rfl
  · have := hp j i hj hi hij; omega
open Go.Proofs in
/-- what is sorted by what the map says is the order -/
theorem sorted_is {K : Type} [DecidableEq K] {m d : List K} {τ : K → Nat} (hp : d.Perm m) (hn : m.Nodup) (h : m.Pairwise (fun x y => τ x < τ y))
    (hs : ∀ (i j : Nat) x y, i < j → d[i]? = some x → d[j]? = some y → ltOf (fun x y => Lib.compareInt (kv m τ x) (kv m τ y)) y x = false) : d = m := by
  refine asc_unique hp (List.pairwise_iff_getElem.2 fun i j hi hj hij => ?_) h
  have h1 := lt_key _ (hs i j _ _ hij (List.getElem?_eq_getElem hi) (List.getElem?_eq_getElem hj))
  have mi : d[i] ∈ m := hp.mem_iff.1 (List.getElem_mem hi)
  have mj : d[j] ∈ m := hp.mem_iff.1 (List.getElem_mem hj)
  rw [kv_in mi, kv_in mj] at h1
  have hne : τ d[i] ≠ τ d[j] := fun e => by
    have := asc_inj h mi mj e
    exact (List.pairwise_iff_getElem.1 (hp.nodup_iff.2 hn)) i j hi hj hij this
  omega

theorem cmpI_reads {room last c bo bm b2 : Nat} {m : List Int} {l : Ents Int} {τ : Int → Nat} (hO : OrdIs room m last l c τ) {w0 : World} {H : Heap} {C : World → Prop} (hC : ∀ w, C w → C w.drew) (hCS : ∀ w, C w → Sat w0 ((b2, .cells 24 1 [.pointer (some ⟨bo, 0, none⟩)]) :: (bo, .cells 57 3 [.int .i64 (room : Int), .int .i64 ((last : Nat) : Int), .map (some bm)]) :: (bm, .obj (mapO (Value.int .i64) l c)) :: H) w) (x y : Int) :
    ∀ w, C w → CallsIn Fence.wide 0 Try.prog 30 [(Value.int .i64) x, (Value.int .i64) y, .pointer (some ⟨b2, 0, none⟩)].toArray w fun e w' => e = .returned (.int .i64 (Lib.compareInt (kv m τ x) (kv m τ y))) ∧ C w' := by
  refine R_enter Try.func30 rfl Try.ntmps30 rfl rfl rfl (by kernel_rfl) (by decide +kernel) hC ?_
  refine WR_x (Ex.mono hCS (X_load rfl ty24 rfl (Cell.own (b := b2) (by repeat (first | exact List.mem_cons_self | apply List.mem_cons_of_mem | apply List.mem_append_right)) rfl))) rfl ?_
  refine WR_x (Ex.mono hCS (X_nilCheck rfl)) rfl ?_
  refine WR_x (Ex.mono hCS (X_fieldAddr rfl fld57_2 (by decide))) rfl ?_
  refine WR_x (Ex.mono hCS (X_load rfl ty55 rfl (Cell.own (b := bo) (by repeat (first | exact List.mem_cons_self | apply List.mem_cons_of_mem | apply List.mem_append_right)) rfl))) rfl ?_
  refine WR_x (Ex.mono hCS (X_move rfl)) rfl ?_
  refine WR_x (Ex.mono hCS (X_lookup (a := x) (kf := (Value.int .i64)) (l := l) (cl := c) (b := bm) (zE := .int .i64 0) rfl rfl keyI ty55 zE (by repeat (first | exact List.mem_cons_self | apply List.mem_cons_of_mem | apply List.mem_append_right)))) rfl ?_
  simp only [Bool.false_eq_true, if_false]
  rw [hO.get]
  refine WR_x (Ex.mono hCS (X_load rfl ty24 rfl (Cell.own (b := b2) (by repeat (first | exact List.mem_cons_self | apply List.mem_cons_of_mem | apply List.mem_append_right)) rfl))) rfl ?_
  refine WR_x (Ex.mono hCS (X_nilCheck rfl)) rfl ?_
  refine WR_x (Ex.mono hCS (X_fieldAddr rfl fld57_2 (by decide))) rfl ?_
  refine WR_x (Ex.mono hCS (X_load rfl ty55 rfl (Cell.own (b := bo) (by repeat (first | exact List.mem_cons_self | apply List.mem_cons_of_mem | apply List.mem_append_right)) rfl))) rfl ?_
  refine WR_x (Ex.mono hCS (X_move rfl)) rfl ?_
  refine WR_x (Ex.mono hCS (X_lookup (a := y) (kf := (Value.int .i64)) (l := l) (cl := c) (b := bm) (zE := .int .i64 0) rfl rfl keyI ty55 zE (by repeat (first | exact List.mem_cons_self | apply List.mem_cons_of_mem | apply List.mem_append_right)))) rfl ?_
  simp only [Bool.false_eq_true, if_false]
  rw [hO.get]
  refine WR_call (.cons rfl (.cons rfl .nil)) Try.call31 rfl (fun w _ => Try.cmp_Compare_int (kv m τ x) (kv m τ y) w) ?_
  refine WR_x (Ex.mono hCS (X_assign rfl)) rfl ?_
  exact WR_ret Try.results30 rfl
open Go.Proofs in
theorem sortI_L {room last c bo bm b2 : Nat} {m : List Int} {l : Ents Int} {τ : Int → Nat} (hO : OrdIs room m last l c τ) {w0 : World} {H : Heap} {b tot cap : Nat} {d : List Int} (hd : d.length < 4611686018427387904) :
    LCalls Try.prog w0 29 #[.slice (some ⟨b, 0, none⟩) d.length cap, .func (.func 30) #[] #[.pointer (some ⟨b2, 0, none⟩)]] ((b, .cells 3 tot (d.map (Value.int .i64))) :: (b2, .cells 24 1 [.pointer (some ⟨bo, 0, none⟩)]) :: (bo, .cells 57 3 [.int .i64 (room : Int), .int .i64 ((last : Nat) : Int), .map (some bm)]) :: (bm, .obj (mapO (Value.int .i64) l c)) :: H)
      (fun v H' => v = .tuple #[] ∧ ∃ d' : List Int, d'.Perm d ∧ (∀ (i j : Nat) x y, i < j → d'[i]? = some x → d'[j]? = some y → ltOf (fun x y => Lib.compareInt (kv m τ x) (kv m τ y)) y x = false) ∧ H' = (b, .cells 3 tot (d'.map (Value.int .i64))) :: (b2, .cells 24 1 [.pointer (some ⟨bo, 0, none⟩)]) :: (bo, .cells 57 3 [.int .i64 (room : Int), .int .i64 ((last : Nat) : Int), .map (some bm)]) :: (bm, .obj (mapO (Value.int .i64) l c)) :: H) :=
  L_sort fun w hs => by
    have hlt : b < w.heap.size := (hs.own _ List.mem_cons_self).2.lt
    have := Try.slices_SortFunc_f29 (Value.int .i64) (fun _ => rfl) (fun x y => Lib.compareInt (kv m τ x) (kv m τ y)) (swo_key (kv m τ)) 30 #[.pointer (some ⟨b2, 0, none⟩)] b 0 cap d.toArray w Try.call30 (Go.Proofs.CmpReads.lays fun n os dk hdk x y => by
      have hsz : dk.size = d.length := by rw [hdk]; simp
      have hS : Sat w0 ((b, .cells 3 tot (dk.toList.map (Value.int .i64))) :: (b2, .cells 24 1 [.pointer (some ⟨bo, 0, none⟩)]) :: (bo, .cells 57 3 [.int .i64 (room : Int), .int .i64 ((last : Nat) : Int), .map (some bm)]) :: (bm, .obj (mapO (Value.int .i64) l c)) :: H) (sortWorld (Value.int .i64) w b 0 n dk os) := sat_sortWorld hs hsz
      have h := cmpI_reads (C := fun w' => ∃ q, w' = (sortWorld (Value.int .i64) w b 0 n dk os).drewN q) hO (fun w' ⟨q, e⟩ => ⟨q + 1, by rw [e]; rfl⟩) (fun w' ⟨q, e⟩ => by rw [e]; exact (hS.drewN q).drop) x y _ ⟨0, rfl⟩
      exact callsIn_wide.1 h) (holds_row hs) hlt (by simpa using hd)
    simpa using this

theorem cmpS_reads {room last c bo bm b2 : Nat} {m : List ByteArray} {l : Ents ByteArray} {τ : ByteArray → Nat} (hO : OrdIs room m last l c τ) {w0 : World} {H : Heap} {C : World → Prop} (hC : ∀ w, C w → C w.drew) (hCS : ∀ w, C w → Sat w0 ((b2, .cells 37 1 [.pointer (some ⟨bo, 0, none⟩)]) :: (bo, .cells 63 3 [.int .i64 (room : Int), .int .i64 ((last : Nat) : Int), .map (some bm)]) :: (bm, .obj (mapO Value.string l c)) :: H) w) (x y : ByteArray) :
    ∀ w, C w → CallsIn Fence.wide 0 Try.prog 35 [Value.string x, Value.string y, .pointer (some ⟨b2, 0, none⟩)].toArray w fun e w' => e = .returned (.int .i64 (Lib.compareInt (kv m τ x) (kv m τ y))) ∧ C w' := by
  refine R_enter Try.func35 rfl Try.ntmps35 rfl rfl rfl (by kernel_rfl) (by decide +kernel) hC ?_
  refine WR_x (Ex.mono hCS (X_load rfl ty37 rfl (Cell.own (b := b2) (by repeat (first | exact List.mem_cons_self | apply List.mem_cons_of_mem | apply List.mem_append_right)) rfl))) rfl ?_
  refine WR_x (Ex.mono hCS (X_nilCheck rfl)) rfl ?_
  refine WR_x (Ex.mono hCS (X_fieldAddr rfl fld63_2 (by decide))) rfl ?_
  refine WR_x (Ex.mono hCS (X_load rfl ty61 rfl (Cell.own (b := bo) (by repeat (first | exact List.mem_cons_self | apply List.mem_cons_of_mem | apply List.mem_append_right)) rfl))) rfl ?_
  refine WR_x (Ex.mono hCS (X_move rfl)) rfl ?_
  refine WR_x (Ex.mono hCS (X_lookup (a := x) (kf := Value.string) (l := l) (cl := c) (b := bm) (zE := .int .i64 0) rfl rfl keyS ty61 zE (by repeat (first | exact List.mem_cons_self | apply List.mem_cons_of_mem | apply List.mem_append_right)))) rfl ?_
  simp only [Bool.false_eq_true, if_false]
  rw [hO.get]
  refine WR_x (Ex.mono hCS (X_load rfl ty37 rfl (Cell.own (b := b2) (by repeat (first | exact List.mem_cons_self | apply List.mem_cons_of_mem | apply List.mem_append_right)) rfl))) rfl ?_
  refine WR_x (Ex.mono hCS (X_nilCheck rfl)) rfl ?_
  refine WR_x (Ex.mono hCS (X_fieldAddr rfl fld63_2 (by decide))) rfl ?_
  refine WR_x (Ex.mono hCS (X_load rfl ty61 rfl (Cell.own (b := bo) (by repeat (first | exact List.mem_cons_self | apply List.mem_cons_of_mem | apply List.mem_append_right)) rfl))) rfl ?_
  refine WR_x (Ex.mono hCS (X_move rfl)) rfl ?_
  refine WR_x (Ex.mono hCS (X_lookup (a := y) (kf := Value.string) (l := l) (cl := c) (b := bm) (zE := .int .i64 0) rfl rfl keyS ty61 zE (by repeat (first | exact List.mem_cons_self | apply List.mem_cons_of_mem | apply List.mem_append_right)))) rfl ?_
  simp only [Bool.false_eq_true, if_false]
  rw [hO.get]
  refine WR_call (.cons rfl (.cons rfl .nil)) Try.call31 rfl (fun w _ => Try.cmp_Compare_int (kv m τ x) (kv m τ y) w) ?_
  refine WR_x (Ex.mono hCS (X_assign rfl)) rfl ?_
  exact WR_ret Try.results35 rfl
open Go.Proofs in
theorem sortS_L {room last c bo bm b2 : Nat} {m : List ByteArray} {l : Ents ByteArray} {τ : ByteArray → Nat} (hO : OrdIs room m last l c τ) {w0 : World} {H : Heap} {b tot cap : Nat} {d : List ByteArray} (hd : d.length < 4611686018427387904) :
    LCalls Try.prog w0 34 #[.slice (some ⟨b, 0, none⟩) d.length cap, .func (.func 35) #[] #[.pointer (some ⟨b2, 0, none⟩)]] ((b, .cells 9 tot (d.map Value.string)) :: (b2, .cells 37 1 [.pointer (some ⟨bo, 0, none⟩)]) :: (bo, .cells 63 3 [.int .i64 (room : Int), .int .i64 ((last : Nat) : Int), .map (some bm)]) :: (bm, .obj (mapO Value.string l c)) :: H)
      (fun v H' => v = .tuple #[] ∧ ∃ d' : List ByteArray, d'.Perm d ∧ (∀ (i j : Nat) x y, i < j → d'[i]? = some x → d'[j]? = some y → ltOf (fun x y => Lib.compareInt (kv m τ x) (kv m τ y)) y x = false) ∧ H' = (b, .cells 9 tot (d'.map Value.string)) :: (b2, .cells 37 1 [.pointer (some ⟨bo, 0, none⟩)]) :: (bo, .cells 63 3 [.int .i64 (room : Int), .int .i64 ((last : Nat) : Int), .map (some bm)]) :: (bm, .obj (mapO Value.string l c)) :: H) :=
  L_sort fun w hs => by
    have hlt : b < w.heap.size := (hs.own _ List.mem_cons_self).2.lt
    have := Try.slices_SortFunc_f34 Value.string (fun _ => rfl) (fun x y => Lib.compareInt (kv m τ x) (kv m τ y)) (swo_key (kv m τ)) 35 #[.pointer (some ⟨b2, 0, none⟩)] b 0 cap d.toArray w Try.call35 (Go.Proofs.CmpReads.lays fun n os dk hdk x y => by
      have hsz : dk.size = d.length := by rw [hdk]; simp
      have hS : Sat w0 ((b, .cells 9 tot (dk.toList.map Value.string)) :: (b2, .cells 37 1 [.pointer (some ⟨bo, 0, none⟩)]) :: (bo, .cells 63 3 [.int .i64 (room : Int), .int .i64 ((last : Nat) : Int), .map (some bm)]) :: (bm, .obj (mapO Value.string l c)) :: H) (sortWorld Value.string w b 0 n dk os) := sat_sortWorld hs hsz
      have h := cmpS_reads (C := fun w' => ∃ q, w' = (sortWorld Value.string w b 0 n dk os).drewN q) hO (fun w' ⟨q, e⟩ => ⟨q + 1, by rw [e]; rfl⟩) (fun w' ⟨q, e⟩ => by rw [e]; exact (hS.drewN q).drop) x y _ ⟨0, rfl⟩
      exact callsIn_wide.1 h) (holds_row hs) hlt (by simpa using hd)
    simpa using this
end Go.Proofs.Ytknbohnoiigioaa
