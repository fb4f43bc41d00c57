/-
  Own work: contracts of functions that the statement reaches, and plain facts on what they compute; each theorem says its conditions.
-/
import Derived.Test.YtknbohnoiigioaaDoorW1toW10
import Derived.Test.YtknbohnoiigioaaDoorSlPtrtoSlRead
set_option linter.all false
set_option linter.unusedSimpArgs false
set_option linter.unusedVariables false
namespace Go.Proofs.YtknbohnoiigioaaDoor
open Go Go.Sl
attribute [local irreducible] W
/-- without a number -/
def del1 (l : List Int) (id : Int) : List Int := l.filter (fun x => decide (x ≠ id))
theorem del1_snoc {l : List Int} {id x : Int} {j : Nat} (h : l[j]? = some x) : del1 (l.take (j + 1)) id = del1 (l.take j) id ++ (if x = id then [] else [x]) := by
  unfold del1
  rw [takeAt h, List.filter_append]
  congr 1
  by_cases e : x = id
  · rw [if_pos e, List.filter_cons_of_neg (by simp [e])]; rfl
  · rw [if_neg e, List.filter_cons_of_pos (by simp [e])]; rfl
theorem del1_out {l : List Int} {id : Int} (h : id ∉ l) : del1 l id = l := by
  unfold del1
  rw [List.filter_eq_self]
  intro x hx
  exact decide_eq_true (fun e => h (e ▸ hx))
theorem del1_le (l : List Int) (id : Int) : (del1 l id).length ≤ l.length := List.length_filter_le _ _
set_option maxHeartbeats 1000000 in
theorem eqc_q {w0 : World} {H : Heap} {bd : Nat} {id i : Int} (hb : (bd, .cells 3 1 [.int .i64 id]) ∈ H)  : PureAt Tryd.prog w0 H 87 [.int .i64 i, .pointer (some ⟨bd, 0, none⟩)] (.bool (decide (i = id))) := by
  refine L_enter Tryd.func87 rfl Tryd.ntmps87 rfl rfl ?_
  refine W_sr ?_
  refine W_assign rfl rfl ?_
  refine W_nil ?_
  refine W_sr ?_
  refine W_move rfl rfl ?_
  refine W_load (v := .int .i64 id) rfl ty3 rfl (Cell.own hb rfl) rfl ?_
  refine W_bin rfl rfl b_eql rfl ?_
  refine W_assign rfl rfl ?_
  refine W_nil ?_
  refine W_ret1m (H2 := H) Tryd.results87 rfl (.nil _) (by repeat (first | with_reducible exact HSub.refl _ | refine HSub.cons (by repeat (first | exact Take.here _ | apply Take.next | apply Take.app)) ?_ | refine HSub.app (by repeat (first | with_reducible exact TakeS.here _ | apply TakeS.next | apply TakeS.app)) ?_ | exact HSub.nil _ | exact HSub.refl _ | refine HSub.drop ?_ | refine HSub.dropS ?_)) ?_
  exact ⟨rfl, rfl⟩
set_option maxHeartbeats 1000000 in
theorem index_L {w0 : World} {H : Heap} {l : List Int} {id : Int} {bd cap : Nat} {ad : Option Addr} (hl : l.length ≤ 4611686018427387904) (hbd : (bd, .cells 3 1 [.int .i64 id]) ∈ H) (hrow : Holds w0 H ad (l.map (Value.int .i64)))  : LCalls Tryd.prog w0 105 #[.slice ad l.length cap, .func (.func 87) #[] #[.pointer (some ⟨bd, 0, none⟩)]] (H) (fun v H' => ∃ z : Int, v = .int .i64 z ∧ ((∃ i : Nat, z = i ∧ l[i]? = some id ∧ id ∉ l.take i) ∨ (z = -1 ∧ id ∉ l)) ∧ H' = H) := by
  refine L_enter (l := [.slice ad l.length cap, .func (.func 87) #[] #[.pointer (some ⟨bd, 0, none⟩)]]) Tryd.func105 rfl Tryd.ntmps105 rfl rfl ?_
  refine W_sr ?_
  refine W_assign rfl rfl ?_
  refine W_nil ?_
  refine W_seq ?_
  refine W_sr ?_
  refine W_move rfl rfl ?_
  refine W_len rfl ty35 rfl rfl ?_
  refine W_move rfl rfl ?_
  refine W_nil ?_
  refine W_block ?_
  refine W_loopC (X := Nat) [(0, _), (1, _), (7, _)] (fun (i : Nat) => [(8, .int .i64 (i : Int))]) (fun _ => _) (fun (i : Nat) => H) (fun (i : Nat) => i ≤ l.length ∧ id ∉ l.take i) (fun (i : Nat) => l.length - i) 0 ⟨Nat.zero_le _, by simp⟩ (sub_cons rfl (sub_cons rfl (sub_cons rfl (sub_nil _)))) (sub_cons rfl (sub_nil _)) rfl (by repeat (first | with_reducible exact HSub.refl _ | refine HSub.cons (by repeat (first | exact Take.here _ | apply Take.next | apply Take.app)) ?_ | refine HSub.app (by repeat (first | with_reducible exact TakeS.here _ | apply TakeS.next | apply TakeS.app)) ?_ | exact HSub.nil _ | exact HSub.refl _ | refine HSub.drop ?_ | refine HSub.dropS ?_)) ?_
  rintro i ⟨hi, hn⟩
  simp only [List.cons_append, List.nil_append]
  refine W_sr ?_
  refine W_bin rfl rfl b_lss rfl ?_
  refine W_nil ?_
  refine W_seq ?_
  refine W_condPS (p := (i : Int) < (l.length : Int)) rfl (by simp) (fun q0 => ?_) (fun q0 => ?_)
  · skip
    refine W_skip ?_
    refine W_seq ?_
    refine W_block ?_
    refine W_sr ?_
    refine W_move rfl rfl ?_
    refine W_assign rfl rfl ?_
    refine W_nil ?_
    refine W_sr ?_
    obtain ⟨x, hx⟩ : ∃ x, l[i]? = some x := ⟨_, List.getElem?_eq_getElem (by omega)⟩
    obtain ⟨q0, p0, rfl, hc⟩ := hrow.at (i := i) (v := .int .i64 x) (by rw [List.getElem?_map, hx]; rfl)
    refine W_move rfl rfl ?_
    refine W_move rfl rfl ?_
    refine W_move rfl rfl ?_
    refine W_indexAddr (j := i) rfl rfl ty35 ty3 rfl (by omega) rfl rfl ?_
    refine W_load (v := .int .i64 x) rfl ty3 rfl (by rw [Nat.mul_one (i)]; exact hc) rfl ?_
    refine W_callqv (fa := []) (ca := [.pointer (some ⟨bd, 0, none⟩)]) rfl (.cons rfl .nil) rfl Tryd.call87 rfl (eqc_q (bd := bd) (id := id) hbd) ?_
    refine W_nil ?_
    refine W_condPS (p := x = id) rfl (by simp) (fun q1 => ?_) (fun q1 => ?_)
    · skip
      refine W_sr ?_
      refine W_move rfl rfl ?_
      refine W_assign rfl rfl ?_
      refine W_nil ?_
      refine W_ret1m Tryd.results105 rfl (.nil _) (.refl _) ?_
      subst q1
      exact ⟨i, rfl, .inl ⟨i, rfl, hx, hn⟩, rfl⟩
    · skip
      refine W_skip ?_
      refine W_blk ?_
      refine W_region ?_
      refine W_bin rfl rfl (b_add (m := ((i + 1 : Nat) : Int)) (by rw [i64w (by omega)]; omega)) rfl ?_
      refine W_move rfl rfl ?_
      refine W_nil ?_
      refine W_again (i + 1) ⟨by omega, by rw [takeAt hx, List.mem_append]; exact fun h => h.elim hn (fun h => q1 (List.mem_singleton.1 h).symm)⟩ (by omega) (sub_cons rfl (sub_cons rfl (sub_cons rfl (sub_cons rfl (sub_nil _))))) rfl (by repeat (first | with_reducible exact HSub.refl _ | refine HSub.cons (by repeat (first | exact Take.here _ | apply Take.next | apply Take.app)) ?_ | refine HSub.app (by repeat (first | with_reducible exact TakeS.here _ | apply TakeS.next | apply TakeS.app)) ?_ | exact HSub.nil _ | exact HSub.refl _ | refine HSub.drop ?_ | refine HSub.dropS ?_))
  · skip
    refine W_exit rfl ?_
    refine W_sr ?_
    refine W_assign rfl rfl ?_
    refine W_nil ?_
    refine W_ret1m Tryd.results105 rfl (.nil _) (.refl _) ?_
    obtain rfl : i = l.length := by omega
    exact ⟨-1, rfl, .inr ⟨rfl, by rwa [List.take_length] at hn⟩, rfl⟩
end Go.Proofs.YtknbohnoiigioaaDoor
namespace Go.Proofs.YtknbohnoiigioaaDoor
open Go Go.Sl
attribute [local irreducible] W
theorem take_set_at {d : List Int} {i : Nat} {x : Int} (h : i < d.length) : (d.set i x).take (i + 1) = d.take i ++ [x] := by
  rw [takeAt (l := d.set i x) (i := i) (x := x) (by rw [List.getElem?_set_self h]), List.take_set_of_le (Nat.le_refl i)]
theorem splice_take {l vs : List Value} {i : Nat} (h : i ≤ l.length) : (spliceL l i vs).take i = l.take i := by
  unfold spliceL
  rw [List.append_assoc, List.take_append_of_le_length (by rw [List.length_take]; omega), List.take_take, Nat.min_self]
set_option maxHeartbeats 1000000 in
theorem delete_L {w0 : World} {H : Heap} {l : List Int} {id : Int} {b bd tot cap : Nat} (hl : l.length ≤ 4611686018427387904) (hcap : l.length ≤ cap) (hbd : (bd, .cells 3 1 [.int .i64 id]) ∈ H)  : LCalls Tryd.prog w0 86 #[.slice (some ⟨b, 0, none⟩) l.length cap, .func (.func 87) #[] #[.pointer (some ⟨bd, 0, none⟩)]] ((b, .cells 3 tot ((l).map (Value.int .i64))) :: H) (fun v H' => v = .slice (some ⟨b, 0, none⟩) (del1 l id).length cap ∧ H' = (b, .cells 3 tot ((del1 l id).map (Value.int .i64))) :: H) := by
  refine L_enter (l := [.slice (some ⟨b, 0, none⟩) l.length cap, .func (.func 87) #[] #[.pointer (some ⟨bd, 0, none⟩)]]) Tryd.func86 rfl Tryd.ntmps86 rfl rfl ?_
  refine W_sr ?_
  refine W_assign rfl rfl ?_
  refine W_nil ?_
  refine W_sr ?_
  refine W_move rfl rfl ?_
  refine W_move rfl rfl ?_
  refine W_call (.cons rfl (.cons rfl .nil)) Tryd.call105 rfl ((index_L (l := l) (bd := bd) (id := id) hl (List.mem_cons_of_mem _ hbd) (Holds.own (b := b) (by repeat (first | exact List.mem_cons_self | apply List.mem_cons_of_mem | apply List.mem_append_right)))).hsub (.refl _)) ?_
  rintro v H' ⟨z, rfl, hz, hH⟩
  subst H'
  rcases hz with ⟨i0, rfl, hi0, hn0⟩ | ⟨rfl, hn0⟩
  · skip
    have hil : i0 + 1 ≤ l.length := (List.getElem?_eq_some_iff.1 hi0).1
    refine W_assign rfl rfl ?_
    refine W_nil ?_
    refine W_seq ?_
    refine W_sr ?_
    refine W_move rfl rfl ?_
    refine W_bin rfl rfl b_eql rfl ?_
    refine W_nil ?_
    refine W_condF rfl (decide_eq_false (by omega)) ?_
    refine W_skip ?_
    refine W_seq ?_
    refine W_sr ?_
    refine W_move rfl rfl ?_
    refine W_bin rfl rfl (b_add (m := ((i0 + 1 : Nat) : Int)) (by rw [i64w (by omega)]; omega)) rfl ?_
    refine W_assign rfl rfl ?_
    refine W_nil ?_
    refine W_block ?_
    refine W_loopC (X := (Nat × Nat × List Int)) [(0, _), (1, _)] (fun (x : (Nat × Nat × List Int)) => [(5, .int .i64 (x.1 : Int)), (6, .int .i64 (x.2.1 : Int))]) (fun _ => _) (fun (x : (Nat × Nat × List Int)) => (b, .cells 3 tot ((x.2.2).map (Value.int .i64))) :: H) (fun (x : (Nat × Nat × List Int)) => x.2.2.length = l.length ∧ x.2.1 ≤ l.length ∧ x.1 < x.2.1 ∧ x.2.2.take x.1 = del1 (l.take x.2.1) id ∧ x.2.2.drop x.2.1 = l.drop x.2.1) (fun (x : (Nat × Nat × List Int)) => l.length - x.2.1) (i0, i0 + 1, l) ⟨rfl, hil, Nat.lt_succ_self _, by rw [del1_snoc hi0, if_pos rfl, List.append_nil, del1_out hn0], rfl⟩ (sub_cons rfl (sub_cons rfl (sub_nil _))) (sub_cons rfl (sub_cons rfl (sub_nil _))) rfl (by repeat (first | with_reducible exact HSub.refl _ | refine HSub.cons (by repeat (first | exact Take.here _ | apply Take.next | apply Take.app)) ?_ | refine HSub.app (by repeat (first | with_reducible exact TakeS.here _ | apply TakeS.next | apply TakeS.app)) ?_ | exact HSub.nil _ | exact HSub.refl _ | refine HSub.drop ?_ | refine HSub.dropS ?_)) ?_
    rintro ⟨i, j, d⟩ ⟨hdl, hj, hij, hdt, hdd⟩
    dsimp only at hdl hj hij hdt hdd ⊢
    simp only [List.cons_append, List.nil_append]
    refine W_seq ?_
    refine W_sr ?_
    refine W_move rfl rfl ?_
    refine W_move rfl rfl ?_
    refine W_len rfl ty35 rfl rfl ?_
    refine W_bin rfl rfl b_lss rfl ?_
    refine W_nil ?_
    refine W_condPS (p := (j : Int) < (l.length : Int)) rfl (by simp) (fun q0 => ?_) (fun q0 => ?_)
    · skip
      refine W_skip ?_
      refine W_seq ?_
      refine W_block ?_
      refine W_sr ?_
      obtain ⟨x, hx⟩ : ∃ x, l[j]? = some x := ⟨_, List.getElem?_eq_getElem (by omega)⟩
      have hdx : d[j]? = some x := by
        have h := congrArg (fun q => q[0]?) hdd
        simpa [hx] using h
      refine W_move rfl rfl ?_
      refine W_move rfl rfl ?_
      refine W_indexAddr (j := j) rfl rfl ty35 ty3 rfl (by omega) (at_ := j) (by omega) rfl ?_
      refine W_load (v := .int .i64 x) rfl ty3 rfl (Cell.own (b := b) (by repeat (first | exact List.mem_cons_self | apply List.mem_cons_of_mem | apply List.mem_append_right)) (by rw [List.getElem?_map, hdx]; rfl)) rfl ?_
      refine W_assign rfl rfl ?_
      refine W_nil ?_
      refine W_sr ?_
      refine W_move rfl rfl ?_
      refine W_move rfl rfl ?_
      refine W_callqv (fa := []) (ca := [.pointer (some ⟨bd, 0, none⟩)]) rfl (.cons rfl .nil) rfl Tryd.call87 rfl (eqc_q (bd := bd) (id := id) (List.mem_cons_of_mem _ hbd)) ?_
      refine W_not rfl rfl ?_
      refine W_nil ?_
      refine W_condPS (p := ¬ x = id) rfl (by simp) (fun q1 => ?_) (fun q1 => ?_)
      · skip
        refine W_sr ?_
        refine W_move rfl rfl ?_
        refine W_move rfl rfl ?_
        refine W_move rfl rfl ?_
        refine W_indexAddr (j := i) rfl rfl ty35 ty3 rfl (by omega) (at_ := i) (by omega) rfl ?_
        refine W_store (l' := (d.set i x).map (Value.int .i64)) rfl rfl ty3 rfl rfl (b := b) (by repeat (first | exact List.mem_cons_self | apply List.mem_cons_of_mem | apply List.mem_append_right)) (by rw [Nat.blt_eq, List.length_map]; omega) (by rw [List.map_set]) (by repeat (first | exact Upd.head _ | apply Upd.tail | apply Upd.app)) ?_
        refine W_nil ?_
        refine W_region ?_
        refine W_move rfl rfl ?_
        refine W_bin rfl rfl (b_add (m := ((i + 1 : Nat) : Int)) (by rw [i64w (by omega)]; omega)) rfl ?_
        refine W_assign rfl rfl ?_
        refine W_nil ?_
        refine W_blk ?_
        refine W_region ?_
        refine W_move rfl rfl ?_
        refine W_bin rfl rfl (b_add (m := ((j + 1 : Nat) : Int)) (by rw [i64w (by omega)]; omega)) rfl ?_
        refine W_assign rfl rfl ?_
        refine W_nil ?_
        refine W_again (i + 1, j + 1, d.set i x) ⟨by show (d.set i x).length = _; rw [List.length_set, hdl], by show j + 1 ≤ l.length; omega, by show i + 1 < j + 1; omega, by show (d.set i x).take (i + 1) = _; rw [take_set_at (by omega), hdt, del1_snoc hx, if_neg q1], by show (d.set i x).drop (j + 1) = _; rw [List.drop_set_of_lt (by omega), ← List.drop_drop, hdd, List.drop_drop]⟩ (by show l.length - (j + 1) < l.length - j; omega) (sub_cons rfl (sub_cons rfl (sub_cons rfl (sub_cons rfl (sub_nil _))))) rfl (by repeat (first | with_reducible exact HSub.refl _ | refine HSub.cons (by repeat (first | exact Take.here _ | apply Take.next | apply Take.app)) ?_ | refine HSub.app (by repeat (first | with_reducible exact TakeS.here _ | apply TakeS.next | apply TakeS.app)) ?_ | exact HSub.nil _ | exact HSub.refl _ | refine HSub.drop ?_ | refine HSub.dropS ?_))
      · skip
        refine W_skip ?_
        refine W_blk ?_
        refine W_region ?_
        refine W_move rfl rfl ?_
        refine W_bin rfl rfl (b_add (m := ((j + 1 : Nat) : Int)) (by rw [i64w (by omega)]; omega)) rfl ?_
        refine W_assign rfl rfl ?_
        refine W_nil ?_
        refine W_again (i, j + 1, d) ⟨hdl, by show j + 1 ≤ l.length; omega, by show i < j + 1; omega, by show d.take i = _; rw [hdt, del1_snoc hx, if_pos (Classical.not_not.1 q1), List.append_nil], by show d.drop (j + 1) = _; rw [← List.drop_drop, hdd, List.drop_drop]⟩ (by show l.length - (j + 1) < l.length - j; omega) (sub_cons rfl (sub_cons rfl (sub_cons rfl (sub_cons rfl (sub_nil _))))) rfl (by repeat (first | with_reducible exact HSub.refl _ | refine HSub.cons (by repeat (first | exact Take.here _ | apply Take.next | apply Take.app)) ?_ | refine HSub.app (by repeat (first | with_reducible exact TakeS.here _ | apply TakeS.next | apply TakeS.app)) ?_ | exact HSub.nil _ | exact HSub.refl _ | refine HSub.drop ?_ | refine HSub.dropS ?_))
    · skip
      refine W_exit rfl ?_
      refine W_sr ?_
      refine W_move rfl rfl ?_
      refine W_move rfl rfl ?_
      refine W_slice (l := i) (hh := l.length) rfl ty35 ty3 ⟨_, rfl⟩ rfl (by omega) hcap rfl (fun o1 ho1 => ?_)
      obtain rfl : o1 = i := by have := ho1 (by omega); omega
      refine W_clear (l' := spliceL (d.map (Value.int .i64)) o1 (List.replicate (l.length - o1) (.int .i64 0))) rfl ty35 ty3 rfl (by omega) (b := b) (by repeat (first | exact List.mem_cons_self | apply List.mem_cons_of_mem | apply List.mem_append_right)) (by rw [List.length_map]; omega) rfl (by repeat (first | exact Upd.head _ | apply Upd.tail | apply Upd.app)) ?_
      refine W_nil ?_
      refine W_sr ?_
      refine W_move rfl rfl ?_
      refine W_move rfl rfl ?_
      refine W_slice0 (hh := o1) rfl ty35 ty3 rfl ⟨_, rfl⟩ (by omega) rfl ?_
      obtain rfl : j = l.length := by omega
      rw [List.take_length] at hdt
      have hol : o1 = (del1 l id).length := by rw [← hdt, List.length_take]; omega
      have hcut : (spliceL (d.map (Value.int .i64)) o1 (List.replicate (l.length - o1) (.int .i64 0))).take o1 = (del1 l id).map (Value.int .i64) := by rw [splice_take (by rw [List.length_map]; omega), ← List.map_take, hdt]
      refine W_assign rfl rfl ?_
      refine W_nil ?_
      refine W_ret1m (H2 := (b, .cells 3 tot ((del1 l id).map (Value.int .i64))) :: H) Tryd.results86 rfl (.nil _) (by rw [← hcut]; exact HSub.cut) ?_
      exact ⟨by rw [hol], rfl⟩
  · skip
    refine W_assign rfl rfl ?_
    refine W_nil ?_
    refine W_seq ?_
    refine W_sr ?_
    refine W_move rfl rfl ?_
    refine W_bin rfl rfl b_eql rfl ?_
    refine W_nil ?_
    refine W_condT rfl rfl ?_
    refine W_sr ?_
    refine W_move rfl rfl ?_
    refine W_assign rfl rfl ?_
    refine W_nil ?_
    refine W_ret1m (H2 := (b, .cells 3 tot ((l).map (Value.int .i64))) :: H) Tryd.results86 rfl (.nil _) (.refl _) ?_
    exact ⟨by rw [del1_out hn0], by rw [del1_out hn0]⟩
end Go.Proofs.YtknbohnoiigioaaDoor
namespace Go.Proofs.YtknbohnoiigioaaDoor
open Go Go.Sl
attribute [local irreducible] W
theorem keyI : KeyKind Tryd.prog 3 (Value.int .i64) := intKeys ty3.und
def zEnt : Value := .agg #[.int .i64 0, .int .i64 0, .int .u64 0, .int .u64 0, .int .i64 0]
theorem zEz (w : World) : (zeroValue 104).run Tryd.prog w = .ok zEnt w := ty104.zero w
set_option maxHeartbeats 1000000 in
theorem Find_q {w0 : World} {H : Heap} {bw bm now turn c tn : Nat} {sl : List Value} {bs : List Nat} {l : Ents Int} {id : Int} {e : Spot} {ok : Bool} (hok : RowOk sl bs) (hw : (bw, .cells 102 523 (whRow now sl bs bm turn)) ∈ H) (hm : (bm, .obj (mapO (Value.int .i64) l c)) ∈ H) (hv : (mGet l id).getD zEnt = .agg (e.v ++ [Value.int .i64 ((tn : Nat) : Int)]).toArray) (hh : mHas l id = ok)  : PureAt Tryd.prog w0 H 20 [.pointer (some ⟨bw, 0, none⟩), .int .i64 id] (.tuple #[.agg e.v.toArray, .bool ok]) := by
  refine L_enter Tryd.func20 rfl Tryd.ntmps20 rfl rfl ?_
  refine W_sr ?_
  refine W_alloc (l := zSpot.v) ty27 rfl rfl (fun b4 => ?_)
  refine W_assign rfl rfl ?_
  refine W_nil ?_
  refine W_seq ?_
  refine W_sr ?_
  refine W_move rfl rfl ?_
  refine W_x (X_ptrNil rfl rfl ty24) (fun _ h => by cases h) rfl ?_
  refine W_nil ?_
  refine W_condF rfl rfl ?_
  refine W_skip ?_
  refine W_sr ?_
  refine W_move rfl rfl ?_
  refine W_nilCheck rfl rfl ?_
  refine W_fieldAddr rfl fld102_3 (by decide) rfl ?_
  refine W_load (v := .map (some bm)) rfl ty97 rfl (Cell.own (b := bw) (List.mem_cons_of_mem _ hw) (wh_map hok)) rfl ?_
  refine W_move rfl rfl ?_
  refine W_lookup (a := id) (zE := zEnt) rfl rfl keyI ty97 zEz (List.mem_cons_of_mem _ hm) rfl ?_
  simp only [if_true]
  rw [hv, hh]
  refine W_move rfl rfl ?_
  refine W_extract rfl rfl rfl ?_
  refine W_extract rfl rfl rfl ?_
  refine W_alloc (l := [.int .i64 0, .int .i64 0, .int .u64 0, .int .u64 0, .int .i64 0]) ty104 rfl rfl (fun b6 => ?_)
  refine W_storeA (l' := (e.v ++ [Value.int .i64 ((tn : Nat) : Int)])) rfl rfl ty104 rfl rfl (b := b6) (by repeat (first | exact List.mem_cons_self | apply List.mem_cons_of_mem | apply List.mem_append_right)) (by exact Nat.le_refl 5) rfl (by repeat (first | exact Upd.head _ | apply Upd.tail | apply Upd.app)) ?_
  refine W_assign rfl rfl ?_
  refine W_nil ?_
  refine W_sr ?_
  refine W_fieldAddr rfl fld104_0 (by decide) rfl ?_
  refine W_loadB (vs := e.v) rfl ty27 rfl (b := b6) (by repeat (first | exact List.mem_cons_self | apply List.mem_cons_of_mem | apply List.mem_append_right)) rfl rfl rfl ?_
  refine W_move rfl rfl ?_
  refine W_storeA (l' := e.v) rfl rfl ty27 rfl rfl (b := b4) (by repeat (first | exact List.mem_cons_self | apply List.mem_cons_of_mem | apply List.mem_append_right)) (by exact Nat.le_refl 4) rfl (by repeat (first | exact Upd.head _ | apply Upd.tail | apply Upd.app)) ?_
  refine W_assign rfl rfl ?_
  refine W_nil ?_
  refine W_ret2G (H2 := H) Tryd.results20 (.nil _) (.own rfl ty27 rfl (by repeat (first | exact List.mem_cons_self | apply List.mem_cons_of_mem | apply List.mem_append_right)) rfl) (.tmp rfl) (by repeat (first | with_reducible exact HSub.refl _ | refine HSub.cons (by repeat (first | exact Take.here _ | apply Take.next | apply Take.app)) ?_ | refine HSub.app (by repeat (first | with_reducible exact TakeS.here _ | apply TakeS.next | apply TakeS.app)) ?_ | exact HSub.nil _ | exact HSub.refl _ | refine HSub.drop ?_ | refine HSub.dropS ?_)) ?_
  exact ⟨rfl, rfl⟩
set_option maxHeartbeats 1000000 in
theorem Find_nil {id : Int} : Pure Tryd.prog (fun _ => True) 20 [.pointer none, .int .i64 id] (.tuple #[.agg zSpot.v.toArray, .bool false]) := by
  intro w0 H hT
  refine L_enter Tryd.func20 rfl Tryd.ntmps20 rfl rfl ?_
  refine W_sr ?_
  refine W_alloc (l := zSpot.v) ty27 rfl rfl (fun b4 => ?_)
  refine W_assign rfl rfl ?_
  refine W_nil ?_
  refine W_seq ?_
  refine W_sr ?_
  refine W_move rfl rfl ?_
  refine W_x (X_ptrNil rfl rfl ty24) (fun _ h => by cases h) rfl ?_
  refine W_nil ?_
  refine W_condT rfl rfl ?_
  refine W_sr ?_
  refine W_build ty27 pl27 .nil rfl (by simp only [fillL, spliceL, Value.cells, List.take_zero, List.take_succ_cons, List.take_nil, List.drop_zero, List.drop_succ_cons, List.drop_nil, List.nil_append, List.cons_append, List.append_nil, List.length_cons, List.length_nil, Nat.zero_add, Nat.reduceAdd, List.toList_toArray]; rfl) rfl ?_
  refine W_storeA (l' := zSpot.v) rfl rfl ty27 rfl rfl (b := b4) (by repeat (first | exact List.mem_cons_self | apply List.mem_cons_of_mem | apply List.mem_append_right)) (by exact Nat.le_refl 4) rfl (by repeat (first | exact Upd.head _ | apply Upd.tail | apply Upd.app)) ?_
  refine W_assign rfl rfl ?_
  refine W_nil ?_
  refine W_ret2G (H2 := H) Tryd.results20 (.nil _) (.own rfl ty27 rfl (by repeat (first | exact List.mem_cons_self | apply List.mem_cons_of_mem | apply List.mem_append_right)) rfl) (.tmp rfl) (by repeat (first | with_reducible exact HSub.refl _ | refine HSub.cons (by repeat (first | exact Take.here _ | apply Take.next | apply Take.app)) ?_ | refine HSub.app (by repeat (first | with_reducible exact TakeS.here _ | apply TakeS.next | apply TakeS.app)) ?_ | exact HSub.nil _ | exact HSub.refl _ | refine HSub.drop ?_ | refine HSub.dropS ?_)) ?_
  exact ⟨rfl, rfl⟩
end Go.Proofs.YtknbohnoiigioaaDoor
namespace Go.Proofs.YtknbohnoiigioaaDoor
open Go Go.Sl
attribute [local irreducible] W
theorem time_is {now lv slot num : Nat} (hn : now ≤ 18446744073709551615) (h1 : now / 8 ^ lv < num) (h2 : num ≤ now / 8 ^ lv + 64) (hs : num % 64 = slot) : timeT now lv slot = tickT num lv := by
  have hx : now / 8 ^ lv ≤ 18446744073709551615 := Nat.le_trans (Nat.div_le_self _ _) hn
  have hd : 18446744073709551615 / 8 ^ lv ≤ 18446744073709551615 := Nat.div_le_self _ _
  unfold timeT
  generalize now / 8 ^ lv = x at *
  have hm : x + moreT x slot = num := by
    unfold moreT
    split <;> omega
  rw [hm]
  split
  · unfold tickT
    rw [if_pos (by omega)]
  · rfl
theorem lvOf_span {d : Nat} (h : d < 132120576) : d < 63 * 8 ^ (lvOf d).1 := by
  unfold lvOf
  (repeat' split) <;> (try simp only) <;> omega
theorem ceilT_is {t n : Nat} : t ≤ ceilT t n * 8 ^ n ∧ ceilT t n * 8 ^ n < t + 8 ^ n := by
  have hg : 0 < 8 ^ n := Nat.pow_pos (by omega)
  unfold ceilT
  generalize 8 ^ n = g at *
  have h1 := Nat.div_add_mod t g
  have h2 := Nat.mod_lt t hg
  rw [Nat.mul_comm] at h1
  split
  · rename_i hne
    rw [Nat.add_mul, Nat.one_mul]
    omega
  · rename_i he
    have he' : t / g * g = t := Classical.not_not.1 he
    rw [he']; omega
/-- what is put is due later, within 64 multiples -/
theorem place_is {now at_ : Nat} (hn : now < 18446744073709551615) : ∃ num, (placeT now at_).2 = 0 ∧ (placeT now at_).1.lv < 8 ∧ (placeT now at_).1.slot = num % 64 ∧ (placeT now at_).1.due = tickT num (placeT now at_).1.lv ∧ now / 8 ^ (placeT now at_).1.lv < num ∧ num ≤ now / 8 ^ (placeT now at_).1.lv + 64 ∧ num * 8 ^ (placeT now at_).1.lv < 18446744073709551615 + 8 ^ (placeT now at_).1.lv := by
  have e : placeT now at_ = _ := if_neg (by omega)
  rw [e]
  dsimp only
  have ht1 : now < clampT now at_ 132120575 := by unfold clampT addT; split <;> split <;> omega
  have ht2 : clampT now at_ 132120575 - now < 132120576 := by unfold clampT addT; split <;> split <;> omega
  have ht3 : clampT now at_ 132120575 ≤ 18446744073709551615 := clampT_le _ _ _
  generalize clampT now at_ 132120575 = t at *
  have hsp := lvOf_span ht2
  have hlt := lvOf_lt (t - now)
  generalize (lvOf (t - now)).1 = n at *
  obtain ⟨hc1, hc2⟩ := ceilT_is (t := t) (n := n)
  refine ⟨ceilT t n, rfl, hlt, rfl, rfl, ?_, ?_, ?_⟩
  all_goals
    have hg : 0 < 8 ^ n := Nat.pow_pos (by omega)
    generalize ceilT t n = m at *
    generalize 8 ^ n = g at *
    have h1 := Nat.div_add_mod now g
    have h2 := Nat.mod_lt now hg
    rw [Nat.mul_comm] at h1
    generalize now / g = q at *
  · exact Nat.lt_of_mul_lt_mul_right (a := g) (by omega)
  · have : m < q + 65 := Nat.lt_of_mul_lt_mul_right (a := g) (by rw [Nat.add_mul]; omega)
    omega
  · omega
theorem due_later {now num lv : Nat} (hn : now < 18446744073709551615) (h : now / 8 ^ lv < num) : now < tickT num lv := by
  unfold tickT
  split
  · exact hn
  · exact (Nat.div_lt_iff_lt_mul (Nat.pow_pos (by omega))).1 h
end Go.Proofs.YtknbohnoiigioaaDoor
namespace Go.Proofs.YtknbohnoiigioaaDoor
open Go Go.Sl
attribute [local irreducible] W
/-- a timer that is held: its number, its spot, which one it was to be put -/
structure Tm where
  id : Int
  s : Spot
  turn : Nat
def Tm.key (t : Tm) : Nat := t.s.lv * 64 + t.s.slot
def idsAt (L : List Tm) (k : Nat) : List Int := (L.filter (fun t => decide (t.key = k))).map (·.id)
def delT (L : List Tm) (id : Int) : List Tm := L.filter (fun t => decide (t.id ≠ id))
theorem idsAt_snoc (L : List Tm) (t : Tm) (k : Nat) : idsAt (L ++ [t]) k = idsAt L k ++ (if t.key = k then [t.id] else []) := by
  unfold idsAt
  rw [List.filter_append, List.map_append]
  congr 1
  by_cases e : t.key = k
  · rw [if_pos e, List.filter_cons_of_pos (by simp [e])]; rfl
  · rw [if_neg e, List.filter_cons_of_neg (by simp [e])]; rfl
theorem idsAt_del (L : List Tm) (id : Int) (k : Nat) : idsAt (delT L id) k = del1 (idsAt L k) id := by
  unfold idsAt delT del1
  rw [List.filter_map, List.filter_filter, List.filter_filter]
  congr 1
  refine List.filter_congr fun t _ => ?_
  exact Bool.and_comm _ _
theorem idsAt_mem {L : List Tm} {k : Nat} {id : Int} : id ∈ idsAt L k ↔ ∃ t ∈ L, t.key = k ∧ t.id = id := by
  unfold idsAt
  rw [List.mem_map]
  exact ⟨fun ⟨t, h, e⟩ => ⟨t, (List.mem_filter.1 h).1, of_decide_eq_true (List.mem_filter.1 h).2, e⟩, fun ⟨t, h, e, e2⟩ => ⟨t, List.mem_filter.2 ⟨h, decide_eq_true e⟩, e2⟩⟩
/-- the cells of a wheel, its slots' blocks and its map hold these timers -/
structure WhIs (now : Nat) (L : List Tm) (sl : List Value) (XS : List Heap) (bs : List Nat) (l : Ents Int) (c turn : Nat) : Prop where
  row : RowOk sl bs
  xs : XS.length = 512
  own : ∀ k, k < 512 → ∃ v X, sl[k]? = some v ∧ XS[k]? = some X ∧ OwnS 3 1 v (idsAt L k).length ((idsAt L k).map (Value.int .i64)) X
  busy : ∀ n, n < 8 → ∃ z, bs[n]? = some z ∧ z < 18446744073709551616 ∧ ∀ s, s < 64 → (z.testBit s = true ↔ idsAt L (n * 64 + s) ≠ [])
  map : MapOk l c
  keys : (l.map (·.1)).Perm (L.map (·.id))
  val : ∀ p ∈ l, ∃ t ∈ L, t.id = p.1 ∧ p.2.1 = .agg (t.s.v ++ [Value.int .i64 ((t.turn : Nat) : Int)]).toArray
  nodup : (L.map (·.id)).Nodup
  turns : L.Pairwise (fun a b => a.turn < b.turn)
  last : ∀ t ∈ L, t.turn ≤ turn
  range : ∀ t ∈ L, 0 ≤ t.id ∧ t.id < 256
  spot : ∀ t ∈ L, t.s.lv < 8 ∧ t.s.slot < 64
  time : ∀ t ∈ L, ∃ num, t.s.slot = num % 64 ∧ t.s.due = tickT num t.s.lv ∧ now / 8 ^ t.s.lv < num ∧ num ≤ now / 8 ^ t.s.lv + 64 ∧ num * 8 ^ t.s.lv < 18446744073709551615 + 8 ^ t.s.lv
theorem WhIs.new {now : Nat} : WhIs now [] sl0 (List.replicate 512 []) bs0 [] 0 0 where
  row := ok0
  xs := List.length_replicate
  own k hk := ⟨_, _, by unfold sl0; rw [List.getElem?_replicate, if_pos hk], by rw [List.getElem?_replicate, if_pos hk], OwnS.nil⟩
  busy n hn := ⟨0, by unfold bs0; rw [List.getElem?_replicate, if_pos hn], by decide, fun s _ => by simp [idsAt]⟩
  map := MapOk.nil 0
  keys := .nil
  val := fun _ h => by cases h
  nodup := List.nodup_nil
  turns := .nil
  last := fun _ h => by cases h
  range := fun _ h => by cases h
  spot := fun _ h => by cases h
  time := fun _ h => by cases h
end Go.Proofs.YtknbohnoiigioaaDoor
namespace Go.Proofs.YtknbohnoiigioaaDoor
open Go Go.Sl
attribute [local irreducible] W
theorem bit_or {z s j : Nat} (hj : j < 64) : (z ||| bitN (j : Int)).testBit s = (z.testBit s || decide (s = j)) := by
  have e : bitN (j : Int) = 2 ^ j := by unfold bitN; rw [if_pos (by omega)]; rfl
  rw [e, Nat.testBit_or, Nat.testBit_two_pow]
  congr 1
  exact decide_eq_decide.2 ⟨fun h => h.symm, fun h => h.symm⟩
theorem WhIs.put {now turn c z : Nat} {L : List Tm} {sl : List Value} {XS : List Heap} {bs : List Nat} {l : Ents Int} (h : WhIs now L sl XS bs l c turn) {id : Int} {e : Spot} {v' : Value} {X' : Heap} (hid : 0 ≤ id ∧ id < 256) (hnew : id ∉ L.map (·.id)) (hlv : e.lv < 8 ∧ e.slot < 64)
    (htm : ∃ num, e.slot = num % 64 ∧ e.due = tickT num e.lv ∧ now / 8 ^ e.lv < num ∧ num ≤ now / 8 ^ e.lv + 64 ∧ num * 8 ^ e.lv < 18446744073709551615 + 8 ^ e.lv) (hO : OwnS 3 1 v' (idsAt L (e.lv * 64 + e.slot) ++ [id]).length ((idsAt L (e.lv * 64 + e.slot) ++ [id]).map (Value.int .i64)) X') (hz : bs[e.lv]? = some z) :
    WhIs now (L ++ [⟨id, e, turn + 1⟩]) (sl.set (e.lv * 64 + e.slot) v') (XS.set (e.lv * 64 + e.slot) X') (bs.set e.lv (withL z [(e.slot : Int)])) (mPut l c id (.agg (e.v ++ [Value.int .i64 (((turn + 1) : Nat) : Int)]).toArray)) (mClk l c id) (turn + 1) := by
  have hk : e.lv * 64 + e.slot < 512 := by omega
  have hid' : ∀ k, idsAt (L ++ [⟨id, e, turn + 1⟩]) k = idsAt L k ++ (if e.lv * 64 + e.slot = k then [id] else []) := fun k => idsAt_snoc L ⟨id, e, turn + 1⟩ k
  have hno : mHas l id = false := by
    cases hh : mHas l id with
    | false => rfl
    | true => exact absurd (h.keys.mem_iff.1 (mHas_iff.1 hh)) hnew
  have hpl : mPut l c id (.agg (e.v ++ [Value.int .i64 (((turn + 1) : Nat) : Int)]).toArray) = l ++ [(id, .agg (e.v ++ [Value.int .i64 (((turn + 1) : Nat) : Int)]).toArray, c)] := by unfold mPut; rw [hno]; rfl
  have all : ∀ {p : Tm → Prop}, (∀ t ∈ L, p t) → p ⟨id, e, turn + 1⟩ → ∀ t ∈ L ++ [⟨id, e, turn + 1⟩], p t := fun h1 h2 t ht => by
    rcases List.mem_append.1 ht with ht | ht
    · exact h1 t ht
    · rw [List.mem_singleton.1 ht]; exact h2
  refine ⟨(h.row.setSl _ _).setBs _ _, by rw [List.length_set, h.xs], fun k hk2 => ?_, fun n hn => ?_, h.map.put id _, ?_, ?_, ?_, ?_, all (fun t ht => Nat.le_succ_of_le (h.last t ht)) (Nat.le_refl _), all h.range hid, all h.spot hlv, all h.time htm⟩
  · rw [hid']
    by_cases ek : e.lv * 64 + e.slot = k
    · subst ek
      rw [if_pos rfl]
      exact ⟨v', X', List.getElem?_set_self (by rw [h.row.sl]; exact hk), List.getElem?_set_self (by rw [h.xs]; exact hk), hO⟩
    · rw [if_neg ek, List.append_nil]
      obtain ⟨v, X, h1, h2, h3⟩ := h.own k hk2
      exact ⟨v, X, by rw [List.getElem?_set_ne ek]; exact h1, by rw [List.getElem?_set_ne ek]; exact h2, h3⟩
  · obtain ⟨zn, h1, h2, h3⟩ := h.busy n hn
    by_cases en : e.lv = n
    · subst en
      obtain rfl : z = zn := Option.some.inj (hz.symm.trans h1)
      refine ⟨_, List.getElem?_set_self (by rw [h.row.bs]; exact hn), withL_ok _ h2, fun s hs => ?_⟩
      show (z ||| bitN (e.slot : Int)).testBit s = true ↔ _
      rw [bit_or hlv.2, hid', Bool.or_eq_true, h3 s hs, decide_eq_true_eq]
      by_cases es : s = e.slot
      · subst es; rw [if_pos rfl]; simp
      · rw [if_neg (by omega), List.append_nil]; exact ⟨fun h => h.resolve_right es, .inl⟩
    · refine ⟨zn, by rw [List.getElem?_set_ne en]; exact h1, h2, fun s hs => ?_⟩
      rw [hid', if_neg (by omega), List.append_nil]
      exact h3 s hs
  · rw [hpl, List.map_append, List.map_append]
    exact h.keys.append (.refl _)
  · rw [hpl]
    intro p hp
    rcases List.mem_append.1 hp with hp | hp
    · obtain ⟨t, ht, h1, h2⟩ := h.val p hp
      exact ⟨t, List.mem_append_left _ ht, h1, h2⟩
    · rw [List.mem_singleton.1 hp]
      exact ⟨_, List.mem_append_right _ List.mem_cons_self, rfl, rfl⟩
  · rw [List.map_append, List.nodup_append]
    refine ⟨h.nodup, by simp, fun a ha b hb => ?_⟩
    rw [List.mem_singleton.1 hb]
    exact fun (e : a = id) => hnew (e ▸ ha)
  · rw [List.pairwise_append]
    refine ⟨h.turns, List.pairwise_singleton _ _, fun a ha b hb => ?_⟩
    rw [List.mem_singleton.1 hb]
    exact Nat.lt_succ_of_le (h.last a ha)
end Go.Proofs.YtknbohnoiigioaaDoor
namespace Go.Proofs.YtknbohnoiigioaaDoor
open Go Go.Sl
attribute [local irreducible] W
theorem tm_uniq : ∀ {L : List Tm} {t u : Tm}, (L.map (·.id)).Nodup → t ∈ L → u ∈ L → t.id = u.id → t = u
  | x :: L, t, u, hn, ht, hu, e => by
    rw [List.map_cons, List.nodup_cons] at hn
    rcases List.mem_cons.1 ht with rfl | ht' <;> rcases List.mem_cons.1 hu with rfl | hu'
    · rfl
    · exact absurd (e ▸ List.mem_map_of_mem hu') hn.1
    · exact absurd (e ▸ List.mem_map_of_mem ht') hn.1
    · exact tm_uniq hn.2 ht' hu' e
theorem bit_out {z s j : Nat} (hj : j < 64) (hs : s < 64) : (z &&& (18446744073709551615 - bitN (j : Int))).testBit s = (z.testBit s && decide (s ≠ j)) := by
  have e : bitN (j : Int) = 2 ^ j := by unfold bitN; rw [if_pos (by omega)]; rfl
  have hp := pow64 hj
  have e2 : 18446744073709551615 - 2 ^ j = 2 ^ 64 - (2 ^ j + 1) := by omega
  rw [e, Nat.testBit_and, e2, Nat.testBit_two_pow_sub_succ (by omega), Nat.testBit_two_pow, decide_eq_true hs]
  congr 1
  rw [Bool.true_and, ← decide_not]
  exact decide_eq_decide.2 ⟨fun h e => h e.symm, fun h e => h e.symm⟩
theorem WhIs.del {now turn c z : Nat} {L : List Tm} {sl : List Value} {XS : List Heap} {bs bs' : List Nat} {l : Ents Int} (h : WhIs now L sl XS bs l c turn) {t : Tm} (ht : t ∈ L) {v' : Value} {X' : Heap}
    (hO : OwnS 3 1 v' (del1 (idsAt L t.key) t.id).length ((del1 (idsAt L t.key) t.id).map (Value.int .i64)) X') (hz : bs[t.s.lv]? = some z) (hb : bs' = if (del1 (idsAt L t.key) t.id).length = 0 then bs.set t.s.lv (outL z [(t.s.slot : Int)]) else bs) :
    WhIs now (delT L t.id) (sl.set t.key v') (XS.set t.key X') bs' (mDel l t.id) c turn := by
  have hs := h.spot t ht
  have hk : t.key < 512 := by unfold Tm.key; omega
  have hoth : ∀ k, k ≠ t.key → del1 (idsAt L k) t.id = idsAt L k := fun k hne => del1_out (fun hin => by
    obtain ⟨u, hu, h1, h2⟩ := idsAt_mem.1 hin
    exact hne (h1 ▸ tm_uniq h.nodup hu ht h2 ▸ rfl))
  have hin : ∀ {p : Tm → Prop}, (∀ t ∈ L, p t) → ∀ u ∈ delT L t.id, p u := fun h1 u hu => h1 u (List.mem_filter.1 hu).1
  have hrow : RowOk (sl.set t.key v') bs' := by rw [hb]; split; exact (h.row.setSl _ _).setBs _ _; exact h.row.setSl _ _
  refine ⟨hrow, by rw [List.length_set, h.xs], fun k hk2 => ?_, fun n hn => ?_, h.map.del t.id, ?_, ?_, ?_, h.turns.filter _, hin h.last, hin h.range, hin h.spot, hin h.time⟩
  · rw [idsAt_del]
    by_cases ek : t.key = k
    · subst ek
      exact ⟨v', X', List.getElem?_set_self (by rw [h.row.sl]; exact hk), List.getElem?_set_self (by rw [h.xs]; exact hk), hO⟩
    · rw [hoth k (fun e => ek e.symm)]
      obtain ⟨v, X, h1, h2, h3⟩ := h.own k hk2
      exact ⟨v, X, by rw [List.getElem?_set_ne ek]; exact h1, by rw [List.getElem?_set_ne ek]; exact h2, h3⟩
  · obtain ⟨zn, h1, h2, h3⟩ := h.busy n hn
    have keep : ∀ s, s < 64 → n * 64 + s ≠ t.key → (zn.testBit s = true ↔ idsAt (delT L t.id) (n * 64 + s) ≠ []) := fun s hs64 hne => by rw [idsAt_del, hoth _ hne]; exact h3 s hs64
    by_cases he : (del1 (idsAt L t.key) t.id).length = 0
    · rw [hb, if_pos he]
      have hnil := List.eq_nil_of_length_eq_zero he
      by_cases en : t.s.lv = n
      · subst en
        obtain rfl : z = zn := Option.some.inj (hz.symm.trans h1)
        refine ⟨_, List.getElem?_set_self (by rw [h.row.bs]; exact hn), outL_ok _ h2, fun s hs64 => ?_⟩
        show (z &&& (18446744073709551615 - bitN (t.s.slot : Int))).testBit s = true ↔ _
        rw [bit_out hs.2 hs64]
        by_cases es : s = t.s.slot
        · subst es
          rw [idsAt_del, show t.s.lv * 64 + t.s.slot = t.key from rfl, hnil]; simp
        · rw [decide_eq_true es, Bool.and_true]
          exact keep s hs64 (by unfold Tm.key; omega)
      · exact ⟨zn, by rw [List.getElem?_set_ne en]; exact h1, h2, fun s hs64 => keep s hs64 (by unfold Tm.key; omega)⟩
    · rw [hb, if_neg he]
      refine ⟨zn, h1, h2, fun s hs64 => ?_⟩
      by_cases ek : n * 64 + s = t.key
      · rw [h3 s hs64, ek, idsAt_del]
        exact ⟨fun _ e => he (by rw [e]; rfl), fun _ e => he (by rw [e]; rfl)⟩
      · exact keep s hs64 ek
  · have e1 : (mDel l t.id).map (·.1) = (l.map (·.1)).filter (fun x => decide (t.id ≠ x)) := by unfold mDel; rw [List.filter_map]; rfl
    have e2 : (delT L t.id).map (·.id) = (L.map (·.id)).filter (fun x => decide (t.id ≠ x)) := by
      unfold delT; rw [List.filter_map]; congr 1
      exact List.filter_congr fun u _ => decide_eq_decide.2 ⟨fun h e => h e.symm, fun h e => h e.symm⟩
    rw [e1, e2]; exact h.keys.filter _
  · intro p hp
    obtain ⟨hp1, hp2⟩ := List.mem_filter.1 hp
    obtain ⟨u, hu, h1, h2⟩ := h.val p hp1
    exact ⟨u, List.mem_filter.2 ⟨hu, decide_eq_true (fun e => of_decide_eq_true hp2 (e ▸ h1))⟩, h1, h2⟩
  · exact h.nodup.sublist (List.Sublist.map _ List.filter_sublist)
end Go.Proofs.YtknbohnoiigioaaDoor
namespace Go.Proofs.YtknbohnoiigioaaDoor
open Go Go.Sl
attribute [local irreducible] W
theorem moreT_is {x s : Nat} (hx : x ≤ 18446744073709551615) (hs : s < 64) : moreT x s = if (x + 1) % 64 ≤ s then s - (x + 1) % 64 + 1 else s + 65 - (x + 1) % 64 := by
  unfold moreT
  split <;> split <;> omega
theorem around_least {x z s : Nat} (hx : x ≤ 18446744073709551615) (h : aroundN z (((x + 1) % 64 : Nat) : Int) = some s) : s < 64 ∧ z.testBit s = true ∧ ∀ r, r < 64 → z.testBit r = true → moreT x s ≤ moreT x r := by
  obtain ⟨h1, h2⟩ := aroundN_is h
  refine ⟨h1, h2, fun r hr hb => ?_⟩
  rw [moreT_is hx h1, moreT_is hx hr]
  unfold aroundN at h
  cases hn : nextN z (((x + 1) % 64 : Nat) : Int) with
  | some i =>
    rw [hn] at h
    obtain rfl : i = s := Option.some.inj h
    obtain ⟨_, _, h3, h4⟩ := nextN_is hn
    have h5 := h4 r
    by_cases c : r < i
    · have := h5 c hb
      split <;> split <;> omega
    · split <;> split <;> omega
  | none =>
    rw [hn] at h
    obtain ⟨_, _, h3, h4⟩ := nextN_is h
    have lt : ∀ j, z.testBit j = true → j < 64 → (j : Int) < (((x + 1) % 64 : Nat) : Int) := fun j hj hj64 => by
      by_cases c : (j : Int) < (((x + 1) % 64 : Nat) : Int)
      · exact c
      · exfalso
        unfold nextN at hn
        rw [List.find?_eq_none] at hn
        exact hn j (List.mem_range.2 hj64) (by rw [hj, decide_eq_true (by omega)]; rfl)
    have l1 := lt s h2 h1
    have l2 := lt r hb hr
    have h5 : ¬ r < s := fun c => by have := h4 r c hb; omega
    split <;> split <;> omega
theorem around_none {z : Nat} {f : Int} (h : aroundN z f = none) : ∀ r, r < 64 → z.testBit r = false := fun r hr => by
  cases hb : z.testBit r with
  | false => rfl
  | true =>
    exfalso
    unfold aroundN at h
    have h0 : nextN z 0 = none := by
      cases hn : nextN z f with
      | some i => rw [hn] at h; cases h
      | none => rw [hn] at h; exact h
    unfold nextN at h0
    rw [List.find?_eq_none] at h0
    exact h0 r (List.mem_range.2 hr) (by rw [hb, decide_eq_true (by omega)]; rfl)
theorem tickT_mono {a b n : Nat} (h : a ≤ b) : tickT a n ≤ tickT b n := by
  have hm := Nat.mul_le_mul_right (8 ^ n) h
  have h0 : ¬ 18446744073709551615 / 8 ^ n < a → a * 8 ^ n ≤ 18446744073709551615 := fun hh => (Nat.le_div_iff_mul_le (Nat.pow_pos (by omega))).1 (by omega)
  unfold tickT
  by_cases ha : 18446744073709551615 / 8 ^ n < a
  · rw [if_pos ha, if_pos (by omega)]; exact Nat.le_refl _
  · rw [if_neg ha]
    have := h0 ha
    split <;> omega
end Go.Proofs.YtknbohnoiigioaaDoor
namespace Go.Proofs.YtknbohnoiigioaaDoor
open Go Go.Sl
attribute [local irreducible] W
theorem nx_least {now turn c : Nat} {L : List Tm} {sl : List Value} {XS : List Heap} {bs : List Nat} {l : Ents Int} (h : WhIs now L sl XS bs l c turn) (hnow : now ≤ 18446744073709551615) : ∀ n, n ≤ 8 →
    (nx now bs n = none ∧ ∀ t ∈ L, n ≤ t.s.lv) ∨ ∃ a, nx now bs n = some a ∧ (∃ t ∈ L, t.s.lv < n ∧ t.s.due = a) ∧ ∀ t ∈ L, t.s.lv < n → a ≤ t.s.due
  | 0, _ => .inl ⟨rfl, fun _ _ => Nat.zero_le _⟩
  | n + 1, hn => by
    have ih := nx_least h hnow n (by omega)
    obtain ⟨z, hz, hz2, hz3⟩ := h.busy n (by omega)
    have hx : now / 8 ^ n ≤ 18446744073709551615 := Nat.le_trans (Nat.div_le_self _ _) hnow
    cases ha : aroundN z ((fromT now n : Nat) : Int) with
    | none =>
      have hno : ∀ t ∈ L, t.s.lv ≠ n := fun t ht e => by
        subst e
        have h1 := around_none ha t.s.slot (h.spot t ht).2
        have h2 := (hz3 t.s.slot (h.spot t ht).2).2 (fun e => by have := idsAt_mem.2 ⟨t, ht, rfl, rfl⟩; rw [show t.key = t.s.lv * 64 + t.s.slot from rfl, e] at this; cases this)
        rw [h1] at h2; cases h2
      rw [nx_skip hz ha]
      rcases ih with ⟨h1, h2⟩ | ⟨a, h1, ⟨t, h2, h3, h4⟩, h5⟩
      · exact .inl ⟨h1, fun t ht => by have := h2 t ht; have := hno t ht; omega⟩
      · exact .inr ⟨a, h1, ⟨t, h2, by omega, h4⟩, fun u hu hl => h5 u hu (by have := hno u hu; omega)⟩
    | some s =>
      obtain ⟨g1, g2, g3⟩ := around_least hx ha
      obtain ⟨id, hid⟩ : ∃ id, id ∈ idsAt L (n * 64 + s) := List.exists_mem_of_ne_nil _ ((hz3 s g1).1 g2)
      obtain ⟨t, ht, hk, _⟩ := idsAt_mem.1 hid
      have hsp := h.spot t ht
      have hk2 : t.s.lv * 64 + t.s.slot = n * 64 + s := hk
      have hlv : t.s.lv = n := by omega
      have hsl : t.s.slot = s := by omega
      have dueOf : ∀ u ∈ L, u.s.lv = n → u.s.due = timeT now n u.s.slot := fun u hu e => by
        obtain ⟨num, m1, m2, m3, m4, _⟩ := h.time u hu
        subst e
        rw [m2, time_is hnow m3 m4 m1.symm]
      have hd := dueOf t ht hlv
      rw [hsl] at hd
      have le1 : ∀ u ∈ L, u.s.lv = n → timeT now n s ≤ u.s.due := fun u hu e => by
        rw [dueOf u hu e]
        have hm := g3 u.s.slot (h.spot u hu).2 ((e ▸ hz3 u.s.slot (h.spot u hu).2).2 (fun e2 => by have := idsAt_mem.2 ⟨u, hu, rfl, rfl⟩; rw [show u.key = u.s.lv * 64 + u.s.slot from rfl, e2] at this; cases this))
        unfold timeT
        have hmo := tickT_mono (n := n) (Nat.add_le_add_left hm (now / 8 ^ n))
        have hle := tickT_le (now / 8 ^ n + moreT (now / 8 ^ n) s) n
        split <;> split <;> omega
      right
      rcases ih with ⟨h1, h2⟩ | ⟨a, h1, ⟨t2, h2, h3, h4⟩, h5⟩
      · exact ⟨_, nx_first hz ha h1, ⟨t, ht, by omega, hd⟩, fun u hu hl => le1 u hu (by have := h2 u hu; omega)⟩
      · refine ⟨_, nx_more hz ha h1, ?_, fun u hu hl => ?_⟩
        · by_cases c : timeT now n s < a
          · rw [if_pos c]; exact ⟨t, ht, by omega, hd⟩
          · rw [if_neg c]; exact ⟨t2, h2, by omega, h4⟩
        · by_cases e : u.s.lv = n
          · have := le1 u hu e; split <;> omega
          · have := h5 u hu (by omega); split <;> omega
end Go.Proofs.YtknbohnoiigioaaDoor
namespace Go.Proofs.YtknbohnoiigioaaDoor
open Go Go.Sl
attribute [local irreducible] W
theorem tickT_up {x n : Nat} : tickT x n ≤ x * 8 ^ n := by
  unfold tickT
  split
  · rename_i h
    have := (Nat.div_lt_iff_lt_mul (Nat.pow_pos (by omega : 0 < 8))).1 h
    omega
  · exact Nat.le_refl _
theorem WhIs.later {now now' turn c : Nat} {L : List Tm} {sl : List Value} {XS : List Heap} {bs : List Nat} {l : Ents Int} (h : WhIs now L sl XS bs l c turn) (hle : now ≤ now') (hd : ∀ t ∈ L, now' < t.s.due) : WhIs now' L sl XS bs l c turn :=
  { h with
    time := fun t ht => by
      obtain ⟨num, h1, h2, h3, h4, h5a⟩ := h.time t ht
      have h5 := hd t ht
      rw [h2] at h5
      have h6 : now' < num * 8 ^ t.s.lv := Nat.lt_of_lt_of_le h5 tickT_up
      have h7 : now / 8 ^ t.s.lv ≤ now' / 8 ^ t.s.lv := Nat.div_le_div_right hle
      exact ⟨num, h1, h2, (Nat.div_lt_iff_lt_mul (Nat.pow_pos (by omega))).2 h6, by omega, h5a⟩ }
end Go.Proofs.YtknbohnoiigioaaDoor
namespace Go.Proofs.YtknbohnoiigioaaDoor
open Go Go.Sl
attribute [local irreducible] W
set_option maxHeartbeats 1000000 in
theorem Put_nil {id z : Int} : Pure Tryd.prog (fun _ => True) 14 [.pointer none, .int .i64 id, .int .u64 z] (.tuple #[.agg zSpot.v.toArray, .int .i64 6]) := by
  intro w0 H hT
  refine L_enter Tryd.func14 rfl Tryd.ntmps14 rfl rfl ?_
  refine W_sr ?_
  refine W_alloc (l := zSpot.v) ty27 rfl rfl (fun b6 => ?_)
  refine W_assign rfl rfl ?_
  refine W_nil ?_
  refine W_seq ?_
  refine W_block ?_
  refine W_sr ?_
  refine W_move rfl rfl ?_
  refine W_x (X_ptrNil rfl rfl ty24) (fun _ h => by cases h) rfl ?_
  refine W_assign rfl rfl ?_
  refine W_nil ?_
  refine W_condT rfl rfl ?_
  refine W_sr ?_
  refine W_build ty27 pl27 .nil rfl (by simp only [fillL, spliceL, Value.cells, List.take_zero, List.take_succ_cons, List.take_nil, List.drop_zero, List.drop_succ_cons, List.drop_nil, List.nil_append, List.cons_append, List.append_nil, List.length_cons, List.length_nil, Nat.zero_add, Nat.reduceAdd, List.toList_toArray]; rfl) rfl ?_
  refine W_storeA (l' := zSpot.v) rfl rfl ty27 rfl rfl (b := b6) (by repeat (first | exact List.mem_cons_self | apply List.mem_cons_of_mem | apply List.mem_append_right)) (by exact Nat.le_refl 4) rfl (by repeat (first | exact Upd.head _ | apply Upd.tail | apply Upd.app)) ?_
  refine W_assign rfl rfl ?_
  refine W_nil ?_
  refine W_ret2G (H2 := H) Tryd.results14 (.nil _) (.own rfl ty27 rfl (by repeat (first | exact List.mem_cons_self | apply List.mem_cons_of_mem | apply List.mem_append_right)) rfl) (.tmp rfl) (by repeat (first | with_reducible exact HSub.refl _ | refine HSub.cons (by repeat (first | exact Take.here _ | apply Take.next | apply Take.app)) ?_ | refine HSub.app (by repeat (first | with_reducible exact TakeS.here _ | apply TakeS.next | apply TakeS.app)) ?_ | exact HSub.nil _ | exact HSub.refl _ | refine HSub.drop ?_ | refine HSub.dropS ?_)) ?_
  exact ⟨rfl, rfl⟩
set_option maxHeartbeats 1000000 in
theorem Put_range {bw : Nat} {id z : Int} (hid : id < 0 ∨ 256 ≤ id) : Pure Tryd.prog (fun _ => True) 14 [.pointer (some ⟨bw, 0, none⟩), .int .i64 id, .int .u64 z] (.tuple #[.agg zSpot.v.toArray, .int .i64 2]) := by
  intro w0 H hT
  refine L_enter Tryd.func14 rfl Tryd.ntmps14 rfl rfl ?_
  refine W_sr ?_
  refine W_alloc (l := zSpot.v) ty27 rfl rfl (fun b6 => ?_)
  refine W_assign rfl rfl ?_
  refine W_nil ?_
  refine W_seq ?_
  refine W_block ?_
  refine W_sr ?_
  refine W_move rfl rfl ?_
  refine W_x (X_ptrNil rfl rfl ty24) (fun _ h => by cases h) rfl ?_
  refine W_assign rfl rfl ?_
  refine W_nil ?_
  refine W_condF rfl rfl ?_
  refine W_sr ?_
  refine W_move rfl rfl ?_
  refine W_bin rfl rfl b_lss rfl ?_
  refine W_move rfl rfl ?_
  apply W_or
  iterate 4 exact rfl
  case h1 =>
    intro hg2
    refine W_gyes rfl rfl ?_
    refine W_move rfl rfl ?_
    refine W_gyes rfl rfl ?_
    refine W_bin rfl rfl b_geq rfl ?_
    exact W_met rfl (by repeat (first | exact .refl | refine .cons rfl ?_))
  refine W_assign rfl rfl ?_
  refine W_nil ?_
  refine W_condT rfl (by simp; omega) ?_
  refine W_sr ?_
  refine W_build ty27 pl27 .nil rfl (by simp only [fillL, spliceL, Value.cells, List.take_zero, List.take_succ_cons, List.take_nil, List.drop_zero, List.drop_succ_cons, List.drop_nil, List.nil_append, List.cons_append, List.append_nil, List.length_cons, List.length_nil, Nat.zero_add, Nat.reduceAdd, List.toList_toArray]; rfl) rfl ?_
  refine W_storeA (l' := zSpot.v) rfl rfl ty27 rfl rfl (b := b6) (by repeat (first | exact List.mem_cons_self | apply List.mem_cons_of_mem | apply List.mem_append_right)) (by exact Nat.le_refl 4) rfl (by repeat (first | exact Upd.head _ | apply Upd.tail | apply Upd.app)) ?_
  refine W_assign rfl rfl ?_
  refine W_nil ?_
  refine W_ret2G (H2 := H) Tryd.results14 (.nil _) (.own rfl ty27 rfl (by repeat (first | exact List.mem_cons_self | apply List.mem_cons_of_mem | apply List.mem_append_right)) rfl) (.tmp rfl) (by repeat (first | with_reducible exact HSub.refl _ | refine HSub.cons (by repeat (first | exact Take.here _ | apply Take.next | apply Take.app)) ?_ | refine HSub.app (by repeat (first | with_reducible exact TakeS.here _ | apply TakeS.next | apply TakeS.app)) ?_ | exact HSub.nil _ | exact HSub.refl _ | refine HSub.drop ?_ | refine HSub.dropS ?_)) ?_
  exact ⟨rfl, rfl⟩
end Go.Proofs.YtknbohnoiigioaaDoor
namespace Go.Proofs.YtknbohnoiigioaaDoor
open Go Go.Sl
attribute [local irreducible] W
set_option maxHeartbeats 1000000 in
theorem Put_twice {w0 : World} {H : Heap} {bw bm now turn c tn : Nat} {sl : List Value} {bs : List Nat} {l : Ents Int} {id z : Int} {e : Spot} (hid : 0 ≤ id ∧ id < 256) (hok : RowOk sl bs) (hw : (bw, .cells 102 523 (whRow now sl bs bm turn)) ∈ H) (hm : (bm, .obj (mapO (Value.int .i64) l c)) ∈ H) (hv : (mGet l id).getD zEnt = .agg (e.v ++ [Value.int .i64 ((tn : Nat) : Int)]).toArray) (hh : mHas l id = true)  : PureAt Tryd.prog w0 H 14 [.pointer (some ⟨bw, 0, none⟩), .int .i64 id, .int .u64 z] (.tuple #[.agg zSpot.v.toArray, .int .i64 5]) := by
  refine L_enter Tryd.func14 rfl Tryd.ntmps14 rfl rfl ?_
  refine W_sr ?_
  refine W_alloc (l := zSpot.v) ty27 rfl rfl (fun b6 => ?_)
  refine W_assign rfl rfl ?_
  refine W_nil ?_
  refine W_seq ?_
  refine W_block ?_
  refine W_sr ?_
  refine W_move rfl rfl ?_
  refine W_x (X_ptrNil rfl rfl ty24) (fun _ h => by cases h) rfl ?_
  refine W_assign rfl rfl ?_
  refine W_nil ?_
  refine W_condF rfl rfl ?_
  refine W_sr ?_
  refine W_move rfl rfl ?_
  refine W_bin rfl rfl b_lss rfl ?_
  refine W_move rfl rfl ?_
  apply W_or
  iterate 4 exact rfl
  case h1 =>
    intro hg2
    refine W_gyes rfl rfl ?_
    refine W_move rfl rfl ?_
    refine W_gyes rfl rfl ?_
    refine W_bin rfl rfl b_geq rfl ?_
    exact W_met rfl (by repeat (first | exact .refl | refine .cons rfl ?_))
  refine W_assign rfl rfl ?_
  refine W_nil ?_
  refine W_condF rfl (by simp; omega) ?_
  refine W_skip ?_
  refine W_blk ?_
  refine W_seq ?_
  refine W_sr ?_
  refine W_move rfl rfl ?_
  refine W_nilCheck rfl rfl ?_
  refine W_fieldAddr rfl fld102_3 (by decide) rfl ?_
  refine W_load (v := .map (some bm)) rfl ty97 rfl (Cell.own (b := bw) (List.mem_cons_of_mem _ hw) (wh_map hok)) rfl ?_
  refine W_move rfl rfl ?_
  refine W_lookup (a := id) (zE := zEnt) rfl rfl keyI ty97 zEz (List.mem_cons_of_mem _ hm) rfl ?_
  simp only [if_true]
  rw [hv, hh]
  refine W_move rfl rfl ?_
  refine W_extract rfl rfl rfl ?_
  refine W_extract rfl rfl rfl ?_
  refine W_alloc (l := [.int .i64 0, .int .i64 0, .int .u64 0, .int .u64 0, .int .i64 0]) ty104 rfl rfl (fun b8 => ?_)
  refine W_storeA (l' := (e.v ++ [Value.int .i64 ((tn : Nat) : Int)])) rfl rfl ty104 rfl rfl (b := b8) (by repeat (first | exact List.mem_cons_self | apply List.mem_cons_of_mem | apply List.mem_append_right)) (by exact Nat.le_refl 5) rfl (by repeat (first | exact Upd.head _ | apply Upd.tail | apply Upd.app)) ?_
  refine W_assign rfl rfl ?_
  refine W_nil ?_
  refine W_sr ?_
  refine W_move rfl rfl ?_
  refine W_nil ?_
  refine W_condT rfl rfl ?_
  refine W_sr ?_
  refine W_build ty27 pl27 .nil rfl (by simp only [fillL, spliceL, Value.cells, List.take_zero, List.take_succ_cons, List.take_nil, List.drop_zero, List.drop_succ_cons, List.drop_nil, List.nil_append, List.cons_append, List.append_nil, List.length_cons, List.length_nil, Nat.zero_add, Nat.reduceAdd, List.toList_toArray]; rfl) rfl ?_
  refine W_storeA (l' := zSpot.v) rfl rfl ty27 rfl rfl (b := b6) (by repeat (first | exact List.mem_cons_self | apply List.mem_cons_of_mem | apply List.mem_append_right)) (by exact Nat.le_refl 4) rfl (by repeat (first | exact Upd.head _ | apply Upd.tail | apply Upd.app)) ?_
  refine W_assign rfl rfl ?_
  refine W_nil ?_
  refine W_ret2G (H2 := H) Tryd.results14 (.nil _) (.own rfl ty27 rfl (by repeat (first | exact List.mem_cons_self | apply List.mem_cons_of_mem | apply List.mem_append_right)) rfl) (.tmp rfl) (by repeat (first | with_reducible exact HSub.refl _ | refine HSub.cons (by repeat (first | exact Take.here _ | apply Take.next | apply Take.app)) ?_ | refine HSub.app (by repeat (first | with_reducible exact TakeS.here _ | apply TakeS.next | apply TakeS.app)) ?_ | exact HSub.nil _ | exact HSub.refl _ | refine HSub.drop ?_ | refine HSub.dropS ?_)) ?_
  exact ⟨rfl, rfl⟩
end Go.Proofs.YtknbohnoiigioaaDoor
namespace Go.Proofs.YtknbohnoiigioaaDoor
open Go Go.Sl
attribute [local irreducible] W
set_option maxHeartbeats 1000000 in
theorem Put_clock {w0 : World} {H : Heap} {bw bm turn c a : Nat} {sl : List Value} {bs : List Nat} {l : Ents Int} {id : Int} (hid : 0 ≤ id ∧ id < 256) (ha : a ≤ 18446744073709551615) (hok : RowOk sl bs) (hw : (bw, .cells 102 523 (whRow 18446744073709551615 sl bs bm turn)) ∈ H) (hm : (bm, .obj (mapO (Value.int .i64) l c)) ∈ H) (hv : (mGet l id).getD zEnt = zEnt) (hh : mHas l id = false)  : PureAt Tryd.prog w0 H 14 [.pointer (some ⟨bw, 0, none⟩), .int .i64 id, .int .u64 ((a : Nat) : Int)] (.tuple #[.agg zSpot.v.toArray, .int .i64 12]) := by
  refine L_enter Tryd.func14 rfl Tryd.ntmps14 rfl rfl ?_
  refine W_sr ?_
  refine W_alloc (l := zSpot.v) ty27 rfl rfl (fun b6 => ?_)
  refine W_assign rfl rfl ?_
  refine W_nil ?_
  refine W_seq ?_
  refine W_block ?_
  refine W_sr ?_
  refine W_move rfl rfl ?_
  refine W_x (X_ptrNil rfl rfl ty24) (fun _ h => by cases h) rfl ?_
  refine W_assign rfl rfl ?_
  refine W_nil ?_
  refine W_condF rfl rfl ?_
  refine W_sr ?_
  refine W_move rfl rfl ?_
  refine W_bin rfl rfl b_lss rfl ?_
  refine W_move rfl rfl ?_
  apply W_or
  iterate 4 exact rfl
  case h1 =>
    intro hg2
    refine W_gyes rfl rfl ?_
    refine W_move rfl rfl ?_
    refine W_gyes rfl rfl ?_
    refine W_bin rfl rfl b_geq rfl ?_
    exact W_met rfl (by repeat (first | exact .refl | refine .cons rfl ?_))
  refine W_assign rfl rfl ?_
  refine W_nil ?_
  refine W_condF rfl (by simp; omega) ?_
  refine W_skip ?_
  refine W_blk ?_
  refine W_seq ?_
  refine W_sr ?_
  refine W_move rfl rfl ?_
  refine W_nilCheck rfl rfl ?_
  refine W_fieldAddr rfl fld102_3 (by decide) rfl ?_
  refine W_load (v := .map (some bm)) rfl ty97 rfl (Cell.own (b := bw) (List.mem_cons_of_mem _ hw) (wh_map hok)) rfl ?_
  refine W_move rfl rfl ?_
  refine W_lookup (a := id) (zE := zEnt) rfl rfl keyI ty97 zEz (List.mem_cons_of_mem _ hm) rfl ?_
  simp only [if_true]
  rw [hv, hh]
  refine W_move rfl rfl ?_
  refine W_extract rfl rfl rfl ?_
  refine W_extract rfl rfl rfl ?_
  refine W_alloc (l := [.int .i64 0, .int .i64 0, .int .u64 0, .int .u64 0, .int .i64 0]) ty104 rfl rfl (fun b8 => ?_)
  refine W_storeA (l' := [.int .i64 0, .int .i64 0, .int .u64 0, .int .u64 0, .int .i64 0]) rfl rfl ty104 rfl rfl (b := b8) (by repeat (first | exact List.mem_cons_self | apply List.mem_cons_of_mem | apply List.mem_append_right)) (by exact Nat.le_refl 5) rfl (by repeat (first | exact Upd.head _ | apply Upd.tail | apply Upd.app)) ?_
  refine W_assign rfl rfl ?_
  refine W_nil ?_
  refine W_sr ?_
  refine W_move rfl rfl ?_
  refine W_nil ?_
  refine W_condF rfl rfl ?_
  refine W_skip ?_
  refine W_sr ?_
  refine W_move rfl rfl ?_
  refine W_nilCheck rfl rfl ?_
  refine W_fieldAddr rfl fld102_0 (by decide) rfl ?_
  refine W_load (v := .int .u64 ((18446744073709551615 : Nat) : Int)) rfl ty22 rfl (Cell.own (b := bw) (by repeat (first | exact hw | exact List.mem_cons_self | apply List.mem_cons_of_mem | apply List.mem_append_right)) wh_now) rfl ?_
  refine W_move rfl rfl ?_
  refine W_callp (.cons rfl (.cons rfl .nil)) Tryd.call50 rfl (T := fun _ => True) trivial (Place_pure (a := 18446744073709551615) (b := a) (Nat.le_refl _) ha) ?_
  rw [show placeT 18446744073709551615 a = (zSpot, 12) from if_pos rfl]
  refine W_move rfl rfl ?_
  refine W_extract rfl rfl rfl ?_
  refine W_extract rfl rfl rfl ?_
  refine W_alloc (l := zSpot.v) ty27 rfl rfl (fun b10 => ?_)
  refine W_storeA (l' := zSpot.v) rfl rfl ty27 rfl rfl (b := b10) (by repeat (first | exact List.mem_cons_self | apply List.mem_cons_of_mem | apply List.mem_append_right)) (by exact Nat.le_refl 4) rfl (by repeat (first | exact Upd.head _ | apply Upd.tail | apply Upd.app)) ?_
  refine W_assign rfl rfl ?_
  refine W_nil ?_
  refine W_seq ?_
  refine W_sr ?_
  refine W_move rfl rfl ?_
  refine W_bin rfl rfl b_neq rfl ?_
  refine W_nil ?_
  refine W_condT rfl rfl ?_
  refine W_sr ?_
  refine W_build ty27 pl27 .nil rfl (by simp only [fillL, spliceL, Value.cells, List.take_zero, List.take_succ_cons, List.take_nil, List.drop_zero, List.drop_succ_cons, List.drop_nil, List.nil_append, List.cons_append, List.append_nil, List.length_cons, List.length_nil, Nat.zero_add, Nat.reduceAdd, List.toList_toArray]; rfl) rfl ?_
  refine W_move rfl rfl ?_
  refine W_storeA (l' := zSpot.v) rfl rfl ty27 rfl rfl (b := b6) (by repeat (first | exact List.mem_cons_self | apply List.mem_cons_of_mem | apply List.mem_append_right)) (by exact Nat.le_refl 4) rfl (by repeat (first | exact Upd.head _ | apply Upd.tail | apply Upd.app)) ?_
  refine W_assign rfl rfl ?_
  refine W_nil ?_
  refine W_ret2G (H2 := H) Tryd.results14 (.nil _) (.own rfl ty27 rfl (by repeat (first | exact List.mem_cons_self | apply List.mem_cons_of_mem | apply List.mem_append_right)) rfl) (.tmp rfl) (by repeat (first | with_reducible exact HSub.refl _ | refine HSub.cons (by repeat (first | exact Take.here _ | apply Take.next | apply Take.app)) ?_ | refine HSub.app (by repeat (first | with_reducible exact TakeS.here _ | apply TakeS.next | apply TakeS.app)) ?_ | exact HSub.nil _ | exact HSub.refl _ | refine HSub.drop ?_ | refine HSub.dropS ?_)) ?_
  exact ⟨rfl, rfl⟩
end Go.Proofs.YtknbohnoiigioaaDoor
namespace Go.Proofs.YtknbohnoiigioaaDoor
open Go Go.Sl
attribute [local irreducible] W
theorem flat_out {XS : List Heap} {k : Nat} {B H : Heap} (h : XS[k]? = some B) : HSub (XS.flatten ++ H) (B ++ ((XS.set k []).flatten ++ H)) :=
  HSub.of_perm (((flat_take h).append_right H).trans (by rw [List.append_assoc]))
theorem flat_in {XS : List Heap} {k : Nat} {B H : Heap} (h : k < XS.length) : HSub (B ++ ((XS.set k []).flatten ++ H)) ((XS.set k B).flatten ++ H) :=
  by
  have h1 := (flat_put (B := B) h).append_right H
  rw [List.append_assoc] at h1
  exact HSub.of_perm h1
/-- the blocks of a wheel that shows 'now', holds 'L', and to which 'turn' timers were put -/
inductive WheelH (bw now : Nat) (L : List Tm) (turn : Nat) : Heap → Prop
  | mk {bm c : Nat} {sl : List Value} {XS : List Heap} {bs : List Nat} {l : Ents Int} (h : WhIs now L sl XS bs l c turn) : WheelH bw now L turn ((bw, .cells 102 523 (whRow now sl bs bm turn)) :: (bm, .obj (mapO (Value.int .i64) l c)) :: XS.flatten)
theorem nodup_len : ∀ {n : Nat} {l : List Int}, l.Nodup → (∀ x ∈ l, 0 ≤ x ∧ x < (n : Int)) → l.length ≤ n
  | 0, l, _, h => by
    cases l with
    | nil => exact Nat.le_refl _
    | cons x l => have := h x List.mem_cons_self; omega
  | n + 1, l, hn, h => by
    have h1 := nodup_len (n := n) (hn.filter (fun x => decide (x ≠ (n : Int)))) (fun x hx => by
      obtain ⟨m1, m2⟩ := List.mem_filter.1 hx
      have := h x m1
      have := of_decide_eq_true m2
      omega)
    by_cases c : (n : Int) ∈ l
    · have h2 : l.length = (l.filter (fun x => decide (x ≠ (n : Int)))).length + 1 := by
        have e : l.erase (n : Int) = l.filter (fun x => decide (x ≠ (n : Int))) := by
          rw [hn.erase_eq_filter]
          exact List.filter_congr fun x _ => by
            by_cases e : x = (n : Int) <;> simp [e]
        rw [← e, List.length_erase_of_mem c]
        have := List.length_pos_of_mem c
        omega
      omega
    · have h2 : l.filter (fun x => decide (x ≠ (n : Int))) = l := List.filter_eq_self.2 fun x hx => decide_eq_true (fun e => c (e ▸ hx))
      rw [h2] at h1; omega
theorem WhIs.len {now turn c : Nat} {L : List Tm} {sl : List Value} {XS : List Heap} {bs : List Nat} {l : Ents Int} (h : WhIs now L sl XS bs l c turn) : L.length ≤ 256 := by
  have := nodup_len (n := 256) h.nodup (fun x hx => by
    obtain ⟨t, ht, rfl⟩ := List.mem_map.1 hx
    exact h.range t ht)
  rwa [List.length_map] at this
theorem idsAt_len (L : List Tm) (k : Nat) : (idsAt L k).length ≤ L.length := by
  unfold idsAt; rw [List.length_map]; exact List.length_filter_le _ _
theorem WhIs.miss {now turn c : Nat} {L : List Tm} {sl : List Value} {XS : List Heap} {bs : List Nat} {l : Ents Int} (h : WhIs now L sl XS bs l c turn) {id : Int} (hn : id ∉ L.map (·.id)) : (mGet l id).getD zEnt = zEnt ∧ mHas l id = false := by
  have h1 : mHas l id = false := by
    cases hh : mHas l id with
    | false => rfl
    | true => exact absurd (h.keys.mem_iff.1 (mHas_iff.1 hh)) hn
  refine ⟨?_, h1⟩
  unfold mGet
  cases hf : l.find? (fun p => decide (id = p.1)) with
  | none => rfl
  | some p =>
    exfalso
    have h2 := List.find?_some hf
    have h3 := List.mem_of_find?_eq_some hf
    have : id ∈ l.map (·.1) := by
      rw [of_decide_eq_true h2]; exact List.mem_map_of_mem h3
    exact hn (h.keys.mem_iff.1 this)
set_option maxHeartbeats 4000000 in
theorem Put_at {w0 : World} {H : Heap} {now turn c : Nat} {L : List Tm} {sl : List Value} {XS : List Heap} {bs : List Nat} {l : Ents Int} {bw bm a : Nat} {id : Int} {e : Spot} (h : WhIs now L sl XS bs l c turn) (hnow : now < 18446744073709551615) (ha : a ≤ 18446744073709551615) (hid : 0 ≤ id ∧ id < 256) (htn : turn ≤ 4611686018427387904) (he : (placeT now a) = (e, 0)) (hsp : e.lv < 8 ∧ e.slot < 64) (hv : (mGet l id).getD zEnt = zEnt) (hh : mHas l id = false)  : LCalls Tryd.prog w0 14 #[.pointer (some ⟨bw, 0, none⟩), .int .i64 id, .int .u64 ((a : Nat) : Int)] ((bw, .cells 102 523 (whRow now sl bs bm turn)) :: (bm, .obj (mapO (Value.int .i64) l c)) :: (XS.flatten ++ H)) (fun v H' => ∃ v' X' z, v = .tuple #[.agg e.v.toArray, .int .i64 0] ∧ OwnS 3 1 v' (idsAt L (e.lv * 64 + e.slot) ++ [id]).length ((idsAt L (e.lv * 64 + e.slot) ++ [id]).map (Value.int .i64)) X' ∧ bs[e.lv]? = some z ∧ H' = (bw, .cells 102 523 (whRow now (sl.set (e.lv * 64 + e.slot) v') (bs.set e.lv (withL z [(e.slot : Int)])) bm (turn + 1))) :: (bm, .obj (mapO (Value.int .i64) (mPut l c id (.agg (e.v ++ [Value.int .i64 (((turn + 1) : Nat) : Int)]).toArray)) (mClk l c id))) :: ((XS.set (e.lv * 64 + e.slot) X').flatten ++ H)) := by
  refine L_enter (l := [.pointer (some ⟨bw, 0, none⟩), .int .i64 id, .int .u64 ((a : Nat) : Int)]) Tryd.func14 rfl Tryd.ntmps14 rfl rfl ?_
  refine W_sr ?_
  refine W_alloc (l := zSpot.v) ty27 rfl rfl (fun b6 => ?_)
  refine W_assign rfl rfl ?_
  refine W_nil ?_
  refine W_seq ?_
  refine W_block ?_
  refine W_sr ?_
  refine W_move rfl rfl ?_
  refine W_x (X_ptrNil rfl rfl ty24) (fun _ h => by cases h) rfl ?_
  refine W_assign rfl rfl ?_
  refine W_nil ?_
  refine W_condF rfl rfl ?_
  refine W_sr ?_
  refine W_move rfl rfl ?_
  refine W_bin rfl rfl b_lss rfl ?_
  refine W_move rfl rfl ?_
  apply W_or
  iterate 4 exact rfl
  case h1 =>
    intro hg2
    refine W_gyes rfl rfl ?_
    refine W_move rfl rfl ?_
    refine W_gyes rfl rfl ?_
    refine W_bin rfl rfl b_geq rfl ?_
    exact W_met rfl (by repeat (first | exact .refl | refine .cons rfl ?_))
  refine W_assign rfl rfl ?_
  refine W_nil ?_
  refine W_condF rfl (by simp; omega) ?_
  refine W_skip ?_
  refine W_blk ?_
  refine W_seq ?_
  refine W_sr ?_
  refine W_move rfl rfl ?_
  refine W_nilCheck rfl rfl ?_
  refine W_fieldAddr rfl fld102_3 (by decide) rfl ?_
  refine W_load (v := .map (some bm)) rfl ty97 rfl (Cell.own (b := bw) (by repeat (first | exact List.mem_cons_self | apply List.mem_cons_of_mem | apply List.mem_append_right)) (wh_map h.row)) rfl ?_
  refine W_move rfl rfl ?_
  refine W_lookup (b := bm) (a := id) (zE := zEnt) rfl rfl keyI ty97 zEz (by repeat (first | exact List.mem_cons_self | apply List.mem_cons_of_mem | apply List.mem_append_right)) rfl ?_
  simp only [if_true]
  rw [hv, hh]
  refine W_move rfl rfl ?_
  refine W_extract rfl rfl rfl ?_
  refine W_extract rfl rfl rfl ?_
  refine W_alloc (l := [.int .i64 0, .int .i64 0, .int .u64 0, .int .u64 0, .int .i64 0]) ty104 rfl rfl (fun b8 => ?_)
  refine W_storeA (l' := [.int .i64 0, .int .i64 0, .int .u64 0, .int .u64 0, .int .i64 0]) rfl rfl ty104 rfl rfl (b := b8) (by repeat (first | exact List.mem_cons_self | apply List.mem_cons_of_mem | apply List.mem_append_right)) (by exact Nat.le_refl 5) rfl (by repeat (first | exact Upd.head _ | apply Upd.tail | apply Upd.app)) ?_
  refine W_assign rfl rfl ?_
  refine W_nil ?_
  refine W_sr ?_
  refine W_move rfl rfl ?_
  refine W_nil ?_
  refine W_condF rfl rfl ?_
  refine W_skip ?_
  refine W_sr ?_
  refine W_move rfl rfl ?_
  refine W_nilCheck rfl rfl ?_
  refine W_fieldAddr rfl fld102_0 (by decide) rfl ?_
  refine W_load (v := .int .u64 (now : Int)) rfl ty22 rfl (Cell.own (b := bw) (by repeat (first | exact List.mem_cons_self | apply List.mem_cons_of_mem | apply List.mem_append_right)) wh_now) rfl ?_
  refine W_move rfl rfl ?_
  refine W_callp (.cons rfl (.cons rfl .nil)) Tryd.call50 rfl (T := fun _ => True) trivial (Place_pure (a := now) (b := a) (by omega) ha) ?_
  rw [he]
  refine W_move rfl rfl ?_
  refine W_extract rfl rfl rfl ?_
  refine W_extract rfl rfl rfl ?_
  refine W_alloc (l := zSpot.v) ty27 rfl rfl (fun b10 => ?_)
  refine W_storeA (l' := e.v) rfl rfl ty27 rfl rfl (b := b10) (by repeat (first | exact List.mem_cons_self | apply List.mem_cons_of_mem | apply List.mem_append_right)) (by exact Nat.le_refl 4) rfl (by repeat (first | exact Upd.head _ | apply Upd.tail | apply Upd.app)) ?_
  refine W_assign rfl rfl ?_
  refine W_nil ?_
  refine W_seq ?_
  refine W_sr ?_
  refine W_move rfl rfl ?_
  refine W_bin rfl rfl b_neq rfl ?_
  refine W_nil ?_
  refine W_condF rfl rfl ?_
  refine W_skip ?_
  refine W_sr ?_
  refine W_move rfl rfl ?_
  refine W_nilCheck rfl rfl ?_
  refine W_fieldAddr rfl fld102_4 (by decide) rfl ?_
  refine W_load (v := .int .i64 (turn : Int)) rfl ty3 rfl (Cell.own (b := bw) (by repeat (first | exact List.mem_cons_self | apply List.mem_cons_of_mem | apply List.mem_append_right)) (wh_turn h.row)) rfl ?_
  refine W_bin rfl rfl (b_add (m := ((turn + 1 : Nat) : Int)) (by rw [i64w (by omega)]; omega)) rfl ?_
  refine W_nilCheck rfl rfl ?_
  refine W_fieldAddr rfl fld102_4 (by decide) rfl ?_
  refine W_store (l' := whRow now sl bs bm (turn + 1)) rfl rfl ty3 rfl rfl (b := bw) (by repeat (first | exact List.mem_cons_self | apply List.mem_cons_of_mem | apply List.mem_append_right)) (by rw [wh_len h.row]; rfl) (wh_setTurn h.row) (by repeat (first | exact Upd.head _ | apply Upd.tail | apply Upd.app)) ?_
  refine W_nil ?_
  refine W_seq ?_
  refine W_anyC [(b10, .cells 27 4 e.v), (bw, .cells 102 523 (whRow now sl bs bm (turn + 1)))] (by kernel_rfl) ?_
  refine WC_take 0 (l' := #[true, false, false, false, false, false, false, false, false, false, false, false]) rfl (by decide +kernel) (by decide +kernel) (by decide +kernel) rfl (by decide +kernel) (X_move rfl) rfl ?_
  refine WC_take 1 (l' := #[true, true, false, false, false, false, false, false, false, false, false, false]) rfl (by decide +kernel) (by decide +kernel) (by decide +kernel) rfl (by decide +kernel) (X_nilCheck rfl) rfl ?_
  refine WC_take 2 (l' := #[true, true, true, false, false, false, false, false, false, false, false, false]) rfl (by decide +kernel) (by decide +kernel) (by decide +kernel) rfl (by decide +kernel) (X_fieldAddr rfl fld102_3 (by decide)) rfl ?_
  refine WC_take 3 (l' := #[true, true, true, true, false, false, false, false, false, false, false, false]) rfl (by decide +kernel) (by decide +kernel) (by decide +kernel) rfl (by decide +kernel) (X_load (v := .map (some bm)) rfl ty97 rfl (Cell.own (b := bw) (by repeat (first | exact List.mem_cons_self | apply List.mem_cons_of_mem | apply List.mem_append_right)) (wh_map h.row))) rfl ?_
  refine WC_take 4 (l' := #[true, true, true, true, true, false, false, false, false, false, false, false]) rfl (by decide +kernel) (by decide +kernel) (by decide +kernel) rfl (by decide +kernel) (X_move rfl) rfl ?_
  refine WC_take 5 (l' := #[true, true, true, true, true, true, false, false, false, false, false, false]) rfl (by decide +kernel) (by decide +kernel) (by decide +kernel) rfl (by decide +kernel) (X_loadB (vs := e.v) rfl ty27 rfl (b := b10) (by repeat (first | exact List.mem_cons_self | apply List.mem_cons_of_mem | apply List.mem_append_right)) rfl rfl) rfl ?_
  refine WC_take 6 (l' := #[true, true, true, true, true, true, true, false, false, false, false, false]) rfl (by decide +kernel) (by decide +kernel) (by decide +kernel) rfl (by decide +kernel) (X_move rfl) rfl ?_
  refine WC_take 7 (l' := #[true, true, true, true, true, true, true, true, false, false, false, false]) rfl (by decide +kernel) (by decide +kernel) (by decide +kernel) rfl (by decide +kernel) (X_nilCheck rfl) rfl ?_
  refine WC_take 8 (l' := #[true, true, true, true, true, true, true, true, true, false, false, false]) rfl (by decide +kernel) (by decide +kernel) (by decide +kernel) rfl (by decide +kernel) (X_fieldAddr rfl fld102_4 (by decide)) rfl ?_
  refine WC_take 9 (l' := #[true, true, true, true, true, true, true, true, true, true, false, false]) rfl (by decide +kernel) (by decide +kernel) (by decide +kernel) rfl (by decide +kernel) (X_load (v := .int .i64 ((turn + 1 : Nat) : Int)) rfl ty3 rfl (Cell.own (b := bw) (by repeat (first | exact List.mem_cons_self | apply List.mem_cons_of_mem | apply List.mem_append_right)) (wh_turn h.row))) rfl ?_
  refine WC_take 10 (l' := #[true, true, true, true, true, true, true, true, true, true, true, false]) rfl (by decide +kernel) (by decide +kernel) (by decide +kernel) rfl (by decide +kernel) (X_build (l := (e.v ++ [Value.int .i64 (((turn + 1) : Nat) : Int)])) ty104 pl104 (.cons rfl rfl rfl rfl rfl (.cons rfl rfl rfl rfl rfl .nil)) rfl rfl) rfl ?_
  refine WC_one 11 (l' := #[true, true, true, true, true, true, true, true, true, true, true, true]) (by repeat (first | with_reducible exact HSub.refl _ | refine HSub.cons (by repeat (first | exact Take.here _ | apply Take.next | apply Take.app)) ?_ | refine HSub.app (by repeat (first | with_reducible exact TakeS.here _ | apply TakeS.next | apply TakeS.app)) ?_ | exact HSub.nil _ | exact HSub.refl _ | refine HSub.drop ?_ | refine HSub.dropS ?_)) (by decide +kernel) rfl (by decide +kernel) ?_
  refine W_mapUpdate (a := id) (b := bm) rfl rfl rfl keyI ty97 h.map (by repeat (first | exact Upd.head _ | apply Upd.tail | apply Upd.app)) ?_
  refine W_nil ?_
  refine WC_goal ?_
  refine WC_done (by repeat (first | with_reducible exact HSub.refl _ | refine HSub.cons (by repeat (first | exact Take.here _ | apply Take.next | apply Take.app)) ?_ | refine HSub.app (by repeat (first | with_reducible exact TakeS.here _ | apply TakeS.next | apply TakeS.app)) ?_ | exact HSub.nil _ | exact HSub.refl _ | refine HSub.drop ?_ | refine HSub.dropS ?_)) (by decide +kernel) ?_
  refine W_seq ?_
  obtain ⟨v, X, hsl, hX, hO⟩ := h.own (e.lv * 64 + e.slot) (by omega)
  have hlen := h.len
  have hil := idsAt_len L (e.lv * 64 + e.slot)
  refine W_hsub (.cons (.here _) (.drop (.cons (.here _) (.cons (.here _) (.cons (.here _) (flat_out hX)))))) ?_
  refine W_anyS [(b10, .cells 27 4 e.v), (bw, .cells 102 523 (whRow now sl bs bm (turn + 1)))] 22 (by kernel_rfl) ?_
  refine WS_take 0 (l' := #[true, false, false, false, false, false, false, false, false, false, false, false, false, false, false, false, false, false, false, false, false, false, false]) rfl rfl (by decide +kernel) (by decide +kernel) (by decide +kernel) (by decide +kernel) rfl (by decide +kernel) (X_move rfl) rfl ?_
  refine WS_take 1 (l' := #[true, true, false, false, false, false, false, false, false, false, false, false, false, false, false, false, false, false, false, false, false, false, false]) rfl rfl (by decide +kernel) (by decide +kernel) (by decide +kernel) (by decide +kernel) rfl (by decide +kernel) (X_fieldAddr rfl fld27_0 (by decide)) rfl ?_
  refine WS_take 2 (l' := #[true, true, true, false, false, false, false, false, false, false, false, false, false, false, false, false, false, false, false, false, false, false, false]) rfl rfl (by decide +kernel) (by decide +kernel) (by decide +kernel) (by decide +kernel) rfl (by decide +kernel) (X_load (v := .int .i64 (e.lv : Int)) rfl ty3 rfl (Cell.own (b := b10) (by repeat (first | exact List.mem_cons_self | apply List.mem_cons_of_mem | apply List.mem_append_right)) rfl)) rfl ?_
  refine WS_take 3 (l' := #[true, true, true, true, false, false, false, false, false, false, false, false, false, false, false, false, false, false, false, false, false, false, false]) rfl rfl (by decide +kernel) (by decide +kernel) (by decide +kernel) (by decide +kernel) rfl (by decide +kernel) (X_fieldAddr rfl fld27_1 (by decide)) rfl ?_
  refine WS_take 4 (l' := #[true, true, true, true, true, false, false, false, false, false, false, false, false, false, false, false, false, false, false, false, false, false, false]) rfl rfl (by decide +kernel) (by decide +kernel) (by decide +kernel) (by decide +kernel) rfl (by decide +kernel) (X_load (v := .int .i64 (e.slot : Int)) rfl ty3 rfl (Cell.own (b := b10) (by repeat (first | exact List.mem_cons_self | apply List.mem_cons_of_mem | apply List.mem_append_right)) rfl)) rfl ?_
  refine WS_take 5 (l' := #[true, true, true, true, true, true, false, false, false, false, false, false, false, false, false, false, false, false, false, false, false, false, false]) rfl rfl (by decide +kernel) (by decide +kernel) (by decide +kernel) (by decide +kernel) rfl (by decide +kernel) (X_move rfl) rfl ?_
  refine WS_take 6 (l' := #[true, true, true, true, true, true, true, false, false, false, false, false, false, false, false, false, false, false, false, false, false, false, false]) rfl rfl (by decide +kernel) (by decide +kernel) (by decide +kernel) (by decide +kernel) rfl (by decide +kernel) (X_fieldAddr rfl fld27_0 (by decide)) rfl ?_
  refine WS_take 7 (l' := #[true, true, true, true, true, true, true, true, false, false, false, false, false, false, false, false, false, false, false, false, false, false, false]) rfl rfl (by decide +kernel) (by decide +kernel) (by decide +kernel) (by decide +kernel) rfl (by decide +kernel) (X_load (v := .int .i64 (e.lv : Int)) rfl ty3 rfl (Cell.own (b := b10) (by repeat (first | exact List.mem_cons_self | apply List.mem_cons_of_mem | apply List.mem_append_right)) rfl)) rfl ?_
  refine WS_take 8 (l' := #[true, true, true, true, true, true, true, true, true, false, false, false, false, false, false, false, false, false, false, false, false, false, false]) rfl rfl (by decide +kernel) (by decide +kernel) (by decide +kernel) (by decide +kernel) rfl (by decide +kernel) (X_fieldAddr rfl fld27_1 (by decide)) rfl ?_
  refine WS_take 9 (l' := #[true, true, true, true, true, true, true, true, true, true, false, false, false, false, false, false, false, false, false, false, false, false, false]) rfl rfl (by decide +kernel) (by decide +kernel) (by decide +kernel) (by decide +kernel) rfl (by decide +kernel) (X_load (v := .int .i64 (e.slot : Int)) rfl ty3 rfl (Cell.own (b := b10) (by repeat (first | exact List.mem_cons_self | apply List.mem_cons_of_mem | apply List.mem_append_right)) rfl)) rfl ?_
  refine WS_take 10 (l' := #[true, true, true, true, true, true, true, true, true, true, true, false, false, false, false, false, false, false, false, false, false, false, false]) rfl rfl (by decide +kernel) (by decide +kernel) (by decide +kernel) (by decide +kernel) rfl (by decide +kernel) (X_nilCheck rfl) rfl ?_
  refine WS_take 11 (l' := #[true, true, true, true, true, true, true, true, true, true, true, true, false, false, false, false, false, false, false, false, false, false, false]) rfl rfl (by decide +kernel) (by decide +kernel) (by decide +kernel) (by decide +kernel) rfl (by decide +kernel) (X_fieldAddr rfl fld102_1 (by decide)) rfl ?_
  refine WS_take 12 (l' := #[true, true, true, true, true, true, true, true, true, true, true, true, true, false, false, false, false, false, false, false, false, false, false]) rfl rfl (by decide +kernel) (by decide +kernel) (by decide +kernel) (by decide +kernel) rfl (by decide +kernel) (X_indexAddrA (j := e.lv) rfl rfl ty99 ty98 rfl hsp.1 (at_ := 1 + e.lv * 64) (by omega)) rfl ?_
  refine WS_take 13 (l' := #[true, true, true, true, true, true, true, true, true, true, true, true, true, true, false, false, false, false, false, false, false, false, false]) rfl rfl (by decide +kernel) (by decide +kernel) (by decide +kernel) (by decide +kernel) rfl (by decide +kernel) (X_indexAddrA (j := e.slot) rfl rfl ty98 ty35 rfl hsp.2 (at_ := 1 + (e.lv * 64 + e.slot)) (by omega)) rfl ?_
  refine WS_take 14 (l' := #[true, true, true, true, true, true, true, true, true, true, true, true, true, true, true, false, false, false, false, false, false, false, false]) rfl rfl (by decide +kernel) (by decide +kernel) (by decide +kernel) (by decide +kernel) rfl (by decide +kernel) (X_load (v := v) rfl ty35 rfl (Cell.own (b := bw) (by repeat (first | exact List.mem_cons_self | apply List.mem_cons_of_mem | apply List.mem_append_right)) (wh_sl h.row hsl))) rfl ?_
  refine WS_take 15 (l' := #[true, true, true, true, true, true, true, true, true, true, true, true, true, true, true, true, false, false, false, false, false, false, false]) rfl rfl (by decide +kernel) (by decide +kernel) (by decide +kernel) (by decide +kernel) rfl (by decide +kernel) (X_move rfl) rfl ?_
  refine WS_takeP 18 (l' := #[true, true, true, true, true, true, true, true, true, true, true, true, true, true, true, true, false, false, true, false, false, false, false]) rfl rfl (by decide +kernel) (by decide +kernel) (by decide +kernel) rfl (by decide +kernel) (X_nilCheck rfl) rfl ?_
  refine WS_takeP 19 (l' := #[true, true, true, true, true, true, true, true, true, true, true, true, true, true, true, true, false, false, true, true, false, false, false]) rfl rfl (by decide +kernel) (by decide +kernel) (by decide +kernel) rfl (by decide +kernel) (X_fieldAddr rfl fld102_1 (by decide)) rfl ?_
  refine WS_takeP 20 (l' := #[true, true, true, true, true, true, true, true, true, true, true, true, true, true, true, true, false, false, true, true, true, false, false]) rfl rfl (by decide +kernel) (by decide +kernel) (by decide +kernel) rfl (by decide +kernel) (X_indexAddrA (j := e.lv) rfl rfl ty99 ty98 rfl hsp.1 (at_ := 1 + e.lv * 64) (by omega)) rfl ?_
  refine WS_one 16 (l' := #[true, true, true, true, true, true, true, true, true, true, true, true, true, true, true, true, true, false, true, true, true, false, false]) (by repeat (first | with_reducible exact HSub.refl _ | refine HSub.cons (by repeat (first | exact Take.here _ | apply Take.next | apply Take.app)) ?_ | refine HSub.app (by repeat (first | with_reducible exact TakeS.here _ | apply TakeS.next | apply TakeS.app)) ?_ | exact HSub.nil _ | exact HSub.refl _ | refine HSub.drop ?_ | refine HSub.dropS ?_)) rfl (by decide +kernel) rfl (by decide +kernel) ?_
  refine W_buildSlice ty35 ty3 (.cons rfl rfl rfl rfl rfl .nil) rfl rfl rfl rfl rfl rfl rfl (fun b82 => ?_)
  refine W_nil ?_
  refine WS_goal ?_
  refine WS_one 17 (l' := #[true, true, true, true, true, true, true, true, true, true, true, true, true, true, true, true, true, true, true, true, true, false, false]) (by repeat (first | with_reducible exact HSub.refl _ | refine HSub.cons (by repeat (first | exact Take.here _ | apply Take.next | apply Take.app)) ?_ | refine HSub.app (by repeat (first | with_reducible exact TakeS.here _ | apply TakeS.next | apply TakeS.app)) ?_ | exact HSub.nil _ | exact HSub.refl _ | refine HSub.drop ?_ | refine HSub.dropS ?_)) rfl (by decide +kernel) rfl (by decide +kernel) ?_
  refine W_append (news := [.int .i64 id]) (m := 1) (HB := X) (H0 := (b82, .cells 3 1 [.int .i64 id]) :: (b10, .cells 27 4 e.v) :: (b6, .cells 27 4 zSpot.v) :: (bw, .cells 102 523 (whRow now sl bs bm (turn + 1))) :: (bm, .obj (mapO (Value.int .i64) (mPut l c id (.agg (e.v ++ [Value.int .i64 (((turn + 1) : Nat) : Int)]).toArray)) (mClk l c id))) :: ((XS.set (e.lv * 64 + e.slot) []).flatten ++ H)) rfl rfl ty35 ty3 rfl (by decide) hO rfl (Holds.own List.mem_cons_self) rfl (by simp only [maxLen]; omega) (by omega) (by repeat (first | with_reducible exact HSub.refl _ | refine HSub.cons (by repeat (first | exact Take.here _ | apply Take.next | apply Take.app)) ?_ | refine HSub.app (by repeat (first | with_reducible exact TakeS.here _ | apply TakeS.next | apply TakeS.app)) ?_ | exact HSub.nil _ | exact HSub.refl _ | refine HSub.drop ?_ | refine HSub.dropS ?_)) rfl (fun v' X' hO' => ?_)
  refine W_nil ?_
  refine WS_goal ?_
  refine WS_take 21 (l' := #[true, true, true, true, true, true, true, true, true, true, true, true, true, true, true, true, true, true, true, true, true, true, false]) rfl rfl (by decide +kernel) (by decide +kernel) (by decide +kernel) (by decide +kernel) rfl (by decide +kernel) (X_indexAddrA (j := e.slot) rfl rfl ty98 ty35 rfl hsp.2 (at_ := 1 + (e.lv * 64 + e.slot)) (by omega)) rfl ?_
  refine WS_last (l' := #[true, true, true, true, true, true, true, true, true, true, true, true, true, true, true, true, true, true, true, true, true, true, true]) (by repeat (first | with_reducible exact HSub.refl _ | refine HSub.cons (by repeat (first | exact Take.here _ | apply Take.next | apply Take.app)) ?_ | refine HSub.app (by repeat (first | with_reducible exact TakeS.here _ | apply TakeS.next | apply TakeS.app)) ?_ | exact HSub.nil _ | exact HSub.refl _ | refine HSub.drop ?_ | refine HSub.dropS ?_)) (by decide +kernel) rfl (by decide +kernel) ?_
  have hv1 : v'.oneCell' = true := by obtain ⟨_, _, rfl, _⟩ := hO'.shape; rfl
  refine W_store (l' := whRow now (sl.set (e.lv * 64 + e.slot) v') bs bm (turn + 1)) rfl rfl ty35 hv1 rfl (b := bw) (by repeat (first | exact List.mem_cons_self | apply List.mem_cons_of_mem | apply List.mem_append_right)) (by rw [wh_len h.row, Nat.blt_eq]; omega) (wh_setSl h.row (by omega)) (by repeat (first | exact Upd.head _ | apply Upd.tail | apply Upd.app)) ?_
  refine W_nil ?_
  refine WC_goal ?_
  refine WC_done (.nil _) (by decide +kernel) ?_
  refine W_seq ?_
  obtain ⟨z, hz, hz2, _⟩ := h.busy e.lv hsp.1
  have hok2 := h.row.setSl (e.lv * 64 + e.slot) v'
  refine W_hsub (H' := (b10, .cells 27 4 e.v) :: (b6, .cells 27 4 zSpot.v) :: (bw, .cells 102 523 (whRow now (sl.set (e.lv * 64 + e.slot) v') bs bm (turn + 1))) :: (bm, .obj (mapO (Value.int .i64) (mPut l c id (.agg (e.v ++ [Value.int .i64 (((turn + 1) : Nat) : Int)]).toArray)) (mClk l c id))) :: ((XS.set (e.lv * 64 + e.slot) X').flatten ++ H)) ((show HSub _ ((b10, .cells 27 4 e.v) :: (b6, .cells 27 4 zSpot.v) :: (bw, .cells 102 523 (whRow now (sl.set (e.lv * 64 + e.slot) v') bs bm (turn + 1))) :: (bm, .obj (mapO (Value.int .i64) (mPut l c id (.agg (e.v ++ [Value.int .i64 (((turn + 1) : Nat) : Int)]).toArray)) (mClk l c id))) :: (X' ++ ((XS.set (e.lv * 64 + e.slot) []).flatten ++ H))) from (by repeat (first | with_reducible exact HSub.refl _ | refine HSub.cons (by repeat (first | exact Take.here _ | apply Take.next | apply Take.app)) ?_ | refine HSub.app (by repeat (first | with_reducible exact TakeS.here _ | apply TakeS.next | apply TakeS.app)) ?_ | exact HSub.nil _ | exact HSub.refl _ | refine HSub.drop ?_ | refine HSub.dropS ?_))).trans (.cons (.here _) (.cons (.here _) (.cons (.here _) (.cons (.here _) (flat_in (by rw [h.xs]; omega))))))) ?_
  refine W_anyS [(b10, .cells 27 4 e.v), (bw, .cells 102 523 (whRow now (sl.set (e.lv * 64 + e.slot) v') bs bm (turn + 1)))] 17 (by kernel_rfl) ?_
  refine WS_take 0 (l' := #[true, false, false, false, false, false, false, false, false, false, false, false, false, false, false, false, false, false]) rfl rfl (by decide +kernel) (by decide +kernel) (by decide +kernel) (by decide +kernel) rfl (by decide +kernel) (X_move rfl) rfl ?_
  refine WS_take 1 (l' := #[true, true, false, false, false, false, false, false, false, false, false, false, false, false, false, false, false, false]) rfl rfl (by decide +kernel) (by decide +kernel) (by decide +kernel) (by decide +kernel) rfl (by decide +kernel) (X_fieldAddr rfl fld27_0 (by decide)) rfl ?_
  refine WS_take 2 (l' := #[true, true, true, false, false, false, false, false, false, false, false, false, false, false, false, false, false, false]) rfl rfl (by decide +kernel) (by decide +kernel) (by decide +kernel) (by decide +kernel) rfl (by decide +kernel) (X_load (v := .int .i64 (e.lv : Int)) rfl ty3 rfl (Cell.own (b := b10) (by repeat (first | exact List.mem_cons_self | apply List.mem_cons_of_mem | apply List.mem_append_right)) rfl)) rfl ?_
  refine WS_take 3 (l' := #[true, true, true, true, false, false, false, false, false, false, false, false, false, false, false, false, false, false]) rfl rfl (by decide +kernel) (by decide +kernel) (by decide +kernel) (by decide +kernel) rfl (by decide +kernel) (X_move rfl) rfl ?_
  refine WS_take 4 (l' := #[true, true, true, true, true, false, false, false, false, false, false, false, false, false, false, false, false, false]) rfl rfl (by decide +kernel) (by decide +kernel) (by decide +kernel) (by decide +kernel) rfl (by decide +kernel) (X_fieldAddr rfl fld27_0 (by decide)) rfl ?_
  refine WS_take 5 (l' := #[true, true, true, true, true, true, false, false, false, false, false, false, false, false, false, false, false, false]) rfl rfl (by decide +kernel) (by decide +kernel) (by decide +kernel) (by decide +kernel) rfl (by decide +kernel) (X_load (v := .int .i64 (e.lv : Int)) rfl ty3 rfl (Cell.own (b := b10) (by repeat (first | exact List.mem_cons_self | apply List.mem_cons_of_mem | apply List.mem_append_right)) rfl)) rfl ?_
  refine WS_take 6 (l' := #[true, true, true, true, true, true, true, false, false, false, false, false, false, false, false, false, false, false]) rfl rfl (by decide +kernel) (by decide +kernel) (by decide +kernel) (by decide +kernel) rfl (by decide +kernel) (X_nilCheck rfl) rfl ?_
  refine WS_take 7 (l' := #[true, true, true, true, true, true, true, true, false, false, false, false, false, false, false, false, false, false]) rfl rfl (by decide +kernel) (by decide +kernel) (by decide +kernel) (by decide +kernel) rfl (by decide +kernel) (X_fieldAddr rfl fld102_2 (by decide)) rfl ?_
  refine WS_take 8 (l' := #[true, true, true, true, true, true, true, true, true, false, false, false, false, false, false, false, false, false]) rfl rfl (by decide +kernel) (by decide +kernel) (by decide +kernel) (by decide +kernel) rfl (by decide +kernel) (X_indexAddrA (j := e.lv) rfl rfl ty100 ty49 rfl hsp.1 (at_ := 513 + e.lv) (by omega)) rfl ?_
  refine WS_take 9 (l' := #[true, true, true, true, true, true, true, true, true, true, false, false, false, false, false, false, false, false]) rfl rfl (by decide +kernel) (by decide +kernel) (by decide +kernel) (by decide +kernel) rfl (by decide +kernel) (X_load (v := .int .u64 (z : Int)) rfl ty49 rfl (Cell.own (b := bw) (by repeat (first | exact List.mem_cons_self | apply List.mem_cons_of_mem | apply List.mem_append_right)) (wh_bs hok2 hz))) rfl ?_
  refine WS_take 10 (l' := #[true, true, true, true, true, true, true, true, true, true, true, false, false, false, false, false, false, false]) rfl rfl (by decide +kernel) (by decide +kernel) (by decide +kernel) (by decide +kernel) rfl (by decide +kernel) (X_fieldAddr rfl fld27_1 (by decide)) rfl ?_
  refine WS_take 11 (l' := #[true, true, true, true, true, true, true, true, true, true, true, true, false, false, false, false, false, false]) rfl rfl (by decide +kernel) (by decide +kernel) (by decide +kernel) (by decide +kernel) rfl (by decide +kernel) (X_load (v := .int .i64 (e.slot : Int)) rfl ty3 rfl (Cell.own (b := b10) (by repeat (first | exact List.mem_cons_self | apply List.mem_cons_of_mem | apply List.mem_append_right)) rfl)) rfl ?_
  refine WS_takeP 14 (l' := #[true, true, true, true, true, true, true, true, true, true, true, true, false, false, true, false, false, false]) rfl rfl (by decide +kernel) (by decide +kernel) (by decide +kernel) rfl (by decide +kernel) (X_nilCheck rfl) rfl ?_
  refine WS_takeP 15 (l' := #[true, true, true, true, true, true, true, true, true, true, true, true, false, false, true, true, false, false]) rfl rfl (by decide +kernel) (by decide +kernel) (by decide +kernel) rfl (by decide +kernel) (X_fieldAddr rfl fld102_2 (by decide)) rfl ?_
  refine WS_one 12 (l' := #[true, true, true, true, true, true, true, true, true, true, true, true, true, false, true, true, false, false]) (by repeat (first | with_reducible exact HSub.refl _ | refine HSub.cons (by repeat (first | exact Take.here _ | apply Take.next | apply Take.app)) ?_ | refine HSub.app (by repeat (first | with_reducible exact TakeS.here _ | apply TakeS.next | apply TakeS.app)) ?_ | exact HSub.nil _ | exact HSub.refl _ | refine HSub.drop ?_ | refine HSub.dropS ?_)) rfl (by decide +kernel) rfl (by decide +kernel) ?_
  refine W_buildSlice ty35 ty3 (.cons rfl rfl rfl rfl rfl .nil) rfl rfl rfl rfl rfl rfl rfl (fun b100 => ?_)
  refine W_nil ?_
  refine WS_goal ?_
  refine WS_one 13 (l' := #[true, true, true, true, true, true, true, true, true, true, true, true, true, true, true, true, false, false]) (by repeat (first | with_reducible exact HSub.refl _ | refine HSub.cons (by repeat (first | exact Take.here _ | apply Take.next | apply Take.app)) ?_ | refine HSub.app (by repeat (first | with_reducible exact TakeS.here _ | apply TakeS.next | apply TakeS.app)) ?_ | exact HSub.nil _ | exact HSub.refl _ | refine HSub.drop ?_ | refine HSub.dropS ?_)) rfl (by decide +kernel) rfl (by decide +kernel) ?_
  refine W_callq (.cons rfl (.cons rfl .nil)) Tryd.call51 rfl (with_q (l := [(e.slot : Int)]) hz2 (show 1 ≤ 4611686018427387904 by decide) (Holds.own (b := b100) (by repeat (first | exact List.mem_cons_self | apply List.mem_cons_of_mem | apply List.mem_append_right)))) ?_
  refine W_nil ?_
  refine WS_goal ?_
  refine WS_take 16 (l' := #[true, true, true, true, true, true, true, true, true, true, true, true, true, true, true, true, true, false]) rfl rfl (by decide +kernel) (by decide +kernel) (by decide +kernel) (by decide +kernel) rfl (by decide +kernel) (X_indexAddrA (j := e.lv) rfl rfl ty100 ty49 rfl hsp.1 (at_ := 513 + e.lv) (by omega)) rfl ?_
  refine WS_last (l' := #[true, true, true, true, true, true, true, true, true, true, true, true, true, true, true, true, true, true]) (by repeat (first | with_reducible exact HSub.refl _ | refine HSub.cons (by repeat (first | exact Take.here _ | apply Take.next | apply Take.app)) ?_ | refine HSub.app (by repeat (first | with_reducible exact TakeS.here _ | apply TakeS.next | apply TakeS.app)) ?_ | exact HSub.nil _ | exact HSub.refl _ | refine HSub.drop ?_ | refine HSub.dropS ?_)) (by decide +kernel) rfl (by decide +kernel) ?_
  refine W_store (l' := (whRow now (sl.set (e.lv * 64 + e.slot) v') (bs.set e.lv (withL z [(e.slot : Int)])) bm (turn + 1))) rfl rfl ty49 rfl rfl (b := bw) (by repeat (first | exact List.mem_cons_self | apply List.mem_cons_of_mem | apply List.mem_append_right)) (by rw [wh_len hok2, Nat.blt_eq]; omega) (wh_setBs hok2 hsp.1) (by repeat (first | exact Upd.head _ | apply Upd.tail | apply Upd.app)) ?_
  refine W_nil ?_
  refine WC_goal ?_
  refine WC_done (.nil _) (by decide +kernel) ?_
  refine W_sr ?_
  refine W_loadB (vs := e.v) rfl ty27 rfl (b := b10) (by repeat (first | exact List.mem_cons_self | apply List.mem_cons_of_mem | apply List.mem_append_right)) rfl rfl rfl ?_
  refine W_storeA (l' := e.v) rfl rfl ty27 rfl rfl (b := b6) (by repeat (first | exact List.mem_cons_self | apply List.mem_cons_of_mem | apply List.mem_append_right)) (by exact Nat.le_refl 4) rfl (by repeat (first | exact Upd.head _ | apply Upd.tail | apply Upd.app)) ?_
  refine W_assign rfl rfl ?_
  refine W_nil ?_
  refine W_ret2G (H2 := (bw, .cells 102 523 (whRow now (sl.set (e.lv * 64 + e.slot) v') (bs.set e.lv (withL z [(e.slot : Int)])) bm (turn + 1))) :: (bm, .obj (mapO (Value.int .i64) (mPut l c id (.agg (e.v ++ [Value.int .i64 (((turn + 1) : Nat) : Int)]).toArray)) (mClk l c id))) :: ((XS.set (e.lv * 64 + e.slot) X').flatten ++ H)) Tryd.results14 (.nil _) (.own rfl ty27 rfl (by repeat (first | exact List.mem_cons_self | apply List.mem_cons_of_mem | apply List.mem_append_right)) rfl) (.tmp rfl) (by repeat (first | with_reducible exact HSub.refl _ | refine HSub.cons (by repeat (first | exact Take.here _ | apply Take.next | apply Take.app)) ?_ | refine HSub.app (by repeat (first | with_reducible exact TakeS.here _ | apply TakeS.next | apply TakeS.app)) ?_ | exact HSub.nil _ | exact HSub.refl _ | refine HSub.drop ?_ | refine HSub.dropS ?_)) ?_
  exact ⟨v', X', z, rfl, by rw [List.length_append, List.map_append]; exact hO', hz, rfl⟩
end Go.Proofs.YtknbohnoiigioaaDoor
namespace Go.Proofs.YtknbohnoiigioaaDoor
open Go Go.Sl
attribute [local irreducible] W
abbrev tmOf (now a turn : Nat) (id : Int) : Tm := ⟨id, (placeT now a).1, turn + 1⟩
theorem Put_L {w0 : World} {H HW : Heap} {bw now turn a : Nat} {L : List Tm} {id : Int} (hW : WheelH bw now L turn HW) (hnow : now < 18446744073709551615) (ha : a ≤ 18446744073709551615) (hid : 0 ≤ id ∧ id < 256) (hnew : id ∉ L.map (·.id)) (htn : turn ≤ 4611686018427387904) :
    LCalls Tryd.prog w0 14 #[.pointer (some ⟨bw, 0, none⟩), .int .i64 id, .int .u64 ((a : Nat) : Int)] (HW ++ H) (fun v H' => ∃ HW', WheelH bw now (L ++ [tmOf now a turn id]) (turn + 1) HW' ∧ v = .tuple #[.agg (placeT now a).1.v.toArray, .int .i64 0] ∧ H' = HW' ++ H) := by
  cases hW with
  | @mk bm c sl XS bs l h =>
    obtain ⟨num, p1, p2, p3, p4, p5, p6, p7⟩ := place_is (at_ := a) hnow
    obtain ⟨hv, hh⟩ := h.miss hnew
    have hs : (placeT now a).1.slot < 64 := by rw [p3]; omega
    refine (Put_at (e := (placeT now a).1) h hnow ha hid htn (Prod.ext rfl p1) ⟨p2, hs⟩ hv hh).mono ?_
    rintro v H' ⟨v', X', z, rfl, hO, hz, rfl⟩
    exact ⟨_, .mk (h.put hid hnew ⟨p2, hs⟩ ⟨num, p3, p4, p5, p6, p7⟩ hO hz), rfl, rfl⟩
theorem WhIs.hit {now turn c : Nat} {L : List Tm} {sl : List Value} {XS : List Heap} {bs : List Nat} {l : Ents Int} (h : WhIs now L sl XS bs l c turn) {t : Tm} (ht : t ∈ L) : (mGet l t.id).getD zEnt = .agg (t.s.v ++ [Value.int .i64 ((t.turn : Nat) : Int)]).toArray ∧ mHas l t.id = true := by
  have h1 : mHas l t.id = true := mHas_iff.2 (h.keys.mem_iff.2 (List.mem_map_of_mem ht))
  refine ⟨?_, h1⟩
  cases hf : l.find? (fun p => decide (t.id = p.1)) with
  | none =>
    exfalso
    obtain ⟨p, hp, e⟩ := List.mem_map.1 (mHas_iff.1 h1)
    have := List.find?_eq_none.1 hf p hp
    exact this (decide_eq_true e.symm)
  | some p =>
    have h2a := List.find?_some hf
    have h2 : t.id = p.1 := of_decide_eq_true h2a
    obtain ⟨u, hu, e1, e2⟩ := h.val p (List.mem_of_find?_eq_some hf)
    obtain rfl : u = t := tm_uniq h.nodup hu ht (by rw [e1, h2])
    unfold mGet
    rw [hf]
    exact e2
/-- one that is held already -/
theorem Put_again {w0 : World} {H HW : Heap} {bw now turn : Nat} {L : List Tm} {id z : Int} (hW : WheelH bw now L turn HW) (hid : 0 ≤ id ∧ id < 256) (hin : id ∈ L.map (·.id)) :
    LCalls Tryd.prog w0 14 #[.pointer (some ⟨bw, 0, none⟩), .int .i64 id, .int .u64 z] (HW ++ H) (fun v H' => v = .tuple #[.agg zSpot.v.toArray, .int .i64 5] ∧ H' = HW ++ H) := by
  cases hW with
  | @mk bm c sl XS bs l h =>
    obtain ⟨t, ht, rfl⟩ := List.mem_map.1 hin
    obtain ⟨hv, hh⟩ := h.hit ht
    refine (Put_twice hid h.row (bm := bm) (c := c) (l := l) (now := now) (turn := turn) (by repeat (first | exact List.mem_cons_self | apply List.mem_cons_of_mem | apply List.mem_append_right)) (by repeat (first | exact List.mem_cons_self | apply List.mem_cons_of_mem | apply List.mem_append_right)) hv hh).mono ?_
    rintro v H' ⟨rfl, rfl⟩
    exact ⟨rfl, rfl⟩
/-- at the last tick -/
theorem Put_late {w0 : World} {H HW : Heap} {bw turn a : Nat} {L : List Tm} {id : Int} (hW : WheelH bw 18446744073709551615 L turn HW) (hid : 0 ≤ id ∧ id < 256) (ha : a ≤ 18446744073709551615) (hnew : id ∉ L.map (·.id)) :
    LCalls Tryd.prog w0 14 #[.pointer (some ⟨bw, 0, none⟩), .int .i64 id, .int .u64 ((a : Nat) : Int)] (HW ++ H) (fun v H' => v = .tuple #[.agg zSpot.v.toArray, .int .i64 12] ∧ H' = HW ++ H) := by
  cases hW with
  | @mk bm c sl XS bs l h =>
    obtain ⟨hv, hh⟩ := h.miss hnew
    refine (Put_clock hid ha h.row (bm := bm) (c := c) (l := l) (turn := turn) (by repeat (first | exact List.mem_cons_self | apply List.mem_cons_of_mem | apply List.mem_append_right)) (by repeat (first | exact List.mem_cons_self | apply List.mem_cons_of_mem | apply List.mem_append_right)) hv hh).mono ?_
    rintro v H' ⟨rfl, rfl⟩
    exact ⟨rfl, rfl⟩
theorem new_heap (a b : Nat × Blk) (H : Heap) : a :: b :: H = (a :: b :: (List.replicate 512 ([] : Heap)).flatten) ++ H := by
  rw [List.flatten_replicate_nil]; rfl
theorem New_W {w0 : World} {H : Heap} {now : Nat} : LCalls Tryd.prog w0 13 #[.int .u64 ((now : Nat) : Int)] H (fun v H' => ∃ bw HW, v = .pointer (some ⟨bw, 0, none⟩) ∧ WheelH bw now [] 0 HW ∧ H' = HW ++ H) :=
  by
  refine New_L.mono ?_
  rintro v H' ⟨bw, bm, rfl, rfl⟩
  refine ⟨bw, _, rfl, .mk (bm := bm) .new, ?_⟩
  exact new_heap _ _ _
end Go.Proofs.YtknbohnoiigioaaDoor
