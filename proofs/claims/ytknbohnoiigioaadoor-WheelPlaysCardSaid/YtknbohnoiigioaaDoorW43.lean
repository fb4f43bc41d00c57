/-
  Own work: contracts of functions that the statement reaches, and plain facts on what they compute; each theorem says its conditions.
-/
import Derived.Test.YtknbohnoiigioaaDoorW42
import Derived.Test.YtknbohnoiigioaaDoorSlPtrtoSlRead
import Derived.Test.YtknbohnoiigioaaDoorSlRdtoSlFast
set_option linter.all false
set_option linter.unusedSimpArgs false
set_option linter.unusedVariables false
namespace Go.Proofs.YtknbohnoiigioaaDoor
open Go Go.Sl
attribute [local irreducible] W
structure Act where
  kind : Int
  id : Int
  at_ : Int
deriving DecidableEq
def actC (v : Act) : List Value := [.int .i64 v.kind, .int .i64 v.id, .int .u64 v.at_]
instance : Inhabited Act := ⟨⟨0, 0, 0⟩⟩
def Act.In (v : Act) : Prop := (-9223372036854775808 ≤ v.kind ∧ v.kind ≤ 9223372036854775807) ∧ (-9223372036854775808 ≤ v.id ∧ v.id ≤ 9223372036854775807) ∧ (0 ≤ v.at_ ∧ v.at_ ≤ 18446744073709551615)
theorem actC_len (v : Act) : (actC v).length = 3 := rfl
theorem actC_like (v : Act) : Likes [.int .i64, .int .i64, .int .u64] (actC v) := ⟨⟨_, rfl⟩, ⟨_, rfl⟩, ⟨_, rfl⟩, trivial⟩
theorem actC_inj (v w : Act) (h : actC v = actC w) : v = w := by
  cases v; cases w; simp only [actC, List.cons.injEq, Value.int.injEq, Value.bool.injEq, Value.string.injEq, true_and, and_true] at h; simp only [Act.mk.injEq]; exact h
theorem actC_of {cs : List Value} (h : Leafs [.int .i64, .int .i64, .int .u64] cs) : ∃ v : Act, cs = actC v ∧ v.In := by
  obtain ⟨a0, c0, rfl, ⟨m0, rfl, e0⟩, h0⟩ := leafs_cons h
  obtain ⟨a1, c1, rfl, ⟨m1, rfl, e1⟩, h1⟩ := leafs_cons h0
  obtain ⟨a2, c2, rfl, ⟨m2, rfl, e2⟩, h2⟩ := leafs_cons h1
  obtain rfl := leafs_nil h2
  exact ⟨⟨m0, m1, m2⟩, rfl, ⟨e0, e1, e2⟩⟩
theorem flat62 : Flat Tryd.prog 1 62 [.int .i64, .int .i64, .int .u64] := (Flat.struct ty62 (by kernel_rfl) (by kernel_rfl) (.cons (ks := [.int .i64]) (by decide) rfl (by kernel_rfl) (Flat.leaf (k := .int .i64) ty3) (.cons (ks := [.int .i64]) (by decide) rfl (by kernel_rfl) (Flat.leaf (k := .int .i64) ty3) (.cons (ks := [.int .u64]) (by decide) rfl (by kernel_rfl) (Flat.leaf (k := .int .u64) ty22) .nil))))
theorem agg62 : aggB Tryd.prog 62 = true := by kernel_rfl
theorem gt62 : Tryd.prog.eqGuardType Tryd.prog.depth 62 = false := by kernel_rfl
theorem ce62 : Tryd.prog.cellsOf 62 = 3 := by kernel_rfl
abbrev actRow (l : List Act) : List Value := l.flatMap actC
theorem Cells.tail {w0 : World} {H : Heap} {b i : Nat} {v : Value} {vs : List Value} (h : Cells w0 H b i (v :: vs)) : Cells w0 H b (i + 1) vs := fun j u hu => by
  have := h (j + 1) u (by simpa using hu)
  rwa [show i + 1 + j = i + (j + 1) by omega]
theorem dels_twice (L : List Tm) (id : Int) : delsT L [id, id] = (delT L id, if heldB L id = true then 1 else 0) := by
  have h2 : id ∉ (delT L id).map (·.id) := by
    rw [List.mem_map]
    rintro ⟨t, ht, e⟩
    exact of_decide_eq_true (List.mem_filter.1 ht).2 e
  have h3 : heldB (delT L id) id = false := by
    cases hb : heldB (delT L id) id with
    | false => rfl
    | true => exact absurd (heldB_iff.1 hb) h2
  show (delT (delT L id) id, 0 + (if heldB L id = true then 1 else 0) + if heldB (delT L id) id = true then 1 else 0) = _
  rw [delT_out h2, h3, Nat.zero_add]; rfl
/-- the kind of a call -/
def kindOf (z : Int) : Int := z % 4
theorem kindOf_is (z : Int) : (IntKind.u64.wrap z).tmod 4 = kindOf z := by
  have e : IntKind.u64.wrap z = z % 18446744073709551616 := by simp [IntKind.wrap, IntKind.signed, IntKind.bits]
  have h0 : 0 ≤ z % 18446744073709551616 := Int.emod_nonneg _ (by decide)
  rw [e, Int.tmod_eq_emod_of_nonneg h0, Int.emod_emod_of_dvd z (by decide : (4 : Int) ∣ 18446744073709551616)]; rfl
structure PlS where
  nw : Nat
  L : List Tm
  turn : Nat
  HW : Heap
  ad : Option Addr
  cap : Nat
  XR : Heap
structure PlIs (w0 : World) (H : Heap) (bw : Nat) (x : PlS) : Prop where
  wheel : WheelH bw x.nw x.L x.turn x.HW
  now : x.nw ≤ 18446744073709551615
  later : ∀ t ∈ x.L, x.nw < t.s.due
  rows : Holds w0 (x.XR ++ H) x.ad (rowT x.L)
  cap : x.L.length ≤ x.cap
theorem PlIs.len {w0 : World} {H : Heap} {bw : Nat} {x : PlS} (h : PlIs w0 H bw x) : x.L.length ≤ 256 := h.wheel.ids.2.2.2
theorem PlIs.put {w0 : World} {H : Heap} {bw nw turn ad_a : Nat} {L : List Tm} {HW HW' XR XB : Heap} {ad ad' : Option Addr} {cap cap' n : Nat} {id : Int} (h : PlIs w0 H bw ⟨nw, L, turn, HW, ad, cap, XR⟩) (hlt : nw < 18446744073709551615) (hw : WheelH bw nw (L ++ [tmOf nw ad_a turn id]) (turn + 1) HW') (ho : OwnS 77 5 (.slice ad' n cap') (L ++ [tmOf nw ad_a turn id]).length (rowT (L ++ [tmOf nw ad_a turn id])) XB) : PlIs w0 H bw ⟨nw, L ++ [tmOf nw ad_a turn id], turn + 1, HW', ad', cap', XB⟩ := by
  obtain ⟨_, _, e, hc, _⟩ := ho.shape
  cases e
  exact ⟨hw, h.now, hw.later hlt, OwnS.holds ho (fun p hp => List.mem_append_left _ hp), hc⟩
theorem PlIs.del {w0 : World} {H : Heap} {bw nw turn : Nat} {L : List Tm} {HW HW' XR XB : Heap} {ad ad' : Option Addr} {cap cap' n : Nat} {id : Int} (h : PlIs w0 H bw ⟨nw, L, turn, HW, ad, cap, XR⟩) (hw : WheelH bw nw (delT L id) turn HW') (ho : OwnS 77 5 (.slice ad' n cap') (delT L id).length (rowT (delT L id)) XB) : PlIs w0 H bw ⟨nw, delT L id, turn, HW', ad', cap', XB⟩ := by
  obtain ⟨_, _, e, hc, _⟩ := ho.shape
  cases e
  exact ⟨hw, h.now, fun t ht => h.later t (List.mem_filter.1 ht).1, OwnS.holds ho (fun p hp => List.mem_append_left _ hp), hc⟩
theorem placeT_ok {now a : Nat} (h : now < 18446744073709551615) : (placeT now a).2 = 0 := by
  obtain ⟨_, h, _⟩ := place_is (at_ := a) h
  exact h
theorem put_ways (L : List Tm) (nw : Nat) (hn : nw ≤ 18446744073709551615) (id : Int) : ¬ (0 ≤ id ∧ id < 256) ∨ ((0 ≤ id ∧ id < 256) ∧ id ∈ L.map (·.id)) ∨ ((0 ≤ id ∧ id < 256) ∧ id ∉ L.map (·.id) ∧ nw = 18446744073709551615) ∨ ((0 ≤ id ∧ id < 256) ∧ id ∉ L.map (·.id) ∧ nw < 18446744073709551615) := by
  by_cases h1 : 0 ≤ id ∧ id < 256
  · by_cases h2 : id ∈ L.map (·.id)
    · exact .inr (.inl ⟨h1, h2⟩)
    · rcases Nat.lt_or_eq_of_le hn with h3 | h3
      · exact .inr (.inr (.inr ⟨h1, h2, h3⟩))
      · exact .inr (.inr (.inl ⟨h1, h2, h3⟩))
  · exact .inl h1
theorem rPut_late' {w0 : World} {H : Heap} {nw cap : Nat} {L : List Tm} {ad : Option Addr} (hl : L.length ≤ 1000000) (hrow : Holds w0 H ad (rowT L)) {id : Int} {a : Nat} (hid : 0 ≤ id ∧ id < 256) (ha : a ≤ 18446744073709551615) (hin : id ∉ L.map (·.id)) (hm : nw = 18446744073709551615) : PureAt Tryd.prog w0 H 44 [.agg (List.toArray [.int .u64 ((nw : Nat) : Int), .slice ad L.length cap]), .int .i64 id, .int .u64 ((a : Nat) : Int)] (.tuple #[.agg (List.toArray [.int .u64 ((nw : Nat) : Int), .slice ad L.length cap]), .agg zSpot.v.toArray, .int .i64 12]) := by
  subst hm; exact rPut_late hl hrow hid ha hin
theorem Put_late' {w0 : World} {H HW : Heap} {bw turn a nw : Nat} {L : List Tm} {id : Int} (hW : WheelH bw nw L turn HW) (hid : 0 ≤ id ∧ id < 256) (ha : a ≤ 18446744073709551615) (hnew : id ∉ L.map (·.id)) (hm : nw = 18446744073709551615) :
    LCalls Tryd.prog w0 14 #[.pointer (some ⟨bw, 0, none⟩), .int .i64 id, .int .u64 ((a : Nat) : Int)] (HW ++ H) (fun v H' => v = .tuple #[.agg zSpot.v.toArray, .int .i64 12] ∧ H' = HW ++ H) := by
  subst hm; exact Put_late hW hid ha hnew
set_option maxHeartbeats 8000000 in
theorem wheelPlays_pure {now : Nat} {acts : List Act} {ada : Option Addr} {capa : Nat} (hnow : now ≤ 18446744073709551615) (hok : ∀ a ∈ acts, a.In) (hcap : acts.length ≤ 9223372036854775807) : Pure Tryd.prog (fun w => Tab w ∧ InRow w ada (actRow acts)) 11 [.int .u64 ((now : Nat) : Int), .slice ada acts.length capa] (.bool true) := by
  intro w0 H hT
  have hacts : Holds w0 H ada (actRow acts) := Holds.old hT.2
  replace hT := hT.1
  refine L_enter Tryd.func11 rfl Tryd.ntmps11 rfl rfl ?_
  refine W_sr ?_
  refine W_assign rfl rfl ?_
  refine W_nil ?_
  refine W_sr ?_
  refine W_move rfl rfl ?_
  refine W_call (.cons rfl .nil) Tryd.call13 rfl ((New_W (now := now) (H := H)).hsub (by repeat (first | with_reducible exact HSub.refl _ | refine HSub.cons (by repeat (first | exact Take.here _ | apply Take.next | apply Take.app)) ?_ | refine HSub.app (by repeat (first | with_reducible exact TakeS.here _ | apply TakeS.next | apply TakeS.app)) ?_ | exact HSub.nil _ | exact HSub.refl _ | refine HSub.drop ?_ | refine HSub.dropS ?_))) ?_
  rintro v H' ⟨bw1, HW1, rfl, hW1, rfl⟩
  refine W_assign rfl rfl ?_
  refine W_nil ?_
  refine W_sr ?_
  refine W_move rfl rfl ?_
  refine W_build (l := [.int .u64 ((now : Nat) : Int), .slice none 0 0]) ty80 pl80 (.cons rfl rfl rfl rfl rfl .nil) rfl rfl rfl ?_
  refine W_alloc (l := [.int .u64 0, .slice none 0 0]) ty80 rfl rfl (fun b6 => ?_)
  refine W_storeA (l' := [.int .u64 ((now : Nat) : Int), .slice none 0 0]) rfl rfl ty80 rfl rfl (b := b6) (by repeat (first | exact List.mem_cons_self | apply List.mem_cons_of_mem | apply List.mem_append_right)) (by exact Nat.le_refl 2) rfl (by repeat (first | exact Upd.head _ | apply Upd.tail | apply Upd.app)) ?_
  refine W_nil ?_
  refine W_seq ?_
  refine W_sr ?_
  refine W_assign rfl rfl ?_
  refine W_nil ?_
  refine W_block ?_
  refine W_loopC (X := (Nat × PlS)) [(1, _), (5, _), (6, _)] (fun (x : (Nat × PlS)) => [(7, .int .i64 (x.1 : Int))]) (fun _ => _) (fun (x : (Nat × PlS)) => (b6, .cells 80 2 [.int .u64 ((x.2.nw : Nat) : Int), .slice x.2.ad (x.2.L).length x.2.cap]) :: (x.2.HW ++ (x.2.XR ++ H))) (fun (x : (Nat × PlS)) => x.1 ≤ acts.length ∧ x.1 ≤ 80 ∧ PlIs w0 H bw1 x.2 ∧ x.2.turn ≤ x.1) (fun (x : (Nat × PlS)) => acts.length - x.1) (0, ⟨now, [], 0, HW1, none, 0, []⟩) ⟨Nat.zero_le _, Nat.zero_le _, ⟨hW1, hnow, fun t ht => (by cases ht), Holds.nil, Nat.le_refl _⟩, Nat.le_refl _⟩ (sub_cons rfl (sub_cons rfl (sub_cons rfl (sub_nil _)))) (sub_cons rfl (sub_nil _)) rfl (.refl _) ?_
  rintro ⟨i, x⟩ ⟨hi, hi80, hx, htn⟩
  dsimp only at hi hi80 hx htn ⊢
  simp only [List.cons_append, List.nil_append]
  refine W_seq ?_
  refine W_sr ?_
  refine W_move rfl rfl ?_
  refine W_move rfl rfl ?_
  refine W_len rfl ty89 rfl rfl ?_
  refine W_bin rfl rfl b_lss rfl ?_
  refine W_move rfl rfl ?_
  apply W_and
  iterate 4 exact rfl
  case h1 =>
    intro hg4
    refine W_gyes rfl rfl ?_
    refine W_move rfl rfl ?_
    refine W_gyes rfl rfl ?_
    refine W_bin rfl rfl b_lss rfl ?_
    exact W_met rfl (by repeat (first | exact .refl | refine .cons rfl ?_))
  refine W_nil ?_
  refine W_condPS (p := (i : Int) < (acts.length : Int) ∧ (i : Int) < 80) rfl (by first | exact Iff.rfl | simp) (fun q0 => ?_) (fun q0 => ?_)
  · skip
    refine W_skip ?_
    refine W_seq ?_
    refine W_block ?_
    refine W_sr ?_
    obtain ⟨a, hac⟩ : ∃ a, acts[i]? = some a := ⟨_, List.getElem?_eq_getElem (by omega)⟩
    obtain ⟨qx, px, rfl, hcx⟩ := hacts.row actC_len (by decide) hac
    obtain ⟨ha1, ha2, ha3⟩ := hok a (List.mem_of_getElem? hac)
    obtain ⟨at_, hat⟩ : ∃ at_ : Nat, a.at_ = (at_ : Int) := ⟨a.at_.toNat, by omega⟩
    have hatm : at_ ≤ 18446744073709551615 := by omega
    have hlen := hx.len
    refine W_move rfl rfl ?_
    refine W_move rfl rfl ?_
    refine W_indexAddr (j := i) rfl rfl ty89 ty62 (by first | rfl | omega) (by first | decide | omega | simp) rfl rfl ?_
    refine W_loadA rfl ty62 rfl (vs := actC a) rfl (hcx.up (by first | exact hsubI | (repeat (first | with_reducible exact HSub.refl _ | refine HSub.cons (by repeat (first | exact Take.here _ | apply Take.next | apply Take.app)) ?_ | refine HSub.app (by repeat (first | with_reducible exact TakeS.here _ | apply TakeS.next | apply TakeS.app)) ?_ | exact HSub.nil _ | exact HSub.refl _ | refine HSub.drop ?_ | refine HSub.dropS ?_)))) rfl ?_
    refine W_alloc (l := [.int .i64 0, .int .i64 0, .int .u64 0]) ty62 rfl rfl (fun b8 => ?_)
    refine W_storeA (l' := actC a) rfl rfl ty62 rfl rfl (b := b8) (by repeat (first | exact List.mem_cons_self | apply List.mem_cons_of_mem | apply List.mem_append_right)) (by exact Nat.le_refl 3) rfl (by repeat (first | exact Upd.head _ | apply Upd.tail | apply Upd.app)) ?_
    refine W_nil ?_
    refine W_seq ?_
    refine W_sr ?_
    refine W_fieldAddr rfl fld62_0 (by decide) rfl ?_
    refine W_load (v := .int .i64 a.kind) rfl ty3 rfl (Cell.own (b := b8) (by repeat (first | exact List.mem_cons_self | apply List.mem_cons_of_mem | apply List.mem_append_right)) rfl) rfl ?_
    refine W_conv rfl ty3 ty22 rfl rfl ?_
    refine W_bin rfl rfl (b_rem (by decide) (m := kindOf a.kind) (kindOf_is _)) rfl ?_
    refine W_nil ?_
    refine W_cutX (X := PlS) (fun _ => [(1, .slice (some ⟨qx, px, none⟩) acts.length capa), (5, .pointer (some ⟨bw1, 0, none⟩)), (6, .pointer (some ⟨b6, 0, none⟩)), (7, .int .i64 (i : Int)), (8, .pointer (some ⟨b8, 0, none⟩))]) (fun y => (b8, .cells 62 3 (actC a)) :: (b6, .cells 80 2 [.int .u64 ((y.nw : Nat) : Int), .slice y.ad (y.L).length y.cap]) :: (y.HW ++ (y.XR ++ H))) (fun y => PlIs w0 H bw1 y ∧ y.turn ≤ i + 1) ?_ ?_
    · skip
      refine W_block ?_
      refine W_seq ?_
      refine W_sr ?_
      refine W_bin rfl rfl b_eql rfl ?_
      refine W_assign rfl rfl ?_
      refine W_nil ?_
      refine W_condPS (p := kindOf a.kind = 0) rfl (by simp) (fun q1 => ?_) (fun q1 => ?_)
      · skip
        refine W_skip ?_
        refine W_condT rfl rfl ?_
        refine W_sr ?_
        refine W_loadB (vs := [.int .u64 ((x.nw : Nat) : Int), .slice x.ad x.L.length x.cap]) rfl ty80 rfl (b := b6) (by repeat (first | exact List.mem_cons_self | apply List.mem_cons_of_mem | apply List.mem_append_right)) rfl rfl rfl ?_
        refine W_fieldAddr rfl fld62_1 (by decide) rfl ?_
        refine W_load (v := .int .i64 a.id) rfl ty3 rfl (Cell.own (b := b8) (by repeat (first | exact List.mem_cons_self | apply List.mem_cons_of_mem | apply List.mem_append_right)) rfl) rfl ?_
        refine W_fieldAddr rfl fld62_2 (by decide) rfl ?_
        refine W_load (v := .int .u64 ((at_ : Nat) : Int)) rfl ty22 rfl (Cell.own (b := b8) (by repeat (first | exact List.mem_cons_self | apply List.mem_cons_of_mem | apply List.mem_append_right)) (by rw [show actC a = [.int .i64 a.kind, .int .i64 a.id, .int .u64 ((at_ : Nat) : Int)] from by unfold actC; rw [hat]]; rfl)) rfl ?_
        rcases put_ways x.L x.nw hx.now a.id with hr | ⟨hr, hin⟩ | ⟨hr, hin, hnm⟩ | ⟨hr, hin, hlt⟩
        · skip
          refine W_callq (.cons rfl (.cons rfl (.cons rfl .nil))) Tryd.call44 rfl (rPut_range (now := x.nw) (cap := x.cap) (L := x.L) (id := a.id) (a := at_) (by omega) (hx.rows.up (by first | exact hsubI | (repeat (first | with_reducible exact HSub.refl _ | refine HSub.cons (by repeat (first | exact Take.here _ | apply Take.next | apply Take.app)) ?_ | refine HSub.app (by repeat (first | with_reducible exact TakeS.here _ | apply TakeS.next | apply TakeS.app)) ?_ | exact HSub.nil _ | exact HSub.refl _ | refine HSub.drop ?_ | refine HSub.dropS ?_)))) (by omega)) ?_
          refine W_move rfl rfl ?_
          refine W_extract rfl rfl rfl ?_
          refine W_extract rfl rfl rfl ?_
          refine W_extract rfl rfl rfl ?_
          refine W_alloc (l := [.int .u64 0, .slice none 0 0]) ty80 rfl rfl (fun b9 => ?_)
          refine W_alloc (l := zSpot.v) ty65 rfl rfl (fun b10 => ?_)
          refine W_storeA (l' := [.int .u64 ((x.nw : Nat) : Int), .slice x.ad x.L.length x.cap]) rfl rfl ty80 rfl rfl (b := b9) (by repeat (first | exact List.mem_cons_self | apply List.mem_cons_of_mem | apply List.mem_append_right)) (by exact Nat.le_refl 2) rfl (by repeat (first | exact Upd.head _ | apply Upd.tail | apply Upd.app)) ?_
          refine W_storeA (l' := zSpot.v) rfl rfl ty65 rfl rfl (b := b10) (by repeat (first | exact List.mem_cons_self | apply List.mem_cons_of_mem | apply List.mem_append_right)) (by exact Nat.le_refl 4) rfl (by repeat (first | exact Upd.head _ | apply Upd.tail | apply Upd.app)) ?_
          refine W_assign rfl rfl ?_
          refine W_nil ?_
          refine W_sr ?_
          refine W_move rfl rfl ?_
          refine W_fieldAddr rfl fld62_1 (by decide) rfl ?_
          refine W_load (v := .int .i64 a.id) rfl ty3 rfl (Cell.own (b := b8) (by repeat (first | exact List.mem_cons_self | apply List.mem_cons_of_mem | apply List.mem_append_right)) rfl) rfl ?_
          refine W_fieldAddr rfl fld62_2 (by decide) rfl ?_
          refine W_load (v := .int .u64 ((at_ : Nat) : Int)) rfl ty22 rfl (Cell.own (b := b8) (by repeat (first | exact List.mem_cons_self | apply List.mem_cons_of_mem | apply List.mem_append_right)) (by rw [show actC a = [.int .i64 a.kind, .int .i64 a.id, .int .u64 ((at_ : Nat) : Int)] from by unfold actC; rw [hat]]; rfl)) rfl ?_
          refine W_callp (.cons rfl (.cons rfl (.cons rfl .nil))) Tryd.call14 rfl (T := fun _ => True) trivial (Put_range (bw := bw1) (id := a.id) (z := (at_ : Int)) (by omega)) ?_
          refine W_move rfl rfl ?_
          refine W_extract rfl rfl rfl ?_
          refine W_extract rfl rfl rfl ?_
          refine W_alloc (l := zSpot.v) ty27 rfl rfl (fun b12 => ?_)
          refine W_storeA (l' := zSpot.v) rfl rfl ty27 rfl rfl (b := b12) (by repeat (first | exact List.mem_cons_self | apply List.mem_cons_of_mem | apply List.mem_append_right)) (by exact Nat.le_refl 4) rfl (by repeat (first | exact Upd.head _ | apply Upd.tail | apply Upd.app)) ?_
          refine W_assign rfl rfl ?_
          refine W_nil ?_
          refine W_seq ?_
          refine W_quietsr (by kernel_rfl) (by decide +kernel) ?_
          refine WQ_x (X_loadB (vs := zSpot.v) rfl ty27 rfl (b := b12) (by repeat (first | exact List.mem_cons_self | apply List.mem_cons_of_mem | apply List.mem_append_right)) rfl rfl) rfl ?_
          refine WQ_callp (.cons rfl .nil) Tryd.call33 rfl (T := fun _ => True) trivial rOfS_pure ?_
          refine WQ_x (X_loadB (vs := zSpot.v) rfl ty65 rfl (b := b10) (by repeat (first | exact List.mem_cons_self | apply List.mem_cons_of_mem | apply List.mem_append_right)) rfl rfl) rfl ?_
          refine WQ_x (X_neA rfl rfl ty65 (by kernel_rfl) (by kernel_rfl) (.cons (by decide) ty3 rfl rfl rfl (eqv_int ty3) (.cons (by decide) ty3 rfl rfl rfl (eqv_int ty3) (.cons (by decide) ty22 rfl rfl rfl (eqv_int ty22) (.cons (by decide) ty22 rfl rfl rfl (eqv_int ty22) .nil))))) rfl ?_
          try simp only [eq_self, decide_true, Bool.and_true, Bool.not_true]
          refine WQ_x (X_move rfl) rfl ?_
          refine WQ_gyes rfl rfl ?_
          refine WQ_x (X_move rfl) rfl ?_
          refine WQ_gyes rfl rfl ?_
          refine WQ_x (X_move rfl) rfl ?_
          refine WQ_gyes rfl rfl ?_
          refine WQ_x (X_bin rfl rfl b_neq) rfl ?_
          first | refine WQ_x (X_pickt rfl rfl) rfl ?_ | refine WQ_x (X_pickf rfl rfl) rfl ?_
          refine WQ_nil ?_
          refine W_condF rfl rfl ?_
          refine W_skip ?_
          refine W_region ?_
          refine W_loadB (vs := [.int .u64 ((x.nw : Nat) : Int), .slice x.ad x.L.length x.cap]) rfl ty80 rfl (b := b9) (by repeat (first | exact List.mem_cons_self | apply List.mem_cons_of_mem | apply List.mem_append_right)) rfl rfl rfl ?_
          refine W_storeA (l' := [.int .u64 ((x.nw : Nat) : Int), .slice x.ad x.L.length x.cap]) rfl rfl ty80 rfl rfl (b := b6) (by repeat (first | exact List.mem_cons_self | apply List.mem_cons_of_mem | apply List.mem_append_right)) (by exact Nat.le_refl 2) rfl (by repeat (first | exact Upd.head _ | apply Upd.tail | apply Upd.app)) ?_
          refine W_nil ?_
          refine W_blk ?_
          refine W_joinX x ⟨hx, by omega⟩ (sub_cons rfl (sub_cons rfl (sub_cons rfl (sub_cons rfl (sub_cons rfl (sub_nil _)))))) (by first | exact hsubI | (repeat (first | with_reducible exact HSub.refl _ | refine HSub.cons (by repeat (first | exact Take.here _ | apply Take.next | apply Take.app)) ?_ | refine HSub.app (by repeat (first | with_reducible exact TakeS.here _ | apply TakeS.next | apply TakeS.app)) ?_ | exact HSub.nil _ | exact HSub.refl _ | refine HSub.drop ?_ | refine HSub.dropS ?_)))
        · skip
          refine W_callq (.cons rfl (.cons rfl (.cons rfl .nil))) Tryd.call44 rfl (rPut_twice (now := x.nw) (cap := x.cap) (L := x.L) (id := a.id) (a := at_) (by omega) (hx.rows.up (by first | exact hsubI | (repeat (first | with_reducible exact HSub.refl _ | refine HSub.cons (by repeat (first | exact Take.here _ | apply Take.next | apply Take.app)) ?_ | refine HSub.app (by repeat (first | with_reducible exact TakeS.here _ | apply TakeS.next | apply TakeS.app)) ?_ | exact HSub.nil _ | exact HSub.refl _ | refine HSub.drop ?_ | refine HSub.dropS ?_)))) hr hin) ?_
          refine W_move rfl rfl ?_
          refine W_extract rfl rfl rfl ?_
          refine W_extract rfl rfl rfl ?_
          refine W_extract rfl rfl rfl ?_
          refine W_alloc (l := [.int .u64 0, .slice none 0 0]) ty80 rfl rfl (fun b9 => ?_)
          refine W_alloc (l := zSpot.v) ty65 rfl rfl (fun b10 => ?_)
          refine W_storeA (l' := [.int .u64 ((x.nw : Nat) : Int), .slice x.ad x.L.length x.cap]) rfl rfl ty80 rfl rfl (b := b9) (by repeat (first | exact List.mem_cons_self | apply List.mem_cons_of_mem | apply List.mem_append_right)) (by exact Nat.le_refl 2) rfl (by repeat (first | exact Upd.head _ | apply Upd.tail | apply Upd.app)) ?_
          refine W_storeA (l' := zSpot.v) rfl rfl ty65 rfl rfl (b := b10) (by repeat (first | exact List.mem_cons_self | apply List.mem_cons_of_mem | apply List.mem_append_right)) (by exact Nat.le_refl 4) rfl (by repeat (first | exact Upd.head _ | apply Upd.tail | apply Upd.app)) ?_
          refine W_assign rfl rfl ?_
          refine W_nil ?_
          refine W_sr ?_
          refine W_move rfl rfl ?_
          refine W_fieldAddr rfl fld62_1 (by decide) rfl ?_
          refine W_load (v := .int .i64 a.id) rfl ty3 rfl (Cell.own (b := b8) (by repeat (first | exact List.mem_cons_self | apply List.mem_cons_of_mem | apply List.mem_append_right)) rfl) rfl ?_
          refine W_fieldAddr rfl fld62_2 (by decide) rfl ?_
          refine W_load (v := .int .u64 ((at_ : Nat) : Int)) rfl ty22 rfl (Cell.own (b := b8) (by repeat (first | exact List.mem_cons_self | apply List.mem_cons_of_mem | apply List.mem_append_right)) (by rw [show actC a = [.int .i64 a.kind, .int .i64 a.id, .int .u64 ((at_ : Nat) : Int)] from by unfold actC; rw [hat]]; rfl)) rfl ?_
          refine W_call (.cons rfl (.cons rfl (.cons rfl .nil))) Tryd.call14 rfl (LCalls.hsub (Put_again (z := (at_ : Int)) hx.wheel hr hin (H := (b10, .cells 65 4 zSpot.v) :: (b9, .cells 80 2 [.int .u64 ((x.nw : Nat) : Int), .slice x.ad (x.L).length x.cap]) :: (b8, .cells 62 3 (actC a)) :: (b6, .cells 80 2 [.int .u64 ((x.nw : Nat) : Int), .slice x.ad (x.L).length x.cap]) :: ((x.XR ++ H)))) (by first | exact hsubI | (repeat (first | with_reducible exact HSub.refl _ | refine HSub.cons (by repeat (first | exact Take.here _ | apply Take.next | apply Take.app)) ?_ | refine HSub.app (by repeat (first | with_reducible exact TakeS.here _ | apply TakeS.next | apply TakeS.app)) ?_ | exact HSub.nil _ | exact HSub.refl _ | refine HSub.drop ?_ | refine HSub.dropS ?_)))) ?_
          rintro v H' ⟨rfl, rfl⟩
          refine W_move rfl rfl ?_
          refine W_extract rfl rfl rfl ?_
          refine W_extract rfl rfl rfl ?_
          refine W_alloc (l := zSpot.v) ty27 rfl rfl (fun b12 => ?_)
          refine W_storeA (l' := zSpot.v) rfl rfl ty27 rfl rfl (b := b12) (by repeat (first | exact List.mem_cons_self | apply List.mem_cons_of_mem | apply List.mem_append_right)) (by exact Nat.le_refl 4) rfl (by repeat (first | exact Upd.head _ | apply Upd.tail | apply Upd.app)) ?_
          refine W_assign rfl rfl ?_
          refine W_nil ?_
          refine W_seq ?_
          refine W_quietsr (by kernel_rfl) (by decide +kernel) ?_
          refine WQ_x (X_loadB (vs := zSpot.v) rfl ty27 rfl (b := b12) (by repeat (first | exact List.mem_cons_self | apply List.mem_cons_of_mem | apply List.mem_append_right)) rfl rfl) rfl ?_
          refine WQ_callp (.cons rfl .nil) Tryd.call33 rfl (T := fun _ => True) trivial rOfS_pure ?_
          refine WQ_x (X_loadB (vs := zSpot.v) rfl ty65 rfl (b := b10) (by repeat (first | exact List.mem_cons_self | apply List.mem_cons_of_mem | apply List.mem_append_right)) rfl rfl) rfl ?_
          refine WQ_x (X_neA rfl rfl ty65 (by kernel_rfl) (by kernel_rfl) (.cons (by decide) ty3 rfl rfl rfl (eqv_int ty3) (.cons (by decide) ty3 rfl rfl rfl (eqv_int ty3) (.cons (by decide) ty22 rfl rfl rfl (eqv_int ty22) (.cons (by decide) ty22 rfl rfl rfl (eqv_int ty22) .nil))))) rfl ?_
          try simp only [eq_self, decide_true, Bool.and_true, Bool.not_true]
          refine WQ_x (X_move rfl) rfl ?_
          refine WQ_gyes rfl rfl ?_
          refine WQ_x (X_move rfl) rfl ?_
          refine WQ_gyes rfl rfl ?_
          refine WQ_x (X_move rfl) rfl ?_
          refine WQ_gyes rfl rfl ?_
          refine WQ_x (X_bin rfl rfl b_neq) rfl ?_
          first | refine WQ_x (X_pickt rfl rfl) rfl ?_ | refine WQ_x (X_pickf rfl rfl) rfl ?_
          refine WQ_nil ?_
          refine W_condF rfl rfl ?_
          refine W_skip ?_
          refine W_region ?_
          refine W_loadB (vs := [.int .u64 ((x.nw : Nat) : Int), .slice x.ad x.L.length x.cap]) rfl ty80 rfl (b := b9) (by repeat (first | exact List.mem_cons_self | apply List.mem_cons_of_mem | apply List.mem_append_right)) rfl rfl rfl ?_
          refine W_storeA (l' := [.int .u64 ((x.nw : Nat) : Int), .slice x.ad x.L.length x.cap]) rfl rfl ty80 rfl rfl (b := b6) (by repeat (first | exact List.mem_cons_self | apply List.mem_cons_of_mem | apply List.mem_append_right)) (by exact Nat.le_refl 2) rfl (by repeat (first | exact Upd.head _ | apply Upd.tail | apply Upd.app)) ?_
          refine W_nil ?_
          refine W_blk ?_
          refine W_joinX x ⟨hx, by omega⟩ (sub_cons rfl (sub_cons rfl (sub_cons rfl (sub_cons rfl (sub_cons rfl (sub_nil _)))))) (by first | exact hsubI | (repeat (first | with_reducible exact HSub.refl _ | refine HSub.cons (by repeat (first | exact Take.here _ | apply Take.next | apply Take.app)) ?_ | refine HSub.app (by repeat (first | with_reducible exact TakeS.here _ | apply TakeS.next | apply TakeS.app)) ?_ | exact HSub.nil _ | exact HSub.refl _ | refine HSub.drop ?_ | refine HSub.dropS ?_)))
        · skip
          refine W_callq (.cons rfl (.cons rfl (.cons rfl .nil))) Tryd.call44 rfl (rPut_late' (nw := x.nw) (cap := x.cap) (L := x.L) (id := a.id) (a := at_) (by omega) (hx.rows.up (by first | exact hsubI | (repeat (first | with_reducible exact HSub.refl _ | refine HSub.cons (by repeat (first | exact Take.here _ | apply Take.next | apply Take.app)) ?_ | refine HSub.app (by repeat (first | with_reducible exact TakeS.here _ | apply TakeS.next | apply TakeS.app)) ?_ | exact HSub.nil _ | exact HSub.refl _ | refine HSub.drop ?_ | refine HSub.dropS ?_)))) hr hatm hin hnm) ?_
          refine W_move rfl rfl ?_
          refine W_extract rfl rfl rfl ?_
          refine W_extract rfl rfl rfl ?_
          refine W_extract rfl rfl rfl ?_
          refine W_alloc (l := [.int .u64 0, .slice none 0 0]) ty80 rfl rfl (fun b9 => ?_)
          refine W_alloc (l := zSpot.v) ty65 rfl rfl (fun b10 => ?_)
          refine W_storeA (l' := [.int .u64 ((x.nw : Nat) : Int), .slice x.ad x.L.length x.cap]) rfl rfl ty80 rfl rfl (b := b9) (by repeat (first | exact List.mem_cons_self | apply List.mem_cons_of_mem | apply List.mem_append_right)) (by exact Nat.le_refl 2) rfl (by repeat (first | exact Upd.head _ | apply Upd.tail | apply Upd.app)) ?_
          refine W_storeA (l' := zSpot.v) rfl rfl ty65 rfl rfl (b := b10) (by repeat (first | exact List.mem_cons_self | apply List.mem_cons_of_mem | apply List.mem_append_right)) (by exact Nat.le_refl 4) rfl (by repeat (first | exact Upd.head _ | apply Upd.tail | apply Upd.app)) ?_
          refine W_assign rfl rfl ?_
          refine W_nil ?_
          refine W_sr ?_
          refine W_move rfl rfl ?_
          refine W_fieldAddr rfl fld62_1 (by decide) rfl ?_
          refine W_load (v := .int .i64 a.id) rfl ty3 rfl (Cell.own (b := b8) (by repeat (first | exact List.mem_cons_self | apply List.mem_cons_of_mem | apply List.mem_append_right)) rfl) rfl ?_
          refine W_fieldAddr rfl fld62_2 (by decide) rfl ?_
          refine W_load (v := .int .u64 ((at_ : Nat) : Int)) rfl ty22 rfl (Cell.own (b := b8) (by repeat (first | exact List.mem_cons_self | apply List.mem_cons_of_mem | apply List.mem_append_right)) (by rw [show actC a = [.int .i64 a.kind, .int .i64 a.id, .int .u64 ((at_ : Nat) : Int)] from by unfold actC; rw [hat]]; rfl)) rfl ?_
          refine W_call (.cons rfl (.cons rfl (.cons rfl .nil))) Tryd.call14 rfl (LCalls.hsub (Put_late' (a := at_) hx.wheel hr hatm hin hnm (H := (b10, .cells 65 4 zSpot.v) :: (b9, .cells 80 2 [.int .u64 ((x.nw : Nat) : Int), .slice x.ad (x.L).length x.cap]) :: (b8, .cells 62 3 (actC a)) :: (b6, .cells 80 2 [.int .u64 ((x.nw : Nat) : Int), .slice x.ad (x.L).length x.cap]) :: ((x.XR ++ H)))) (by first | exact hsubI | (repeat (first | with_reducible exact HSub.refl _ | refine HSub.cons (by repeat (first | exact Take.here _ | apply Take.next | apply Take.app)) ?_ | refine HSub.app (by repeat (first | with_reducible exact TakeS.here _ | apply TakeS.next | apply TakeS.app)) ?_ | exact HSub.nil _ | exact HSub.refl _ | refine HSub.drop ?_ | refine HSub.dropS ?_)))) ?_
          rintro v H' ⟨rfl, rfl⟩
          refine W_move rfl rfl ?_
          refine W_extract rfl rfl rfl ?_
          refine W_extract rfl rfl rfl ?_
          refine W_alloc (l := zSpot.v) ty27 rfl rfl (fun b12 => ?_)
          refine W_storeA (l' := zSpot.v) rfl rfl ty27 rfl rfl (b := b12) (by repeat (first | exact List.mem_cons_self | apply List.mem_cons_of_mem | apply List.mem_append_right)) (by exact Nat.le_refl 4) rfl (by repeat (first | exact Upd.head _ | apply Upd.tail | apply Upd.app)) ?_
          refine W_assign rfl rfl ?_
          refine W_nil ?_
          refine W_seq ?_
          refine W_quietsr (by kernel_rfl) (by decide +kernel) ?_
          refine WQ_x (X_loadB (vs := zSpot.v) rfl ty27 rfl (b := b12) (by repeat (first | exact List.mem_cons_self | apply List.mem_cons_of_mem | apply List.mem_append_right)) rfl rfl) rfl ?_
          refine WQ_callp (.cons rfl .nil) Tryd.call33 rfl (T := fun _ => True) trivial rOfS_pure ?_
          refine WQ_x (X_loadB (vs := zSpot.v) rfl ty65 rfl (b := b10) (by repeat (first | exact List.mem_cons_self | apply List.mem_cons_of_mem | apply List.mem_append_right)) rfl rfl) rfl ?_
          refine WQ_x (X_neA rfl rfl ty65 (by kernel_rfl) (by kernel_rfl) (.cons (by decide) ty3 rfl rfl rfl (eqv_int ty3) (.cons (by decide) ty3 rfl rfl rfl (eqv_int ty3) (.cons (by decide) ty22 rfl rfl rfl (eqv_int ty22) (.cons (by decide) ty22 rfl rfl rfl (eqv_int ty22) .nil))))) rfl ?_
          try simp only [eq_self, decide_true, Bool.and_true, Bool.not_true]
          refine WQ_x (X_move rfl) rfl ?_
          refine WQ_gyes rfl rfl ?_
          refine WQ_x (X_move rfl) rfl ?_
          refine WQ_gyes rfl rfl ?_
          refine WQ_x (X_move rfl) rfl ?_
          refine WQ_gyes rfl rfl ?_
          refine WQ_x (X_bin rfl rfl b_neq) rfl ?_
          first | refine WQ_x (X_pickt rfl rfl) rfl ?_ | refine WQ_x (X_pickf rfl rfl) rfl ?_
          refine WQ_nil ?_
          refine W_condF rfl rfl ?_
          refine W_skip ?_
          refine W_region ?_
          refine W_loadB (vs := [.int .u64 ((x.nw : Nat) : Int), .slice x.ad x.L.length x.cap]) rfl ty80 rfl (b := b9) (by repeat (first | exact List.mem_cons_self | apply List.mem_cons_of_mem | apply List.mem_append_right)) rfl rfl rfl ?_
          refine W_storeA (l' := [.int .u64 ((x.nw : Nat) : Int), .slice x.ad x.L.length x.cap]) rfl rfl ty80 rfl rfl (b := b6) (by repeat (first | exact List.mem_cons_self | apply List.mem_cons_of_mem | apply List.mem_append_right)) (by exact Nat.le_refl 2) rfl (by repeat (first | exact Upd.head _ | apply Upd.tail | apply Upd.app)) ?_
          refine W_nil ?_
          refine W_blk ?_
          refine W_joinX x ⟨hx, by omega⟩ (sub_cons rfl (sub_cons rfl (sub_cons rfl (sub_cons rfl (sub_cons rfl (sub_nil _)))))) (by first | exact hsubI | (repeat (first | with_reducible exact HSub.refl _ | refine HSub.cons (by repeat (first | exact Take.here _ | apply Take.next | apply Take.app)) ?_ | refine HSub.app (by repeat (first | with_reducible exact TakeS.here _ | apply TakeS.next | apply TakeS.app)) ?_ | exact HSub.nil _ | exact HSub.refl _ | refine HSub.drop ?_ | refine HSub.dropS ?_)))
        · skip
          refine W_call (.cons rfl (.cons rfl (.cons rfl .nil))) Tryd.call44 rfl (rPut_ok (now := x.nw) (cap := x.cap) (L := x.L) (id := a.id) (a := at_) (by omega) (hx.rows.up (by first | exact hsubI | (repeat (first | with_reducible exact HSub.refl _ | refine HSub.cons (by repeat (first | exact Take.here _ | apply Take.next | apply Take.app)) ?_ | refine HSub.app (by repeat (first | with_reducible exact TakeS.here _ | apply TakeS.next | apply TakeS.app)) ?_ | exact HSub.nil _ | exact HSub.refl _ | refine HSub.drop ?_ | refine HSub.dropS ?_)))) hr hx.now hatm hin (tn := x.turn + 1) (e := (placeT x.nw at_).1) (Prod.ext rfl (placeT_ok hlt))) ?_
          rintro v H' ⟨sv2, XB2, rfl, hR2, rfl⟩
          obtain ⟨ad2, cap2, rfl, hcp2, _⟩ := hR2.shape
          refine W_move rfl rfl ?_
          refine W_extract rfl rfl rfl ?_
          refine W_extract rfl rfl rfl ?_
          refine W_extract rfl rfl rfl ?_
          refine W_alloc (l := [.int .u64 0, .slice none 0 0]) ty80 rfl rfl (fun b9 => ?_)
          refine W_alloc (l := zSpot.v) ty65 rfl rfl (fun b10 => ?_)
          refine W_storeA (l' := [.int .u64 ((x.nw : Nat) : Int), .slice ad2 (x.L ++ [tmOf x.nw at_ x.turn a.id]).length cap2]) rfl rfl ty80 rfl rfl (b := b9) (by repeat (first | exact List.mem_cons_self | apply List.mem_cons_of_mem | apply List.mem_append_right)) (by exact Nat.le_refl 2) rfl (by repeat (first | exact Upd.head _ | apply Upd.tail | apply Upd.app)) ?_
          refine W_storeA (l' := (placeT x.nw at_).1.v) rfl rfl ty65 rfl rfl (b := b10) (by repeat (first | exact List.mem_cons_self | apply List.mem_cons_of_mem | apply List.mem_append_right)) (by exact Nat.le_refl 4) rfl (by repeat (first | exact Upd.head _ | apply Upd.tail | apply Upd.app)) ?_
          refine W_assign rfl rfl ?_
          refine W_nil ?_
          refine W_sr ?_
          refine W_move rfl rfl ?_
          refine W_fieldAddr rfl fld62_1 (by decide) rfl ?_
          refine W_load (v := .int .i64 a.id) rfl ty3 rfl (Cell.own (b := b8) (by repeat (first | exact List.mem_cons_self | apply List.mem_cons_of_mem | apply List.mem_append_right)) rfl) rfl ?_
          refine W_fieldAddr rfl fld62_2 (by decide) rfl ?_
          refine W_load (v := .int .u64 ((at_ : Nat) : Int)) rfl ty22 rfl (Cell.own (b := b8) (by repeat (first | exact List.mem_cons_self | apply List.mem_cons_of_mem | apply List.mem_append_right)) (by rw [show actC a = [.int .i64 a.kind, .int .i64 a.id, .int .u64 ((at_ : Nat) : Int)] from by unfold actC; rw [hat]]; rfl)) rfl ?_
          refine W_call (.cons rfl (.cons rfl (.cons rfl .nil))) Tryd.call14 rfl (LCalls.hsub (Put_L (a := at_) hx.wheel hlt hatm hr hin (by omega) (H := (b10, .cells 65 4 (placeT x.nw at_).1.v) :: (b9, .cells 80 2 [.int .u64 ((x.nw : Nat) : Int), .slice ad2 ((x.L ++ [tmOf x.nw at_ x.turn a.id])).length cap2]) :: (b8, .cells 62 3 (actC a)) :: (b6, .cells 80 2 [.int .u64 ((x.nw : Nat) : Int), .slice x.ad (x.L).length x.cap]) :: (XB2 ++ (x.XR ++ H)))) (by first | exact hsubI | (repeat (first | with_reducible exact HSub.refl _ | refine HSub.cons (by repeat (first | exact Take.here _ | apply Take.next | apply Take.app)) ?_ | refine HSub.app (by repeat (first | with_reducible exact TakeS.here _ | apply TakeS.next | apply TakeS.app)) ?_ | exact HSub.nil _ | exact HSub.refl _ | refine HSub.drop ?_ | refine HSub.dropS ?_)))) ?_
          rintro v H' ⟨HW2, hW2, rfl, rfl⟩
          refine W_move rfl rfl ?_
          refine W_extract rfl rfl rfl ?_
          refine W_extract rfl rfl rfl ?_
          refine W_alloc (l := zSpot.v) ty27 rfl rfl (fun b12 => ?_)
          refine W_storeA (l' := (placeT x.nw at_).1.v) rfl rfl ty27 rfl rfl (b := b12) (by repeat (first | exact List.mem_cons_self | apply List.mem_cons_of_mem | apply List.mem_append_right)) (by exact Nat.le_refl 4) rfl (by repeat (first | exact Upd.head _ | apply Upd.tail | apply Upd.app)) ?_
          refine W_assign rfl rfl ?_
          refine W_nil ?_
          refine W_seq ?_
          refine W_quietsr (by kernel_rfl) (by decide +kernel) ?_
          refine WQ_x (X_loadB (vs := (placeT x.nw at_).1.v) rfl ty27 rfl (b := b12) (by repeat (first | exact List.mem_cons_self | apply List.mem_cons_of_mem | apply List.mem_append_right)) rfl rfl) rfl ?_
          refine WQ_callp (.cons rfl .nil) Tryd.call33 rfl (T := fun _ => True) trivial rOfS_pure ?_
          refine WQ_x (X_loadB (vs := (placeT x.nw at_).1.v) rfl ty65 rfl (b := b10) (by repeat (first | exact List.mem_cons_self | apply List.mem_cons_of_mem | apply List.mem_append_right)) rfl rfl) rfl ?_
          refine WQ_x (X_neA rfl rfl ty65 (by kernel_rfl) (by kernel_rfl) (.cons (by decide) ty3 rfl rfl rfl (eqv_int ty3) (.cons (by decide) ty3 rfl rfl rfl (eqv_int ty3) (.cons (by decide) ty22 rfl rfl rfl (eqv_int ty22) (.cons (by decide) ty22 rfl rfl rfl (eqv_int ty22) .nil))))) rfl ?_
          try simp only [eq_self, decide_true, Bool.and_true, Bool.not_true]
          refine WQ_x (X_move rfl) rfl ?_
          refine WQ_gyes rfl rfl ?_
          refine WQ_x (X_move rfl) rfl ?_
          refine WQ_gyes rfl rfl ?_
          refine WQ_x (X_move rfl) rfl ?_
          refine WQ_gyes rfl rfl ?_
          refine WQ_x (X_bin rfl rfl b_neq) rfl ?_
          first | refine WQ_x (X_pickt rfl rfl) rfl ?_ | refine WQ_x (X_pickf rfl rfl) rfl ?_
          refine WQ_nil ?_
          refine W_condF rfl rfl ?_
          refine W_skip ?_
          refine W_region ?_
          refine W_loadB (vs := [.int .u64 ((x.nw : Nat) : Int), .slice ad2 (x.L ++ [tmOf x.nw at_ x.turn a.id]).length cap2]) rfl ty80 rfl (b := b9) (by repeat (first | exact List.mem_cons_self | apply List.mem_cons_of_mem | apply List.mem_append_right)) rfl rfl rfl ?_
          refine W_storeA (l' := [.int .u64 ((x.nw : Nat) : Int), .slice ad2 (x.L ++ [tmOf x.nw at_ x.turn a.id]).length cap2]) rfl rfl ty80 rfl rfl (b := b6) (by repeat (first | exact List.mem_cons_self | apply List.mem_cons_of_mem | apply List.mem_append_right)) (by exact Nat.le_refl 2) rfl (by repeat (first | exact Upd.head _ | apply Upd.tail | apply Upd.app)) ?_
          refine W_nil ?_
          refine W_blk ?_
          refine W_joinX ⟨x.nw, x.L ++ [tmOf x.nw at_ x.turn a.id], x.turn + 1, HW2, ad2, cap2, XB2⟩ ⟨hx.put hlt hW2 hR2, by show x.turn + 1 ≤ i + 1; omega⟩ (sub_cons rfl (sub_cons rfl (sub_cons rfl (sub_cons rfl (sub_cons rfl (sub_nil _)))))) (by first | exact hsubI | (repeat (first | with_reducible exact HSub.refl _ | refine HSub.cons (by repeat (first | exact Take.here _ | apply Take.next | apply Take.app)) ?_ | refine HSub.app (by repeat (first | with_reducible exact TakeS.here _ | apply TakeS.next | apply TakeS.app)) ?_ | exact HSub.nil _ | exact HSub.refl _ | refine HSub.drop ?_ | refine HSub.dropS ?_)))
      · skip
        refine W_region ?_
        refine W_bin rfl rfl b_eql rfl ?_
        refine W_assign rfl rfl ?_
        refine W_nil ?_
        refine W_condPS (p := kindOf a.kind = 1) rfl (by simp) (fun q2 => ?_) (fun q2 => ?_)
        · skip
          refine W_sr ?_
          refine W_loadB (vs := [.int .u64 ((x.nw : Nat) : Int), .slice x.ad x.L.length x.cap]) rfl ty80 rfl (b := b6) (by repeat (first | exact List.mem_cons_self | apply List.mem_cons_of_mem | apply List.mem_append_right)) rfl rfl rfl ?_
          refine W_fieldAddr rfl fld62_1 (by decide) rfl ?_
          refine W_load (v := .int .i64 a.id) rfl ty3 rfl (Cell.own (b := b8) (by repeat (first | exact List.mem_cons_self | apply List.mem_cons_of_mem | apply List.mem_append_right)) rfl) rfl ?_
          refine W_fieldAddr rfl fld62_2 (by decide) rfl ?_
          refine W_load (v := .int .u64 ((at_ : Nat) : Int)) rfl ty22 rfl (Cell.own (b := b8) (by repeat (first | exact List.mem_cons_self | apply List.mem_cons_of_mem | apply List.mem_append_right)) (by rw [show actC a = [.int .i64 a.kind, .int .i64 a.id, .int .u64 ((at_ : Nat) : Int)] from by unfold actC; rw [hat]]; rfl)) rfl ?_
          rcases put_ways x.L x.nw hx.now a.id with hr | ⟨hr, hin⟩ | ⟨hr, hin, hnm⟩ | ⟨hr, hin, hlt⟩
          · skip
            refine W_callq (.cons rfl (.cons rfl (.cons rfl .nil))) Tryd.call44 rfl (rPut_range (now := x.nw) (cap := x.cap) (L := x.L) (id := a.id) (a := at_) (by omega) (hx.rows.up (by first | exact hsubI | (repeat (first | with_reducible exact HSub.refl _ | refine HSub.cons (by repeat (first | exact Take.here _ | apply Take.next | apply Take.app)) ?_ | refine HSub.app (by repeat (first | with_reducible exact TakeS.here _ | apply TakeS.next | apply TakeS.app)) ?_ | exact HSub.nil _ | exact HSub.refl _ | refine HSub.drop ?_ | refine HSub.dropS ?_)))) (by omega)) ?_
            refine W_move rfl rfl ?_
            refine W_extract rfl rfl rfl ?_
            refine W_extract rfl rfl rfl ?_
            refine W_extract rfl rfl rfl ?_
            refine W_alloc (l := [.int .u64 0, .slice none 0 0]) ty80 rfl rfl (fun b9 => ?_)
            refine W_alloc (l := zSpot.v) ty65 rfl rfl (fun b10 => ?_)
            refine W_storeA (l' := [.int .u64 ((x.nw : Nat) : Int), .slice x.ad x.L.length x.cap]) rfl rfl ty80 rfl rfl (b := b9) (by repeat (first | exact List.mem_cons_self | apply List.mem_cons_of_mem | apply List.mem_append_right)) (by exact Nat.le_refl 2) rfl (by repeat (first | exact Upd.head _ | apply Upd.tail | apply Upd.app)) ?_
            refine W_storeA (l' := zSpot.v) rfl rfl ty65 rfl rfl (b := b10) (by repeat (first | exact List.mem_cons_self | apply List.mem_cons_of_mem | apply List.mem_append_right)) (by exact Nat.le_refl 4) rfl (by repeat (first | exact Upd.head _ | apply Upd.tail | apply Upd.app)) ?_
            refine W_assign rfl rfl ?_
            refine W_nil ?_
            refine W_sr ?_
            refine W_move rfl rfl ?_
            refine W_fieldAddr rfl fld62_1 (by decide) rfl ?_
            refine W_load (v := .int .i64 a.id) rfl ty3 rfl (Cell.own (b := b8) (by repeat (first | exact List.mem_cons_self | apply List.mem_cons_of_mem | apply List.mem_append_right)) rfl) rfl ?_
            refine W_fieldAddr rfl fld62_2 (by decide) rfl ?_
            refine W_load (v := .int .u64 ((at_ : Nat) : Int)) rfl ty22 rfl (Cell.own (b := b8) (by repeat (first | exact List.mem_cons_self | apply List.mem_cons_of_mem | apply List.mem_append_right)) (by rw [show actC a = [.int .i64 a.kind, .int .i64 a.id, .int .u64 ((at_ : Nat) : Int)] from by unfold actC; rw [hat]]; rfl)) rfl ?_
            refine W_callp (.cons rfl (.cons rfl (.cons rfl .nil))) Tryd.call14 rfl (T := fun _ => True) trivial (Put_range (bw := bw1) (id := a.id) (z := (at_ : Int)) (by omega)) ?_
            refine W_move rfl rfl ?_
            refine W_extract rfl rfl rfl ?_
            refine W_extract rfl rfl rfl ?_
            refine W_alloc (l := zSpot.v) ty27 rfl rfl (fun b12 => ?_)
            refine W_storeA (l' := zSpot.v) rfl rfl ty27 rfl rfl (b := b12) (by repeat (first | exact List.mem_cons_self | apply List.mem_cons_of_mem | apply List.mem_append_right)) (by exact Nat.le_refl 4) rfl (by repeat (first | exact Upd.head _ | apply Upd.tail | apply Upd.app)) ?_
            refine W_assign rfl rfl ?_
            refine W_nil ?_
            refine W_seq ?_
            refine W_quietsr (by kernel_rfl) (by decide +kernel) ?_
            refine WQ_x (X_loadB (vs := zSpot.v) rfl ty27 rfl (b := b12) (by repeat (first | exact List.mem_cons_self | apply List.mem_cons_of_mem | apply List.mem_append_right)) rfl rfl) rfl ?_
            refine WQ_callp (.cons rfl .nil) Tryd.call33 rfl (T := fun _ => True) trivial rOfS_pure ?_
            refine WQ_x (X_loadB (vs := zSpot.v) rfl ty65 rfl (b := b10) (by repeat (first | exact List.mem_cons_self | apply List.mem_cons_of_mem | apply List.mem_append_right)) rfl rfl) rfl ?_
            refine WQ_x (X_neA rfl rfl ty65 (by kernel_rfl) (by kernel_rfl) (.cons (by decide) ty3 rfl rfl rfl (eqv_int ty3) (.cons (by decide) ty3 rfl rfl rfl (eqv_int ty3) (.cons (by decide) ty22 rfl rfl rfl (eqv_int ty22) (.cons (by decide) ty22 rfl rfl rfl (eqv_int ty22) .nil))))) rfl ?_
            try simp only [eq_self, decide_true, Bool.and_true, Bool.not_true]
            refine WQ_x (X_move rfl) rfl ?_
            refine WQ_gyes rfl rfl ?_
            refine WQ_x (X_move rfl) rfl ?_
            refine WQ_gyes rfl rfl ?_
            refine WQ_x (X_move rfl) rfl ?_
            refine WQ_gyes rfl rfl ?_
            refine WQ_x (X_bin rfl rfl b_neq) rfl ?_
            first | refine WQ_x (X_pickt rfl rfl) rfl ?_ | refine WQ_x (X_pickf rfl rfl) rfl ?_
            refine WQ_nil ?_
            refine W_condF rfl rfl ?_
            refine W_skip ?_
            refine W_region ?_
            refine W_loadB (vs := [.int .u64 ((x.nw : Nat) : Int), .slice x.ad x.L.length x.cap]) rfl ty80 rfl (b := b9) (by repeat (first | exact List.mem_cons_self | apply List.mem_cons_of_mem | apply List.mem_append_right)) rfl rfl rfl ?_
            refine W_storeA (l' := [.int .u64 ((x.nw : Nat) : Int), .slice x.ad x.L.length x.cap]) rfl rfl ty80 rfl rfl (b := b6) (by repeat (first | exact List.mem_cons_self | apply List.mem_cons_of_mem | apply List.mem_append_right)) (by exact Nat.le_refl 2) rfl (by repeat (first | exact Upd.head _ | apply Upd.tail | apply Upd.app)) ?_
            refine W_nil ?_
            refine W_blk ?_
            refine W_joinX x ⟨hx, by omega⟩ (sub_cons rfl (sub_cons rfl (sub_cons rfl (sub_cons rfl (sub_cons rfl (sub_nil _)))))) (by first | exact hsubI | (repeat (first | with_reducible exact HSub.refl _ | refine HSub.cons (by repeat (first | exact Take.here _ | apply Take.next | apply Take.app)) ?_ | refine HSub.app (by repeat (first | with_reducible exact TakeS.here _ | apply TakeS.next | apply TakeS.app)) ?_ | exact HSub.nil _ | exact HSub.refl _ | refine HSub.drop ?_ | refine HSub.dropS ?_)))
          · skip
            refine W_callq (.cons rfl (.cons rfl (.cons rfl .nil))) Tryd.call44 rfl (rPut_twice (now := x.nw) (cap := x.cap) (L := x.L) (id := a.id) (a := at_) (by omega) (hx.rows.up (by first | exact hsubI | (repeat (first | with_reducible exact HSub.refl _ | refine HSub.cons (by repeat (first | exact Take.here _ | apply Take.next | apply Take.app)) ?_ | refine HSub.app (by repeat (first | with_reducible exact TakeS.here _ | apply TakeS.next | apply TakeS.app)) ?_ | exact HSub.nil _ | exact HSub.refl _ | refine HSub.drop ?_ | refine HSub.dropS ?_)))) hr hin) ?_
            refine W_move rfl rfl ?_
            refine W_extract rfl rfl rfl ?_
            refine W_extract rfl rfl rfl ?_
            refine W_extract rfl rfl rfl ?_
            refine W_alloc (l := [.int .u64 0, .slice none 0 0]) ty80 rfl rfl (fun b9 => ?_)
            refine W_alloc (l := zSpot.v) ty65 rfl rfl (fun b10 => ?_)
            refine W_storeA (l' := [.int .u64 ((x.nw : Nat) : Int), .slice x.ad x.L.length x.cap]) rfl rfl ty80 rfl rfl (b := b9) (by repeat (first | exact List.mem_cons_self | apply List.mem_cons_of_mem | apply List.mem_append_right)) (by exact Nat.le_refl 2) rfl (by repeat (first | exact Upd.head _ | apply Upd.tail | apply Upd.app)) ?_
            refine W_storeA (l' := zSpot.v) rfl rfl ty65 rfl rfl (b := b10) (by repeat (first | exact List.mem_cons_self | apply List.mem_cons_of_mem | apply List.mem_append_right)) (by exact Nat.le_refl 4) rfl (by repeat (first | exact Upd.head _ | apply Upd.tail | apply Upd.app)) ?_
            refine W_assign rfl rfl ?_
            refine W_nil ?_
            refine W_sr ?_
            refine W_move rfl rfl ?_
            refine W_fieldAddr rfl fld62_1 (by decide) rfl ?_
            refine W_load (v := .int .i64 a.id) rfl ty3 rfl (Cell.own (b := b8) (by repeat (first | exact List.mem_cons_self | apply List.mem_cons_of_mem | apply List.mem_append_right)) rfl) rfl ?_
            refine W_fieldAddr rfl fld62_2 (by decide) rfl ?_
            refine W_load (v := .int .u64 ((at_ : Nat) : Int)) rfl ty22 rfl (Cell.own (b := b8) (by repeat (first | exact List.mem_cons_self | apply List.mem_cons_of_mem | apply List.mem_append_right)) (by rw [show actC a = [.int .i64 a.kind, .int .i64 a.id, .int .u64 ((at_ : Nat) : Int)] from by unfold actC; rw [hat]]; rfl)) rfl ?_
            refine W_call (.cons rfl (.cons rfl (.cons rfl .nil))) Tryd.call14 rfl (LCalls.hsub (Put_again (z := (at_ : Int)) hx.wheel hr hin (H := (b10, .cells 65 4 zSpot.v) :: (b9, .cells 80 2 [.int .u64 ((x.nw : Nat) : Int), .slice x.ad (x.L).length x.cap]) :: (b8, .cells 62 3 (actC a)) :: (b6, .cells 80 2 [.int .u64 ((x.nw : Nat) : Int), .slice x.ad (x.L).length x.cap]) :: ((x.XR ++ H)))) (by first | exact hsubI | (repeat (first | with_reducible exact HSub.refl _ | refine HSub.cons (by repeat (first | exact Take.here _ | apply Take.next | apply Take.app)) ?_ | refine HSub.app (by repeat (first | with_reducible exact TakeS.here _ | apply TakeS.next | apply TakeS.app)) ?_ | exact HSub.nil _ | exact HSub.refl _ | refine HSub.drop ?_ | refine HSub.dropS ?_)))) ?_
            rintro v H' ⟨rfl, rfl⟩
            refine W_move rfl rfl ?_
            refine W_extract rfl rfl rfl ?_
            refine W_extract rfl rfl rfl ?_
            refine W_alloc (l := zSpot.v) ty27 rfl rfl (fun b12 => ?_)
            refine W_storeA (l' := zSpot.v) rfl rfl ty27 rfl rfl (b := b12) (by repeat (first | exact List.mem_cons_self | apply List.mem_cons_of_mem | apply List.mem_append_right)) (by exact Nat.le_refl 4) rfl (by repeat (first | exact Upd.head _ | apply Upd.tail | apply Upd.app)) ?_
            refine W_assign rfl rfl ?_
            refine W_nil ?_
            refine W_seq ?_
            refine W_quietsr (by kernel_rfl) (by decide +kernel) ?_
            refine WQ_x (X_loadB (vs := zSpot.v) rfl ty27 rfl (b := b12) (by repeat (first | exact List.mem_cons_self | apply List.mem_cons_of_mem | apply List.mem_append_right)) rfl rfl) rfl ?_
            refine WQ_callp (.cons rfl .nil) Tryd.call33 rfl (T := fun _ => True) trivial rOfS_pure ?_
            refine WQ_x (X_loadB (vs := zSpot.v) rfl ty65 rfl (b := b10) (by repeat (first | exact List.mem_cons_self | apply List.mem_cons_of_mem | apply List.mem_append_right)) rfl rfl) rfl ?_
            refine WQ_x (X_neA rfl rfl ty65 (by kernel_rfl) (by kernel_rfl) (.cons (by decide) ty3 rfl rfl rfl (eqv_int ty3) (.cons (by decide) ty3 rfl rfl rfl (eqv_int ty3) (.cons (by decide) ty22 rfl rfl rfl (eqv_int ty22) (.cons (by decide) ty22 rfl rfl rfl (eqv_int ty22) .nil))))) rfl ?_
            try simp only [eq_self, decide_true, Bool.and_true, Bool.not_true]
            refine WQ_x (X_move rfl) rfl ?_
            refine WQ_gyes rfl rfl ?_
            refine WQ_x (X_move rfl) rfl ?_
            refine WQ_gyes rfl rfl ?_
            refine WQ_x (X_move rfl) rfl ?_
            refine WQ_gyes rfl rfl ?_
            refine WQ_x (X_bin rfl rfl b_neq) rfl ?_
            first | refine WQ_x (X_pickt rfl rfl) rfl ?_ | refine WQ_x (X_pickf rfl rfl) rfl ?_
            refine WQ_nil ?_
            refine W_condF rfl rfl ?_
            refine W_skip ?_
            refine W_region ?_
            refine W_loadB (vs := [.int .u64 ((x.nw : Nat) : Int), .slice x.ad x.L.length x.cap]) rfl ty80 rfl (b := b9) (by repeat (first | exact List.mem_cons_self | apply List.mem_cons_of_mem | apply List.mem_append_right)) rfl rfl rfl ?_
            refine W_storeA (l' := [.int .u64 ((x.nw : Nat) : Int), .slice x.ad x.L.length x.cap]) rfl rfl ty80 rfl rfl (b := b6) (by repeat (first | exact List.mem_cons_self | apply List.mem_cons_of_mem | apply List.mem_append_right)) (by exact Nat.le_refl 2) rfl (by repeat (first | exact Upd.head _ | apply Upd.tail | apply Upd.app)) ?_
            refine W_nil ?_
            refine W_blk ?_
            refine W_joinX x ⟨hx, by omega⟩ (sub_cons rfl (sub_cons rfl (sub_cons rfl (sub_cons rfl (sub_cons rfl (sub_nil _)))))) (by first | exact hsubI | (repeat (first | with_reducible exact HSub.refl _ | refine HSub.cons (by repeat (first | exact Take.here _ | apply Take.next | apply Take.app)) ?_ | refine HSub.app (by repeat (first | with_reducible exact TakeS.here _ | apply TakeS.next | apply TakeS.app)) ?_ | exact HSub.nil _ | exact HSub.refl _ | refine HSub.drop ?_ | refine HSub.dropS ?_)))
          · skip
            refine W_callq (.cons rfl (.cons rfl (.cons rfl .nil))) Tryd.call44 rfl (rPut_late' (nw := x.nw) (cap := x.cap) (L := x.L) (id := a.id) (a := at_) (by omega) (hx.rows.up (by first | exact hsubI | (repeat (first | with_reducible exact HSub.refl _ | refine HSub.cons (by repeat (first | exact Take.here _ | apply Take.next | apply Take.app)) ?_ | refine HSub.app (by repeat (first | with_reducible exact TakeS.here _ | apply TakeS.next | apply TakeS.app)) ?_ | exact HSub.nil _ | exact HSub.refl _ | refine HSub.drop ?_ | refine HSub.dropS ?_)))) hr hatm hin hnm) ?_
            refine W_move rfl rfl ?_
            refine W_extract rfl rfl rfl ?_
            refine W_extract rfl rfl rfl ?_
            refine W_extract rfl rfl rfl ?_
            refine W_alloc (l := [.int .u64 0, .slice none 0 0]) ty80 rfl rfl (fun b9 => ?_)
            refine W_alloc (l := zSpot.v) ty65 rfl rfl (fun b10 => ?_)
            refine W_storeA (l' := [.int .u64 ((x.nw : Nat) : Int), .slice x.ad x.L.length x.cap]) rfl rfl ty80 rfl rfl (b := b9) (by repeat (first | exact List.mem_cons_self | apply List.mem_cons_of_mem | apply List.mem_append_right)) (by exact Nat.le_refl 2) rfl (by repeat (first | exact Upd.head _ | apply Upd.tail | apply Upd.app)) ?_
            refine W_storeA (l' := zSpot.v) rfl rfl ty65 rfl rfl (b := b10) (by repeat (first | exact List.mem_cons_self | apply List.mem_cons_of_mem | apply List.mem_append_right)) (by exact Nat.le_refl 4) rfl (by repeat (first | exact Upd.head _ | apply Upd.tail | apply Upd.app)) ?_
            refine W_assign rfl rfl ?_
            refine W_nil ?_
            refine W_sr ?_
            refine W_move rfl rfl ?_
            refine W_fieldAddr rfl fld62_1 (by decide) rfl ?_
            refine W_load (v := .int .i64 a.id) rfl ty3 rfl (Cell.own (b := b8) (by repeat (first | exact List.mem_cons_self | apply List.mem_cons_of_mem | apply List.mem_append_right)) rfl) rfl ?_
            refine W_fieldAddr rfl fld62_2 (by decide) rfl ?_
            refine W_load (v := .int .u64 ((at_ : Nat) : Int)) rfl ty22 rfl (Cell.own (b := b8) (by repeat (first | exact List.mem_cons_self | apply List.mem_cons_of_mem | apply List.mem_append_right)) (by rw [show actC a = [.int .i64 a.kind, .int .i64 a.id, .int .u64 ((at_ : Nat) : Int)] from by unfold actC; rw [hat]]; rfl)) rfl ?_
            refine W_call (.cons rfl (.cons rfl (.cons rfl .nil))) Tryd.call14 rfl (LCalls.hsub (Put_late' (a := at_) hx.wheel hr hatm hin hnm (H := (b10, .cells 65 4 zSpot.v) :: (b9, .cells 80 2 [.int .u64 ((x.nw : Nat) : Int), .slice x.ad (x.L).length x.cap]) :: (b8, .cells 62 3 (actC a)) :: (b6, .cells 80 2 [.int .u64 ((x.nw : Nat) : Int), .slice x.ad (x.L).length x.cap]) :: ((x.XR ++ H)))) (by first | exact hsubI | (repeat (first | with_reducible exact HSub.refl _ | refine HSub.cons (by repeat (first | exact Take.here _ | apply Take.next | apply Take.app)) ?_ | refine HSub.app (by repeat (first | with_reducible exact TakeS.here _ | apply TakeS.next | apply TakeS.app)) ?_ | exact HSub.nil _ | exact HSub.refl _ | refine HSub.drop ?_ | refine HSub.dropS ?_)))) ?_
            rintro v H' ⟨rfl, rfl⟩
            refine W_move rfl rfl ?_
            refine W_extract rfl rfl rfl ?_
            refine W_extract rfl rfl rfl ?_
            refine W_alloc (l := zSpot.v) ty27 rfl rfl (fun b12 => ?_)
            refine W_storeA (l' := zSpot.v) rfl rfl ty27 rfl rfl (b := b12) (by repeat (first | exact List.mem_cons_self | apply List.mem_cons_of_mem | apply List.mem_append_right)) (by exact Nat.le_refl 4) rfl (by repeat (first | exact Upd.head _ | apply Upd.tail | apply Upd.app)) ?_
            refine W_assign rfl rfl ?_
            refine W_nil ?_
            refine W_seq ?_
            refine W_quietsr (by kernel_rfl) (by decide +kernel) ?_
            refine WQ_x (X_loadB (vs := zSpot.v) rfl ty27 rfl (b := b12) (by repeat (first | exact List.mem_cons_self | apply List.mem_cons_of_mem | apply List.mem_append_right)) rfl rfl) rfl ?_
            refine WQ_callp (.cons rfl .nil) Tryd.call33 rfl (T := fun _ => True) trivial rOfS_pure ?_
            refine WQ_x (X_loadB (vs := zSpot.v) rfl ty65 rfl (b := b10) (by repeat (first | exact List.mem_cons_self | apply List.mem_cons_of_mem | apply List.mem_append_right)) rfl rfl) rfl ?_
            refine WQ_x (X_neA rfl rfl ty65 (by kernel_rfl) (by kernel_rfl) (.cons (by decide) ty3 rfl rfl rfl (eqv_int ty3) (.cons (by decide) ty3 rfl rfl rfl (eqv_int ty3) (.cons (by decide) ty22 rfl rfl rfl (eqv_int ty22) (.cons (by decide) ty22 rfl rfl rfl (eqv_int ty22) .nil))))) rfl ?_
            try simp only [eq_self, decide_true, Bool.and_true, Bool.not_true]
            refine WQ_x (X_move rfl) rfl ?_
            refine WQ_gyes rfl rfl ?_
            refine WQ_x (X_move rfl) rfl ?_
            refine WQ_gyes rfl rfl ?_
            refine WQ_x (X_move rfl) rfl ?_
            refine WQ_gyes rfl rfl ?_
            refine WQ_x (X_bin rfl rfl b_neq) rfl ?_
            first | refine WQ_x (X_pickt rfl rfl) rfl ?_ | refine WQ_x (X_pickf rfl rfl) rfl ?_
            refine WQ_nil ?_
            refine W_condF rfl rfl ?_
            refine W_skip ?_
            refine W_region ?_
            refine W_loadB (vs := [.int .u64 ((x.nw : Nat) : Int), .slice x.ad x.L.length x.cap]) rfl ty80 rfl (b := b9) (by repeat (first | exact List.mem_cons_self | apply List.mem_cons_of_mem | apply List.mem_append_right)) rfl rfl rfl ?_
            refine W_storeA (l' := [.int .u64 ((x.nw : Nat) : Int), .slice x.ad x.L.length x.cap]) rfl rfl ty80 rfl rfl (b := b6) (by repeat (first | exact List.mem_cons_self | apply List.mem_cons_of_mem | apply List.mem_append_right)) (by exact Nat.le_refl 2) rfl (by repeat (first | exact Upd.head _ | apply Upd.tail | apply Upd.app)) ?_
            refine W_nil ?_
            refine W_blk ?_
            refine W_joinX x ⟨hx, by omega⟩ (sub_cons rfl (sub_cons rfl (sub_cons rfl (sub_cons rfl (sub_cons rfl (sub_nil _)))))) (by first | exact hsubI | (repeat (first | with_reducible exact HSub.refl _ | refine HSub.cons (by repeat (first | exact Take.here _ | apply Take.next | apply Take.app)) ?_ | refine HSub.app (by repeat (first | with_reducible exact TakeS.here _ | apply TakeS.next | apply TakeS.app)) ?_ | exact HSub.nil _ | exact HSub.refl _ | refine HSub.drop ?_ | refine HSub.dropS ?_)))
          · skip
            refine W_call (.cons rfl (.cons rfl (.cons rfl .nil))) Tryd.call44 rfl (rPut_ok (now := x.nw) (cap := x.cap) (L := x.L) (id := a.id) (a := at_) (by omega) (hx.rows.up (by first | exact hsubI | (repeat (first | with_reducible exact HSub.refl _ | refine HSub.cons (by repeat (first | exact Take.here _ | apply Take.next | apply Take.app)) ?_ | refine HSub.app (by repeat (first | with_reducible exact TakeS.here _ | apply TakeS.next | apply TakeS.app)) ?_ | exact HSub.nil _ | exact HSub.refl _ | refine HSub.drop ?_ | refine HSub.dropS ?_)))) hr hx.now hatm hin (tn := x.turn + 1) (e := (placeT x.nw at_).1) (Prod.ext rfl (placeT_ok hlt))) ?_
            rintro v H' ⟨sv2, XB2, rfl, hR2, rfl⟩
            obtain ⟨ad2, cap2, rfl, hcp2, _⟩ := hR2.shape
            refine W_move rfl rfl ?_
            refine W_extract rfl rfl rfl ?_
            refine W_extract rfl rfl rfl ?_
            refine W_extract rfl rfl rfl ?_
            refine W_alloc (l := [.int .u64 0, .slice none 0 0]) ty80 rfl rfl (fun b9 => ?_)
            refine W_alloc (l := zSpot.v) ty65 rfl rfl (fun b10 => ?_)
            refine W_storeA (l' := [.int .u64 ((x.nw : Nat) : Int), .slice ad2 (x.L ++ [tmOf x.nw at_ x.turn a.id]).length cap2]) rfl rfl ty80 rfl rfl (b := b9) (by repeat (first | exact List.mem_cons_self | apply List.mem_cons_of_mem | apply List.mem_append_right)) (by exact Nat.le_refl 2) rfl (by repeat (first | exact Upd.head _ | apply Upd.tail | apply Upd.app)) ?_
            refine W_storeA (l' := (placeT x.nw at_).1.v) rfl rfl ty65 rfl rfl (b := b10) (by repeat (first | exact List.mem_cons_self | apply List.mem_cons_of_mem | apply List.mem_append_right)) (by exact Nat.le_refl 4) rfl (by repeat (first | exact Upd.head _ | apply Upd.tail | apply Upd.app)) ?_
            refine W_assign rfl rfl ?_
            refine W_nil ?_
            refine W_sr ?_
            refine W_move rfl rfl ?_
            refine W_fieldAddr rfl fld62_1 (by decide) rfl ?_
            refine W_load (v := .int .i64 a.id) rfl ty3 rfl (Cell.own (b := b8) (by repeat (first | exact List.mem_cons_self | apply List.mem_cons_of_mem | apply List.mem_append_right)) rfl) rfl ?_
            refine W_fieldAddr rfl fld62_2 (by decide) rfl ?_
            refine W_load (v := .int .u64 ((at_ : Nat) : Int)) rfl ty22 rfl (Cell.own (b := b8) (by repeat (first | exact List.mem_cons_self | apply List.mem_cons_of_mem | apply List.mem_append_right)) (by rw [show actC a = [.int .i64 a.kind, .int .i64 a.id, .int .u64 ((at_ : Nat) : Int)] from by unfold actC; rw [hat]]; rfl)) rfl ?_
            refine W_call (.cons rfl (.cons rfl (.cons rfl .nil))) Tryd.call14 rfl (LCalls.hsub (Put_L (a := at_) hx.wheel hlt hatm hr hin (by omega) (H := (b10, .cells 65 4 (placeT x.nw at_).1.v) :: (b9, .cells 80 2 [.int .u64 ((x.nw : Nat) : Int), .slice ad2 ((x.L ++ [tmOf x.nw at_ x.turn a.id])).length cap2]) :: (b8, .cells 62 3 (actC a)) :: (b6, .cells 80 2 [.int .u64 ((x.nw : Nat) : Int), .slice x.ad (x.L).length x.cap]) :: (XB2 ++ (x.XR ++ H)))) (by first | exact hsubI | (repeat (first | with_reducible exact HSub.refl _ | refine HSub.cons (by repeat (first | exact Take.here _ | apply Take.next | apply Take.app)) ?_ | refine HSub.app (by repeat (first | with_reducible exact TakeS.here _ | apply TakeS.next | apply TakeS.app)) ?_ | exact HSub.nil _ | exact HSub.refl _ | refine HSub.drop ?_ | refine HSub.dropS ?_)))) ?_
            rintro v H' ⟨HW2, hW2, rfl, rfl⟩
            refine W_move rfl rfl ?_
            refine W_extract rfl rfl rfl ?_
            refine W_extract rfl rfl rfl ?_
            refine W_alloc (l := zSpot.v) ty27 rfl rfl (fun b12 => ?_)
            refine W_storeA (l' := (placeT x.nw at_).1.v) rfl rfl ty27 rfl rfl (b := b12) (by repeat (first | exact List.mem_cons_self | apply List.mem_cons_of_mem | apply List.mem_append_right)) (by exact Nat.le_refl 4) rfl (by repeat (first | exact Upd.head _ | apply Upd.tail | apply Upd.app)) ?_
            refine W_assign rfl rfl ?_
            refine W_nil ?_
            refine W_seq ?_
            refine W_quietsr (by kernel_rfl) (by decide +kernel) ?_
            refine WQ_x (X_loadB (vs := (placeT x.nw at_).1.v) rfl ty27 rfl (b := b12) (by repeat (first | exact List.mem_cons_self | apply List.mem_cons_of_mem | apply List.mem_append_right)) rfl rfl) rfl ?_
            refine WQ_callp (.cons rfl .nil) Tryd.call33 rfl (T := fun _ => True) trivial rOfS_pure ?_
            refine WQ_x (X_loadB (vs := (placeT x.nw at_).1.v) rfl ty65 rfl (b := b10) (by repeat (first | exact List.mem_cons_self | apply List.mem_cons_of_mem | apply List.mem_append_right)) rfl rfl) rfl ?_
            refine WQ_x (X_neA rfl rfl ty65 (by kernel_rfl) (by kernel_rfl) (.cons (by decide) ty3 rfl rfl rfl (eqv_int ty3) (.cons (by decide) ty3 rfl rfl rfl (eqv_int ty3) (.cons (by decide) ty22 rfl rfl rfl (eqv_int ty22) (.cons (by decide) ty22 rfl rfl rfl (eqv_int ty22) .nil))))) rfl ?_
            try simp only [eq_self, decide_true, Bool.and_true, Bool.not_true]
            refine WQ_x (X_move rfl) rfl ?_
            refine WQ_gyes rfl rfl ?_
            refine WQ_x (X_move rfl) rfl ?_
            refine WQ_gyes rfl rfl ?_
            refine WQ_x (X_move rfl) rfl ?_
            refine WQ_gyes rfl rfl ?_
            refine WQ_x (X_bin rfl rfl b_neq) rfl ?_
            first | refine WQ_x (X_pickt rfl rfl) rfl ?_ | refine WQ_x (X_pickf rfl rfl) rfl ?_
            refine WQ_nil ?_
            refine W_condF rfl rfl ?_
            refine W_skip ?_
            refine W_region ?_
            refine W_loadB (vs := [.int .u64 ((x.nw : Nat) : Int), .slice ad2 (x.L ++ [tmOf x.nw at_ x.turn a.id]).length cap2]) rfl ty80 rfl (b := b9) (by repeat (first | exact List.mem_cons_self | apply List.mem_cons_of_mem | apply List.mem_append_right)) rfl rfl rfl ?_
            refine W_storeA (l' := [.int .u64 ((x.nw : Nat) : Int), .slice ad2 (x.L ++ [tmOf x.nw at_ x.turn a.id]).length cap2]) rfl rfl ty80 rfl rfl (b := b6) (by repeat (first | exact List.mem_cons_self | apply List.mem_cons_of_mem | apply List.mem_append_right)) (by exact Nat.le_refl 2) rfl (by repeat (first | exact Upd.head _ | apply Upd.tail | apply Upd.app)) ?_
            refine W_nil ?_
            refine W_blk ?_
            refine W_joinX ⟨x.nw, x.L ++ [tmOf x.nw at_ x.turn a.id], x.turn + 1, HW2, ad2, cap2, XB2⟩ ⟨hx.put hlt hW2 hR2, by show x.turn + 1 ≤ i + 1; omega⟩ (sub_cons rfl (sub_cons rfl (sub_cons rfl (sub_cons rfl (sub_cons rfl (sub_nil _)))))) (by first | exact hsubI | (repeat (first | with_reducible exact HSub.refl _ | refine HSub.cons (by repeat (first | exact Take.here _ | apply Take.next | apply Take.app)) ?_ | refine HSub.app (by repeat (first | with_reducible exact TakeS.here _ | apply TakeS.next | apply TakeS.app)) ?_ | exact HSub.nil _ | exact HSub.refl _ | refine HSub.drop ?_ | refine HSub.dropS ?_)))
        · skip
          refine W_sr ?_
          refine W_bin rfl rfl b_eql rfl ?_
          refine W_assign rfl rfl ?_
          refine W_nil ?_
          refine W_condPS (p := kindOf a.kind = 2) rfl (by simp) (fun q3 => ?_) (fun q3 => ?_)
          · skip
            refine W_sr ?_
            refine W_loadB (vs := [.int .u64 ((x.nw : Nat) : Int), .slice x.ad x.L.length x.cap]) rfl ty80 rfl (b := b6) (by repeat (first | exact List.mem_cons_self | apply List.mem_cons_of_mem | apply List.mem_append_right)) rfl rfl rfl ?_
            refine W_fieldAddr rfl fld62_1 (by decide) rfl ?_
            refine W_load (v := .int .i64 a.id) rfl ty3 rfl (Cell.own (b := b8) (by repeat (first | exact List.mem_cons_self | apply List.mem_cons_of_mem | apply List.mem_append_right)) rfl) rfl ?_
            rcases hb : heldB x.L a.id with _ | _
            · skip
              have hno : a.id ∉ x.L.map (·.id) := fun h => by rw [heldB_iff.2 h] at hb; cases hb
              refine W_callq (.cons rfl (.cons rfl .nil)) Tryd.call45 rfl (rDel_miss (now := x.nw) (cap := x.cap) (by omega) (hx.rows.up (by first | exact hsubI | (repeat (first | with_reducible exact HSub.refl _ | refine HSub.cons (by repeat (first | exact Take.here _ | apply Take.next | apply Take.app)) ?_ | refine HSub.app (by repeat (first | with_reducible exact TakeS.here _ | apply TakeS.next | apply TakeS.app)) ?_ | exact HSub.nil _ | exact HSub.refl _ | refine HSub.drop ?_ | refine HSub.dropS ?_)))) hno) ?_
              refine W_move rfl rfl ?_
              refine W_extract rfl rfl rfl ?_
              refine W_extract rfl rfl rfl ?_
              refine W_alloc (l := [.int .u64 0, .slice none 0 0]) ty80 rfl rfl (fun b14 => ?_)
              refine W_storeA (l' := [.int .u64 ((x.nw : Nat) : Int), .slice x.ad x.L.length x.cap]) rfl rfl ty80 rfl rfl (b := b14) (by repeat (first | exact List.mem_cons_self | apply List.mem_cons_of_mem | apply List.mem_append_right)) (by exact Nat.le_refl 2) rfl (by repeat (first | exact Upd.head _ | apply Upd.tail | apply Upd.app)) ?_
              refine W_assign rfl rfl ?_
              refine W_nil ?_
              refine W_sr ?_
              refine W_move rfl rfl ?_
              refine W_fieldAddr rfl fld62_1 (by decide) rfl ?_
              refine W_load (v := .int .i64 a.id) rfl ty3 rfl (Cell.own (b := b8) (by repeat (first | exact List.mem_cons_self | apply List.mem_cons_of_mem | apply List.mem_append_right)) rfl) rfl ?_
              refine W_fieldAddr rfl fld62_1 (by decide) rfl ?_
              refine W_load (v := .int .i64 a.id) rfl ty3 rfl (Cell.own (b := b8) (by repeat (first | exact List.mem_cons_self | apply List.mem_cons_of_mem | apply List.mem_append_right)) rfl) rfl ?_
              refine W_buildSlice (l := [.int .i64 a.id, .int .i64 a.id]) ty35 ty3 (.cons rfl rfl rfl rfl rfl (.cons rfl rfl rfl rfl rfl .nil)) rfl rfl rfl rfl rfl rfl rfl (fun b107 => ?_)
              have hdt := dels_twice x.L a.id
              rw [hb] at hdt
              refine W_call (.cons rfl (.cons rfl .nil)) Tryd.call46 rfl (LCalls.hsub (Del_L (l := [a.id, a.id]) hx.wheel (show 2 ≤ 4611686018427387904 by decide) (H := (b14, .cells 80 2 [.int .u64 ((x.nw : Nat) : Int), .slice x.ad (x.L).length x.cap]) :: (b107, .cells 3 2 [.int .i64 a.id, .int .i64 a.id]) :: (b8, .cells 62 3 (actC a)) :: (b6, .cells 80 2 [.int .u64 ((x.nw : Nat) : Int), .slice x.ad (x.L).length x.cap]) :: ((x.XR ++ H))) (Holds.own (b := b107) (by repeat (first | exact List.mem_cons_self | apply List.mem_cons_of_mem | apply List.mem_append_right)))) (by first | exact hsubI | (repeat (first | with_reducible exact HSub.refl _ | refine HSub.cons (by repeat (first | exact Take.here _ | apply Take.next | apply Take.app)) ?_ | refine HSub.app (by repeat (first | with_reducible exact TakeS.here _ | apply TakeS.next | apply TakeS.app)) ?_ | exact HSub.nil _ | exact HSub.refl _ | refine HSub.drop ?_ | refine HSub.dropS ?_)))) ?_
              rintro v H' ⟨HW2, hW2, rfl, rfl⟩
              rw [hdt] at hW2 ⊢
              rw [delT_out hno] at hW2
              refine W_assign rfl rfl ?_
              refine W_nil ?_
              refine W_seq ?_
              refine W_sr ?_
              refine W_move rfl rfl ?_
              refine W_move rfl rfl ?_
              refine W_gno rfl rfl rfl ?_
              refine W_gno rfl rfl rfl ?_
              first | refine W_pickt rfl rfl rfl ?_ | refine W_pickf rfl rfl rfl ?_
              refine W_move rfl rfl ?_
              refine W_gyes rfl rfl ?_
              refine W_move rfl rfl ?_
              refine W_gyes rfl rfl ?_
              refine W_not rfl rfl ?_
              refine W_gyes rfl rfl ?_
              refine W_move rfl rfl ?_
              refine W_gyes rfl rfl ?_
              refine W_move rfl rfl ?_
              refine W_gyes rfl rfl ?_
              refine W_bin rfl rfl b_neq rfl ?_
              refine W_gyes rfl rfl ?_
              first | refine W_pickt rfl rfl rfl ?_ | refine W_pickf rfl rfl rfl ?_
              first | refine W_pickt rfl rfl rfl ?_ | refine W_pickf rfl rfl rfl ?_
              refine W_nil ?_
              refine W_condF rfl rfl ?_
              refine W_skip ?_
              refine W_region ?_
              refine W_loadB (vs := [.int .u64 ((x.nw : Nat) : Int), .slice x.ad x.L.length x.cap]) rfl ty80 rfl (b := b14) (by repeat (first | exact List.mem_cons_self | apply List.mem_cons_of_mem | apply List.mem_append_right)) rfl rfl rfl ?_
              refine W_storeA (l' := [.int .u64 ((x.nw : Nat) : Int), .slice x.ad x.L.length x.cap]) rfl rfl ty80 rfl rfl (b := b6) (by repeat (first | exact List.mem_cons_self | apply List.mem_cons_of_mem | apply List.mem_append_right)) (by exact Nat.le_refl 2) rfl (by repeat (first | exact Upd.head _ | apply Upd.tail | apply Upd.app)) ?_
              refine W_nil ?_
              refine W_blk ?_
              refine W_joinX ⟨x.nw, x.L, x.turn, HW2, x.ad, x.cap, x.XR⟩ ⟨⟨hW2, hx.now, hx.later, hx.rows, hx.cap⟩, by show x.turn ≤ i + 1; omega⟩ (sub_cons rfl (sub_cons rfl (sub_cons rfl (sub_cons rfl (sub_cons rfl (sub_nil _)))))) (by first | exact hsubI | (repeat (first | with_reducible exact HSub.refl _ | refine HSub.cons (by repeat (first | exact Take.here _ | apply Take.next | apply Take.app)) ?_ | refine HSub.app (by repeat (first | with_reducible exact TakeS.here _ | apply TakeS.next | apply TakeS.app)) ?_ | exact HSub.nil _ | exact HSub.refl _ | refine HSub.drop ?_ | refine HSub.dropS ?_)))
            · skip
              obtain ⟨t0, ht0, e0⟩ := List.mem_map.1 (heldB_iff.1 hb)
              have hDel := rDel_hit (w0 := w0) (H := (b8, .cells 62 3 (actC a)) :: (b6, .cells 80 2 [.int .u64 ((x.nw : Nat) : Int), .slice x.ad (x.L).length x.cap]) :: (x.HW ++ (x.XR ++ H))) (now := x.nw) (t := t0) (by omega) (hx.rows.up (by first | exact hsubI | (repeat (first | with_reducible exact HSub.refl _ | refine HSub.cons (by repeat (first | exact Take.here _ | apply Take.next | apply Take.app)) ?_ | refine HSub.app (by repeat (first | with_reducible exact TakeS.here _ | apply TakeS.next | apply TakeS.app)) ?_ | exact HSub.nil _ | exact HSub.refl _ | refine HSub.drop ?_ | refine HSub.dropS ?_)))) hx.cap hx.wheel.ids.1 ht0
              rw [e0] at hDel
              refine W_call (.cons rfl (.cons rfl .nil)) Tryd.call45 rfl hDel ?_
              rintro v H' ⟨sv2, XB2, rfl, hR2, rfl⟩
              obtain ⟨ad2, cap2, rfl, hcp2, _⟩ := hR2.shape
              refine W_move rfl rfl ?_
              refine W_extract rfl rfl rfl ?_
              refine W_extract rfl rfl rfl ?_
              refine W_alloc (l := [.int .u64 0, .slice none 0 0]) ty80 rfl rfl (fun b14 => ?_)
              refine W_storeA (l' := [.int .u64 ((x.nw : Nat) : Int), .slice ad2 (delT x.L a.id).length cap2]) rfl rfl ty80 rfl rfl (b := b14) (by repeat (first | exact List.mem_cons_self | apply List.mem_cons_of_mem | apply List.mem_append_right)) (by exact Nat.le_refl 2) rfl (by repeat (first | exact Upd.head _ | apply Upd.tail | apply Upd.app)) ?_
              refine W_assign rfl rfl ?_
              refine W_nil ?_
              refine W_sr ?_
              refine W_move rfl rfl ?_
              refine W_fieldAddr rfl fld62_1 (by decide) rfl ?_
              refine W_load (v := .int .i64 a.id) rfl ty3 rfl (Cell.own (b := b8) (by repeat (first | exact List.mem_cons_self | apply List.mem_cons_of_mem | apply List.mem_append_right)) rfl) rfl ?_
              refine W_fieldAddr rfl fld62_1 (by decide) rfl ?_
              refine W_load (v := .int .i64 a.id) rfl ty3 rfl (Cell.own (b := b8) (by repeat (first | exact List.mem_cons_self | apply List.mem_cons_of_mem | apply List.mem_append_right)) rfl) rfl ?_
              refine W_buildSlice (l := [.int .i64 a.id, .int .i64 a.id]) ty35 ty3 (.cons rfl rfl rfl rfl rfl (.cons rfl rfl rfl rfl rfl .nil)) rfl rfl rfl rfl rfl rfl rfl (fun b107 => ?_)
              have hdt := dels_twice x.L a.id
              rw [hb] at hdt
              refine W_call (.cons rfl (.cons rfl .nil)) Tryd.call46 rfl (LCalls.hsub (Del_L (l := [a.id, a.id]) hx.wheel (show 2 ≤ 4611686018427387904 by decide) (H := (b14, .cells 80 2 [.int .u64 ((x.nw : Nat) : Int), .slice ad2 ((delT x.L a.id)).length cap2]) :: (b107, .cells 3 2 [.int .i64 a.id, .int .i64 a.id]) :: (b8, .cells 62 3 (actC a)) :: (b6, .cells 80 2 [.int .u64 ((x.nw : Nat) : Int), .slice x.ad (x.L).length x.cap]) :: (XB2 ++ (x.XR ++ H))) (Holds.own (b := b107) (by repeat (first | exact List.mem_cons_self | apply List.mem_cons_of_mem | apply List.mem_append_right)))) (by first | exact hsubI | (repeat (first | with_reducible exact HSub.refl _ | refine HSub.cons (by repeat (first | exact Take.here _ | apply Take.next | apply Take.app)) ?_ | refine HSub.app (by repeat (first | with_reducible exact TakeS.here _ | apply TakeS.next | apply TakeS.app)) ?_ | exact HSub.nil _ | exact HSub.refl _ | refine HSub.drop ?_ | refine HSub.dropS ?_)))) ?_
              rintro v H' ⟨HW2, hW2, rfl, rfl⟩
              rw [hdt] at hW2 ⊢
              refine W_assign rfl rfl ?_
              refine W_nil ?_
              refine W_seq ?_
              refine W_sr ?_
              refine W_move rfl rfl ?_
              refine W_move rfl rfl ?_
              refine W_gyes rfl rfl ?_
              refine W_move rfl rfl ?_
              refine W_gyes rfl rfl ?_
              refine W_bin rfl rfl b_neq rfl ?_
              first | refine W_pickt rfl rfl rfl ?_ | refine W_pickf rfl rfl rfl ?_
              refine W_move rfl rfl ?_
              refine W_gyes rfl rfl ?_
              refine W_move rfl rfl ?_
              refine W_gyes rfl rfl ?_
              refine W_not rfl rfl ?_
              refine W_gyes rfl rfl ?_
              refine W_move rfl rfl ?_
              refine W_gno rfl rfl rfl ?_
              refine W_gno rfl rfl rfl ?_
              refine W_gyes rfl rfl ?_
              first | refine W_pickt rfl rfl rfl ?_ | refine W_pickf rfl rfl rfl ?_
              first | refine W_pickt rfl rfl rfl ?_ | refine W_pickf rfl rfl rfl ?_
              refine W_nil ?_
              refine W_condF rfl rfl ?_
              refine W_skip ?_
              refine W_region ?_
              refine W_loadB (vs := [.int .u64 ((x.nw : Nat) : Int), .slice ad2 (delT x.L a.id).length cap2]) rfl ty80 rfl (b := b14) (by repeat (first | exact List.mem_cons_self | apply List.mem_cons_of_mem | apply List.mem_append_right)) rfl rfl rfl ?_
              refine W_storeA (l' := [.int .u64 ((x.nw : Nat) : Int), .slice ad2 (delT x.L a.id).length cap2]) rfl rfl ty80 rfl rfl (b := b6) (by repeat (first | exact List.mem_cons_self | apply List.mem_cons_of_mem | apply List.mem_append_right)) (by exact Nat.le_refl 2) rfl (by repeat (first | exact Upd.head _ | apply Upd.tail | apply Upd.app)) ?_
              refine W_nil ?_
              refine W_blk ?_
              refine W_joinX ⟨x.nw, delT x.L a.id, x.turn, HW2, ad2, cap2, XB2⟩ ⟨hx.del hW2 hR2, by show x.turn ≤ i + 1; omega⟩ (sub_cons rfl (sub_cons rfl (sub_cons rfl (sub_cons rfl (sub_cons rfl (sub_nil _)))))) (by first | exact hsubI | (repeat (first | with_reducible exact HSub.refl _ | refine HSub.cons (by repeat (first | exact Take.here _ | apply Take.next | apply Take.app)) ?_ | refine HSub.app (by repeat (first | with_reducible exact TakeS.here _ | apply TakeS.next | apply TakeS.app)) ?_ | exact HSub.nil _ | exact HSub.refl _ | refine HSub.drop ?_ | refine HSub.dropS ?_)))
          · skip
            refine W_sr ?_
            refine W_loadB (vs := [.int .u64 ((x.nw : Nat) : Int), .slice x.ad x.L.length x.cap]) rfl ty80 rfl (b := b6) (by repeat (first | exact List.mem_cons_self | apply List.mem_cons_of_mem | apply List.mem_append_right)) rfl rfl rfl ?_
            refine W_fieldAddr rfl fld62_2 (by decide) rfl ?_
            refine W_load (v := .int .u64 ((at_ : Nat) : Int)) rfl ty22 rfl (Cell.own (b := b8) (by repeat (first | exact List.mem_cons_self | apply List.mem_cons_of_mem | apply List.mem_append_right)) (by rw [show actC a = [.int .i64 a.kind, .int .i64 a.id, .int .u64 ((at_ : Nat) : Int)] from by unfold actC; rw [hat]]; rfl)) rfl ?_
            rcases Nat.lt_or_ge x.nw at_ with hlt | hst
            · skip
              have hTo := rTo_go (w0 := w0) (H := (b8, .cells 62 3 (actC a)) :: (b6, .cells 80 2 [.int .u64 ((x.nw : Nat) : Int), .slice x.ad (x.L).length x.cap]) :: (x.HW ++ (x.XR ++ H))) (now := x.nw) (a := at_) (by omega) hx.rows (by first | exact hsubI | (repeat (first | with_reducible exact HSub.refl _ | refine HSub.cons (by repeat (first | exact Take.here _ | apply Take.next | apply Take.app)) ?_ | refine HSub.app (by repeat (first | with_reducible exact TakeS.here _ | apply TakeS.next | apply TakeS.app)) ?_ | exact HSub.nil _ | exact HSub.refl _ | refine HSub.drop ?_ | refine HSub.dropS ?_))) hx.cap hlt hx.wheel.ids.1 hx.wheel.ids.2.2.1
              refine W_call (.cons rfl (.cons rfl .nil)) Tryd.call47 rfl hTo ?_
              rintro v H' ⟨Li, O, ov, ad', cap', XR2, XO, rfl, hG, hc2, hR2, hO, rfl⟩
              obtain ⟨ado, capo, rfl, _, _⟩ := hO.shape
              refine W_move rfl rfl ?_
              refine W_extract rfl rfl rfl ?_
              refine W_extract rfl rfl rfl ?_
              refine W_alloc (l := [.int .u64 0, .slice none 0 0]) ty80 rfl rfl (fun b17 => ?_)
              refine W_storeA (l' := [.int .u64 ((at_ : Nat) : Int), .slice ad' Li.length cap']) rfl rfl ty80 rfl rfl (b := b17) (by repeat (first | exact List.mem_cons_self | apply List.mem_cons_of_mem | apply List.mem_append_right)) (by exact Nat.le_refl 2) rfl (by repeat (first | exact Upd.head _ | apply Upd.tail | apply Upd.app)) ?_
              refine W_assign rfl rfl ?_
              refine W_nil ?_
              refine W_seq ?_
              refine W_sr ?_
              refine W_move rfl rfl ?_
              refine W_fieldAddr rfl fld62_2 (by decide) rfl ?_
              refine W_load (v := .int .u64 ((at_ : Nat) : Int)) rfl ty22 rfl (Cell.own (b := b8) (by repeat (first | exact List.mem_cons_self | apply List.mem_cons_of_mem | apply List.mem_append_right)) (by rw [show actC a = [.int .i64 a.kind, .int .i64 a.id, .int .u64 ((at_ : Nat) : Int)] from by unfold actC; rw [hat]]; rfl)) rfl ?_
              refine W_call (.cons rfl (.cons rfl .nil)) Tryd.call18 rfl (LCalls.hsub (To_L (a := at_) hx.wheel hlt hatm hT (H := (b17, .cells 80 2 [.int .u64 ((at_ : Nat) : Int), .slice ad' (Li).length cap']) :: (XO ++ (XR2 ++ ((b8, .cells 62 3 (actC a)) :: (b6, .cells 80 2 [.int .u64 ((x.nw : Nat) : Int), .slice x.ad (x.L).length x.cap]) :: (x.XR ++ H)))))) (by first | exact hsubI | (repeat (first | with_reducible exact HSub.refl _ | refine HSub.cons (by repeat (first | exact Take.here _ | apply Take.next | apply Take.app)) ?_ | refine HSub.app (by repeat (first | with_reducible exact TakeS.here _ | apply TakeS.next | apply TakeS.app)) ?_ | exact HSub.nil _ | exact HSub.refl _ | refine HSub.drop ?_ | refine HSub.dropS ?_)))) ?_
              rintro v H' ⟨O2, Li2, HW2, XO2, hW2, hG2, hO2, rfl⟩
              obtain ⟨rfl, rfl⟩ := hG2.same hG
              obtain ⟨ad2, cap2, rfl, _, _⟩ := hO2.shape
              have hgl := hG.len
              refine W_move rfl rfl ?_
              have hsl : ((O2.map (·.id)).length : Nat) = O2.length := List.length_map _
              have hlen5 : (O2.map (·.id)).length ≤ 4611686018427387904 := by rw [hsl]; omega
              have hh1 : Holds w0 (XO2 ++ (HW2 ++ ((b17, .cells 80 2 [.int .u64 ((at_ : Nat) : Int), .slice ad' (Li2).length cap']) :: (XO ++ (XR2 ++ ((b8, .cells 62 3 (actC a)) :: (b6, .cells 80 2 [.int .u64 ((x.nw : Nat) : Int), .slice x.ad (x.L).length x.cap]) :: (x.XR ++ H))))))) ad2 ((O2.map (·.id)).map (Value.int .i64)) := OwnS.holds hO2 (fun p hp => List.mem_append_left _ hp)
              have hh2 : Holds w0 (XO2 ++ (HW2 ++ ((b17, .cells 80 2 [.int .u64 ((at_ : Nat) : Int), .slice ad' (Li2).length cap']) :: (XO ++ (XR2 ++ ((b8, .cells 62 3 (actC a)) :: (b6, .cells 80 2 [.int .u64 ((x.nw : Nat) : Int), .slice x.ad (x.L).length x.cap]) :: (x.XR ++ H))))))) ado ((O2.map (·.id)).map (Value.int .i64)) := OwnS.holds hO (fun p hp => List.mem_append_right _ (List.mem_append_right _ (List.mem_cons_of_mem _ (List.mem_append_left _ hp))))
              have hsm := same_q (c1 := cap2) (c2 := capo) hh1 hh2 hlen5
              rw [hsl] at hsm
              refine W_callq (.cons rfl (.cons rfl .nil)) Tryd.call37 rfl hsm ?_
              rw [decide_eq_true rfl]
              refine W_not rfl rfl ?_
              refine W_nil ?_
              refine W_condF rfl rfl ?_
              refine W_skip ?_
              refine W_region ?_
              refine W_loadB (vs := [.int .u64 ((at_ : Nat) : Int), .slice ad' Li2.length cap']) rfl ty80 rfl (b := b17) (by repeat (first | exact List.mem_cons_self | apply List.mem_cons_of_mem | apply List.mem_append_right)) rfl rfl rfl ?_
              refine W_storeA (l' := [.int .u64 ((at_ : Nat) : Int), .slice ad' Li2.length cap']) rfl rfl ty80 rfl rfl (b := b6) (by repeat (first | exact List.mem_cons_self | apply List.mem_cons_of_mem | apply List.mem_append_right)) (by exact Nat.le_refl 2) rfl (by repeat (first | exact Upd.head _ | apply Upd.tail | apply Upd.app)) ?_
              refine W_nil ?_
              refine W_blk ?_
              refine W_joinX ⟨at_, Li2, x.turn, HW2, ad', cap', XR2 ++ x.XR⟩ ⟨⟨hW2, hatm, hG.ahead, by show Holds w0 ((XR2 ++ x.XR) ++ H) _ _; rw [List.append_assoc]; exact hR2, hc2⟩, by show x.turn ≤ i + 1; omega⟩ (sub_cons rfl (sub_cons rfl (sub_cons rfl (sub_cons rfl (sub_cons rfl (sub_nil _)))))) (by show HSub _ ((b8, .cells 62 3 (actC a)) :: (b6, .cells 80 2 [.int .u64 ((at_ : Nat) : Int), .slice ad' (Li2).length cap']) :: (HW2 ++ ((XR2 ++ x.XR) ++ H))); rw [List.append_assoc]; repeat (first | with_reducible exact HSub.refl _ | refine HSub.cons (by repeat (first | exact Take.here _ | apply Take.next | apply Take.app)) ?_ | refine HSub.app (by repeat (first | with_reducible exact TakeS.here _ | apply TakeS.next | apply TakeS.app)) ?_ | exact HSub.nil _ | exact HSub.refl _ | refine HSub.drop ?_ | refine HSub.dropS ?_))
            · skip
              refine W_callq (.cons rfl (.cons rfl .nil)) Tryd.call47 rfl (rTo_stay (now := x.nw) (cap := x.cap) (by omega) (hx.rows.up (by first | exact hsubI | (repeat (first | with_reducible exact HSub.refl _ | refine HSub.cons (by repeat (first | exact Take.here _ | apply Take.next | apply Take.app)) ?_ | refine HSub.app (by repeat (first | with_reducible exact TakeS.here _ | apply TakeS.next | apply TakeS.app)) ?_ | exact HSub.nil _ | exact HSub.refl _ | refine HSub.drop ?_ | refine HSub.dropS ?_)))) hst) ?_
              refine W_move rfl rfl ?_
              refine W_extract rfl rfl rfl ?_
              refine W_extract rfl rfl rfl ?_
              refine W_alloc (l := [.int .u64 0, .slice none 0 0]) ty80 rfl rfl (fun b17 => ?_)
              refine W_storeA (l' := [.int .u64 ((x.nw : Nat) : Int), .slice x.ad x.L.length x.cap]) rfl rfl ty80 rfl rfl (b := b17) (by repeat (first | exact List.mem_cons_self | apply List.mem_cons_of_mem | apply List.mem_append_right)) (by exact Nat.le_refl 2) rfl (by repeat (first | exact Upd.head _ | apply Upd.tail | apply Upd.app)) ?_
              refine W_assign rfl rfl ?_
              refine W_nil ?_
              refine W_seq ?_
              refine W_sr ?_
              refine W_move rfl rfl ?_
              refine W_fieldAddr rfl fld62_2 (by decide) rfl ?_
              refine W_load (v := .int .u64 ((at_ : Nat) : Int)) rfl ty22 rfl (Cell.own (b := b8) (by repeat (first | exact List.mem_cons_self | apply List.mem_cons_of_mem | apply List.mem_append_right)) (by rw [show actC a = [.int .i64 a.kind, .int .i64 a.id, .int .u64 ((at_ : Nat) : Int)] from by unfold actC; rw [hat]]; rfl)) rfl ?_
              obtain ⟨row, HT, hHW, hrl, hr0, _⟩ := hx.wheel.now
              refine W_callq (.cons rfl (.cons rfl .nil)) Tryd.call18 rfl (To_stay (now := x.nw) (row := row) (tot := 523) (by rw [hHW]; repeat (first | exact List.mem_cons_self | apply List.mem_cons_of_mem | apply List.mem_append_right)) hr0 hst) ?_
              refine W_move rfl rfl ?_
              refine W_callq (.cons rfl (.cons rfl .nil)) Tryd.call37 rfl (same_q (l := []) (r := []) Holds.nil Holds.nil (Nat.zero_le _)) ?_
              rw [decide_eq_true rfl]
              refine W_not rfl rfl ?_
              refine W_nil ?_
              refine W_condF rfl rfl ?_
              refine W_skip ?_
              refine W_region ?_
              refine W_loadB (vs := [.int .u64 ((x.nw : Nat) : Int), .slice x.ad x.L.length x.cap]) rfl ty80 rfl (b := b17) (by repeat (first | exact List.mem_cons_self | apply List.mem_cons_of_mem | apply List.mem_append_right)) rfl rfl rfl ?_
              refine W_storeA (l' := [.int .u64 ((x.nw : Nat) : Int), .slice x.ad x.L.length x.cap]) rfl rfl ty80 rfl rfl (b := b6) (by repeat (first | exact List.mem_cons_self | apply List.mem_cons_of_mem | apply List.mem_append_right)) (by exact Nat.le_refl 2) rfl (by repeat (first | exact Upd.head _ | apply Upd.tail | apply Upd.app)) ?_
              refine W_nil ?_
              refine W_blk ?_
              refine W_joinX x ⟨hx, by omega⟩ (sub_cons rfl (sub_cons rfl (sub_cons rfl (sub_cons rfl (sub_cons rfl (sub_nil _)))))) (by first | exact hsubI | (repeat (first | with_reducible exact HSub.refl _ | refine HSub.cons (by repeat (first | exact Take.here _ | apply Take.next | apply Take.app)) ?_ | refine HSub.app (by repeat (first | with_reducible exact TakeS.here _ | apply TakeS.next | apply TakeS.app)) ?_ | exact HSub.nil _ | exact HSub.refl _ | refine HSub.drop ?_ | refine HSub.dropS ?_)))
    rintro y ⟨hy, hyt⟩
    try dsimp only at hyt ⊢
    have hlen2 := hy.len
    have hids2 := hy.wheel.ids
    refine W_sr ?_
    refine W_move rfl rfl ?_
    refine W_call (.cons rfl .nil) Tryd.call15 rfl (LCalls.hsub (Next_W hT hy.wheel hy.now (H := (b8, .cells 62 3 (actC a)) :: (b6, .cells 80 2 [.int .u64 ((y.nw : Nat) : Int), .slice y.ad (y.L).length y.cap]) :: (y.XR ++ H))) (by first | exact hsubI | (repeat (first | with_reducible exact HSub.refl _ | refine HSub.cons (by repeat (first | exact Take.here _ | apply Take.next | apply Take.app)) ?_ | refine HSub.app (by repeat (first | with_reducible exact TakeS.here _ | apply TakeS.next | apply TakeS.app)) ?_ | exact HSub.nil _ | exact HSub.refl _ | refine HSub.drop ?_ | refine HSub.dropS ?_)))) ?_
    rintro v H' ⟨rfl, rfl⟩
    refine W_move rfl rfl ?_
    refine W_extract rfl rfl rfl ?_
    refine W_extract rfl rfl rfl ?_
    refine W_assign rfl rfl ?_
    refine W_assign rfl rfl ?_
    refine W_nil ?_
    refine W_sr ?_
    refine W_loadB (vs := [.int .u64 ((y.nw : Nat) : Int), .slice y.ad y.L.length y.cap]) rfl ty80 rfl (b := b6) (by repeat (first | exact List.mem_cons_self | apply List.mem_cons_of_mem | apply List.mem_append_right)) rfl rfl rfl ?_
    refine W_call (.cons rfl .nil) Tryd.call48 rfl (rNext_L (now := y.nw) (cap := y.cap) (by omega) (hy.rows.up (by first | exact hsubI | (repeat (first | with_reducible exact HSub.refl _ | refine HSub.cons (by repeat (first | exact Take.here _ | apply Take.next | apply Take.app)) ?_ | refine HSub.app (by repeat (first | with_reducible exact TakeS.here _ | apply TakeS.next | apply TakeS.app)) ?_ | exact HSub.nil _ | exact HSub.refl _ | refine HSub.drop ?_ | refine HSub.dropS ?_))))) ?_
    rintro v H' ⟨z, rfl, hB, rfl⟩
    rcases hB with ⟨rfl, hnil⟩ | ⟨k, t, rfl, htk, hle, hfirst⟩
    · skip
      rw [show leastT y.L = none from leastT_none.2 hnil]
      refine W_assign rfl rfl ?_
      refine W_nil ?_
      refine W_seq ?_
      refine W_sr ?_
      refine W_move rfl rfl ?_
      refine W_move rfl rfl ?_
      refine W_bin rfl rfl b_geq rfl ?_
      rw [decide_eq_false (by omega)]
      refine W_bne rfl rfl ty4 rfl ?_
      refine W_move rfl rfl ?_
      refine W_gyes rfl rfl ?_
      refine W_move rfl rfl ?_
      refine W_gyes rfl rfl ?_
      refine W_move rfl rfl ?_
      refine W_gno rfl rfl rfl ?_
      refine W_gno rfl rfl rfl ?_
      refine W_gno rfl rfl rfl ?_
      refine W_gno rfl rfl rfl ?_
      refine W_gno rfl rfl rfl ?_
      refine W_gno rfl rfl rfl ?_
      refine W_gno rfl rfl rfl ?_
      refine W_gno rfl rfl rfl ?_
      refine W_gno rfl rfl rfl ?_
      refine W_gyes rfl rfl ?_
      first | refine W_pickt rfl rfl rfl ?_ | refine W_pickf rfl rfl rfl ?_
      first | refine W_pickt rfl rfl rfl ?_ | refine W_pickf rfl rfl rfl ?_
      refine W_move rfl rfl ?_
      refine W_gyes rfl rfl ?_
      refine W_move rfl rfl ?_
      refine W_gyes rfl rfl ?_
      refine W_not rfl rfl ?_
      refine W_gyes rfl rfl ?_
      refine W_move rfl rfl ?_
      refine W_gyes rfl rfl ?_
      refine W_move rfl rfl ?_
      refine W_gyes rfl rfl ?_
      refine W_bin rfl rfl b_neq rfl ?_
      refine W_gyes rfl rfl ?_
      first | refine W_pickt rfl rfl rfl ?_ | refine W_pickf rfl rfl rfl ?_
      first | refine W_pickt rfl rfl rfl ?_ | refine W_pickf rfl rfl rfl ?_
      refine W_nil ?_
      refine W_condF rfl rfl ?_
      refine W_skip ?_
      refine W_sr ?_
      refine W_env (env' := [(1, _), (5, _), (6, _), (7, _), (8, _)]) (sub_cons rfl (sub_cons rfl (sub_cons rfl (sub_cons rfl (sub_cons rfl (sub_nil _)))))) ?_
      refine W_move rfl rfl ?_
      refine W_fieldAddr rfl fld62_1 (by decide) rfl ?_
      refine W_load (v := .int .i64 a.id) rfl ty3 rfl (Cell.own (b := b8) (by repeat (first | exact List.mem_cons_self | apply List.mem_cons_of_mem | apply List.mem_append_right)) rfl) rfl ?_
      refine W_call (.cons rfl (.cons rfl .nil)) Tryd.call20 rfl (LCalls.hsub (Find_W (id := a.id) hy.wheel (H := (b8, .cells 62 3 (actC a)) :: (b6, .cells 80 2 [.int .u64 ((y.nw : Nat) : Int), .slice y.ad (y.L).length y.cap]) :: (y.XR ++ H))) (by first | exact hsubI | (repeat (first | with_reducible exact HSub.refl _ | refine HSub.cons (by repeat (first | exact Take.here _ | apply Take.next | apply Take.app)) ?_ | refine HSub.app (by repeat (first | with_reducible exact TakeS.here _ | apply TakeS.next | apply TakeS.app)) ?_ | exact HSub.nil _ | exact HSub.refl _ | refine HSub.drop ?_ | refine HSub.dropS ?_)))) ?_
      rintro v H' ⟨rfl, rfl⟩
      refine W_move rfl rfl ?_
      refine W_extract rfl rfl rfl ?_
      refine W_extract rfl rfl rfl ?_
      refine W_alloc (l := zSpot.v) ty27 rfl rfl (fun b22 => ?_)
      refine W_storeA (l' := (spotOf y.L a.id).v) rfl rfl ty27 rfl rfl (b := b22) (by repeat (first | exact List.mem_cons_self | apply List.mem_cons_of_mem | apply List.mem_append_right)) (by exact Nat.le_refl 4) rfl (by repeat (first | exact Upd.head _ | apply Upd.tail | apply Upd.app)) ?_
      refine W_assign rfl rfl ?_
      refine W_nil ?_
      refine W_sr ?_
      refine W_loadB (vs := [.int .u64 ((y.nw : Nat) : Int), .slice y.ad y.L.length y.cap]) rfl ty80 rfl (b := b6) (by repeat (first | exact List.mem_cons_self | apply List.mem_cons_of_mem | apply List.mem_append_right)) rfl rfl rfl ?_
      refine W_fieldAddr rfl fld62_1 (by decide) rfl ?_
      refine W_load (v := .int .i64 a.id) rfl ty3 rfl (Cell.own (b := b8) (by repeat (first | exact List.mem_cons_self | apply List.mem_cons_of_mem | apply List.mem_append_right)) rfl) rfl ?_
      refine W_call (.cons rfl (.cons rfl .nil)) Tryd.call39 rfl (rFind_L (now := y.nw) (cap := y.cap) (id := a.id) (by omega) (hy.rows.up (by first | exact hsubI | (repeat (first | with_reducible exact HSub.refl _ | refine HSub.cons (by repeat (first | exact Take.here _ | apply Take.next | apply Take.app)) ?_ | refine HSub.app (by repeat (first | with_reducible exact TakeS.here _ | apply TakeS.next | apply TakeS.app)) ?_ | exact HSub.nil _ | exact HSub.refl _ | refine HSub.drop ?_ | refine HSub.dropS ?_))))) ?_
      rintro v H' ⟨z, rfl, hz, rfl⟩
      rcases hz with ⟨k2, t2, rfl, htk2, hid2⟩ | ⟨rfl, hno2⟩
      · skip
        have hkl2 := (List.getElem?_eq_some_iff.1 htk2).1
        have hheld : heldB y.L a.id = true := heldB_iff.2 (hid2 ▸ List.mem_map_of_mem (List.mem_of_getElem? htk2))
        have hspot : spotOf y.L a.id = t2.s := by rw [← hid2]; exact spotOf_in hids2.1 (List.mem_of_getElem? htk2)
        rw [hheld, hspot]
        obtain ⟨qk2, pk2, hak2, hck2⟩ := Holds.row tmC_len (by decide) hy.rows htk2
        refine W_assign rfl rfl ?_
        refine W_nil ?_
        refine W_seq ?_
        refine W_quietsr (by kernel_rfl) (by decide +kernel) ?_
        refine WQ_x (X_move rfl) rfl ?_
        refine WQ_x (X_move rfl) rfl ?_
        refine WQ_x (X_bin rfl rfl b_geq) rfl ?_
        rw [decide_eq_true (by omega)]
        refine WQ_x (X_bne rfl rfl ty4) rfl ?_
        refine WQ_x (X_move rfl) rfl ?_
        refine WQ_gyes rfl rfl ?_
        refine WQ_x (X_move rfl) rfl ?_
        refine WQ_gyes rfl rfl ?_
        refine WQ_x (X_move rfl) rfl ?_
        refine WQ_gyes rfl rfl ?_
        refine WQ_x (X_loadB (vs := t2.s.v) rfl ty27 rfl (b := b22) (by repeat (first | exact List.mem_cons_self | apply List.mem_cons_of_mem | apply List.mem_append_right)) rfl rfl) rfl ?_
        refine WQ_gyes rfl rfl ?_
        refine WQ_callp (.cons rfl .nil) Tryd.call33 rfl (T := fun _ => True) trivial rOfS_pure ?_
        refine WQ_gyes rfl rfl ?_
        refine WQ_x (X_fieldAddr rfl fld80_1 (by decide)) rfl ?_
        refine WQ_gyes rfl rfl ?_
        refine WQ_x (X_load rfl ty78 rfl (Cell.own (by repeat (first | exact List.mem_cons_self | apply List.mem_cons_of_mem | apply List.mem_append_right)) rfl)) rfl ?_
        refine WQ_gyes rfl rfl ?_
        refine WQ_x (X_move rfl) rfl ?_
        refine WQ_gyes rfl rfl ?_
        refine WQ_x (X_indexAddr (b := qk2) (o := pk2) (j := k2) (by rw [← hak2]; rfl) rfl ty78 ty77 rfl (by omega) rfl) rfl ?_
        refine WQ_gyes rfl rfl ?_
        refine WQ_x (X_fieldAddr rfl fld77_1 (by decide)) rfl ?_
        refine WQ_gyes rfl rfl ?_
        refine WQ_x (X_loadA (vs := t2.s.v) rfl ty65 rfl rfl ((Cells.tail hck2).up (by first | exact hsubI | (repeat (first | with_reducible exact HSub.refl _ | refine HSub.cons (by repeat (first | exact Take.here _ | apply Take.next | apply Take.app)) ?_ | refine HSub.app (by repeat (first | with_reducible exact TakeS.here _ | apply TakeS.next | apply TakeS.app)) ?_ | exact HSub.nil _ | exact HSub.refl _ | refine HSub.drop ?_ | refine HSub.dropS ?_))))) rfl ?_
        refine WQ_gyes rfl rfl ?_
        refine WQ_x (X_neA rfl rfl ty65 (by kernel_rfl) (by kernel_rfl) (.cons (by decide) ty3 rfl rfl rfl (eqv_int ty3) (.cons (by decide) ty3 rfl rfl rfl (eqv_int ty3) (.cons (by decide) ty22 rfl rfl rfl (eqv_int ty22) (.cons (by decide) ty22 rfl rfl rfl (eqv_int ty22) .nil))))) rfl ?_
        try simp only [eq_self, decide_true, Bool.and_true, Bool.not_true]
        refine WQ_gyes rfl rfl ?_
        first | refine WQ_x (X_pickt rfl rfl) rfl ?_ | refine WQ_x (X_pickf rfl rfl) rfl ?_
        first | refine WQ_x (X_pickt rfl rfl) rfl ?_ | refine WQ_x (X_pickf rfl rfl) rfl ?_
        refine WQ_nil ?_
        refine W_condF rfl rfl ?_
        refine W_skip ?_
        refine W_seq ?_
        refine W_env (env' := [(1, _), (5, _), (6, _), (7, _), (8, _)]) (sub_cons rfl (sub_cons rfl (sub_cons rfl (sub_cons rfl (sub_cons rfl (sub_nil _)))))) ?_
        refine W_anyC [(b6, .cells 80 2 [.int .u64 ((y.nw : Nat) : Int), .slice y.ad (y.L).length y.cap])] (by kernel_rfl) ?_
        refine WC_take 0 (l' := #[true, false, false, false, false, false, false, false, false, false, false, false, false, false, false, false, false, false, false, false, false]) rfl (by decide +kernel) (by decide +kernel) (by decide +kernel) rfl (by decide +kernel) (X_move rfl) rfl ?_
        refine WC_take 2 (l' := #[true, false, true, false, false, false, false, false, false, false, false, false, false, false, false, false, false, false, false, false, false]) rfl (by decide +kernel) (by decide +kernel) (by decide +kernel) rfl (by decide +kernel) (X_fieldAddr rfl fld80_0 (by decide)) rfl ?_
        refine WC_take 3 (l' := #[true, false, true, true, false, false, false, false, false, false, false, false, false, false, false, false, false, false, false, false, false]) rfl (by decide +kernel) (by decide +kernel) (by decide +kernel) rfl (by decide +kernel) (X_load (v := .int .u64 (y.nw : Int)) rfl ty22 rfl (Cell.own (b := b6) (by repeat (first | exact List.mem_cons_self | apply List.mem_cons_of_mem | apply List.mem_append_right)) rfl)) rfl ?_
        refine WC_one 1 (l' := #[true, true, true, true, false, false, false, false, false, false, false, false, false, false, false, false, false, false, false, false, false]) (by first | exact hsubI | (repeat (first | with_reducible exact HSub.refl _ | refine HSub.cons (by repeat (first | exact Take.here _ | apply Take.next | apply Take.app)) ?_ | refine HSub.app (by repeat (first | with_reducible exact TakeS.here _ | apply TakeS.next | apply TakeS.app)) ?_ | exact HSub.nil _ | exact HSub.refl _ | refine HSub.drop ?_ | refine HSub.dropS ?_))) (by decide +kernel) rfl (by decide +kernel) ?_
        refine W_call (.cons rfl .nil) Tryd.call19 rfl (LCalls.hsub (Now_W hy.wheel (H := (b8, .cells 62 3 (actC a)) :: (b6, .cells 80 2 [.int .u64 ((y.nw : Nat) : Int), .slice y.ad (y.L).length y.cap]) :: (y.XR ++ H))) (by first | exact hsubI | (repeat (first | with_reducible exact HSub.refl _ | refine HSub.cons (by repeat (first | exact Take.here _ | apply Take.next | apply Take.app)) ?_ | refine HSub.app (by repeat (first | with_reducible exact TakeS.here _ | apply TakeS.next | apply TakeS.app)) ?_ | exact HSub.nil _ | exact HSub.refl _ | refine HSub.drop ?_ | refine HSub.dropS ?_)))) ?_
        rintro v H' ⟨rfl, rfl⟩
        refine W_nil ?_
        refine WC_goal ?_
        refine WC_take 4 (l' := #[true, true, true, true, true, false, false, false, false, false, false, false, false, false, false, false, false, false, false, false, false]) rfl (by decide +kernel) (by decide +kernel) (by decide +kernel) rfl (by decide +kernel) (X_bin rfl rfl b_neq) rfl ?_
        rw [decide_eq_false (fun h => h rfl)]
        refine WC_take 5 (l' := #[true, true, true, true, true, true, false, false, false, false, false, false, false, false, false, false, false, false, false, false, false]) rfl (by decide +kernel) (by decide +kernel) (by decide +kernel) rfl (by decide +kernel) (X_move rfl) rfl ?_
        refine WC_gyes 6 (l' := #[true, true, true, true, true, true, true, false, false, false, false, false, false, false, false, false, false, false, false, false, false]) rfl (by decide +kernel) (by decide +kernel) (by decide +kernel) rfl (by decide +kernel) rfl rfl (X_move rfl) rfl ?_
        refine WC_gyes 8 (l' := #[true, true, true, true, true, true, true, false, true, false, false, false, false, false, false, false, false, false, false, false, false]) rfl (by decide +kernel) (by decide +kernel) (by decide +kernel) rfl (by decide +kernel) rfl rfl (X_fieldAddr rfl fld80_1 (by decide)) rfl ?_
        refine WC_gyes 9 (l' := #[true, true, true, true, true, true, true, false, true, true, false, false, false, false, false, false, false, false, false, false, false]) rfl (by decide +kernel) (by decide +kernel) (by decide +kernel) rfl (by decide +kernel) rfl rfl (X_load (v := .slice y.ad y.L.length y.cap) rfl ty78 rfl (Cell.own (b := b6) (by repeat (first | exact List.mem_cons_self | apply List.mem_cons_of_mem | apply List.mem_append_right)) rfl)) rfl ?_
        refine WC_gyes 10 (l' := #[true, true, true, true, true, true, true, false, true, true, true, false, false, false, false, false, false, false, false, false, false]) rfl (by decide +kernel) (by decide +kernel) (by decide +kernel) rfl (by decide +kernel) rfl rfl (X_len rfl ty78 rfl) rfl ?_
        refine WC_one 7 (l' := #[true, true, true, true, true, true, true, true, true, true, true, false, false, false, false, false, false, false, false, false, false]) (by first | exact hsubI | (repeat (first | with_reducible exact HSub.refl _ | refine HSub.cons (by repeat (first | exact Take.here _ | apply Take.next | apply Take.app)) ?_ | refine HSub.app (by repeat (first | with_reducible exact TakeS.here _ | apply TakeS.next | apply TakeS.app)) ?_ | exact HSub.nil _ | exact HSub.refl _ | refine HSub.drop ?_ | refine HSub.dropS ?_))) (by decide +kernel) rfl (by decide +kernel) ?_
        refine W_gyes rfl rfl ?_
        refine W_call (.cons rfl .nil) Tryd.call17 rfl (LCalls.hsub (Len_W hy.wheel (H := (b8, .cells 62 3 (actC a)) :: (b6, .cells 80 2 [.int .u64 ((y.nw : Nat) : Int), .slice y.ad (y.L).length y.cap]) :: (y.XR ++ H))) (by first | exact hsubI | (repeat (first | with_reducible exact HSub.refl _ | refine HSub.cons (by repeat (first | exact Take.here _ | apply Take.next | apply Take.app)) ?_ | refine HSub.app (by repeat (first | with_reducible exact TakeS.here _ | apply TakeS.next | apply TakeS.app)) ?_ | exact HSub.nil _ | exact HSub.refl _ | refine HSub.drop ?_ | refine HSub.dropS ?_)))) ?_
        rintro v H' ⟨rfl, rfl⟩
        refine W_nil ?_
        refine WC_goal ?_
        refine WC_gyes 11 (l' := #[true, true, true, true, true, true, true, true, true, true, true, true, false, false, false, false, false, false, false, false, false]) rfl (by decide +kernel) (by decide +kernel) (by decide +kernel) rfl (by decide +kernel) rfl rfl (X_bin rfl rfl b_neq) rfl ?_
        rw [decide_eq_false (fun h => h rfl)]
        first | refine WC_take 12 (l' := #[true, true, true, true, true, true, true, true, true, true, true, true, true, false, false, false, false, false, false, false, false]) rfl (by decide +kernel) (by decide +kernel) (by decide +kernel) rfl (by decide +kernel) (X_pickt rfl rfl) rfl ?_ | refine WC_take 12 (l' := #[true, true, true, true, true, true, true, true, true, true, true, true, true, false, false, false, false, false, false, false, false]) rfl (by decide +kernel) (by decide +kernel) (by decide +kernel) rfl (by decide +kernel) (X_pickf rfl rfl) rfl ?_
        refine WC_take 13 (l' := #[true, true, true, true, true, true, true, true, true, true, true, true, true, true, false, false, false, false, false, false, false]) rfl (by decide +kernel) (by decide +kernel) (by decide +kernel) rfl (by decide +kernel) (X_move rfl) rfl ?_
        refine WC_gyes 14 (l' := #[true, true, true, true, true, true, true, true, true, true, true, true, true, true, true, false, false, false, false, false, false]) rfl (by decide +kernel) (by decide +kernel) (by decide +kernel) rfl (by decide +kernel) rfl rfl (X_move rfl) rfl ?_
        refine WC_gyes 16 (l' := #[true, true, true, true, true, true, true, true, true, true, true, true, true, true, true, false, true, false, false, false, false]) rfl (by decide +kernel) (by decide +kernel) (by decide +kernel) rfl (by decide +kernel) rfl rfl (X_loadB (vs := [.int .u64 ((y.nw : Nat) : Int), .slice y.ad y.L.length y.cap]) rfl ty80 rfl (b := b6) (by repeat (first | exact List.mem_cons_self | apply List.mem_cons_of_mem | apply List.mem_append_right)) rfl rfl) rfl ?_
        refine WC_one 15 (l' := #[true, true, true, true, true, true, true, true, true, true, true, true, true, true, true, true, true, false, false, false, false]) (by first | exact hsubI | (repeat (first | with_reducible exact HSub.refl _ | refine HSub.cons (by repeat (first | exact Take.here _ | apply Take.next | apply Take.app)) ?_ | refine HSub.app (by repeat (first | with_reducible exact TakeS.here _ | apply TakeS.next | apply TakeS.app)) ?_ | exact HSub.nil _ | exact HSub.refl _ | refine HSub.drop ?_ | refine HSub.dropS ?_))) (by decide +kernel) rfl (by decide +kernel) ?_
        refine W_gyes rfl rfl ?_
        refine W_call (.cons rfl .nil) Tryd.call43 rfl (LCalls.hsub (Ids_W hy.wheel (H := (b8, .cells 62 3 (actC a)) :: (b6, .cells 80 2 [.int .u64 ((y.nw : Nat) : Int), .slice y.ad (y.L).length y.cap]) :: (y.XR ++ H))) (by first | exact hsubI | (repeat (first | with_reducible exact HSub.refl _ | refine HSub.cons (by repeat (first | exact Take.here _ | apply Take.next | apply Take.app)) ?_ | refine HSub.app (by repeat (first | with_reducible exact TakeS.here _ | apply TakeS.next | apply TakeS.app)) ?_ | exact HSub.nil _ | exact HSub.refl _ | refine HSub.drop ?_ | refine HSub.dropS ?_)))) ?_
        rintro v H' ⟨XI, hI, rfl⟩
        obtain ⟨adi, capi, rfl, _, _⟩ := hI.shape
        refine W_nil ?_
        refine WC_goal ?_
        refine WC_one 17 (l' := #[true, true, true, true, true, true, true, true, true, true, true, true, true, true, true, true, true, true, false, false, false]) (by first | exact hsubI | (repeat (first | with_reducible exact HSub.refl _ | refine HSub.cons (by repeat (first | exact Take.here _ | apply Take.next | apply Take.app)) ?_ | refine HSub.app (by repeat (first | with_reducible exact TakeS.here _ | apply TakeS.next | apply TakeS.app)) ?_ | exact HSub.nil _ | exact HSub.refl _ | refine HSub.drop ?_ | refine HSub.dropS ?_))) (by decide +kernel) rfl (by decide +kernel) ?_
        refine W_gyes rfl rfl ?_
        refine W_call (.cons rfl .nil) Tryd.call49 rfl (rIds_L (now := y.nw) (cap := y.cap) (by omega) (hy.rows.up (by first | exact hsubI | (repeat (first | with_reducible exact HSub.refl _ | refine HSub.cons (by repeat (first | exact Take.here _ | apply Take.next | apply Take.app)) ?_ | refine HSub.app (by repeat (first | with_reducible exact TakeS.here _ | apply TakeS.next | apply TakeS.app)) ?_ | exact HSub.nil _ | exact HSub.refl _ | refine HSub.drop ?_ | refine HSub.dropS ?_))))) ?_
        rintro v H' ⟨XJ, hJ, rfl⟩
        rw [idsR_is hids2.1 hids2.2.1] at hJ
        obtain ⟨adj, capj, rfl, _, _⟩ := hJ.shape
        have hsi : (sortI (y.L.map (·.id))).length ≤ 4611686018427387904 := by rw [(sortI_perm _).length_eq, List.length_map]; omega
        refine W_nil ?_
        refine WC_goal ?_
        refine WC_one 18 (l' := #[true, true, true, true, true, true, true, true, true, true, true, true, true, true, true, true, true, true, true, false, false]) (by first | exact hsubI | (repeat (first | with_reducible exact HSub.refl _ | refine HSub.cons (by repeat (first | exact Take.here _ | apply Take.next | apply Take.app)) ?_ | refine HSub.app (by repeat (first | with_reducible exact TakeS.here _ | apply TakeS.next | apply TakeS.app)) ?_ | exact HSub.nil _ | exact HSub.refl _ | refine HSub.drop ?_ | refine HSub.dropS ?_))) (by decide +kernel) rfl (by decide +kernel) ?_
        refine W_gyes rfl rfl ?_
        have hh1 : Holds w0 (XJ ++ (XI ++ (y.HW ++ ((b8, .cells 62 3 (actC a)) :: (b6, .cells 80 2 [.int .u64 ((y.nw : Nat) : Int), .slice y.ad (y.L).length y.cap]) :: (y.XR ++ H))))) adi ((sortI (y.L.map (·.id))).map (Value.int .i64)) := OwnS.holds hI (fun p hp => List.mem_append_right _ (List.mem_append_left _ hp))
        have hh2 : Holds w0 (XJ ++ (XI ++ (y.HW ++ ((b8, .cells 62 3 (actC a)) :: (b6, .cells 80 2 [.int .u64 ((y.nw : Nat) : Int), .slice y.ad (y.L).length y.cap]) :: (y.XR ++ H))))) adj ((sortI (y.L.map (·.id))).map (Value.int .i64)) := OwnS.holds hJ (fun p hp => List.mem_append_left _ hp)
        have hsm := same_q (c1 := capi) (c2 := capj) hh1 hh2 hsi
        refine W_callq (.cons rfl (.cons rfl .nil)) Tryd.call37 rfl hsm ?_
        rw [decide_eq_true rfl]
        refine W_nil ?_
        refine WC_goal ?_
        refine WC_gyes 19 (l' := #[true, true, true, true, true, true, true, true, true, true, true, true, true, true, true, true, true, true, true, true, false]) rfl (by decide +kernel) (by decide +kernel) (by decide +kernel) rfl (by decide +kernel) rfl rfl (X_not rfl) rfl ?_
        first | refine WC_take 20 (l' := #[true, true, true, true, true, true, true, true, true, true, true, true, true, true, true, true, true, true, true, true, true]) rfl (by decide +kernel) (by decide +kernel) (by decide +kernel) rfl (by decide +kernel) (X_pickt rfl rfl) rfl ?_ | refine WC_take 20 (l' := #[true, true, true, true, true, true, true, true, true, true, true, true, true, true, true, true, true, true, true, true, true]) rfl (by decide +kernel) (by decide +kernel) (by decide +kernel) rfl (by decide +kernel) (X_pickf rfl rfl) rfl ?_
        refine WC_done (by first | exact hsubI | (repeat (first | with_reducible exact HSub.refl _ | refine HSub.cons (by repeat (first | exact Take.here _ | apply Take.next | apply Take.app)) ?_ | refine HSub.app (by repeat (first | with_reducible exact TakeS.here _ | apply TakeS.next | apply TakeS.app)) ?_ | exact HSub.nil _ | exact HSub.refl _ | refine HSub.drop ?_ | refine HSub.dropS ?_))) (by decide +kernel) ?_
        refine W_condF rfl rfl ?_
        refine W_skip ?_
        refine W_blk ?_
        refine W_region ?_
        refine W_move rfl rfl ?_
        refine W_bin rfl rfl (b_add (m := ((i + 1 : Nat) : Int)) ((i64w (by omega)).trans (by omega))) rfl ?_
        refine W_assign rfl rfl ?_
        refine W_nil ?_
        refine W_again (i + 1, y) ⟨by show i + 1 ≤ acts.length; omega, by show i + 1 ≤ 80; omega, hy, hyt⟩ (by show acts.length - (i + 1) < acts.length - i; omega) (sub_cons rfl (sub_cons rfl (sub_cons rfl (sub_cons rfl (sub_nil _))))) rfl (by first | exact hsubI | (repeat (first | with_reducible exact HSub.refl _ | refine HSub.cons (by repeat (first | exact Take.here _ | apply Take.next | apply Take.app)) ?_ | refine HSub.app (by repeat (first | with_reducible exact TakeS.here _ | apply TakeS.next | apply TakeS.app)) ?_ | exact HSub.nil _ | exact HSub.refl _ | refine HSub.drop ?_ | refine HSub.dropS ?_)))
      · skip
        have hheld : heldB y.L a.id = false := by cases hb : heldB y.L a.id with | false => rfl | true => exact absurd (heldB_iff.1 hb) hno2
        rw [hheld]
        refine W_assign rfl rfl ?_
        refine W_nil ?_
        refine W_seq ?_
        refine W_quietsr (by kernel_rfl) (by decide +kernel) ?_
        refine WQ_x (X_move rfl) rfl ?_
        refine WQ_x (X_move rfl) rfl ?_
        refine WQ_x (X_bin rfl rfl b_geq) rfl ?_
        rw [decide_eq_false (by omega)]
        refine WQ_x (X_bne rfl rfl ty4) rfl ?_
        refine WQ_x (X_move rfl) rfl ?_
        refine WQ_gyes rfl rfl ?_
        refine WQ_x (X_move rfl) rfl ?_
        refine WQ_gyes rfl rfl ?_
        refine WQ_x (X_move rfl) rfl ?_
        refine WQ_gno rfl rfl rfl rfl ?_
        refine WQ_gno rfl rfl rfl rfl ?_
        refine WQ_gno rfl rfl rfl rfl ?_
        refine WQ_gno rfl rfl rfl rfl ?_
        refine WQ_gno rfl rfl rfl rfl ?_
        refine WQ_gno rfl rfl rfl rfl ?_
        refine WQ_gno rfl rfl rfl rfl ?_
        refine WQ_gno rfl rfl rfl rfl ?_
        refine WQ_gno rfl rfl rfl rfl ?_
        refine WQ_gyes rfl rfl ?_
        first | refine WQ_x (X_pickt rfl rfl) rfl ?_ | refine WQ_x (X_pickf rfl rfl) rfl ?_
        first | refine WQ_x (X_pickt rfl rfl) rfl ?_ | refine WQ_x (X_pickf rfl rfl) rfl ?_
        refine WQ_nil ?_
        refine W_condF rfl rfl ?_
        refine W_skip ?_
        refine W_seq ?_
        refine W_env (env' := [(1, _), (5, _), (6, _), (7, _), (8, _)]) (sub_cons rfl (sub_cons rfl (sub_cons rfl (sub_cons rfl (sub_cons rfl (sub_nil _)))))) ?_
        refine W_anyC [(b6, .cells 80 2 [.int .u64 ((y.nw : Nat) : Int), .slice y.ad (y.L).length y.cap])] (by kernel_rfl) ?_
        refine WC_take 0 (l' := #[true, false, false, false, false, false, false, false, false, false, false, false, false, false, false, false, false, false, false, false, false]) rfl (by decide +kernel) (by decide +kernel) (by decide +kernel) rfl (by decide +kernel) (X_move rfl) rfl ?_
        refine WC_take 2 (l' := #[true, false, true, false, false, false, false, false, false, false, false, false, false, false, false, false, false, false, false, false, false]) rfl (by decide +kernel) (by decide +kernel) (by decide +kernel) rfl (by decide +kernel) (X_fieldAddr rfl fld80_0 (by decide)) rfl ?_
        refine WC_take 3 (l' := #[true, false, true, true, false, false, false, false, false, false, false, false, false, false, false, false, false, false, false, false, false]) rfl (by decide +kernel) (by decide +kernel) (by decide +kernel) rfl (by decide +kernel) (X_load (v := .int .u64 (y.nw : Int)) rfl ty22 rfl (Cell.own (b := b6) (by repeat (first | exact List.mem_cons_self | apply List.mem_cons_of_mem | apply List.mem_append_right)) rfl)) rfl ?_
        refine WC_one 1 (l' := #[true, true, true, true, false, false, false, false, false, false, false, false, false, false, false, false, false, false, false, false, false]) (by first | exact hsubI | (repeat (first | with_reducible exact HSub.refl _ | refine HSub.cons (by repeat (first | exact Take.here _ | apply Take.next | apply Take.app)) ?_ | refine HSub.app (by repeat (first | with_reducible exact TakeS.here _ | apply TakeS.next | apply TakeS.app)) ?_ | exact HSub.nil _ | exact HSub.refl _ | refine HSub.drop ?_ | refine HSub.dropS ?_))) (by decide +kernel) rfl (by decide +kernel) ?_
        refine W_call (.cons rfl .nil) Tryd.call19 rfl (LCalls.hsub (Now_W hy.wheel (H := (b8, .cells 62 3 (actC a)) :: (b6, .cells 80 2 [.int .u64 ((y.nw : Nat) : Int), .slice y.ad (y.L).length y.cap]) :: (y.XR ++ H))) (by first | exact hsubI | (repeat (first | with_reducible exact HSub.refl _ | refine HSub.cons (by repeat (first | exact Take.here _ | apply Take.next | apply Take.app)) ?_ | refine HSub.app (by repeat (first | with_reducible exact TakeS.here _ | apply TakeS.next | apply TakeS.app)) ?_ | exact HSub.nil _ | exact HSub.refl _ | refine HSub.drop ?_ | refine HSub.dropS ?_)))) ?_
        rintro v H' ⟨rfl, rfl⟩
        refine W_nil ?_
        refine WC_goal ?_
        refine WC_take 4 (l' := #[true, true, true, true, true, false, false, false, false, false, false, false, false, false, false, false, false, false, false, false, false]) rfl (by decide +kernel) (by decide +kernel) (by decide +kernel) rfl (by decide +kernel) (X_bin rfl rfl b_neq) rfl ?_
        rw [decide_eq_false (fun h => h rfl)]
        refine WC_take 5 (l' := #[true, true, true, true, true, true, false, false, false, false, false, false, false, false, false, false, false, false, false, false, false]) rfl (by decide +kernel) (by decide +kernel) (by decide +kernel) rfl (by decide +kernel) (X_move rfl) rfl ?_
        refine WC_gyes 6 (l' := #[true, true, true, true, true, true, true, false, false, false, false, false, false, false, false, false, false, false, false, false, false]) rfl (by decide +kernel) (by decide +kernel) (by decide +kernel) rfl (by decide +kernel) rfl rfl (X_move rfl) rfl ?_
        refine WC_gyes 8 (l' := #[true, true, true, true, true, true, true, false, true, false, false, false, false, false, false, false, false, false, false, false, false]) rfl (by decide +kernel) (by decide +kernel) (by decide +kernel) rfl (by decide +kernel) rfl rfl (X_fieldAddr rfl fld80_1 (by decide)) rfl ?_
        refine WC_gyes 9 (l' := #[true, true, true, true, true, true, true, false, true, true, false, false, false, false, false, false, false, false, false, false, false]) rfl (by decide +kernel) (by decide +kernel) (by decide +kernel) rfl (by decide +kernel) rfl rfl (X_load (v := .slice y.ad y.L.length y.cap) rfl ty78 rfl (Cell.own (b := b6) (by repeat (first | exact List.mem_cons_self | apply List.mem_cons_of_mem | apply List.mem_append_right)) rfl)) rfl ?_
        refine WC_gyes 10 (l' := #[true, true, true, true, true, true, true, false, true, true, true, false, false, false, false, false, false, false, false, false, false]) rfl (by decide +kernel) (by decide +kernel) (by decide +kernel) rfl (by decide +kernel) rfl rfl (X_len rfl ty78 rfl) rfl ?_
        refine WC_one 7 (l' := #[true, true, true, true, true, true, true, true, true, true, true, false, false, false, false, false, false, false, false, false, false]) (by first | exact hsubI | (repeat (first | with_reducible exact HSub.refl _ | refine HSub.cons (by repeat (first | exact Take.here _ | apply Take.next | apply Take.app)) ?_ | refine HSub.app (by repeat (first | with_reducible exact TakeS.here _ | apply TakeS.next | apply TakeS.app)) ?_ | exact HSub.nil _ | exact HSub.refl _ | refine HSub.drop ?_ | refine HSub.dropS ?_))) (by decide +kernel) rfl (by decide +kernel) ?_
        refine W_gyes rfl rfl ?_
        refine W_call (.cons rfl .nil) Tryd.call17 rfl (LCalls.hsub (Len_W hy.wheel (H := (b8, .cells 62 3 (actC a)) :: (b6, .cells 80 2 [.int .u64 ((y.nw : Nat) : Int), .slice y.ad (y.L).length y.cap]) :: (y.XR ++ H))) (by first | exact hsubI | (repeat (first | with_reducible exact HSub.refl _ | refine HSub.cons (by repeat (first | exact Take.here _ | apply Take.next | apply Take.app)) ?_ | refine HSub.app (by repeat (first | with_reducible exact TakeS.here _ | apply TakeS.next | apply TakeS.app)) ?_ | exact HSub.nil _ | exact HSub.refl _ | refine HSub.drop ?_ | refine HSub.dropS ?_)))) ?_
        rintro v H' ⟨rfl, rfl⟩
        refine W_nil ?_
        refine WC_goal ?_
        refine WC_gyes 11 (l' := #[true, true, true, true, true, true, true, true, true, true, true, true, false, false, false, false, false, false, false, false, false]) rfl (by decide +kernel) (by decide +kernel) (by decide +kernel) rfl (by decide +kernel) rfl rfl (X_bin rfl rfl b_neq) rfl ?_
        rw [decide_eq_false (fun h => h rfl)]
        first | refine WC_take 12 (l' := #[true, true, true, true, true, true, true, true, true, true, true, true, true, false, false, false, false, false, false, false, false]) rfl (by decide +kernel) (by decide +kernel) (by decide +kernel) rfl (by decide +kernel) (X_pickt rfl rfl) rfl ?_ | refine WC_take 12 (l' := #[true, true, true, true, true, true, true, true, true, true, true, true, true, false, false, false, false, false, false, false, false]) rfl (by decide +kernel) (by decide +kernel) (by decide +kernel) rfl (by decide +kernel) (X_pickf rfl rfl) rfl ?_
        refine WC_take 13 (l' := #[true, true, true, true, true, true, true, true, true, true, true, true, true, true, false, false, false, false, false, false, false]) rfl (by decide +kernel) (by decide +kernel) (by decide +kernel) rfl (by decide +kernel) (X_move rfl) rfl ?_
        refine WC_gyes 14 (l' := #[true, true, true, true, true, true, true, true, true, true, true, true, true, true, true, false, false, false, false, false, false]) rfl (by decide +kernel) (by decide +kernel) (by decide +kernel) rfl (by decide +kernel) rfl rfl (X_move rfl) rfl ?_
        refine WC_gyes 16 (l' := #[true, true, true, true, true, true, true, true, true, true, true, true, true, true, true, false, true, false, false, false, false]) rfl (by decide +kernel) (by decide +kernel) (by decide +kernel) rfl (by decide +kernel) rfl rfl (X_loadB (vs := [.int .u64 ((y.nw : Nat) : Int), .slice y.ad y.L.length y.cap]) rfl ty80 rfl (b := b6) (by repeat (first | exact List.mem_cons_self | apply List.mem_cons_of_mem | apply List.mem_append_right)) rfl rfl) rfl ?_
        refine WC_one 15 (l' := #[true, true, true, true, true, true, true, true, true, true, true, true, true, true, true, true, true, false, false, false, false]) (by first | exact hsubI | (repeat (first | with_reducible exact HSub.refl _ | refine HSub.cons (by repeat (first | exact Take.here _ | apply Take.next | apply Take.app)) ?_ | refine HSub.app (by repeat (first | with_reducible exact TakeS.here _ | apply TakeS.next | apply TakeS.app)) ?_ | exact HSub.nil _ | exact HSub.refl _ | refine HSub.drop ?_ | refine HSub.dropS ?_))) (by decide +kernel) rfl (by decide +kernel) ?_
        refine W_gyes rfl rfl ?_
        refine W_call (.cons rfl .nil) Tryd.call43 rfl (LCalls.hsub (Ids_W hy.wheel (H := (b8, .cells 62 3 (actC a)) :: (b6, .cells 80 2 [.int .u64 ((y.nw : Nat) : Int), .slice y.ad (y.L).length y.cap]) :: (y.XR ++ H))) (by first | exact hsubI | (repeat (first | with_reducible exact HSub.refl _ | refine HSub.cons (by repeat (first | exact Take.here _ | apply Take.next | apply Take.app)) ?_ | refine HSub.app (by repeat (first | with_reducible exact TakeS.here _ | apply TakeS.next | apply TakeS.app)) ?_ | exact HSub.nil _ | exact HSub.refl _ | refine HSub.drop ?_ | refine HSub.dropS ?_)))) ?_
        rintro v H' ⟨XI, hI, rfl⟩
        obtain ⟨adi, capi, rfl, _, _⟩ := hI.shape
        refine W_nil ?_
        refine WC_goal ?_
        refine WC_one 17 (l' := #[true, true, true, true, true, true, true, true, true, true, true, true, true, true, true, true, true, true, false, false, false]) (by first | exact hsubI | (repeat (first | with_reducible exact HSub.refl _ | refine HSub.cons (by repeat (first | exact Take.here _ | apply Take.next | apply Take.app)) ?_ | refine HSub.app (by repeat (first | with_reducible exact TakeS.here _ | apply TakeS.next | apply TakeS.app)) ?_ | exact HSub.nil _ | exact HSub.refl _ | refine HSub.drop ?_ | refine HSub.dropS ?_))) (by decide +kernel) rfl (by decide +kernel) ?_
        refine W_gyes rfl rfl ?_
        refine W_call (.cons rfl .nil) Tryd.call49 rfl (rIds_L (now := y.nw) (cap := y.cap) (by omega) (hy.rows.up (by first | exact hsubI | (repeat (first | with_reducible exact HSub.refl _ | refine HSub.cons (by repeat (first | exact Take.here _ | apply Take.next | apply Take.app)) ?_ | refine HSub.app (by repeat (first | with_reducible exact TakeS.here _ | apply TakeS.next | apply TakeS.app)) ?_ | exact HSub.nil _ | exact HSub.refl _ | refine HSub.drop ?_ | refine HSub.dropS ?_))))) ?_
        rintro v H' ⟨XJ, hJ, rfl⟩
        rw [idsR_is hids2.1 hids2.2.1] at hJ
        obtain ⟨adj, capj, rfl, _, _⟩ := hJ.shape
        have hsi : (sortI (y.L.map (·.id))).length ≤ 4611686018427387904 := by rw [(sortI_perm _).length_eq, List.length_map]; omega
        refine W_nil ?_
        refine WC_goal ?_
        refine WC_one 18 (l' := #[true, true, true, true, true, true, true, true, true, true, true, true, true, true, true, true, true, true, true, false, false]) (by first | exact hsubI | (repeat (first | with_reducible exact HSub.refl _ | refine HSub.cons (by repeat (first | exact Take.here _ | apply Take.next | apply Take.app)) ?_ | refine HSub.app (by repeat (first | with_reducible exact TakeS.here _ | apply TakeS.next | apply TakeS.app)) ?_ | exact HSub.nil _ | exact HSub.refl _ | refine HSub.drop ?_ | refine HSub.dropS ?_))) (by decide +kernel) rfl (by decide +kernel) ?_
        refine W_gyes rfl rfl ?_
        have hh1 : Holds w0 (XJ ++ (XI ++ (y.HW ++ ((b8, .cells 62 3 (actC a)) :: (b6, .cells 80 2 [.int .u64 ((y.nw : Nat) : Int), .slice y.ad (y.L).length y.cap]) :: (y.XR ++ H))))) adi ((sortI (y.L.map (·.id))).map (Value.int .i64)) := OwnS.holds hI (fun p hp => List.mem_append_right _ (List.mem_append_left _ hp))
        have hh2 : Holds w0 (XJ ++ (XI ++ (y.HW ++ ((b8, .cells 62 3 (actC a)) :: (b6, .cells 80 2 [.int .u64 ((y.nw : Nat) : Int), .slice y.ad (y.L).length y.cap]) :: (y.XR ++ H))))) adj ((sortI (y.L.map (·.id))).map (Value.int .i64)) := OwnS.holds hJ (fun p hp => List.mem_append_left _ hp)
        have hsm := same_q (c1 := capi) (c2 := capj) hh1 hh2 hsi
        refine W_callq (.cons rfl (.cons rfl .nil)) Tryd.call37 rfl hsm ?_
        rw [decide_eq_true rfl]
        refine W_nil ?_
        refine WC_goal ?_
        refine WC_gyes 19 (l' := #[true, true, true, true, true, true, true, true, true, true, true, true, true, true, true, true, true, true, true, true, false]) rfl (by decide +kernel) (by decide +kernel) (by decide +kernel) rfl (by decide +kernel) rfl rfl (X_not rfl) rfl ?_
        first | refine WC_take 20 (l' := #[true, true, true, true, true, true, true, true, true, true, true, true, true, true, true, true, true, true, true, true, true]) rfl (by decide +kernel) (by decide +kernel) (by decide +kernel) rfl (by decide +kernel) (X_pickt rfl rfl) rfl ?_ | refine WC_take 20 (l' := #[true, true, true, true, true, true, true, true, true, true, true, true, true, true, true, true, true, true, true, true, true]) rfl (by decide +kernel) (by decide +kernel) (by decide +kernel) rfl (by decide +kernel) (X_pickf rfl rfl) rfl ?_
        refine WC_done (by first | exact hsubI | (repeat (first | with_reducible exact HSub.refl _ | refine HSub.cons (by repeat (first | exact Take.here _ | apply Take.next | apply Take.app)) ?_ | refine HSub.app (by repeat (first | with_reducible exact TakeS.here _ | apply TakeS.next | apply TakeS.app)) ?_ | exact HSub.nil _ | exact HSub.refl _ | refine HSub.drop ?_ | refine HSub.dropS ?_))) (by decide +kernel) ?_
        refine W_condF rfl rfl ?_
        refine W_skip ?_
        refine W_blk ?_
        refine W_region ?_
        refine W_move rfl rfl ?_
        refine W_bin rfl rfl (b_add (m := ((i + 1 : Nat) : Int)) ((i64w (by omega)).trans (by omega))) rfl ?_
        refine W_assign rfl rfl ?_
        refine W_nil ?_
        refine W_again (i + 1, y) ⟨by show i + 1 ≤ acts.length; omega, by show i + 1 ≤ 80; omega, hy, hyt⟩ (by show acts.length - (i + 1) < acts.length - i; omega) (sub_cons rfl (sub_cons rfl (sub_cons rfl (sub_cons rfl (sub_nil _))))) rfl (by first | exact hsubI | (repeat (first | with_reducible exact HSub.refl _ | refine HSub.cons (by repeat (first | exact Take.here _ | apply Take.next | apply Take.app)) ?_ | refine HSub.app (by repeat (first | with_reducible exact TakeS.here _ | apply TakeS.next | apply TakeS.app)) ?_ | exact HSub.nil _ | exact HSub.refl _ | refine HSub.drop ?_ | refine HSub.dropS ?_)))
    · skip
      rw [show leastT y.L = some t.s.due from leastT_of ⟨t, List.mem_of_getElem? htk, rfl⟩ hle]
      have hkl := (List.getElem?_eq_some_iff.1 htk).1
      obtain ⟨qk, pk, hak, hck⟩ := Holds.row tmC_len (by decide) hy.rows htk
      refine W_assign rfl rfl ?_
      refine W_nil ?_
      refine W_seq ?_
      refine W_sr ?_
      refine W_move rfl rfl ?_
      refine W_move rfl rfl ?_
      refine W_bin rfl rfl b_geq rfl ?_
      rw [decide_eq_true (by omega)]
      refine W_bne rfl rfl ty4 rfl ?_
      refine W_move rfl rfl ?_
      refine W_gyes rfl rfl ?_
      refine W_move rfl rfl ?_
      refine W_gyes rfl rfl ?_
      refine W_move rfl rfl ?_
      refine W_gyes rfl rfl ?_
      refine W_move rfl rfl ?_
      refine W_gyes rfl rfl ?_
      refine W_fieldAddr rfl fld80_1 (by decide) rfl ?_
      refine W_gyes rfl rfl ?_
      refine W_load rfl ty78 rfl (Cell.own (by repeat (first | exact List.mem_cons_self | apply List.mem_cons_of_mem | apply List.mem_append_right)) rfl) rfl ?_
      refine W_gyes rfl rfl ?_
      refine W_move rfl rfl ?_
      refine W_gyes rfl rfl ?_
      refine W_indexAddr (b := qk) (o := pk) (j := k) (by rw [← hak]; rfl) rfl ty78 ty77 rfl (by omega) rfl rfl ?_
      refine W_gyes rfl rfl ?_
      refine W_fieldAddr rfl fld77_1 (by decide) rfl ?_
      refine W_gyes rfl rfl ?_
      refine W_fieldAddr rfl fld65_3 (by decide) rfl ?_
      refine W_gyes rfl rfl ?_
      refine W_load (v := .int .u64 (t.s.due : Int)) rfl ty22 rfl ((hck 4 (.int .u64 (t.s.due : Int)) rfl).up (by first | exact hsubI | (repeat (first | with_reducible exact HSub.refl _ | refine HSub.cons (by repeat (first | exact Take.here _ | apply Take.next | apply Take.app)) ?_ | refine HSub.app (by repeat (first | with_reducible exact TakeS.here _ | apply TakeS.next | apply TakeS.app)) ?_ | exact HSub.nil _ | exact HSub.refl _ | refine HSub.drop ?_ | refine HSub.dropS ?_)))) rfl ?_
      refine W_gyes rfl rfl ?_
      refine W_bin rfl rfl b_neq rfl ?_
      rw [decide_eq_false (fun h => h rfl)]
      refine W_gyes rfl rfl ?_
      first | refine W_pickt rfl rfl rfl ?_ | refine W_pickf rfl rfl rfl ?_
      first | refine W_pickt rfl rfl rfl ?_ | refine W_pickf rfl rfl rfl ?_
      refine W_move rfl rfl ?_
      refine W_gyes rfl rfl ?_
      refine W_move rfl rfl ?_
      refine W_gyes rfl rfl ?_
      refine W_not rfl rfl ?_
      refine W_gyes rfl rfl ?_
      refine W_move rfl rfl ?_
      refine W_gno rfl rfl rfl ?_
      refine W_gno rfl rfl rfl ?_
      refine W_gyes rfl rfl ?_
      first | refine W_pickt rfl rfl rfl ?_ | refine W_pickf rfl rfl rfl ?_
      first | refine W_pickt rfl rfl rfl ?_ | refine W_pickf rfl rfl rfl ?_
      refine W_nil ?_
      refine W_condF rfl rfl ?_
      refine W_skip ?_
      refine W_sr ?_
      refine W_env (env' := [(1, _), (5, _), (6, _), (7, _), (8, _)]) (sub_cons rfl (sub_cons rfl (sub_cons rfl (sub_cons rfl (sub_cons rfl (sub_nil _)))))) ?_
      refine W_move rfl rfl ?_
      refine W_fieldAddr rfl fld62_1 (by decide) rfl ?_
      refine W_load (v := .int .i64 a.id) rfl ty3 rfl (Cell.own (b := b8) (by repeat (first | exact List.mem_cons_self | apply List.mem_cons_of_mem | apply List.mem_append_right)) rfl) rfl ?_
      refine W_call (.cons rfl (.cons rfl .nil)) Tryd.call20 rfl (LCalls.hsub (Find_W (id := a.id) hy.wheel (H := (b8, .cells 62 3 (actC a)) :: (b6, .cells 80 2 [.int .u64 ((y.nw : Nat) : Int), .slice y.ad (y.L).length y.cap]) :: (y.XR ++ H))) (by first | exact hsubI | (repeat (first | with_reducible exact HSub.refl _ | refine HSub.cons (by repeat (first | exact Take.here _ | apply Take.next | apply Take.app)) ?_ | refine HSub.app (by repeat (first | with_reducible exact TakeS.here _ | apply TakeS.next | apply TakeS.app)) ?_ | exact HSub.nil _ | exact HSub.refl _ | refine HSub.drop ?_ | refine HSub.dropS ?_)))) ?_
      rintro v H' ⟨rfl, rfl⟩
      refine W_move rfl rfl ?_
      refine W_extract rfl rfl rfl ?_
      refine W_extract rfl rfl rfl ?_
      refine W_alloc (l := zSpot.v) ty27 rfl rfl (fun b22 => ?_)
      refine W_storeA (l' := (spotOf y.L a.id).v) rfl rfl ty27 rfl rfl (b := b22) (by repeat (first | exact List.mem_cons_self | apply List.mem_cons_of_mem | apply List.mem_append_right)) (by exact Nat.le_refl 4) rfl (by repeat (first | exact Upd.head _ | apply Upd.tail | apply Upd.app)) ?_
      refine W_assign rfl rfl ?_
      refine W_nil ?_
      refine W_sr ?_
      refine W_loadB (vs := [.int .u64 ((y.nw : Nat) : Int), .slice y.ad y.L.length y.cap]) rfl ty80 rfl (b := b6) (by repeat (first | exact List.mem_cons_self | apply List.mem_cons_of_mem | apply List.mem_append_right)) rfl rfl rfl ?_
      refine W_fieldAddr rfl fld62_1 (by decide) rfl ?_
      refine W_load (v := .int .i64 a.id) rfl ty3 rfl (Cell.own (b := b8) (by repeat (first | exact List.mem_cons_self | apply List.mem_cons_of_mem | apply List.mem_append_right)) rfl) rfl ?_
      refine W_call (.cons rfl (.cons rfl .nil)) Tryd.call39 rfl (rFind_L (now := y.nw) (cap := y.cap) (id := a.id) (by omega) (hy.rows.up (by first | exact hsubI | (repeat (first | with_reducible exact HSub.refl _ | refine HSub.cons (by repeat (first | exact Take.here _ | apply Take.next | apply Take.app)) ?_ | refine HSub.app (by repeat (first | with_reducible exact TakeS.here _ | apply TakeS.next | apply TakeS.app)) ?_ | exact HSub.nil _ | exact HSub.refl _ | refine HSub.drop ?_ | refine HSub.dropS ?_))))) ?_
      rintro v H' ⟨z, rfl, hz, rfl⟩
      rcases hz with ⟨k2, t2, rfl, htk2, hid2⟩ | ⟨rfl, hno2⟩
      · skip
        have hkl2 := (List.getElem?_eq_some_iff.1 htk2).1
        have hheld : heldB y.L a.id = true := heldB_iff.2 (hid2 ▸ List.mem_map_of_mem (List.mem_of_getElem? htk2))
        have hspot : spotOf y.L a.id = t2.s := by rw [← hid2]; exact spotOf_in hids2.1 (List.mem_of_getElem? htk2)
        rw [hheld, hspot]
        obtain ⟨qk2, pk2, hak2, hck2⟩ := Holds.row tmC_len (by decide) hy.rows htk2
        refine W_assign rfl rfl ?_
        refine W_nil ?_
        refine W_seq ?_
        refine W_quietsr (by kernel_rfl) (by decide +kernel) ?_
        refine WQ_x (X_move rfl) rfl ?_
        refine WQ_x (X_move rfl) rfl ?_
        refine WQ_x (X_bin rfl rfl b_geq) rfl ?_
        rw [decide_eq_true (by omega)]
        refine WQ_x (X_bne rfl rfl ty4) rfl ?_
        refine WQ_x (X_move rfl) rfl ?_
        refine WQ_gyes rfl rfl ?_
        refine WQ_x (X_move rfl) rfl ?_
        refine WQ_gyes rfl rfl ?_
        refine WQ_x (X_move rfl) rfl ?_
        refine WQ_gyes rfl rfl ?_
        refine WQ_x (X_loadB (vs := t2.s.v) rfl ty27 rfl (b := b22) (by repeat (first | exact List.mem_cons_self | apply List.mem_cons_of_mem | apply List.mem_append_right)) rfl rfl) rfl ?_
        refine WQ_gyes rfl rfl ?_
        refine WQ_callp (.cons rfl .nil) Tryd.call33 rfl (T := fun _ => True) trivial rOfS_pure ?_
        refine WQ_gyes rfl rfl ?_
        refine WQ_x (X_fieldAddr rfl fld80_1 (by decide)) rfl ?_
        refine WQ_gyes rfl rfl ?_
        refine WQ_x (X_load rfl ty78 rfl (Cell.own (by repeat (first | exact List.mem_cons_self | apply List.mem_cons_of_mem | apply List.mem_append_right)) rfl)) rfl ?_
        refine WQ_gyes rfl rfl ?_
        refine WQ_x (X_move rfl) rfl ?_
        refine WQ_gyes rfl rfl ?_
        refine WQ_x (X_indexAddr (b := qk2) (o := pk2) (j := k2) (by rw [← hak2]; rfl) rfl ty78 ty77 rfl (by omega) rfl) rfl ?_
        refine WQ_gyes rfl rfl ?_
        refine WQ_x (X_fieldAddr rfl fld77_1 (by decide)) rfl ?_
        refine WQ_gyes rfl rfl ?_
        refine WQ_x (X_loadA (vs := t2.s.v) rfl ty65 rfl rfl ((Cells.tail hck2).up (by first | exact hsubI | (repeat (first | with_reducible exact HSub.refl _ | refine HSub.cons (by repeat (first | exact Take.here _ | apply Take.next | apply Take.app)) ?_ | refine HSub.app (by repeat (first | with_reducible exact TakeS.here _ | apply TakeS.next | apply TakeS.app)) ?_ | exact HSub.nil _ | exact HSub.refl _ | refine HSub.drop ?_ | refine HSub.dropS ?_))))) rfl ?_
        refine WQ_gyes rfl rfl ?_
        refine WQ_x (X_neA rfl rfl ty65 (by kernel_rfl) (by kernel_rfl) (.cons (by decide) ty3 rfl rfl rfl (eqv_int ty3) (.cons (by decide) ty3 rfl rfl rfl (eqv_int ty3) (.cons (by decide) ty22 rfl rfl rfl (eqv_int ty22) (.cons (by decide) ty22 rfl rfl rfl (eqv_int ty22) .nil))))) rfl ?_
        try simp only [eq_self, decide_true, Bool.and_true, Bool.not_true]
        refine WQ_gyes rfl rfl ?_
        first | refine WQ_x (X_pickt rfl rfl) rfl ?_ | refine WQ_x (X_pickf rfl rfl) rfl ?_
        first | refine WQ_x (X_pickt rfl rfl) rfl ?_ | refine WQ_x (X_pickf rfl rfl) rfl ?_
        refine WQ_nil ?_
        refine W_condF rfl rfl ?_
        refine W_skip ?_
        refine W_seq ?_
        refine W_env (env' := [(1, _), (5, _), (6, _), (7, _), (8, _)]) (sub_cons rfl (sub_cons rfl (sub_cons rfl (sub_cons rfl (sub_cons rfl (sub_nil _)))))) ?_
        refine W_anyC [(b6, .cells 80 2 [.int .u64 ((y.nw : Nat) : Int), .slice y.ad (y.L).length y.cap])] (by kernel_rfl) ?_
        refine WC_take 0 (l' := #[true, false, false, false, false, false, false, false, false, false, false, false, false, false, false, false, false, false, false, false, false]) rfl (by decide +kernel) (by decide +kernel) (by decide +kernel) rfl (by decide +kernel) (X_move rfl) rfl ?_
        refine WC_take 2 (l' := #[true, false, true, false, false, false, false, false, false, false, false, false, false, false, false, false, false, false, false, false, false]) rfl (by decide +kernel) (by decide +kernel) (by decide +kernel) rfl (by decide +kernel) (X_fieldAddr rfl fld80_0 (by decide)) rfl ?_
        refine WC_take 3 (l' := #[true, false, true, true, false, false, false, false, false, false, false, false, false, false, false, false, false, false, false, false, false]) rfl (by decide +kernel) (by decide +kernel) (by decide +kernel) rfl (by decide +kernel) (X_load (v := .int .u64 (y.nw : Int)) rfl ty22 rfl (Cell.own (b := b6) (by repeat (first | exact List.mem_cons_self | apply List.mem_cons_of_mem | apply List.mem_append_right)) rfl)) rfl ?_
        refine WC_one 1 (l' := #[true, true, true, true, false, false, false, false, false, false, false, false, false, false, false, false, false, false, false, false, false]) (by first | exact hsubI | (repeat (first | with_reducible exact HSub.refl _ | refine HSub.cons (by repeat (first | exact Take.here _ | apply Take.next | apply Take.app)) ?_ | refine HSub.app (by repeat (first | with_reducible exact TakeS.here _ | apply TakeS.next | apply TakeS.app)) ?_ | exact HSub.nil _ | exact HSub.refl _ | refine HSub.drop ?_ | refine HSub.dropS ?_))) (by decide +kernel) rfl (by decide +kernel) ?_
        refine W_call (.cons rfl .nil) Tryd.call19 rfl (LCalls.hsub (Now_W hy.wheel (H := (b8, .cells 62 3 (actC a)) :: (b6, .cells 80 2 [.int .u64 ((y.nw : Nat) : Int), .slice y.ad (y.L).length y.cap]) :: (y.XR ++ H))) (by first | exact hsubI | (repeat (first | with_reducible exact HSub.refl _ | refine HSub.cons (by repeat (first | exact Take.here _ | apply Take.next | apply Take.app)) ?_ | refine HSub.app (by repeat (first | with_reducible exact TakeS.here _ | apply TakeS.next | apply TakeS.app)) ?_ | exact HSub.nil _ | exact HSub.refl _ | refine HSub.drop ?_ | refine HSub.dropS ?_)))) ?_
        rintro v H' ⟨rfl, rfl⟩
        refine W_nil ?_
        refine WC_goal ?_
        refine WC_take 4 (l' := #[true, true, true, true, true, false, false, false, false, false, false, false, false, false, false, false, false, false, false, false, false]) rfl (by decide +kernel) (by decide +kernel) (by decide +kernel) rfl (by decide +kernel) (X_bin rfl rfl b_neq) rfl ?_
        rw [decide_eq_false (fun h => h rfl)]
        refine WC_take 5 (l' := #[true, true, true, true, true, true, false, false, false, false, false, false, false, false, false, false, false, false, false, false, false]) rfl (by decide +kernel) (by decide +kernel) (by decide +kernel) rfl (by decide +kernel) (X_move rfl) rfl ?_
        refine WC_gyes 6 (l' := #[true, true, true, true, true, true, true, false, false, false, false, false, false, false, false, false, false, false, false, false, false]) rfl (by decide +kernel) (by decide +kernel) (by decide +kernel) rfl (by decide +kernel) rfl rfl (X_move rfl) rfl ?_
        refine WC_gyes 8 (l' := #[true, true, true, true, true, true, true, false, true, false, false, false, false, false, false, false, false, false, false, false, false]) rfl (by decide +kernel) (by decide +kernel) (by decide +kernel) rfl (by decide +kernel) rfl rfl (X_fieldAddr rfl fld80_1 (by decide)) rfl ?_
        refine WC_gyes 9 (l' := #[true, true, true, true, true, true, true, false, true, true, false, false, false, false, false, false, false, false, false, false, false]) rfl (by decide +kernel) (by decide +kernel) (by decide +kernel) rfl (by decide +kernel) rfl rfl (X_load (v := .slice y.ad y.L.length y.cap) rfl ty78 rfl (Cell.own (b := b6) (by repeat (first | exact List.mem_cons_self | apply List.mem_cons_of_mem | apply List.mem_append_right)) rfl)) rfl ?_
        refine WC_gyes 10 (l' := #[true, true, true, true, true, true, true, false, true, true, true, false, false, false, false, false, false, false, false, false, false]) rfl (by decide +kernel) (by decide +kernel) (by decide +kernel) rfl (by decide +kernel) rfl rfl (X_len rfl ty78 rfl) rfl ?_
        refine WC_one 7 (l' := #[true, true, true, true, true, true, true, true, true, true, true, false, false, false, false, false, false, false, false, false, false]) (by first | exact hsubI | (repeat (first | with_reducible exact HSub.refl _ | refine HSub.cons (by repeat (first | exact Take.here _ | apply Take.next | apply Take.app)) ?_ | refine HSub.app (by repeat (first | with_reducible exact TakeS.here _ | apply TakeS.next | apply TakeS.app)) ?_ | exact HSub.nil _ | exact HSub.refl _ | refine HSub.drop ?_ | refine HSub.dropS ?_))) (by decide +kernel) rfl (by decide +kernel) ?_
        refine W_gyes rfl rfl ?_
        refine W_call (.cons rfl .nil) Tryd.call17 rfl (LCalls.hsub (Len_W hy.wheel (H := (b8, .cells 62 3 (actC a)) :: (b6, .cells 80 2 [.int .u64 ((y.nw : Nat) : Int), .slice y.ad (y.L).length y.cap]) :: (y.XR ++ H))) (by first | exact hsubI | (repeat (first | with_reducible exact HSub.refl _ | refine HSub.cons (by repeat (first | exact Take.here _ | apply Take.next | apply Take.app)) ?_ | refine HSub.app (by repeat (first | with_reducible exact TakeS.here _ | apply TakeS.next | apply TakeS.app)) ?_ | exact HSub.nil _ | exact HSub.refl _ | refine HSub.drop ?_ | refine HSub.dropS ?_)))) ?_
        rintro v H' ⟨rfl, rfl⟩
        refine W_nil ?_
        refine WC_goal ?_
        refine WC_gyes 11 (l' := #[true, true, true, true, true, true, true, true, true, true, true, true, false, false, false, false, false, false, false, false, false]) rfl (by decide +kernel) (by decide +kernel) (by decide +kernel) rfl (by decide +kernel) rfl rfl (X_bin rfl rfl b_neq) rfl ?_
        rw [decide_eq_false (fun h => h rfl)]
        first | refine WC_take 12 (l' := #[true, true, true, true, true, true, true, true, true, true, true, true, true, false, false, false, false, false, false, false, false]) rfl (by decide +kernel) (by decide +kernel) (by decide +kernel) rfl (by decide +kernel) (X_pickt rfl rfl) rfl ?_ | refine WC_take 12 (l' := #[true, true, true, true, true, true, true, true, true, true, true, true, true, false, false, false, false, false, false, false, false]) rfl (by decide +kernel) (by decide +kernel) (by decide +kernel) rfl (by decide +kernel) (X_pickf rfl rfl) rfl ?_
        refine WC_take 13 (l' := #[true, true, true, true, true, true, true, true, true, true, true, true, true, true, false, false, false, false, false, false, false]) rfl (by decide +kernel) (by decide +kernel) (by decide +kernel) rfl (by decide +kernel) (X_move rfl) rfl ?_
        refine WC_gyes 14 (l' := #[true, true, true, true, true, true, true, true, true, true, true, true, true, true, true, false, false, false, false, false, false]) rfl (by decide +kernel) (by decide +kernel) (by decide +kernel) rfl (by decide +kernel) rfl rfl (X_move rfl) rfl ?_
        refine WC_gyes 16 (l' := #[true, true, true, true, true, true, true, true, true, true, true, true, true, true, true, false, true, false, false, false, false]) rfl (by decide +kernel) (by decide +kernel) (by decide +kernel) rfl (by decide +kernel) rfl rfl (X_loadB (vs := [.int .u64 ((y.nw : Nat) : Int), .slice y.ad y.L.length y.cap]) rfl ty80 rfl (b := b6) (by repeat (first | exact List.mem_cons_self | apply List.mem_cons_of_mem | apply List.mem_append_right)) rfl rfl) rfl ?_
        refine WC_one 15 (l' := #[true, true, true, true, true, true, true, true, true, true, true, true, true, true, true, true, true, false, false, false, false]) (by first | exact hsubI | (repeat (first | with_reducible exact HSub.refl _ | refine HSub.cons (by repeat (first | exact Take.here _ | apply Take.next | apply Take.app)) ?_ | refine HSub.app (by repeat (first | with_reducible exact TakeS.here _ | apply TakeS.next | apply TakeS.app)) ?_ | exact HSub.nil _ | exact HSub.refl _ | refine HSub.drop ?_ | refine HSub.dropS ?_))) (by decide +kernel) rfl (by decide +kernel) ?_
        refine W_gyes rfl rfl ?_
        refine W_call (.cons rfl .nil) Tryd.call43 rfl (LCalls.hsub (Ids_W hy.wheel (H := (b8, .cells 62 3 (actC a)) :: (b6, .cells 80 2 [.int .u64 ((y.nw : Nat) : Int), .slice y.ad (y.L).length y.cap]) :: (y.XR ++ H))) (by first | exact hsubI | (repeat (first | with_reducible exact HSub.refl _ | refine HSub.cons (by repeat (first | exact Take.here _ | apply Take.next | apply Take.app)) ?_ | refine HSub.app (by repeat (first | with_reducible exact TakeS.here _ | apply TakeS.next | apply TakeS.app)) ?_ | exact HSub.nil _ | exact HSub.refl _ | refine HSub.drop ?_ | refine HSub.dropS ?_)))) ?_
        rintro v H' ⟨XI, hI, rfl⟩
        obtain ⟨adi, capi, rfl, _, _⟩ := hI.shape
        refine W_nil ?_
        refine WC_goal ?_
        refine WC_one 17 (l' := #[true, true, true, true, true, true, true, true, true, true, true, true, true, true, true, true, true, true, false, false, false]) (by first | exact hsubI | (repeat (first | with_reducible exact HSub.refl _ | refine HSub.cons (by repeat (first | exact Take.here _ | apply Take.next | apply Take.app)) ?_ | refine HSub.app (by repeat (first | with_reducible exact TakeS.here _ | apply TakeS.next | apply TakeS.app)) ?_ | exact HSub.nil _ | exact HSub.refl _ | refine HSub.drop ?_ | refine HSub.dropS ?_))) (by decide +kernel) rfl (by decide +kernel) ?_
        refine W_gyes rfl rfl ?_
        refine W_call (.cons rfl .nil) Tryd.call49 rfl (rIds_L (now := y.nw) (cap := y.cap) (by omega) (hy.rows.up (by first | exact hsubI | (repeat (first | with_reducible exact HSub.refl _ | refine HSub.cons (by repeat (first | exact Take.here _ | apply Take.next | apply Take.app)) ?_ | refine HSub.app (by repeat (first | with_reducible exact TakeS.here _ | apply TakeS.next | apply TakeS.app)) ?_ | exact HSub.nil _ | exact HSub.refl _ | refine HSub.drop ?_ | refine HSub.dropS ?_))))) ?_
        rintro v H' ⟨XJ, hJ, rfl⟩
        rw [idsR_is hids2.1 hids2.2.1] at hJ
        obtain ⟨adj, capj, rfl, _, _⟩ := hJ.shape
        have hsi : (sortI (y.L.map (·.id))).length ≤ 4611686018427387904 := by rw [(sortI_perm _).length_eq, List.length_map]; omega
        refine W_nil ?_
        refine WC_goal ?_
        refine WC_one 18 (l' := #[true, true, true, true, true, true, true, true, true, true, true, true, true, true, true, true, true, true, true, false, false]) (by first | exact hsubI | (repeat (first | with_reducible exact HSub.refl _ | refine HSub.cons (by repeat (first | exact Take.here _ | apply Take.next | apply Take.app)) ?_ | refine HSub.app (by repeat (first | with_reducible exact TakeS.here _ | apply TakeS.next | apply TakeS.app)) ?_ | exact HSub.nil _ | exact HSub.refl _ | refine HSub.drop ?_ | refine HSub.dropS ?_))) (by decide +kernel) rfl (by decide +kernel) ?_
        refine W_gyes rfl rfl ?_
        have hh1 : Holds w0 (XJ ++ (XI ++ (y.HW ++ ((b8, .cells 62 3 (actC a)) :: (b6, .cells 80 2 [.int .u64 ((y.nw : Nat) : Int), .slice y.ad (y.L).length y.cap]) :: (y.XR ++ H))))) adi ((sortI (y.L.map (·.id))).map (Value.int .i64)) := OwnS.holds hI (fun p hp => List.mem_append_right _ (List.mem_append_left _ hp))
        have hh2 : Holds w0 (XJ ++ (XI ++ (y.HW ++ ((b8, .cells 62 3 (actC a)) :: (b6, .cells 80 2 [.int .u64 ((y.nw : Nat) : Int), .slice y.ad (y.L).length y.cap]) :: (y.XR ++ H))))) adj ((sortI (y.L.map (·.id))).map (Value.int .i64)) := OwnS.holds hJ (fun p hp => List.mem_append_left _ hp)
        have hsm := same_q (c1 := capi) (c2 := capj) hh1 hh2 hsi
        refine W_callq (.cons rfl (.cons rfl .nil)) Tryd.call37 rfl hsm ?_
        rw [decide_eq_true rfl]
        refine W_nil ?_
        refine WC_goal ?_
        refine WC_gyes 19 (l' := #[true, true, true, true, true, true, true, true, true, true, true, true, true, true, true, true, true, true, true, true, false]) rfl (by decide +kernel) (by decide +kernel) (by decide +kernel) rfl (by decide +kernel) rfl rfl (X_not rfl) rfl ?_
        first | refine WC_take 20 (l' := #[true, true, true, true, true, true, true, true, true, true, true, true, true, true, true, true, true, true, true, true, true]) rfl (by decide +kernel) (by decide +kernel) (by decide +kernel) rfl (by decide +kernel) (X_pickt rfl rfl) rfl ?_ | refine WC_take 20 (l' := #[true, true, true, true, true, true, true, true, true, true, true, true, true, true, true, true, true, true, true, true, true]) rfl (by decide +kernel) (by decide +kernel) (by decide +kernel) rfl (by decide +kernel) (X_pickf rfl rfl) rfl ?_
        refine WC_done (by first | exact hsubI | (repeat (first | with_reducible exact HSub.refl _ | refine HSub.cons (by repeat (first | exact Take.here _ | apply Take.next | apply Take.app)) ?_ | refine HSub.app (by repeat (first | with_reducible exact TakeS.here _ | apply TakeS.next | apply TakeS.app)) ?_ | exact HSub.nil _ | exact HSub.refl _ | refine HSub.drop ?_ | refine HSub.dropS ?_))) (by decide +kernel) ?_
        refine W_condF rfl rfl ?_
        refine W_skip ?_
        refine W_blk ?_
        refine W_region ?_
        refine W_move rfl rfl ?_
        refine W_bin rfl rfl (b_add (m := ((i + 1 : Nat) : Int)) ((i64w (by omega)).trans (by omega))) rfl ?_
        refine W_assign rfl rfl ?_
        refine W_nil ?_
        refine W_again (i + 1, y) ⟨by show i + 1 ≤ acts.length; omega, by show i + 1 ≤ 80; omega, hy, hyt⟩ (by show acts.length - (i + 1) < acts.length - i; omega) (sub_cons rfl (sub_cons rfl (sub_cons rfl (sub_cons rfl (sub_nil _))))) rfl (by first | exact hsubI | (repeat (first | with_reducible exact HSub.refl _ | refine HSub.cons (by repeat (first | exact Take.here _ | apply Take.next | apply Take.app)) ?_ | refine HSub.app (by repeat (first | with_reducible exact TakeS.here _ | apply TakeS.next | apply TakeS.app)) ?_ | exact HSub.nil _ | exact HSub.refl _ | refine HSub.drop ?_ | refine HSub.dropS ?_)))
      · skip
        have hheld : heldB y.L a.id = false := by cases hb : heldB y.L a.id with | false => rfl | true => exact absurd (heldB_iff.1 hb) hno2
        rw [hheld]
        refine W_assign rfl rfl ?_
        refine W_nil ?_
        refine W_seq ?_
        refine W_quietsr (by kernel_rfl) (by decide +kernel) ?_
        refine WQ_x (X_move rfl) rfl ?_
        refine WQ_x (X_move rfl) rfl ?_
        refine WQ_x (X_bin rfl rfl b_geq) rfl ?_
        rw [decide_eq_false (by omega)]
        refine WQ_x (X_bne rfl rfl ty4) rfl ?_
        refine WQ_x (X_move rfl) rfl ?_
        refine WQ_gyes rfl rfl ?_
        refine WQ_x (X_move rfl) rfl ?_
        refine WQ_gyes rfl rfl ?_
        refine WQ_x (X_move rfl) rfl ?_
        refine WQ_gno rfl rfl rfl rfl ?_
        refine WQ_gno rfl rfl rfl rfl ?_
        refine WQ_gno rfl rfl rfl rfl ?_
        refine WQ_gno rfl rfl rfl rfl ?_
        refine WQ_gno rfl rfl rfl rfl ?_
        refine WQ_gno rfl rfl rfl rfl ?_
        refine WQ_gno rfl rfl rfl rfl ?_
        refine WQ_gno rfl rfl rfl rfl ?_
        refine WQ_gno rfl rfl rfl rfl ?_
        refine WQ_gyes rfl rfl ?_
        first | refine WQ_x (X_pickt rfl rfl) rfl ?_ | refine WQ_x (X_pickf rfl rfl) rfl ?_
        first | refine WQ_x (X_pickt rfl rfl) rfl ?_ | refine WQ_x (X_pickf rfl rfl) rfl ?_
        refine WQ_nil ?_
        refine W_condF rfl rfl ?_
        refine W_skip ?_
        refine W_seq ?_
        refine W_env (env' := [(1, _), (5, _), (6, _), (7, _), (8, _)]) (sub_cons rfl (sub_cons rfl (sub_cons rfl (sub_cons rfl (sub_cons rfl (sub_nil _)))))) ?_
        refine W_anyC [(b6, .cells 80 2 [.int .u64 ((y.nw : Nat) : Int), .slice y.ad (y.L).length y.cap])] (by kernel_rfl) ?_
        refine WC_take 0 (l' := #[true, false, false, false, false, false, false, false, false, false, false, false, false, false, false, false, false, false, false, false, false]) rfl (by decide +kernel) (by decide +kernel) (by decide +kernel) rfl (by decide +kernel) (X_move rfl) rfl ?_
        refine WC_take 2 (l' := #[true, false, true, false, false, false, false, false, false, false, false, false, false, false, false, false, false, false, false, false, false]) rfl (by decide +kernel) (by decide +kernel) (by decide +kernel) rfl (by decide +kernel) (X_fieldAddr rfl fld80_0 (by decide)) rfl ?_
        refine WC_take 3 (l' := #[true, false, true, true, false, false, false, false, false, false, false, false, false, false, false, false, false, false, false, false, false]) rfl (by decide +kernel) (by decide +kernel) (by decide +kernel) rfl (by decide +kernel) (X_load (v := .int .u64 (y.nw : Int)) rfl ty22 rfl (Cell.own (b := b6) (by repeat (first | exact List.mem_cons_self | apply List.mem_cons_of_mem | apply List.mem_append_right)) rfl)) rfl ?_
        refine WC_one 1 (l' := #[true, true, true, true, false, false, false, false, false, false, false, false, false, false, false, false, false, false, false, false, false]) (by first | exact hsubI | (repeat (first | with_reducible exact HSub.refl _ | refine HSub.cons (by repeat (first | exact Take.here _ | apply Take.next | apply Take.app)) ?_ | refine HSub.app (by repeat (first | with_reducible exact TakeS.here _ | apply TakeS.next | apply TakeS.app)) ?_ | exact HSub.nil _ | exact HSub.refl _ | refine HSub.drop ?_ | refine HSub.dropS ?_))) (by decide +kernel) rfl (by decide +kernel) ?_
        refine W_call (.cons rfl .nil) Tryd.call19 rfl (LCalls.hsub (Now_W hy.wheel (H := (b8, .cells 62 3 (actC a)) :: (b6, .cells 80 2 [.int .u64 ((y.nw : Nat) : Int), .slice y.ad (y.L).length y.cap]) :: (y.XR ++ H))) (by first | exact hsubI | (repeat (first | with_reducible exact HSub.refl _ | refine HSub.cons (by repeat (first | exact Take.here _ | apply Take.next | apply Take.app)) ?_ | refine HSub.app (by repeat (first | with_reducible exact TakeS.here _ | apply TakeS.next | apply TakeS.app)) ?_ | exact HSub.nil _ | exact HSub.refl _ | refine HSub.drop ?_ | refine HSub.dropS ?_)))) ?_
        rintro v H' ⟨rfl, rfl⟩
        refine W_nil ?_
        refine WC_goal ?_
        refine WC_take 4 (l' := #[true, true, true, true, true, false, false, false, false, false, false, false, false, false, false, false, false, false, false, false, false]) rfl (by decide +kernel) (by decide +kernel) (by decide +kernel) rfl (by decide +kernel) (X_bin rfl rfl b_neq) rfl ?_
        rw [decide_eq_false (fun h => h rfl)]
        refine WC_take 5 (l' := #[true, true, true, true, true, true, false, false, false, false, false, false, false, false, false, false, false, false, false, false, false]) rfl (by decide +kernel) (by decide +kernel) (by decide +kernel) rfl (by decide +kernel) (X_move rfl) rfl ?_
        refine WC_gyes 6 (l' := #[true, true, true, true, true, true, true, false, false, false, false, false, false, false, false, false, false, false, false, false, false]) rfl (by decide +kernel) (by decide +kernel) (by decide +kernel) rfl (by decide +kernel) rfl rfl (X_move rfl) rfl ?_
        refine WC_gyes 8 (l' := #[true, true, true, true, true, true, true, false, true, false, false, false, false, false, false, false, false, false, false, false, false]) rfl (by decide +kernel) (by decide +kernel) (by decide +kernel) rfl (by decide +kernel) rfl rfl (X_fieldAddr rfl fld80_1 (by decide)) rfl ?_
        refine WC_gyes 9 (l' := #[true, true, true, true, true, true, true, false, true, true, false, false, false, false, false, false, false, false, false, false, false]) rfl (by decide +kernel) (by decide +kernel) (by decide +kernel) rfl (by decide +kernel) rfl rfl (X_load (v := .slice y.ad y.L.length y.cap) rfl ty78 rfl (Cell.own (b := b6) (by repeat (first | exact List.mem_cons_self | apply List.mem_cons_of_mem | apply List.mem_append_right)) rfl)) rfl ?_
        refine WC_gyes 10 (l' := #[true, true, true, true, true, true, true, false, true, true, true, false, false, false, false, false, false, false, false, false, false]) rfl (by decide +kernel) (by decide +kernel) (by decide +kernel) rfl (by decide +kernel) rfl rfl (X_len rfl ty78 rfl) rfl ?_
        refine WC_one 7 (l' := #[true, true, true, true, true, true, true, true, true, true, true, false, false, false, false, false, false, false, false, false, false]) (by first | exact hsubI | (repeat (first | with_reducible exact HSub.refl _ | refine HSub.cons (by repeat (first | exact Take.here _ | apply Take.next | apply Take.app)) ?_ | refine HSub.app (by repeat (first | with_reducible exact TakeS.here _ | apply TakeS.next | apply TakeS.app)) ?_ | exact HSub.nil _ | exact HSub.refl _ | refine HSub.drop ?_ | refine HSub.dropS ?_))) (by decide +kernel) rfl (by decide +kernel) ?_
        refine W_gyes rfl rfl ?_
        refine W_call (.cons rfl .nil) Tryd.call17 rfl (LCalls.hsub (Len_W hy.wheel (H := (b8, .cells 62 3 (actC a)) :: (b6, .cells 80 2 [.int .u64 ((y.nw : Nat) : Int), .slice y.ad (y.L).length y.cap]) :: (y.XR ++ H))) (by first | exact hsubI | (repeat (first | with_reducible exact HSub.refl _ | refine HSub.cons (by repeat (first | exact Take.here _ | apply Take.next | apply Take.app)) ?_ | refine HSub.app (by repeat (first | with_reducible exact TakeS.here _ | apply TakeS.next | apply TakeS.app)) ?_ | exact HSub.nil _ | exact HSub.refl _ | refine HSub.drop ?_ | refine HSub.dropS ?_)))) ?_
        rintro v H' ⟨rfl, rfl⟩
        refine W_nil ?_
        refine WC_goal ?_
        refine WC_gyes 11 (l' := #[true, true, true, true, true, true, true, true, true, true, true, true, false, false, false, false, false, false, false, false, false]) rfl (by decide +kernel) (by decide +kernel) (by decide +kernel) rfl (by decide +kernel) rfl rfl (X_bin rfl rfl b_neq) rfl ?_
        rw [decide_eq_false (fun h => h rfl)]
        first | refine WC_take 12 (l' := #[true, true, true, true, true, true, true, true, true, true, true, true, true, false, false, false, false, false, false, false, false]) rfl (by decide +kernel) (by decide +kernel) (by decide +kernel) rfl (by decide +kernel) (X_pickt rfl rfl) rfl ?_ | refine WC_take 12 (l' := #[true, true, true, true, true, true, true, true, true, true, true, true, true, false, false, false, false, false, false, false, false]) rfl (by decide +kernel) (by decide +kernel) (by decide +kernel) rfl (by decide +kernel) (X_pickf rfl rfl) rfl ?_
        refine WC_take 13 (l' := #[true, true, true, true, true, true, true, true, true, true, true, true, true, true, false, false, false, false, false, false, false]) rfl (by decide +kernel) (by decide +kernel) (by decide +kernel) rfl (by decide +kernel) (X_move rfl) rfl ?_
        refine WC_gyes 14 (l' := #[true, true, true, true, true, true, true, true, true, true, true, true, true, true, true, false, false, false, false, false, false]) rfl (by decide +kernel) (by decide +kernel) (by decide +kernel) rfl (by decide +kernel) rfl rfl (X_move rfl) rfl ?_
        refine WC_gyes 16 (l' := #[true, true, true, true, true, true, true, true, true, true, true, true, true, true, true, false, true, false, false, false, false]) rfl (by decide +kernel) (by decide +kernel) (by decide +kernel) rfl (by decide +kernel) rfl rfl (X_loadB (vs := [.int .u64 ((y.nw : Nat) : Int), .slice y.ad y.L.length y.cap]) rfl ty80 rfl (b := b6) (by repeat (first | exact List.mem_cons_self | apply List.mem_cons_of_mem | apply List.mem_append_right)) rfl rfl) rfl ?_
        refine WC_one 15 (l' := #[true, true, true, true, true, true, true, true, true, true, true, true, true, true, true, true, true, false, false, false, false]) (by first | exact hsubI | (repeat (first | with_reducible exact HSub.refl _ | refine HSub.cons (by repeat (first | exact Take.here _ | apply Take.next | apply Take.app)) ?_ | refine HSub.app (by repeat (first | with_reducible exact TakeS.here _ | apply TakeS.next | apply TakeS.app)) ?_ | exact HSub.nil _ | exact HSub.refl _ | refine HSub.drop ?_ | refine HSub.dropS ?_))) (by decide +kernel) rfl (by decide +kernel) ?_
        refine W_gyes rfl rfl ?_
        refine W_call (.cons rfl .nil) Tryd.call43 rfl (LCalls.hsub (Ids_W hy.wheel (H := (b8, .cells 62 3 (actC a)) :: (b6, .cells 80 2 [.int .u64 ((y.nw : Nat) : Int), .slice y.ad (y.L).length y.cap]) :: (y.XR ++ H))) (by first | exact hsubI | (repeat (first | with_reducible exact HSub.refl _ | refine HSub.cons (by repeat (first | exact Take.here _ | apply Take.next | apply Take.app)) ?_ | refine HSub.app (by repeat (first | with_reducible exact TakeS.here _ | apply TakeS.next | apply TakeS.app)) ?_ | exact HSub.nil _ | exact HSub.refl _ | refine HSub.drop ?_ | refine HSub.dropS ?_)))) ?_
        rintro v H' ⟨XI, hI, rfl⟩
        obtain ⟨adi, capi, rfl, _, _⟩ := hI.shape
        refine W_nil ?_
        refine WC_goal ?_
        refine WC_one 17 (l' := #[true, true, true, true, true, true, true, true, true, true, true, true, true, true, true, true, true, true, false, false, false]) (by first | exact hsubI | (repeat (first | with_reducible exact HSub.refl _ | refine HSub.cons (by repeat (first | exact Take.here _ | apply Take.next | apply Take.app)) ?_ | refine HSub.app (by repeat (first | with_reducible exact TakeS.here _ | apply TakeS.next | apply TakeS.app)) ?_ | exact HSub.nil _ | exact HSub.refl _ | refine HSub.drop ?_ | refine HSub.dropS ?_))) (by decide +kernel) rfl (by decide +kernel) ?_
        refine W_gyes rfl rfl ?_
        refine W_call (.cons rfl .nil) Tryd.call49 rfl (rIds_L (now := y.nw) (cap := y.cap) (by omega) (hy.rows.up (by first | exact hsubI | (repeat (first | with_reducible exact HSub.refl _ | refine HSub.cons (by repeat (first | exact Take.here _ | apply Take.next | apply Take.app)) ?_ | refine HSub.app (by repeat (first | with_reducible exact TakeS.here _ | apply TakeS.next | apply TakeS.app)) ?_ | exact HSub.nil _ | exact HSub.refl _ | refine HSub.drop ?_ | refine HSub.dropS ?_))))) ?_
        rintro v H' ⟨XJ, hJ, rfl⟩
        rw [idsR_is hids2.1 hids2.2.1] at hJ
        obtain ⟨adj, capj, rfl, _, _⟩ := hJ.shape
        have hsi : (sortI (y.L.map (·.id))).length ≤ 4611686018427387904 := by rw [(sortI_perm _).length_eq, List.length_map]; omega
        refine W_nil ?_
        refine WC_goal ?_
        refine WC_one 18 (l' := #[true, true, true, true, true, true, true, true, true, true, true, true, true, true, true, true, true, true, true, false, false]) (by first | exact hsubI | (repeat (first | with_reducible exact HSub.refl _ | refine HSub.cons (by repeat (first | exact Take.here _ | apply Take.next | apply Take.app)) ?_ | refine HSub.app (by repeat (first | with_reducible exact TakeS.here _ | apply TakeS.next | apply TakeS.app)) ?_ | exact HSub.nil _ | exact HSub.refl _ | refine HSub.drop ?_ | refine HSub.dropS ?_))) (by decide +kernel) rfl (by decide +kernel) ?_
        refine W_gyes rfl rfl ?_
        have hh1 : Holds w0 (XJ ++ (XI ++ (y.HW ++ ((b8, .cells 62 3 (actC a)) :: (b6, .cells 80 2 [.int .u64 ((y.nw : Nat) : Int), .slice y.ad (y.L).length y.cap]) :: (y.XR ++ H))))) adi ((sortI (y.L.map (·.id))).map (Value.int .i64)) := OwnS.holds hI (fun p hp => List.mem_append_right _ (List.mem_append_left _ hp))
        have hh2 : Holds w0 (XJ ++ (XI ++ (y.HW ++ ((b8, .cells 62 3 (actC a)) :: (b6, .cells 80 2 [.int .u64 ((y.nw : Nat) : Int), .slice y.ad (y.L).length y.cap]) :: (y.XR ++ H))))) adj ((sortI (y.L.map (·.id))).map (Value.int .i64)) := OwnS.holds hJ (fun p hp => List.mem_append_left _ hp)
        have hsm := same_q (c1 := capi) (c2 := capj) hh1 hh2 hsi
        refine W_callq (.cons rfl (.cons rfl .nil)) Tryd.call37 rfl hsm ?_
        rw [decide_eq_true rfl]
        refine W_nil ?_
        refine WC_goal ?_
        refine WC_gyes 19 (l' := #[true, true, true, true, true, true, true, true, true, true, true, true, true, true, true, true, true, true, true, true, false]) rfl (by decide +kernel) (by decide +kernel) (by decide +kernel) rfl (by decide +kernel) rfl rfl (X_not rfl) rfl ?_
        first | refine WC_take 20 (l' := #[true, true, true, true, true, true, true, true, true, true, true, true, true, true, true, true, true, true, true, true, true]) rfl (by decide +kernel) (by decide +kernel) (by decide +kernel) rfl (by decide +kernel) (X_pickt rfl rfl) rfl ?_ | refine WC_take 20 (l' := #[true, true, true, true, true, true, true, true, true, true, true, true, true, true, true, true, true, true, true, true, true]) rfl (by decide +kernel) (by decide +kernel) (by decide +kernel) rfl (by decide +kernel) (X_pickf rfl rfl) rfl ?_
        refine WC_done (by first | exact hsubI | (repeat (first | with_reducible exact HSub.refl _ | refine HSub.cons (by repeat (first | exact Take.here _ | apply Take.next | apply Take.app)) ?_ | refine HSub.app (by repeat (first | with_reducible exact TakeS.here _ | apply TakeS.next | apply TakeS.app)) ?_ | exact HSub.nil _ | exact HSub.refl _ | refine HSub.drop ?_ | refine HSub.dropS ?_))) (by decide +kernel) ?_
        refine W_condF rfl rfl ?_
        refine W_skip ?_
        refine W_blk ?_
        refine W_region ?_
        refine W_move rfl rfl ?_
        refine W_bin rfl rfl (b_add (m := ((i + 1 : Nat) : Int)) ((i64w (by omega)).trans (by omega))) rfl ?_
        refine W_assign rfl rfl ?_
        refine W_nil ?_
        refine W_again (i + 1, y) ⟨by show i + 1 ≤ acts.length; omega, by show i + 1 ≤ 80; omega, hy, hyt⟩ (by show acts.length - (i + 1) < acts.length - i; omega) (sub_cons rfl (sub_cons rfl (sub_cons rfl (sub_cons rfl (sub_nil _))))) rfl (by first | exact hsubI | (repeat (first | with_reducible exact HSub.refl _ | refine HSub.cons (by repeat (first | exact Take.here _ | apply Take.next | apply Take.app)) ?_ | refine HSub.app (by repeat (first | with_reducible exact TakeS.here _ | apply TakeS.next | apply TakeS.app)) ?_ | exact HSub.nil _ | exact HSub.refl _ | refine HSub.drop ?_ | refine HSub.dropS ?_)))
  · skip
    refine W_exit rfl ?_
    refine W_sr ?_
    refine W_callp .nil Tryd.call16 rfl hT known_pure ?_
    refine W_assign rfl rfl ?_
    refine W_nil ?_
    refine W_ret1m (H2 := H) Tryd.results11 rfl (.nil _) (by first | exact hsubI | (repeat (first | with_reducible exact HSub.refl _ | refine HSub.cons (by repeat (first | exact Take.here _ | apply Take.next | apply Take.app)) ?_ | refine HSub.app (by repeat (first | with_reducible exact TakeS.here _ | apply TakeS.next | apply TakeS.app)) ?_ | exact HSub.nil _ | exact HSub.refl _ | refine HSub.drop ?_ | refine HSub.dropS ?_))) ?_
    exact ⟨rfl, rfl⟩
end Go.Proofs.YtknbohnoiigioaaDoor
