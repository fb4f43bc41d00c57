/-
  Own work: contracts of functions that the statement reaches, and plain facts on what they compute; each theorem says its conditions.
-/
import Derived.Test.YtknbohnoiigioaaO10
import Derived.Test.YtknbohnoiigioaaSlFlat
import Derived.Test.YtknbohnoiigioaaSlFlatEq
set_option linter.all false
set_option linter.unusedSimpArgs false
set_option linter.unusedVariables false
namespace Go.Proofs.Ytknbohnoiigioaa
open Go Go.Sl
attribute [local irreducible] W
structure Act where
  out : Bool
  k : Int
deriving DecidableEq
def actC (v : Act) : List Value := [.bool v.out, .int .i64 v.k]
instance : Inhabited Act := ⟨⟨false, 0⟩⟩
def Act.In (v : Act) : Prop := (-9223372036854775808 ≤ v.k ∧ v.k ≤ 9223372036854775807)
theorem actC_len (v : Act) : (actC v).length = 2 := rfl
theorem actC_like (v : Act) : Likes [.bool, .int .i64] (actC v) := ⟨⟨_, rfl⟩, ⟨_, rfl⟩, trivial⟩
theorem actC_inj (v w : Act) (h : actC v = actC w) : v = w := by
  cases v; cases w; simp only [actC, List.cons.injEq, Value.int.injEq, Value.bool.injEq, Value.string.injEq, true_and, and_true] at h; simp only [Act.mk.injEq]; exact h
theorem actC_of {cs : List Value} (h : Leafs [.bool, .int .i64] cs) : ∃ v : Act, cs = actC v ∧ v.In := by
  obtain ⟨a0, c0, rfl, ⟨m0, rfl⟩, h0⟩ := leafs_cons h
  obtain ⟨a1, c1, rfl, ⟨m1, rfl, e1⟩, h1⟩ := leafs_cons h0
  obtain rfl := leafs_nil h1
  exact ⟨⟨m0, m1⟩, rfl, e1⟩
theorem flat47 : Flat Try.prog 1 47 [.bool, .int .i64] := (Flat.struct ty47 (by kernel_rfl) (by kernel_rfl) (.cons (ks := [.bool]) (by decide) rfl (by kernel_rfl) (Flat.leaf (k := .bool) ty4) (.cons (ks := [.int .i64]) (by decide) rfl (by kernel_rfl) (Flat.leaf (k := .int .i64) ty3) .nil)))
theorem agg47 : aggB Try.prog 47 = true := by kernel_rfl
theorem gt47 : Try.prog.eqGuardType Try.prog.depth 47 = false := by kernel_rfl
theorem ce47 : Try.prog.cellsOf 47 = 2 := by kernel_rfl

abbrev actRow (l : List Act) : List Value := l.flatMap actC
theorem touchL_one {K : Type} [DecidableEq K] (m : List K) (room : Nat) (k : K) : touchL m room [k] = if (touch1 m room k).2 = 0 then ((touch1 m room k).1, 0) else (m, 3) := rfl
theorem fst_or (m : List Int) : (fstI m = .int .i64 0 ∧ fstI m.reverse = .int .i64 0 ∧ m.isEmpty = true ∧ m.reverse.isEmpty = true ∧ m.length = 0) ∨
    ∃ x y, m[0]? = some x ∧ m[m.length - 1]? = some y ∧ fstI m = .int .i64 x ∧ fstI m.reverse = .int .i64 y ∧ m.isEmpty = false ∧ m.reverse.isEmpty = false ∧ 0 < m.length := by
  cases m with
  | nil => exact .inl ⟨rfl, rfl, rfl, rfl, rfl⟩
  | cons x r =>
    right
    obtain ⟨y, hy⟩ : ∃ y, (x :: r)[(x :: r).length - 1]? = some y := ⟨_, List.getElem?_eq_getElem (by simp)⟩
    have hy2 : (x :: r).reverse[0]? = some y := by rw [List.getElem?_reverse (by simp)]; exact hy
    refine ⟨x, y, rfl, hy, rfl, ?_, rfl, ?_, Nat.succ_pos _⟩
    · unfold fstI; rw [hy2]
    · cases h : (x :: r).reverse with
      | nil => rw [h] at hy2; cases hy2
      | cons => rfl
theorem find_is {m : List Int} {k z : Int} (h : (∃ i : Nat, z = i ∧ m[i]? = some k) ∨ (z = -1 ∧ k ∉ m)) : decide (z ≥ 0) = inO m k := by
  rcases h with ⟨i, rfl, hi⟩ | ⟨rfl, hk⟩
  · rw [inO_iff.2 (List.mem_of_getElem? hi)]; exact decide_eq_true (by omega)
  · rw [inO_not.2 hk]; rfl
theorem bne_self (b : Bool) : (!(b == b)) = false := by cases b <;> rfl
structure PS where
  i : Nat
  last : Nat
  m : List Int
  mv : Value
  XB : Heap
  l : Ents Int
  c : Nat
  τ : Int → Nat
set_option maxHeartbeats 8000000 in
theorem orderPlays_pure {z k : Int} {acts : List Act} {ad : Option Addr} {cap : Nat} (hbig : acts.length ≤ maxLen) : Pure Try.prog (fun w => InRow w ad (actRow acts)) 5 [.int .i64 z, .slice ad acts.length cap, .int .i64 k] (.bool true) := by
  intro w0 H hT
  have hacts : Holds w0 H ad (actRow acts) := Holds.old hT
  have hbig' : acts.length ≤ 9223372036854775807 := by simp only [maxLen] at hbig; omega
  refine L_enter Try.func5 rfl Try.ntmps5 rfl rfl ?_
  rcases (show (z < 1 ∨ 64 < z) ∨ ∃ room : Nat, z = (room : Int) ∧ 1 ≤ room ∧ room ≤ 64 by by_cases h : 1 ≤ z ∧ z ≤ 64; exact .inr ⟨z.toNat, by omega, by omega, by omega⟩; exact .inl (by omega)) with hb | ⟨room, rfl, hb1, hb2⟩
  · skip
    refine W_sr ?_
    refine W_assign rfl rfl ?_
    refine W_nil ?_
    refine W_sr ?_
    refine W_move rfl rfl ?_
    refine W_callp (.cons rfl .nil) Try.call7 rfl (T := fun _ => True) trivial (newI_bad hb) ?_
    refine W_move rfl rfl ?_
    refine W_extract rfl rfl rfl ?_
    refine W_extract rfl rfl rfl ?_
    refine W_assign rfl rfl ?_
    refine W_assign rfl rfl ?_
    refine W_nil ?_
    refine W_seq ?_
    refine W_sr ?_
    refine W_move rfl rfl ?_
    refine W_bin rfl rfl b_lss rfl ?_
    refine W_move rfl rfl ?_
    apply W_or
    iterate 4 exact rfl
    case h1 =>
      intro hg2
      refine W_gyes rfl rfl ?_
      refine W_move rfl rfl ?_
      refine W_gyes rfl rfl ?_
      refine W_bin rfl rfl b_gtr rfl ?_
      exact W_met rfl (by repeat (first | exact .refl | refine .cons rfl ?_))
    refine W_nil ?_
    refine W_condT rfl (by simp; omega) ?_
    refine W_sr ?_
    refine W_callp .nil Try.call9 rfl (T := fun _ => True) trivial known_pure ?_
    refine W_move rfl rfl ?_
    refine W_gyes rfl rfl ?_
    refine W_move rfl rfl ?_
    refine W_gyes rfl rfl ?_
    refine W_bin rfl rfl b_eql rfl ?_
    first | refine W_pickt rfl rfl rfl ?_ | refine W_pickf rfl rfl rfl ?_
    refine W_move rfl rfl ?_
    refine W_gyes rfl rfl ?_
    refine W_move rfl rfl ?_
    refine W_gyes rfl rfl ?_
    refine W_x (X_ptrNil rfl rfl ty24) (fun _ h => by cases h) rfl ?_
    first | refine W_pickt rfl rfl rfl ?_ | refine W_pickf rfl rfl rfl ?_
    refine W_assign rfl rfl ?_
    refine W_nil ?_
    refine W_ret1m (H2 := H) Try.results5 rfl (.nil _) (by repeat (first | with_reducible exact HSub.refl _ | refine HSub.cons (by repeat (first | exact Take.here _ | apply Take.next | apply Take.app)) ?_ | refine HSub.app (by repeat (first | with_reducible exact TakeS.here _ | apply TakeS.next | apply TakeS.app)) ?_ | exact HSub.nil _ | exact HSub.refl _ | refine HSub.drop ?_ | refine HSub.dropS ?_)) ?_
    exact ⟨rfl, rfl⟩
  · skip
    refine W_sr ?_
    refine W_assign rfl rfl ?_
    refine W_nil ?_
    refine W_sr ?_
    refine W_move rfl rfl ?_
    refine W_call (.cons rfl .nil) Try.call7 rfl (newI_L (H := H) (room := room) ⟨hb1, hb2⟩) ?_
    rintro v H' ⟨bo, bm, rfl, rfl⟩
    refine W_move rfl rfl ?_
    refine W_extract rfl rfl rfl ?_
    refine W_extract rfl rfl rfl ?_
    refine W_assign rfl rfl ?_
    refine W_assign rfl rfl ?_
    refine W_nil ?_
    refine W_seq ?_
    refine W_sr ?_
    refine W_move rfl rfl ?_
    refine W_bin rfl rfl b_lss rfl ?_
    refine W_move rfl rfl ?_
    apply W_or
    iterate 4 exact rfl
    case h1 =>
      intro hg2
      refine W_gyes rfl rfl ?_
      refine W_move rfl rfl ?_
      refine W_gyes rfl rfl ?_
      refine W_bin rfl rfl b_gtr rfl ?_
      exact W_met rfl (by repeat (first | exact .refl | refine .cons rfl ?_))
    refine W_nil ?_
    refine W_condF rfl (by simp; omega) ?_
    refine W_skip ?_
    refine W_seq ?_
    refine W_sr ?_
    refine W_move rfl rfl ?_
    refine W_bin rfl rfl b_neq rfl ?_
    refine W_nil ?_
    refine W_condF rfl rfl ?_
    refine W_skip ?_
    refine W_sr ?_
    refine W_assign rfl rfl ?_
    refine W_nil ?_
    refine W_seq ?_
    refine W_sr ?_
    refine W_assign rfl rfl ?_
    refine W_nil ?_
    refine W_block ?_
    refine W_loopC (X := PS) [(0, _), (1, _), (2, _), (7, _)] (fun (x : PS) => [(9, x.mv), (10, .int .i64 (x.i : Int))]) (fun _ => _) (fun (x : PS) => (bo, .cells 57 3 [.int .i64 (room : Int), .int .i64 ((x.last : Nat) : Int), .map (some bm)]) :: (bm, .obj (mapO (Value.int .i64) x.l x.c)) :: (x.XB ++ H)) (fun (x : PS) => x.i ≤ acts.length ∧ x.i ≤ 100 ∧ x.last ≤ x.i ∧ OwnS 3 1 x.mv (x.m).length ((x.m).map (Value.int .i64)) x.XB ∧ OrdIs room x.m x.last x.l x.c x.τ) (fun (x : PS) => acts.length - x.i) ⟨0, 0, [], .slice none 0 0, [], [], 0, fun _ => 0⟩ ⟨Nat.zero_le _, Nat.zero_le _, Nat.zero_le _, OwnS.nil, OrdIs.nil room 0 _⟩ (sub_cons rfl (sub_cons rfl (sub_cons rfl (sub_cons rfl (sub_nil _))))) (sub_cons rfl (sub_cons rfl (sub_nil _))) rfl (by repeat (first | with_reducible exact HSub.refl _ | refine HSub.cons (by repeat (first | exact Take.here _ | apply Take.next | apply Take.app)) ?_ | refine HSub.app (by repeat (first | with_reducible exact TakeS.here _ | apply TakeS.next | apply TakeS.app)) ?_ | exact HSub.nil _ | exact HSub.refl _ | refine HSub.drop ?_ | refine HSub.dropS ?_)) ?_
    rintro ⟨i, last, m, mv, XB, l, c, τ⟩ ⟨hi, hi2, hll, hS, hO⟩
    dsimp only at hi hi2 hll hS hO ⊢
    obtain ⟨am, cm, rfl, hcm, _, hmm⟩ := Holds.of_own (w0 := w0) (H := XB ++ []) hS (fun p hp => List.mem_append_left _ hp)
    simp only [List.cons_append, List.nil_append]
    refine W_seq ?_
    refine W_sr ?_
    refine W_move rfl rfl ?_
    refine W_move rfl rfl ?_
    refine W_len rfl ty45 rfl rfl ?_
    refine W_bin rfl rfl b_lss rfl ?_
    refine W_move rfl rfl ?_
    apply W_and
    iterate 4 exact rfl
    case h1 =>
      intro hg4
      refine W_gyes rfl rfl ?_
      refine W_move rfl rfl ?_
      refine W_gyes rfl rfl ?_
      refine W_bin rfl rfl b_lss rfl ?_
      exact W_met rfl (by repeat (first | exact .refl | refine .cons rfl ?_))
    refine W_nil ?_
    refine W_condPS (p := (i : Int) < (acts.length : Int) ∧ (i : Int) < 100) rfl (by simp) (fun g0 => ?_) (fun g0 => ?_)
    · skip
      refine W_skip ?_
      refine W_seq ?_
      refine W_block ?_
      refine W_sr ?_
      obtain ⟨a, hx⟩ : ∃ a, acts[i]? = some a := ⟨_, List.getElem?_eq_getElem (by omega)⟩
      obtain ⟨qx, px, rfl, hcx⟩ := hacts.row actC_len (by decide) hx
      have hn := hO.nodup
      have hle := hO.le
      refine W_move rfl rfl ?_
      refine W_move rfl rfl ?_
      refine W_indexAddr (j := i) rfl rfl ty45 ty47 (by first | rfl | omega) (by first | decide | omega | simp) rfl rfl ?_
      refine W_loadA rfl ty47 rfl (vs := actC a) rfl (hcx.up (by repeat (first | with_reducible exact HSub.refl _ | refine HSub.cons (by repeat (first | exact Take.here _ | apply Take.next | apply Take.app)) ?_ | refine HSub.app (by repeat (first | with_reducible exact TakeS.here _ | apply TakeS.next | apply TakeS.app)) ?_ | exact HSub.nil _ | exact HSub.refl _ | refine HSub.drop ?_ | refine HSub.dropS ?_))) rfl ?_
      refine W_alloc ty47 rfl rfl (fun b11 => ?_)
      refine W_storeA (l' := actC a) rfl rfl ty47 rfl rfl (b := b11) (by repeat (first | exact List.mem_cons_self | apply List.mem_cons_of_mem | apply List.mem_append_right)) (by exact Nat.le_refl 2) rfl (by repeat (first | exact Upd.head _ | apply Upd.tail | apply Upd.app)) ?_
      refine W_nil ?_
      refine W_seq ?_
      refine W_sr ?_
      refine W_fieldAddr rfl fld47_0 (by decide) rfl ?_
      refine W_load rfl ty4 rfl (Cell.own (by repeat (first | exact List.mem_cons_self | apply List.mem_cons_of_mem | apply List.mem_append_right)) rfl) rfl ?_
      refine W_nil ?_
      refine W_condS rfl (fun g1 => ?_) (fun g1 => ?_)
      · skip
        refine W_sr ?_
        refine W_move rfl rfl ?_
        refine W_fieldAddr rfl fld47_1 (by decide) rfl ?_
        refine W_load rfl ty3 rfl (Cell.own (by repeat (first | exact List.mem_cons_self | apply List.mem_cons_of_mem | apply List.mem_append_right)) rfl) rfl ?_
        refine W_call (.cons rfl (.cons rfl .nil)) Try.call19 rfl ((rdrop_L (k := a.k) hn (by omega) hcm (hmm.up (by repeat (first | with_reducible exact HSub.refl _ | refine HSub.cons (by repeat (first | exact Take.here _ | apply Take.next | apply Take.app)) ?_ | refine HSub.app (by repeat (first | with_reducible exact TakeS.here _ | apply TakeS.next | apply TakeS.app)) ?_ | exact HSub.nil _ | exact HSub.refl _ | refine HSub.drop ?_ | refine HSub.dropS ?_)))).hsub (.refl _)) ?_
        rintro v H' (⟨hk, rfl, hH⟩ | ⟨hk, sv, XB2, rfl, hS2, hH⟩) <;> subst H'
        · skip
          refine W_move rfl rfl ?_
          refine W_extract rfl rfl rfl ?_
          refine W_extract rfl rfl rfl ?_
          refine W_assign rfl rfl ?_
          refine W_assign rfl rfl ?_
          refine W_nil ?_
          refine W_seq ?_
          refine W_sr ?_
          refine W_move rfl rfl ?_
          refine W_fieldAddr rfl fld47_1 (by decide) rfl ?_
          refine W_load rfl ty3 rfl (Cell.own (by repeat (first | exact List.mem_cons_self | apply List.mem_cons_of_mem | apply List.mem_append_right)) rfl) rfl ?_
          refine W_call (.cons rfl (.cons rfl .nil)) Try.call20 rfl ((dropI_L (bm := bm) (H := (b11, .cells 47 2 (actC a)) :: (XB ++ H)) hO a.k).hsub (by repeat (first | with_reducible exact HSub.refl _ | refine HSub.cons (by repeat (first | exact Take.here _ | apply Take.next | apply Take.app)) ?_ | refine HSub.app (by repeat (first | with_reducible exact TakeS.here _ | apply TakeS.next | apply TakeS.app)) ?_ | exact HSub.nil _ | exact HSub.refl _ | refine HSub.drop ?_ | refine HSub.dropS ?_))) ?_
          rintro v H' ⟨l2, rfl, hO2, rfl⟩
          rw [drop1_not hk] at hO2
          rw [inO_not.2 hk]
          refine W_move rfl rfl ?_
          refine W_bne rfl rfl ty4 rfl ?_
          refine W_nil ?_
          refine W_condF rfl rfl ?_
          refine W_skip ?_
          refine W_region ?_
          refine W_move rfl rfl ?_
          refine W_assign rfl rfl ?_
          refine W_nil ?_
          refine W_sr ?_
          refine W_move rfl rfl ?_
          have hml : (m).length ≤ 64 := Nat.le_trans hO2.le hb2
          rcases fst_or m with ⟨f1, f2, e1, e2, e3⟩ | ⟨x, y, hx0, hy0, f1, f2, e1, e2, e3⟩
          · skip
            refine W_call (.cons rfl .nil) Try.call21 rfl ((OldestI_L (bm := bm) (H := XB ++ H) hO2 hb2).hsub (by repeat (first | with_reducible exact HSub.refl _ | refine HSub.cons (by repeat (first | exact Take.here _ | apply Take.next | apply Take.app)) ?_ | refine HSub.app (by repeat (first | with_reducible exact TakeS.here _ | apply TakeS.next | apply TakeS.app)) ?_ | exact HSub.nil _ | exact HSub.refl _ | refine HSub.drop ?_ | refine HSub.dropS ?_))) ?_
            rintro v H' ⟨rfl, rfl⟩
            rw [f1, e1]
            refine W_move rfl rfl ?_
            refine W_extract rfl rfl rfl ?_
            refine W_extract rfl rfl rfl ?_
            refine W_assign rfl rfl ?_
            refine W_assign rfl rfl ?_
            refine W_nil ?_
            refine W_sr ?_
            refine W_move rfl rfl ?_
            refine W_call (.cons rfl .nil) Try.call22 rfl ((NewestI_L (bm := bm) (H := XB ++ H) hO2 hb2).hsub (by repeat (first | with_reducible exact HSub.refl _ | refine HSub.cons (by repeat (first | exact Take.here _ | apply Take.next | apply Take.app)) ?_ | refine HSub.app (by repeat (first | with_reducible exact TakeS.here _ | apply TakeS.next | apply TakeS.app)) ?_ | exact HSub.nil _ | exact HSub.refl _ | refine HSub.drop ?_ | refine HSub.dropS ?_))) ?_
            rintro v H' ⟨rfl, rfl⟩
            rw [f2, e2]
            refine W_move rfl rfl ?_
            refine W_extract rfl rfl rfl ?_
            refine W_extract rfl rfl rfl ?_
            refine W_assign rfl rfl ?_
            refine W_assign rfl rfl ?_
            refine W_nil ?_
            refine W_seq ?_
            refine W_sr ?_
            refine W_move rfl rfl ?_
            refine W_move rfl rfl ?_
            refine W_len rfl ty22 rfl rfl ?_
            refine W_bin rfl rfl b_gtr rfl ?_
            rw [decide_eq_false (by omega)]
            refine W_bne rfl rfl ty4 rfl ?_
            refine W_move rfl rfl ?_
            refine W_gyes rfl rfl ?_
            refine W_move rfl rfl ?_
            refine W_gyes rfl rfl ?_
            refine W_move rfl rfl ?_
            refine W_gyes rfl rfl ?_
            refine W_bne rfl rfl ty4 rfl ?_
            first | refine W_pickt rfl rfl rfl ?_ | refine W_pickf rfl rfl rfl ?_
            refine W_move rfl rfl ?_
            refine W_gyes rfl rfl ?_
            refine W_move rfl rfl ?_
            refine W_gyes rfl rfl ?_
            refine W_move rfl rfl ?_
            refine W_gno rfl rfl rfl ?_
            refine W_gno rfl rfl rfl ?_
            refine W_gno rfl rfl rfl ?_
            refine W_gno rfl rfl rfl ?_
            refine W_gno rfl rfl rfl ?_
            refine W_gno rfl rfl rfl ?_
            refine W_gnou rfl rfl rfl ?_
            refine W_gnou rfl rfl rfl ?_
            refine W_gnou rfl rfl rfl ?_
            refine W_gnou rfl rfl rfl ?_
            refine W_gnou rfl rfl rfl ?_
            refine W_gnou rfl rfl rfl ?_
            refine W_gnou rfl rfl rfl ?_
            refine W_gnou rfl rfl rfl ?_
            refine W_gno rfl rfl rfl ?_
            refine W_gyes rfl rfl ?_
            first | refine W_pickt rfl rfl rfl ?_ | refine W_pickf rfl rfl rfl ?_
            first | refine W_pickt rfl rfl rfl ?_ | refine W_pickf rfl rfl rfl ?_
            refine W_move rfl rfl ?_
            refine W_gyes rfl rfl ?_
            refine W_move rfl rfl ?_
            refine W_gyes rfl rfl ?_
            refine W_not rfl rfl ?_
            refine W_gyes rfl rfl ?_
            refine W_move rfl rfl ?_
            refine W_gyes rfl rfl ?_
            refine W_move rfl rfl ?_
            refine W_gyes rfl rfl ?_
            refine W_bin rfl rfl b_neq rfl ?_
            refine W_gyes rfl rfl ?_
            refine W_move rfl rfl ?_
            refine W_gyes rfl rfl ?_
            refine W_move rfl rfl ?_
            refine W_gyes rfl rfl ?_
            refine W_bin rfl rfl b_neq rfl ?_
            refine W_gyes rfl rfl ?_
            first | refine W_pickt rfl rfl rfl ?_ | refine W_pickf rfl rfl rfl ?_
            refine W_gyes rfl rfl ?_
            first | refine W_pickt rfl rfl rfl ?_ | refine W_pickf rfl rfl rfl ?_
            first | refine W_pickt rfl rfl rfl ?_ | refine W_pickf rfl rfl rfl ?_
            refine W_nil ?_
            refine W_condF rfl rfl ?_
            refine W_skip ?_
            refine W_sr ?_
            refine W_move rfl rfl ?_
            refine W_callq (.cons rfl .nil) Try.call23 rfl (lenI_q (bm := bm) hO2 (by repeat (first | exact List.mem_cons_self | apply List.mem_cons_of_mem | apply List.mem_append_right)) (by repeat (first | exact List.mem_cons_self | apply List.mem_cons_of_mem | apply List.mem_append_right))) ?_
            refine W_move rfl rfl ?_
            refine W_len rfl ty22 rfl rfl ?_
            refine W_bin rfl rfl b_neq rfl ?_
            rw [decide_eq_false (fun h => h rfl)]
            refine W_move rfl rfl ?_
            refine W_gyes rfl rfl ?_
            refine W_move rfl rfl ?_
            refine W_gyes rfl rfl ?_
            refine W_call (.cons rfl .nil) Try.call12 rfl ((ListI_L (bm := bm) (H := XB ++ H) hO2 hb2).hsub (by repeat (first | with_reducible exact HSub.refl _ | refine HSub.cons (by repeat (first | exact Take.here _ | apply Take.next | apply Take.app)) ?_ | refine HSub.app (by repeat (first | with_reducible exact TakeS.here _ | apply TakeS.next | apply TakeS.app)) ?_ | exact HSub.nil _ | exact HSub.refl _ | refine HSub.drop ?_ | refine HSub.dropS ?_))) ?_
            rintro v H' ⟨sv3, XB3, rfl, hS3, rfl⟩
            obtain ⟨a3, c4, rfl, _, _, hh⟩ := Holds.of_own (w0 := w0) (H := XB3 ++ []) hS3 (fun p hp => List.mem_append_left _ hp)
            refine W_gyes rfl rfl ?_
            refine W_move rfl rfl ?_
            refine W_gyes rfl rfl ?_
            refine W_callq (.cons rfl (.cons rfl .nil)) Try.call11 rfl (same_q (l := m) (r := m) (hh.up (HSub.app (TakeS.here _) (HSub.nil _))) (hmm.up (HSub.app (TakeS.app (TakeS.next (TakeS.next (TakeS.here _)))) (HSub.nil _))) (by omega)) ?_
            rw [decide_eq_true (p := m = m) rfl]
            refine W_gyes rfl rfl ?_
            refine W_not rfl rfl ?_
            first | refine W_pickt rfl rfl rfl ?_ | refine W_pickf rfl rfl rfl ?_
            refine W_move rfl rfl ?_
            refine W_gyes rfl rfl ?_
            refine W_move rfl rfl ?_
            refine W_gyes rfl rfl ?_
            refine W_move rfl rfl ?_
            refine W_gyes rfl rfl ?_
            refine W_callq (.cons rfl (.cons rfl .nil)) Try.call24 rfl (hasI_q (bm := bm) hO2 (by repeat (first | exact List.mem_cons_self | apply List.mem_cons_of_mem | apply List.mem_append_right)) (by repeat (first | exact List.mem_cons_self | apply List.mem_cons_of_mem | apply List.mem_append_right)) k) ?_
            refine W_gyes rfl rfl ?_
            refine W_move rfl rfl ?_
            refine W_gyes rfl rfl ?_
            refine W_move rfl rfl ?_
            refine W_gyes rfl rfl ?_
            refine W_call (.cons rfl (.cons rfl .nil)) Try.call25 rfl ((rfind_L (m := m) (k := k) (by omega) (hmm.up (HSub.app (TakeS.app (TakeS.next (TakeS.next (TakeS.here _)))) (HSub.nil _)))).hsub (.refl _)) ?_
            rintro v H' ⟨zf, rfl, hzf, hH⟩
            subst H'
            refine W_gyes rfl rfl ?_
            refine W_bin rfl rfl b_geq rfl ?_
            rw [find_is hzf]
            refine W_gyes rfl rfl ?_
            refine W_bne rfl rfl ty4 rfl ?_
            rw [bne_self]
            first | refine W_pickt rfl rfl rfl ?_ | refine W_pickf rfl rfl rfl ?_
            refine W_nil ?_
            refine W_condF rfl rfl ?_
            refine W_skip ?_
            refine W_blk ?_
            refine W_region ?_
            refine W_move rfl rfl ?_
            refine W_bin rfl rfl (b_add (m := ((i + 1 : Nat) : Int)) ((i64w (by omega)).trans (by omega))) rfl ?_
            refine W_assign rfl rfl ?_
            refine W_nil ?_
            refine W_again ⟨i + 1, last, m, .slice am (m).length cm, XB, l2, c, τ⟩ ⟨by show i + 1 ≤ acts.length; omega, by show i + 1 ≤ 100; omega, by show last ≤ i + 1; omega, hS, hO2⟩ (by show acts.length - (i + 1) < acts.length - i; omega) (sub_cons rfl (sub_cons rfl (sub_cons rfl (sub_cons rfl (sub_cons rfl (sub_cons rfl (sub_nil _))))))) rfl (by repeat (first | with_reducible exact HSub.refl _ | refine HSub.cons (by repeat (first | exact Take.here _ | apply Take.next | apply Take.app)) ?_ | refine HSub.app (by repeat (first | with_reducible exact TakeS.here _ | apply TakeS.next | apply TakeS.app)) ?_ | exact HSub.nil _ | exact HSub.refl _ | refine HSub.drop ?_ | refine HSub.dropS ?_))
          · skip
            refine W_call (.cons rfl .nil) Try.call21 rfl ((OldestI_L (bm := bm) (H := XB ++ H) hO2 hb2).hsub (by repeat (first | with_reducible exact HSub.refl _ | refine HSub.cons (by repeat (first | exact Take.here _ | apply Take.next | apply Take.app)) ?_ | refine HSub.app (by repeat (first | with_reducible exact TakeS.here _ | apply TakeS.next | apply TakeS.app)) ?_ | exact HSub.nil _ | exact HSub.refl _ | refine HSub.drop ?_ | refine HSub.dropS ?_))) ?_
            rintro v H' ⟨rfl, rfl⟩
            rw [f1, e1]
            refine W_move rfl rfl ?_
            refine W_extract rfl rfl rfl ?_
            refine W_extract rfl rfl rfl ?_
            refine W_assign rfl rfl ?_
            refine W_assign rfl rfl ?_
            refine W_nil ?_
            refine W_sr ?_
            refine W_move rfl rfl ?_
            refine W_call (.cons rfl .nil) Try.call22 rfl ((NewestI_L (bm := bm) (H := XB ++ H) hO2 hb2).hsub (by repeat (first | with_reducible exact HSub.refl _ | refine HSub.cons (by repeat (first | exact Take.here _ | apply Take.next | apply Take.app)) ?_ | refine HSub.app (by repeat (first | with_reducible exact TakeS.here _ | apply TakeS.next | apply TakeS.app)) ?_ | exact HSub.nil _ | exact HSub.refl _ | refine HSub.drop ?_ | refine HSub.dropS ?_))) ?_
            rintro v H' ⟨rfl, rfl⟩
            rw [f2, e2]
            refine W_move rfl rfl ?_
            refine W_extract rfl rfl rfl ?_
            refine W_extract rfl rfl rfl ?_
            refine W_assign rfl rfl ?_
            refine W_assign rfl rfl ?_
            refine W_nil ?_
            refine W_seq ?_
            refine W_sr ?_
            refine W_move rfl rfl ?_
            refine W_move rfl rfl ?_
            refine W_len rfl ty22 rfl rfl ?_
            refine W_bin rfl rfl b_gtr rfl ?_
            rw [decide_eq_true (by omega)]
            refine W_bne rfl rfl ty4 rfl ?_
            refine W_move rfl rfl ?_
            refine W_gyes rfl rfl ?_
            refine W_move rfl rfl ?_
            refine W_gyes rfl rfl ?_
            refine W_move rfl rfl ?_
            refine W_gyes rfl rfl ?_
            refine W_bne rfl rfl ty4 rfl ?_
            first | refine W_pickt rfl rfl rfl ?_ | refine W_pickf rfl rfl rfl ?_
            refine W_move rfl rfl ?_
            refine W_gyes rfl rfl ?_
            refine W_move rfl rfl ?_
            refine W_gyes rfl rfl ?_
            refine W_move rfl rfl ?_
            refine W_gyes rfl rfl ?_
            obtain ⟨q0, p0, rfl, hc0⟩ := hmm.at (i := 0) (v := .int .i64 x) (by rw [List.getElem?_map, hx0]; rfl)
            obtain ⟨q1, p1, ee, hc1⟩ := hmm.at (i := (m).length - 1) (v := .int .i64 y) (by rw [List.getElem?_map, hy0]; rfl)
            cases ee
            refine W_move rfl rfl ?_
            refine W_gyes rfl rfl ?_
            refine W_move rfl rfl ?_
            refine W_gyes rfl rfl ?_
            refine W_indexAddr (j := 0) rfl rfl ty22 ty3 rfl (by omega) rfl rfl ?_
            refine W_gyes rfl rfl ?_
            refine W_load (v := .int .i64 x) rfl ty3 rfl (by rw [Nat.mul_one]; exact hc0.up (by repeat (first | with_reducible exact HSub.refl _ | refine HSub.cons (by repeat (first | exact Take.here _ | apply Take.next | apply Take.app)) ?_ | refine HSub.app (by repeat (first | with_reducible exact TakeS.here _ | apply TakeS.next | apply TakeS.app)) ?_ | exact HSub.nil _ | exact HSub.refl _ | refine HSub.drop ?_ | refine HSub.dropS ?_))) rfl ?_
            refine W_gyes rfl rfl ?_
            refine W_bin rfl rfl b_neq rfl ?_
            rw [decide_eq_false (fun h => h rfl)]
            refine W_gyes rfl rfl ?_
            refine W_move rfl rfl ?_
            refine W_gyes rfl rfl ?_
            refine W_move rfl rfl ?_
            refine W_gyes rfl rfl ?_
            refine W_move rfl rfl ?_
            refine W_gyes rfl rfl ?_
            refine W_move rfl rfl ?_
            refine W_gyes rfl rfl ?_
            refine W_len rfl ty22 rfl rfl ?_
            refine W_gyes rfl rfl ?_
            refine W_bin rfl rfl (b_sub (m := (((m).length - 1 : Nat) : Int)) ((i64w (by omega)).trans (by omega))) rfl ?_
            refine W_gyes rfl rfl ?_
            refine W_indexAddr (j := (m).length - 1) rfl rfl ty22 ty3 rfl (by omega) rfl rfl ?_
            refine W_gyes rfl rfl ?_
            refine W_load (v := .int .i64 y) rfl ty3 rfl (by rw [Nat.mul_one]; exact hc1.up (by repeat (first | with_reducible exact HSub.refl _ | refine HSub.cons (by repeat (first | exact Take.here _ | apply Take.next | apply Take.app)) ?_ | refine HSub.app (by repeat (first | with_reducible exact TakeS.here _ | apply TakeS.next | apply TakeS.app)) ?_ | exact HSub.nil _ | exact HSub.refl _ | refine HSub.drop ?_ | refine HSub.dropS ?_))) rfl ?_
            refine W_gyes rfl rfl ?_
            refine W_bin rfl rfl b_neq rfl ?_
            rw [decide_eq_false (fun h => h rfl)]
            refine W_gyes rfl rfl ?_
            first | refine W_pickt rfl rfl rfl ?_ | refine W_pickf rfl rfl rfl ?_
            refine W_gyes rfl rfl ?_
            first | refine W_pickt rfl rfl rfl ?_ | refine W_pickf rfl rfl rfl ?_
            first | refine W_pickt rfl rfl rfl ?_ | refine W_pickf rfl rfl rfl ?_
            refine W_move rfl rfl ?_
            refine W_gyes rfl rfl ?_
            refine W_move rfl rfl ?_
            refine W_gyes rfl rfl ?_
            refine W_not rfl rfl ?_
            refine W_gyes rfl rfl ?_
            refine W_move rfl rfl ?_
            refine W_gno rfl rfl rfl ?_
            refine W_gno rfl rfl rfl ?_
            refine W_gno rfl rfl rfl ?_
            refine W_gnou rfl rfl rfl ?_
            refine W_gnou rfl rfl rfl ?_
            refine W_gno rfl rfl rfl ?_
            refine W_gyes rfl rfl ?_
            first | refine W_pickt rfl rfl rfl ?_ | refine W_pickf rfl rfl rfl ?_
            first | refine W_pickt rfl rfl rfl ?_ | refine W_pickf rfl rfl rfl ?_
            refine W_nil ?_
            refine W_condF rfl rfl ?_
            refine W_skip ?_
            refine W_sr ?_
            refine W_move rfl rfl ?_
            refine W_callq (.cons rfl .nil) Try.call23 rfl (lenI_q (bm := bm) hO2 (by repeat (first | exact List.mem_cons_self | apply List.mem_cons_of_mem | apply List.mem_append_right)) (by repeat (first | exact List.mem_cons_self | apply List.mem_cons_of_mem | apply List.mem_append_right))) ?_
            refine W_move rfl rfl ?_
            refine W_len rfl ty22 rfl rfl ?_
            refine W_bin rfl rfl b_neq rfl ?_
            rw [decide_eq_false (fun h => h rfl)]
            refine W_move rfl rfl ?_
            refine W_gyes rfl rfl ?_
            refine W_move rfl rfl ?_
            refine W_gyes rfl rfl ?_
            refine W_call (.cons rfl .nil) Try.call12 rfl ((ListI_L (bm := bm) (H := XB ++ H) hO2 hb2).hsub (by repeat (first | with_reducible exact HSub.refl _ | refine HSub.cons (by repeat (first | exact Take.here _ | apply Take.next | apply Take.app)) ?_ | refine HSub.app (by repeat (first | with_reducible exact TakeS.here _ | apply TakeS.next | apply TakeS.app)) ?_ | exact HSub.nil _ | exact HSub.refl _ | refine HSub.drop ?_ | refine HSub.dropS ?_))) ?_
            rintro v H' ⟨sv3, XB3, rfl, hS3, rfl⟩
            obtain ⟨a3, c4, rfl, _, _, hh⟩ := Holds.of_own (w0 := w0) (H := XB3 ++ []) hS3 (fun p hp => List.mem_append_left _ hp)
            refine W_gyes rfl rfl ?_
            refine W_move rfl rfl ?_
            refine W_gyes rfl rfl ?_
            refine W_callq (.cons rfl (.cons rfl .nil)) Try.call11 rfl (same_q (l := m) (r := m) (hh.up (HSub.app (TakeS.here _) (HSub.nil _))) (hmm.up (HSub.app (TakeS.app (TakeS.next (TakeS.next (TakeS.here _)))) (HSub.nil _))) (by omega)) ?_
            rw [decide_eq_true (p := m = m) rfl]
            refine W_gyes rfl rfl ?_
            refine W_not rfl rfl ?_
            first | refine W_pickt rfl rfl rfl ?_ | refine W_pickf rfl rfl rfl ?_
            refine W_move rfl rfl ?_
            refine W_gyes rfl rfl ?_
            refine W_move rfl rfl ?_
            refine W_gyes rfl rfl ?_
            refine W_move rfl rfl ?_
            refine W_gyes rfl rfl ?_
            refine W_callq (.cons rfl (.cons rfl .nil)) Try.call24 rfl (hasI_q (bm := bm) hO2 (by repeat (first | exact List.mem_cons_self | apply List.mem_cons_of_mem | apply List.mem_append_right)) (by repeat (first | exact List.mem_cons_self | apply List.mem_cons_of_mem | apply List.mem_append_right)) k) ?_
            refine W_gyes rfl rfl ?_
            refine W_move rfl rfl ?_
            refine W_gyes rfl rfl ?_
            refine W_move rfl rfl ?_
            refine W_gyes rfl rfl ?_
            refine W_call (.cons rfl (.cons rfl .nil)) Try.call25 rfl ((rfind_L (m := m) (k := k) (by omega) (hmm.up (HSub.app (TakeS.app (TakeS.next (TakeS.next (TakeS.here _)))) (HSub.nil _)))).hsub (.refl _)) ?_
            rintro v H' ⟨zf, rfl, hzf, hH⟩
            subst H'
            refine W_gyes rfl rfl ?_
            refine W_bin rfl rfl b_geq rfl ?_
            rw [find_is hzf]
            refine W_gyes rfl rfl ?_
            refine W_bne rfl rfl ty4 rfl ?_
            rw [bne_self]
            first | refine W_pickt rfl rfl rfl ?_ | refine W_pickf rfl rfl rfl ?_
            refine W_nil ?_
            refine W_condF rfl rfl ?_
            refine W_skip ?_
            refine W_blk ?_
            refine W_region ?_
            refine W_move rfl rfl ?_
            refine W_bin rfl rfl (b_add (m := ((i + 1 : Nat) : Int)) ((i64w (by omega)).trans (by omega))) rfl ?_
            refine W_assign rfl rfl ?_
            refine W_nil ?_
            refine W_again ⟨i + 1, last, m, .slice (some ⟨q0, p0, none⟩) (m).length cm, XB, l2, c, τ⟩ ⟨by show i + 1 ≤ acts.length; omega, by show i + 1 ≤ 100; omega, by show last ≤ i + 1; omega, hS, hO2⟩ (by show acts.length - (i + 1) < acts.length - i; omega) (sub_cons rfl (sub_cons rfl (sub_cons rfl (sub_cons rfl (sub_cons rfl (sub_cons rfl (sub_nil _))))))) rfl (by repeat (first | with_reducible exact HSub.refl _ | refine HSub.cons (by repeat (first | exact Take.here _ | apply Take.next | apply Take.app)) ?_ | refine HSub.app (by repeat (first | with_reducible exact TakeS.here _ | apply TakeS.next | apply TakeS.app)) ?_ | exact HSub.nil _ | exact HSub.refl _ | refine HSub.drop ?_ | refine HSub.dropS ?_))
        · skip
          obtain ⟨a2, c2, rfl, hc2, _, hm2⟩ := Holds.of_own (w0 := w0) (H := XB2 ++ []) hS2 (fun p hp => List.mem_append_left _ hp)
          refine W_move rfl rfl ?_
          refine W_extract rfl rfl rfl ?_
          refine W_extract rfl rfl rfl ?_
          refine W_assign rfl rfl ?_
          refine W_assign rfl rfl ?_
          refine W_nil ?_
          refine W_seq ?_
          refine W_sr ?_
          refine W_move rfl rfl ?_
          refine W_fieldAddr rfl fld47_1 (by decide) rfl ?_
          refine W_load rfl ty3 rfl (Cell.own (by repeat (first | exact List.mem_cons_self | apply List.mem_cons_of_mem | apply List.mem_append_right)) rfl) rfl ?_
          refine W_call (.cons rfl (.cons rfl .nil)) Try.call20 rfl ((dropI_L (bm := bm) (H := (b11, .cells 47 2 (actC a)) :: (XB2 ++ H)) hO a.k).hsub (by repeat (first | with_reducible exact HSub.refl _ | refine HSub.cons (by repeat (first | exact Take.here _ | apply Take.next | apply Take.app)) ?_ | refine HSub.app (by repeat (first | with_reducible exact TakeS.here _ | apply TakeS.next | apply TakeS.app)) ?_ | exact HSub.nil _ | exact HSub.refl _ | refine HSub.drop ?_ | refine HSub.dropS ?_))) ?_
          rintro v H' ⟨l2, rfl, hO2, rfl⟩
          rw [inO_iff.2 hk]
          refine W_move rfl rfl ?_
          refine W_bne rfl rfl ty4 rfl ?_
          refine W_nil ?_
          refine W_condF rfl rfl ?_
          refine W_skip ?_
          refine W_region ?_
          refine W_move rfl rfl ?_
          refine W_assign rfl rfl ?_
          refine W_nil ?_
          refine W_sr ?_
          refine W_move rfl rfl ?_
          have hml : ((drop1 m a.k)).length ≤ 64 := Nat.le_trans hO2.le hb2
          rcases fst_or (drop1 m a.k) with ⟨f1, f2, e1, e2, e3⟩ | ⟨x, y, hx0, hy0, f1, f2, e1, e2, e3⟩
          · skip
            refine W_call (.cons rfl .nil) Try.call21 rfl ((OldestI_L (bm := bm) (H := XB2 ++ H) hO2 hb2).hsub (by repeat (first | with_reducible exact HSub.refl _ | refine HSub.cons (by repeat (first | exact Take.here _ | apply Take.next | apply Take.app)) ?_ | refine HSub.app (by repeat (first | with_reducible exact TakeS.here _ | apply TakeS.next | apply TakeS.app)) ?_ | exact HSub.nil _ | exact HSub.refl _ | refine HSub.drop ?_ | refine HSub.dropS ?_))) ?_
            rintro v H' ⟨rfl, rfl⟩
            rw [f1, e1]
            refine W_move rfl rfl ?_
            refine W_extract rfl rfl rfl ?_
            refine W_extract rfl rfl rfl ?_
            refine W_assign rfl rfl ?_
            refine W_assign rfl rfl ?_
            refine W_nil ?_
            refine W_sr ?_
            refine W_move rfl rfl ?_
            refine W_call (.cons rfl .nil) Try.call22 rfl ((NewestI_L (bm := bm) (H := XB2 ++ H) hO2 hb2).hsub (by repeat (first | with_reducible exact HSub.refl _ | refine HSub.cons (by repeat (first | exact Take.here _ | apply Take.next | apply Take.app)) ?_ | refine HSub.app (by repeat (first | with_reducible exact TakeS.here _ | apply TakeS.next | apply TakeS.app)) ?_ | exact HSub.nil _ | exact HSub.refl _ | refine HSub.drop ?_ | refine HSub.dropS ?_))) ?_
            rintro v H' ⟨rfl, rfl⟩
            rw [f2, e2]
            refine W_move rfl rfl ?_
            refine W_extract rfl rfl rfl ?_
            refine W_extract rfl rfl rfl ?_
            refine W_assign rfl rfl ?_
            refine W_assign rfl rfl ?_
            refine W_nil ?_
            refine W_seq ?_
            refine W_sr ?_
            refine W_move rfl rfl ?_
            refine W_move rfl rfl ?_
            refine W_len rfl ty22 rfl rfl ?_
            refine W_bin rfl rfl b_gtr rfl ?_
            rw [decide_eq_false (by omega)]
            refine W_bne rfl rfl ty4 rfl ?_
            refine W_move rfl rfl ?_
            refine W_gyes rfl rfl ?_
            refine W_move rfl rfl ?_
            refine W_gyes rfl rfl ?_
            refine W_move rfl rfl ?_
            refine W_gyes rfl rfl ?_
            refine W_bne rfl rfl ty4 rfl ?_
            first | refine W_pickt rfl rfl rfl ?_ | refine W_pickf rfl rfl rfl ?_
            refine W_move rfl rfl ?_
            refine W_gyes rfl rfl ?_
            refine W_move rfl rfl ?_
            refine W_gyes rfl rfl ?_
            refine W_move rfl rfl ?_
            refine W_gno rfl rfl rfl ?_
            refine W_gno rfl rfl rfl ?_
            refine W_gno rfl rfl rfl ?_
            refine W_gno rfl rfl rfl ?_
            refine W_gno rfl rfl rfl ?_
            refine W_gno rfl rfl rfl ?_
            refine W_gnou rfl rfl rfl ?_
            refine W_gnou rfl rfl rfl ?_
            refine W_gnou rfl rfl rfl ?_
            refine W_gnou rfl rfl rfl ?_
            refine W_gnou rfl rfl rfl ?_
            refine W_gnou rfl rfl rfl ?_
            refine W_gnou rfl rfl rfl ?_
            refine W_gnou rfl rfl rfl ?_
            refine W_gno rfl rfl rfl ?_
            refine W_gyes rfl rfl ?_
            first | refine W_pickt rfl rfl rfl ?_ | refine W_pickf rfl rfl rfl ?_
            first | refine W_pickt rfl rfl rfl ?_ | refine W_pickf rfl rfl rfl ?_
            refine W_move rfl rfl ?_
            refine W_gyes rfl rfl ?_
            refine W_move rfl rfl ?_
            refine W_gyes rfl rfl ?_
            refine W_not rfl rfl ?_
            refine W_gyes rfl rfl ?_
            refine W_move rfl rfl ?_
            refine W_gyes rfl rfl ?_
            refine W_move rfl rfl ?_
            refine W_gyes rfl rfl ?_
            refine W_bin rfl rfl b_neq rfl ?_
            refine W_gyes rfl rfl ?_
            refine W_move rfl rfl ?_
            refine W_gyes rfl rfl ?_
            refine W_move rfl rfl ?_
            refine W_gyes rfl rfl ?_
            refine W_bin rfl rfl b_neq rfl ?_
            refine W_gyes rfl rfl ?_
            first | refine W_pickt rfl rfl rfl ?_ | refine W_pickf rfl rfl rfl ?_
            refine W_gyes rfl rfl ?_
            first | refine W_pickt rfl rfl rfl ?_ | refine W_pickf rfl rfl rfl ?_
            first | refine W_pickt rfl rfl rfl ?_ | refine W_pickf rfl rfl rfl ?_
            refine W_nil ?_
            refine W_condF rfl rfl ?_
            refine W_skip ?_
            refine W_sr ?_
            refine W_move rfl rfl ?_
            refine W_callq (.cons rfl .nil) Try.call23 rfl (lenI_q (bm := bm) hO2 (by repeat (first | exact List.mem_cons_self | apply List.mem_cons_of_mem | apply List.mem_append_right)) (by repeat (first | exact List.mem_cons_self | apply List.mem_cons_of_mem | apply List.mem_append_right))) ?_
            refine W_move rfl rfl ?_
            refine W_len rfl ty22 rfl rfl ?_
            refine W_bin rfl rfl b_neq rfl ?_
            rw [decide_eq_false (fun h => h rfl)]
            refine W_move rfl rfl ?_
            refine W_gyes rfl rfl ?_
            refine W_move rfl rfl ?_
            refine W_gyes rfl rfl ?_
            refine W_call (.cons rfl .nil) Try.call12 rfl ((ListI_L (bm := bm) (H := XB2 ++ H) hO2 hb2).hsub (by repeat (first | with_reducible exact HSub.refl _ | refine HSub.cons (by repeat (first | exact Take.here _ | apply Take.next | apply Take.app)) ?_ | refine HSub.app (by repeat (first | with_reducible exact TakeS.here _ | apply TakeS.next | apply TakeS.app)) ?_ | exact HSub.nil _ | exact HSub.refl _ | refine HSub.drop ?_ | refine HSub.dropS ?_))) ?_
            rintro v H' ⟨sv3, XB3, rfl, hS3, rfl⟩
            obtain ⟨a3, c4, rfl, _, _, hh⟩ := Holds.of_own (w0 := w0) (H := XB3 ++ []) hS3 (fun p hp => List.mem_append_left _ hp)
            refine W_gyes rfl rfl ?_
            refine W_move rfl rfl ?_
            refine W_gyes rfl rfl ?_
            refine W_callq (.cons rfl (.cons rfl .nil)) Try.call11 rfl (same_q (l := (drop1 m a.k)) (r := (drop1 m a.k)) (hh.up (HSub.app (TakeS.here _) (HSub.nil _))) (hm2.up (HSub.app (TakeS.app (TakeS.next (TakeS.next (TakeS.here _)))) (HSub.nil _))) (by omega)) ?_
            rw [decide_eq_true (p := (drop1 m a.k) = (drop1 m a.k)) rfl]
            refine W_gyes rfl rfl ?_
            refine W_not rfl rfl ?_
            first | refine W_pickt rfl rfl rfl ?_ | refine W_pickf rfl rfl rfl ?_
            refine W_move rfl rfl ?_
            refine W_gyes rfl rfl ?_
            refine W_move rfl rfl ?_
            refine W_gyes rfl rfl ?_
            refine W_move rfl rfl ?_
            refine W_gyes rfl rfl ?_
            refine W_callq (.cons rfl (.cons rfl .nil)) Try.call24 rfl (hasI_q (bm := bm) hO2 (by repeat (first | exact List.mem_cons_self | apply List.mem_cons_of_mem | apply List.mem_append_right)) (by repeat (first | exact List.mem_cons_self | apply List.mem_cons_of_mem | apply List.mem_append_right)) k) ?_
            refine W_gyes rfl rfl ?_
            refine W_move rfl rfl ?_
            refine W_gyes rfl rfl ?_
            refine W_move rfl rfl ?_
            refine W_gyes rfl rfl ?_
            refine W_call (.cons rfl (.cons rfl .nil)) Try.call25 rfl ((rfind_L (m := (drop1 m a.k)) (k := k) (by omega) (hm2.up (HSub.app (TakeS.app (TakeS.next (TakeS.next (TakeS.here _)))) (HSub.nil _)))).hsub (.refl _)) ?_
            rintro v H' ⟨zf, rfl, hzf, hH⟩
            subst H'
            refine W_gyes rfl rfl ?_
            refine W_bin rfl rfl b_geq rfl ?_
            rw [find_is hzf]
            refine W_gyes rfl rfl ?_
            refine W_bne rfl rfl ty4 rfl ?_
            rw [bne_self]
            first | refine W_pickt rfl rfl rfl ?_ | refine W_pickf rfl rfl rfl ?_
            refine W_nil ?_
            refine W_condF rfl rfl ?_
            refine W_skip ?_
            refine W_blk ?_
            refine W_region ?_
            refine W_move rfl rfl ?_
            refine W_bin rfl rfl (b_add (m := ((i + 1 : Nat) : Int)) ((i64w (by omega)).trans (by omega))) rfl ?_
            refine W_assign rfl rfl ?_
            refine W_nil ?_
            refine W_again ⟨i + 1, last, (drop1 m a.k), .slice a2 ((drop1 m a.k)).length c2, XB2, l2, c, τ⟩ ⟨by show i + 1 ≤ acts.length; omega, by show i + 1 ≤ 100; omega, by show last ≤ i + 1; omega, hS2, hO2⟩ (by show acts.length - (i + 1) < acts.length - i; omega) (sub_cons rfl (sub_cons rfl (sub_cons rfl (sub_cons rfl (sub_cons rfl (sub_cons rfl (sub_nil _))))))) rfl (by repeat (first | with_reducible exact HSub.refl _ | refine HSub.cons (by repeat (first | exact Take.here _ | apply Take.next | apply Take.app)) ?_ | refine HSub.app (by repeat (first | with_reducible exact TakeS.here _ | apply TakeS.next | apply TakeS.app)) ?_ | exact HSub.nil _ | exact HSub.refl _ | refine HSub.drop ?_ | refine HSub.dropS ?_))
          · skip
            refine W_call (.cons rfl .nil) Try.call21 rfl ((OldestI_L (bm := bm) (H := XB2 ++ H) hO2 hb2).hsub (by repeat (first | with_reducible exact HSub.refl _ | refine HSub.cons (by repeat (first | exact Take.here _ | apply Take.next | apply Take.app)) ?_ | refine HSub.app (by repeat (first | with_reducible exact TakeS.here _ | apply TakeS.next | apply TakeS.app)) ?_ | exact HSub.nil _ | exact HSub.refl _ | refine HSub.drop ?_ | refine HSub.dropS ?_))) ?_
            rintro v H' ⟨rfl, rfl⟩
            rw [f1, e1]
            refine W_move rfl rfl ?_
            refine W_extract rfl rfl rfl ?_
            refine W_extract rfl rfl rfl ?_
            refine W_assign rfl rfl ?_
            refine W_assign rfl rfl ?_
            refine W_nil ?_
            refine W_sr ?_
            refine W_move rfl rfl ?_
            refine W_call (.cons rfl .nil) Try.call22 rfl ((NewestI_L (bm := bm) (H := XB2 ++ H) hO2 hb2).hsub (by repeat (first | with_reducible exact HSub.refl _ | refine HSub.cons (by repeat (first | exact Take.here _ | apply Take.next | apply Take.app)) ?_ | refine HSub.app (by repeat (first | with_reducible exact TakeS.here _ | apply TakeS.next | apply TakeS.app)) ?_ | exact HSub.nil _ | exact HSub.refl _ | refine HSub.drop ?_ | refine HSub.dropS ?_))) ?_
            rintro v H' ⟨rfl, rfl⟩
            rw [f2, e2]
            refine W_move rfl rfl ?_
            refine W_extract rfl rfl rfl ?_
            refine W_extract rfl rfl rfl ?_
            refine W_assign rfl rfl ?_
            refine W_assign rfl rfl ?_
            refine W_nil ?_
            refine W_seq ?_
            refine W_sr ?_
            refine W_move rfl rfl ?_
            refine W_move rfl rfl ?_
            refine W_len rfl ty22 rfl rfl ?_
            refine W_bin rfl rfl b_gtr rfl ?_
            rw [decide_eq_true (by omega)]
            refine W_bne rfl rfl ty4 rfl ?_
            refine W_move rfl rfl ?_
            refine W_gyes rfl rfl ?_
            refine W_move rfl rfl ?_
            refine W_gyes rfl rfl ?_
            refine W_move rfl rfl ?_
            refine W_gyes rfl rfl ?_
            refine W_bne rfl rfl ty4 rfl ?_
            first | refine W_pickt rfl rfl rfl ?_ | refine W_pickf rfl rfl rfl ?_
            refine W_move rfl rfl ?_
            refine W_gyes rfl rfl ?_
            refine W_move rfl rfl ?_
            refine W_gyes rfl rfl ?_
            refine W_move rfl rfl ?_
            refine W_gyes rfl rfl ?_
            obtain ⟨q0, p0, rfl, hc0⟩ := hm2.at (i := 0) (v := .int .i64 x) (by rw [List.getElem?_map, hx0]; rfl)
            obtain ⟨q1, p1, ee, hc1⟩ := hm2.at (i := ((drop1 m a.k)).length - 1) (v := .int .i64 y) (by rw [List.getElem?_map, hy0]; rfl)
            cases ee
            refine W_move rfl rfl ?_
            refine W_gyes rfl rfl ?_
            refine W_move rfl rfl ?_
            refine W_gyes rfl rfl ?_
            refine W_indexAddr (j := 0) rfl rfl ty22 ty3 rfl (by omega) rfl rfl ?_
            refine W_gyes rfl rfl ?_
            refine W_load (v := .int .i64 x) rfl ty3 rfl (by rw [Nat.mul_one]; exact hc0.up (by repeat (first | with_reducible exact HSub.refl _ | refine HSub.cons (by repeat (first | exact Take.here _ | apply Take.next | apply Take.app)) ?_ | refine HSub.app (by repeat (first | with_reducible exact TakeS.here _ | apply TakeS.next | apply TakeS.app)) ?_ | exact HSub.nil _ | exact HSub.refl _ | refine HSub.drop ?_ | refine HSub.dropS ?_))) rfl ?_
            refine W_gyes rfl rfl ?_
            refine W_bin rfl rfl b_neq rfl ?_
            rw [decide_eq_false (fun h => h rfl)]
            refine W_gyes rfl rfl ?_
            refine W_move rfl rfl ?_
            refine W_gyes rfl rfl ?_
            refine W_move rfl rfl ?_
            refine W_gyes rfl rfl ?_
            refine W_move rfl rfl ?_
            refine W_gyes rfl rfl ?_
            refine W_move rfl rfl ?_
            refine W_gyes rfl rfl ?_
            refine W_len rfl ty22 rfl rfl ?_
            refine W_gyes rfl rfl ?_
            refine W_bin rfl rfl (b_sub (m := ((((drop1 m a.k)).length - 1 : Nat) : Int)) ((i64w (by omega)).trans (by omega))) rfl ?_
            refine W_gyes rfl rfl ?_
            refine W_indexAddr (j := ((drop1 m a.k)).length - 1) rfl rfl ty22 ty3 rfl (by omega) rfl rfl ?_
            refine W_gyes rfl rfl ?_
            refine W_load (v := .int .i64 y) rfl ty3 rfl (by rw [Nat.mul_one]; exact hc1.up (by repeat (first | with_reducible exact HSub.refl _ | refine HSub.cons (by repeat (first | exact Take.here _ | apply Take.next | apply Take.app)) ?_ | refine HSub.app (by repeat (first | with_reducible exact TakeS.here _ | apply TakeS.next | apply TakeS.app)) ?_ | exact HSub.nil _ | exact HSub.refl _ | refine HSub.drop ?_ | refine HSub.dropS ?_))) rfl ?_
            refine W_gyes rfl rfl ?_
            refine W_bin rfl rfl b_neq rfl ?_
            rw [decide_eq_false (fun h => h rfl)]
            refine W_gyes rfl rfl ?_
            first | refine W_pickt rfl rfl rfl ?_ | refine W_pickf rfl rfl rfl ?_
            refine W_gyes rfl rfl ?_
            first | refine W_pickt rfl rfl rfl ?_ | refine W_pickf rfl rfl rfl ?_
            first | refine W_pickt rfl rfl rfl ?_ | refine W_pickf rfl rfl rfl ?_
            refine W_move rfl rfl ?_
            refine W_gyes rfl rfl ?_
            refine W_move rfl rfl ?_
            refine W_gyes rfl rfl ?_
            refine W_not rfl rfl ?_
            refine W_gyes rfl rfl ?_
            refine W_move rfl rfl ?_
            refine W_gno rfl rfl rfl ?_
            refine W_gno rfl rfl rfl ?_
            refine W_gno rfl rfl rfl ?_
            refine W_gnou rfl rfl rfl ?_
            refine W_gnou rfl rfl rfl ?_
            refine W_gno rfl rfl rfl ?_
            refine W_gyes rfl rfl ?_
            first | refine W_pickt rfl rfl rfl ?_ | refine W_pickf rfl rfl rfl ?_
            first | refine W_pickt rfl rfl rfl ?_ | refine W_pickf rfl rfl rfl ?_
            refine W_nil ?_
            refine W_condF rfl rfl ?_
            refine W_skip ?_
            refine W_sr ?_
            refine W_move rfl rfl ?_
            refine W_callq (.cons rfl .nil) Try.call23 rfl (lenI_q (bm := bm) hO2 (by repeat (first | exact List.mem_cons_self | apply List.mem_cons_of_mem | apply List.mem_append_right)) (by repeat (first | exact List.mem_cons_self | apply List.mem_cons_of_mem | apply List.mem_append_right))) ?_
            refine W_move rfl rfl ?_
            refine W_len rfl ty22 rfl rfl ?_
            refine W_bin rfl rfl b_neq rfl ?_
            rw [decide_eq_false (fun h => h rfl)]
            refine W_move rfl rfl ?_
            refine W_gyes rfl rfl ?_
            refine W_move rfl rfl ?_
            refine W_gyes rfl rfl ?_
            refine W_call (.cons rfl .nil) Try.call12 rfl ((ListI_L (bm := bm) (H := XB2 ++ H) hO2 hb2).hsub (by repeat (first | with_reducible exact HSub.refl _ | refine HSub.cons (by repeat (first | exact Take.here _ | apply Take.next | apply Take.app)) ?_ | refine HSub.app (by repeat (first | with_reducible exact TakeS.here _ | apply TakeS.next | apply TakeS.app)) ?_ | exact HSub.nil _ | exact HSub.refl _ | refine HSub.drop ?_ | refine HSub.dropS ?_))) ?_
            rintro v H' ⟨sv3, XB3, rfl, hS3, rfl⟩
            obtain ⟨a3, c4, rfl, _, _, hh⟩ := Holds.of_own (w0 := w0) (H := XB3 ++ []) hS3 (fun p hp => List.mem_append_left _ hp)
            refine W_gyes rfl rfl ?_
            refine W_move rfl rfl ?_
            refine W_gyes rfl rfl ?_
            refine W_callq (.cons rfl (.cons rfl .nil)) Try.call11 rfl (same_q (l := (drop1 m a.k)) (r := (drop1 m a.k)) (hh.up (HSub.app (TakeS.here _) (HSub.nil _))) (hm2.up (HSub.app (TakeS.app (TakeS.next (TakeS.next (TakeS.here _)))) (HSub.nil _))) (by omega)) ?_
            rw [decide_eq_true (p := (drop1 m a.k) = (drop1 m a.k)) rfl]
            refine W_gyes rfl rfl ?_
            refine W_not rfl rfl ?_
            first | refine W_pickt rfl rfl rfl ?_ | refine W_pickf rfl rfl rfl ?_
            refine W_move rfl rfl ?_
            refine W_gyes rfl rfl ?_
            refine W_move rfl rfl ?_
            refine W_gyes rfl rfl ?_
            refine W_move rfl rfl ?_
            refine W_gyes rfl rfl ?_
            refine W_callq (.cons rfl (.cons rfl .nil)) Try.call24 rfl (hasI_q (bm := bm) hO2 (by repeat (first | exact List.mem_cons_self | apply List.mem_cons_of_mem | apply List.mem_append_right)) (by repeat (first | exact List.mem_cons_self | apply List.mem_cons_of_mem | apply List.mem_append_right)) k) ?_
            refine W_gyes rfl rfl ?_
            refine W_move rfl rfl ?_
            refine W_gyes rfl rfl ?_
            refine W_move rfl rfl ?_
            refine W_gyes rfl rfl ?_
            refine W_call (.cons rfl (.cons rfl .nil)) Try.call25 rfl ((rfind_L (m := (drop1 m a.k)) (k := k) (by omega) (hm2.up (HSub.app (TakeS.app (TakeS.next (TakeS.next (TakeS.here _)))) (HSub.nil _)))).hsub (.refl _)) ?_
            rintro v H' ⟨zf, rfl, hzf, hH⟩
            subst H'
            refine W_gyes rfl rfl ?_
            refine W_bin rfl rfl b_geq rfl ?_
            rw [find_is hzf]
            refine W_gyes rfl rfl ?_
            refine W_bne rfl rfl ty4 rfl ?_
            rw [bne_self]
            first | refine W_pickt rfl rfl rfl ?_ | refine W_pickf rfl rfl rfl ?_
            refine W_nil ?_
            refine W_condF rfl rfl ?_
            refine W_skip ?_
            refine W_blk ?_
            refine W_region ?_
            refine W_move rfl rfl ?_
            refine W_bin rfl rfl (b_add (m := ((i + 1 : Nat) : Int)) ((i64w (by omega)).trans (by omega))) rfl ?_
            refine W_assign rfl rfl ?_
            refine W_nil ?_
            refine W_again ⟨i + 1, last, (drop1 m a.k), .slice (some ⟨q0, p0, none⟩) ((drop1 m a.k)).length c2, XB2, l2, c, τ⟩ ⟨by show i + 1 ≤ acts.length; omega, by show i + 1 ≤ 100; omega, by show last ≤ i + 1; omega, hS2, hO2⟩ (by show acts.length - (i + 1) < acts.length - i; omega) (sub_cons rfl (sub_cons rfl (sub_cons rfl (sub_cons rfl (sub_cons rfl (sub_cons rfl (sub_nil _))))))) rfl (by repeat (first | with_reducible exact HSub.refl _ | refine HSub.cons (by repeat (first | exact Take.here _ | apply Take.next | apply Take.app)) ?_ | refine HSub.app (by repeat (first | with_reducible exact TakeS.here _ | apply TakeS.next | apply TakeS.app)) ?_ | exact HSub.nil _ | exact HSub.refl _ | refine HSub.drop ?_ | refine HSub.dropS ?_))
      · skip
        refine W_sr ?_
        refine W_move rfl rfl ?_
        refine W_fieldAddr rfl fld47_1 (by decide) rfl ?_
        refine W_load rfl ty3 rfl (Cell.own (by repeat (first | exact List.mem_cons_self | apply List.mem_cons_of_mem | apply List.mem_append_right)) rfl) rfl ?_
        refine W_move rfl rfl ?_
        refine W_call (.cons rfl (.cons rfl (.cons rfl .nil))) Try.call8 rfl ((rtouch_L (room := room) (m := m) (k := a.k) hn (by omega) hle hcm (hmm.up (by repeat (first | with_reducible exact HSub.refl _ | refine HSub.cons (by repeat (first | exact Take.here _ | apply Take.next | apply Take.app)) ?_ | refine HSub.app (by repeat (first | with_reducible exact TakeS.here _ | apply TakeS.next | apply TakeS.app)) ?_ | exact HSub.nil _ | exact HSub.refl _ | refine HSub.drop ?_ | refine HSub.dropS ?_)))).hsub (.refl _)) ?_
        rintro v H' (⟨ht, rfl, hH⟩ | ⟨ht, sv, XB2, rfl, hS2, hH⟩) <;> subst H'
        · skip
          refine W_move rfl rfl ?_
          refine W_extract rfl rfl rfl ?_
          refine W_extract rfl rfl rfl ?_
          refine W_assign rfl rfl ?_
          refine W_assign rfl rfl ?_
          refine W_nil ?_
          refine W_seq ?_
          refine W_sr ?_
          refine W_move rfl rfl ?_
          refine W_fieldAddr rfl fld47_1 (by decide) rfl ?_
          refine W_load rfl ty3 rfl (Cell.own (by repeat (first | exact List.mem_cons_self | apply List.mem_cons_of_mem | apply List.mem_append_right)) rfl) rfl ?_
          refine W_buildSlice (l := ([a.k] : List Int).map (Value.int .i64)) ty22 ty3 (.cons rfl rfl rfl rfl rfl .nil) rfl rfl rfl rfl rfl rfl rfl (fun b83 => ?_)
          refine W_call (.cons rfl (.cons rfl .nil)) Try.call10 rfl ((touchI_L (bm := bm) (H := (b83, .cells 3 (1 * 1) (([a.k] : List Int).map (Value.int .i64))) :: (b11, .cells 47 2 (actC a)) :: (XB ++ H)) (ks := [a.k]) hO (by show last + 1 ≤ _; omega) (Holds.own (b := b83) (by repeat (first | exact List.mem_cons_self | apply List.mem_cons_of_mem | apply List.mem_append_right)))).hsub (by repeat (first | with_reducible exact HSub.refl _ | refine HSub.cons (by repeat (first | exact Take.here _ | apply Take.next | apply Take.app)) ?_ | refine HSub.app (by repeat (first | with_reducible exact TakeS.here _ | apply TakeS.next | apply TakeS.app)) ?_ | exact HSub.nil _ | exact HSub.refl _ | refine HSub.drop ?_ | refine HSub.dropS ?_))) ?_
          rintro v H' ⟨last2, l2, c2, τ2, rfl, hO2, hl2, rfl⟩
          rw [touchL_one, ht] at hO2 ⊢
          replace hl2 : last2 ≤ last + 1 := hl2
          replace hO2 : OrdIs room m last2 l2 c2 τ2 := hO2
          refine W_move rfl rfl ?_
          refine W_bin rfl rfl b_neq rfl ?_
          refine W_nil ?_
          refine W_condF rfl rfl ?_
          refine W_skip ?_
          refine W_region ?_
          refine W_move rfl rfl ?_
          refine W_assign rfl rfl ?_
          refine W_nil ?_
          refine W_sr ?_
          refine W_move rfl rfl ?_
          have hml : (m).length ≤ 64 := Nat.le_trans hO2.le hb2
          rcases fst_or m with ⟨f1, f2, e1, e2, e3⟩ | ⟨x, y, hx0, hy0, f1, f2, e1, e2, e3⟩
          · skip
            refine W_call (.cons rfl .nil) Try.call21 rfl ((OldestI_L (bm := bm) (H := XB ++ H) hO2 hb2).hsub (by repeat (first | with_reducible exact HSub.refl _ | refine HSub.cons (by repeat (first | exact Take.here _ | apply Take.next | apply Take.app)) ?_ | refine HSub.app (by repeat (first | with_reducible exact TakeS.here _ | apply TakeS.next | apply TakeS.app)) ?_ | exact HSub.nil _ | exact HSub.refl _ | refine HSub.drop ?_ | refine HSub.dropS ?_))) ?_
            rintro v H' ⟨rfl, rfl⟩
            rw [f1, e1]
            refine W_move rfl rfl ?_
            refine W_extract rfl rfl rfl ?_
            refine W_extract rfl rfl rfl ?_
            refine W_assign rfl rfl ?_
            refine W_assign rfl rfl ?_
            refine W_nil ?_
            refine W_sr ?_
            refine W_move rfl rfl ?_
            refine W_call (.cons rfl .nil) Try.call22 rfl ((NewestI_L (bm := bm) (H := XB ++ H) hO2 hb2).hsub (by repeat (first | with_reducible exact HSub.refl _ | refine HSub.cons (by repeat (first | exact Take.here _ | apply Take.next | apply Take.app)) ?_ | refine HSub.app (by repeat (first | with_reducible exact TakeS.here _ | apply TakeS.next | apply TakeS.app)) ?_ | exact HSub.nil _ | exact HSub.refl _ | refine HSub.drop ?_ | refine HSub.dropS ?_))) ?_
            rintro v H' ⟨rfl, rfl⟩
            rw [f2, e2]
            refine W_move rfl rfl ?_
            refine W_extract rfl rfl rfl ?_
            refine W_extract rfl rfl rfl ?_
            refine W_assign rfl rfl ?_
            refine W_assign rfl rfl ?_
            refine W_nil ?_
            refine W_seq ?_
            refine W_sr ?_
            refine W_move rfl rfl ?_
            refine W_move rfl rfl ?_
            refine W_len rfl ty22 rfl rfl ?_
            refine W_bin rfl rfl b_gtr rfl ?_
            rw [decide_eq_false (by omega)]
            refine W_bne rfl rfl ty4 rfl ?_
            refine W_move rfl rfl ?_
            refine W_gyes rfl rfl ?_
            refine W_move rfl rfl ?_
            refine W_gyes rfl rfl ?_
            refine W_move rfl rfl ?_
            refine W_gyes rfl rfl ?_
            refine W_bne rfl rfl ty4 rfl ?_
            first | refine W_pickt rfl rfl rfl ?_ | refine W_pickf rfl rfl rfl ?_
            refine W_move rfl rfl ?_
            refine W_gyes rfl rfl ?_
            refine W_move rfl rfl ?_
            refine W_gyes rfl rfl ?_
            refine W_move rfl rfl ?_
            refine W_gno rfl rfl rfl ?_
            refine W_gno rfl rfl rfl ?_
            refine W_gno rfl rfl rfl ?_
            refine W_gno rfl rfl rfl ?_
            refine W_gno rfl rfl rfl ?_
            refine W_gno rfl rfl rfl ?_
            refine W_gnou rfl rfl rfl ?_
            refine W_gnou rfl rfl rfl ?_
            refine W_gnou rfl rfl rfl ?_
            refine W_gnou rfl rfl rfl ?_
            refine W_gnou rfl rfl rfl ?_
            refine W_gnou rfl rfl rfl ?_
            refine W_gnou rfl rfl rfl ?_
            refine W_gnou rfl rfl rfl ?_
            refine W_gno rfl rfl rfl ?_
            refine W_gyes rfl rfl ?_
            first | refine W_pickt rfl rfl rfl ?_ | refine W_pickf rfl rfl rfl ?_
            first | refine W_pickt rfl rfl rfl ?_ | refine W_pickf rfl rfl rfl ?_
            refine W_move rfl rfl ?_
            refine W_gyes rfl rfl ?_
            refine W_move rfl rfl ?_
            refine W_gyes rfl rfl ?_
            refine W_not rfl rfl ?_
            refine W_gyes rfl rfl ?_
            refine W_move rfl rfl ?_
            refine W_gyes rfl rfl ?_
            refine W_move rfl rfl ?_
            refine W_gyes rfl rfl ?_
            refine W_bin rfl rfl b_neq rfl ?_
            refine W_gyes rfl rfl ?_
            refine W_move rfl rfl ?_
            refine W_gyes rfl rfl ?_
            refine W_move rfl rfl ?_
            refine W_gyes rfl rfl ?_
            refine W_bin rfl rfl b_neq rfl ?_
            refine W_gyes rfl rfl ?_
            first | refine W_pickt rfl rfl rfl ?_ | refine W_pickf rfl rfl rfl ?_
            refine W_gyes rfl rfl ?_
            first | refine W_pickt rfl rfl rfl ?_ | refine W_pickf rfl rfl rfl ?_
            first | refine W_pickt rfl rfl rfl ?_ | refine W_pickf rfl rfl rfl ?_
            refine W_nil ?_
            refine W_condF rfl rfl ?_
            refine W_skip ?_
            refine W_sr ?_
            refine W_move rfl rfl ?_
            refine W_callq (.cons rfl .nil) Try.call23 rfl (lenI_q (bm := bm) hO2 (by repeat (first | exact List.mem_cons_self | apply List.mem_cons_of_mem | apply List.mem_append_right)) (by repeat (first | exact List.mem_cons_self | apply List.mem_cons_of_mem | apply List.mem_append_right))) ?_
            refine W_move rfl rfl ?_
            refine W_len rfl ty22 rfl rfl ?_
            refine W_bin rfl rfl b_neq rfl ?_
            rw [decide_eq_false (fun h => h rfl)]
            refine W_move rfl rfl ?_
            refine W_gyes rfl rfl ?_
            refine W_move rfl rfl ?_
            refine W_gyes rfl rfl ?_
            refine W_call (.cons rfl .nil) Try.call12 rfl ((ListI_L (bm := bm) (H := XB ++ H) hO2 hb2).hsub (by repeat (first | with_reducible exact HSub.refl _ | refine HSub.cons (by repeat (first | exact Take.here _ | apply Take.next | apply Take.app)) ?_ | refine HSub.app (by repeat (first | with_reducible exact TakeS.here _ | apply TakeS.next | apply TakeS.app)) ?_ | exact HSub.nil _ | exact HSub.refl _ | refine HSub.drop ?_ | refine HSub.dropS ?_))) ?_
            rintro v H' ⟨sv3, XB3, rfl, hS3, rfl⟩
            obtain ⟨a3, c4, rfl, _, _, hh⟩ := Holds.of_own (w0 := w0) (H := XB3 ++ []) hS3 (fun p hp => List.mem_append_left _ hp)
            refine W_gyes rfl rfl ?_
            refine W_move rfl rfl ?_
            refine W_gyes rfl rfl ?_
            refine W_callq (.cons rfl (.cons rfl .nil)) Try.call11 rfl (same_q (l := m) (r := m) (hh.up (HSub.app (TakeS.here _) (HSub.nil _))) (hmm.up (HSub.app (TakeS.app (TakeS.next (TakeS.next (TakeS.here _)))) (HSub.nil _))) (by omega)) ?_
            rw [decide_eq_true (p := m = m) rfl]
            refine W_gyes rfl rfl ?_
            refine W_not rfl rfl ?_
            first | refine W_pickt rfl rfl rfl ?_ | refine W_pickf rfl rfl rfl ?_
            refine W_move rfl rfl ?_
            refine W_gyes rfl rfl ?_
            refine W_move rfl rfl ?_
            refine W_gyes rfl rfl ?_
            refine W_move rfl rfl ?_
            refine W_gyes rfl rfl ?_
            refine W_callq (.cons rfl (.cons rfl .nil)) Try.call24 rfl (hasI_q (bm := bm) hO2 (by repeat (first | exact List.mem_cons_self | apply List.mem_cons_of_mem | apply List.mem_append_right)) (by repeat (first | exact List.mem_cons_self | apply List.mem_cons_of_mem | apply List.mem_append_right)) k) ?_
            refine W_gyes rfl rfl ?_
            refine W_move rfl rfl ?_
            refine W_gyes rfl rfl ?_
            refine W_move rfl rfl ?_
            refine W_gyes rfl rfl ?_
            refine W_call (.cons rfl (.cons rfl .nil)) Try.call25 rfl ((rfind_L (m := m) (k := k) (by omega) (hmm.up (HSub.app (TakeS.app (TakeS.next (TakeS.next (TakeS.here _)))) (HSub.nil _)))).hsub (.refl _)) ?_
            rintro v H' ⟨zf, rfl, hzf, hH⟩
            subst H'
            refine W_gyes rfl rfl ?_
            refine W_bin rfl rfl b_geq rfl ?_
            rw [find_is hzf]
            refine W_gyes rfl rfl ?_
            refine W_bne rfl rfl ty4 rfl ?_
            rw [bne_self]
            first | refine W_pickt rfl rfl rfl ?_ | refine W_pickf rfl rfl rfl ?_
            refine W_nil ?_
            refine W_condF rfl rfl ?_
            refine W_skip ?_
            refine W_blk ?_
            refine W_region ?_
            refine W_move rfl rfl ?_
            refine W_bin rfl rfl (b_add (m := ((i + 1 : Nat) : Int)) ((i64w (by omega)).trans (by omega))) rfl ?_
            refine W_assign rfl rfl ?_
            refine W_nil ?_
            refine W_again ⟨i + 1, last2, m, .slice am (m).length cm, XB, l2, c2, τ2⟩ ⟨by show i + 1 ≤ acts.length; omega, by show i + 1 ≤ 100; omega, by show last2 ≤ i + 1; omega, hS, hO2⟩ (by show acts.length - (i + 1) < acts.length - i; omega) (sub_cons rfl (sub_cons rfl (sub_cons rfl (sub_cons rfl (sub_cons rfl (sub_cons rfl (sub_nil _))))))) rfl (by repeat (first | with_reducible exact HSub.refl _ | refine HSub.cons (by repeat (first | exact Take.here _ | apply Take.next | apply Take.app)) ?_ | refine HSub.app (by repeat (first | with_reducible exact TakeS.here _ | apply TakeS.next | apply TakeS.app)) ?_ | exact HSub.nil _ | exact HSub.refl _ | refine HSub.drop ?_ | refine HSub.dropS ?_))
          · skip
            refine W_call (.cons rfl .nil) Try.call21 rfl ((OldestI_L (bm := bm) (H := XB ++ H) hO2 hb2).hsub (by repeat (first | with_reducible exact HSub.refl _ | refine HSub.cons (by repeat (first | exact Take.here _ | apply Take.next | apply Take.app)) ?_ | refine HSub.app (by repeat (first | with_reducible exact TakeS.here _ | apply TakeS.next | apply TakeS.app)) ?_ | exact HSub.nil _ | exact HSub.refl _ | refine HSub.drop ?_ | refine HSub.dropS ?_))) ?_
            rintro v H' ⟨rfl, rfl⟩
            rw [f1, e1]
            refine W_move rfl rfl ?_
            refine W_extract rfl rfl rfl ?_
            refine W_extract rfl rfl rfl ?_
            refine W_assign rfl rfl ?_
            refine W_assign rfl rfl ?_
            refine W_nil ?_
            refine W_sr ?_
            refine W_move rfl rfl ?_
            refine W_call (.cons rfl .nil) Try.call22 rfl ((NewestI_L (bm := bm) (H := XB ++ H) hO2 hb2).hsub (by repeat (first | with_reducible exact HSub.refl _ | refine HSub.cons (by repeat (first | exact Take.here _ | apply Take.next | apply Take.app)) ?_ | refine HSub.app (by repeat (first | with_reducible exact TakeS.here _ | apply TakeS.next | apply TakeS.app)) ?_ | exact HSub.nil _ | exact HSub.refl _ | refine HSub.drop ?_ | refine HSub.dropS ?_))) ?_
            rintro v H' ⟨rfl, rfl⟩
            rw [f2, e2]
            refine W_move rfl rfl ?_
            refine W_extract rfl rfl rfl ?_
            refine W_extract rfl rfl rfl ?_
            refine W_assign rfl rfl ?_
            refine W_assign rfl rfl ?_
            refine W_nil ?_
            refine W_seq ?_
            refine W_sr ?_
            refine W_move rfl rfl ?_
            refine W_move rfl rfl ?_
            refine W_len rfl ty22 rfl rfl ?_
            refine W_bin rfl rfl b_gtr rfl ?_
            rw [decide_eq_true (by omega)]
            refine W_bne rfl rfl ty4 rfl ?_
            refine W_move rfl rfl ?_
            refine W_gyes rfl rfl ?_
            refine W_move rfl rfl ?_
            refine W_gyes rfl rfl ?_
            refine W_move rfl rfl ?_
            refine W_gyes rfl rfl ?_
            refine W_bne rfl rfl ty4 rfl ?_
            first | refine W_pickt rfl rfl rfl ?_ | refine W_pickf rfl rfl rfl ?_
            refine W_move rfl rfl ?_
            refine W_gyes rfl rfl ?_
            refine W_move rfl rfl ?_
            refine W_gyes rfl rfl ?_
            refine W_move rfl rfl ?_
            refine W_gyes rfl rfl ?_
            obtain ⟨q0, p0, rfl, hc0⟩ := hmm.at (i := 0) (v := .int .i64 x) (by rw [List.getElem?_map, hx0]; rfl)
            obtain ⟨q1, p1, ee, hc1⟩ := hmm.at (i := (m).length - 1) (v := .int .i64 y) (by rw [List.getElem?_map, hy0]; rfl)
            cases ee
            refine W_move rfl rfl ?_
            refine W_gyes rfl rfl ?_
            refine W_move rfl rfl ?_
            refine W_gyes rfl rfl ?_
            refine W_indexAddr (j := 0) rfl rfl ty22 ty3 rfl (by omega) rfl rfl ?_
            refine W_gyes rfl rfl ?_
            refine W_load (v := .int .i64 x) rfl ty3 rfl (by rw [Nat.mul_one]; exact hc0.up (by repeat (first | with_reducible exact HSub.refl _ | refine HSub.cons (by repeat (first | exact Take.here _ | apply Take.next | apply Take.app)) ?_ | refine HSub.app (by repeat (first | with_reducible exact TakeS.here _ | apply TakeS.next | apply TakeS.app)) ?_ | exact HSub.nil _ | exact HSub.refl _ | refine HSub.drop ?_ | refine HSub.dropS ?_))) rfl ?_
            refine W_gyes rfl rfl ?_
            refine W_bin rfl rfl b_neq rfl ?_
            rw [decide_eq_false (fun h => h rfl)]
            refine W_gyes rfl rfl ?_
            refine W_move rfl rfl ?_
            refine W_gyes rfl rfl ?_
            refine W_move rfl rfl ?_
            refine W_gyes rfl rfl ?_
            refine W_move rfl rfl ?_
            refine W_gyes rfl rfl ?_
            refine W_move rfl rfl ?_
            refine W_gyes rfl rfl ?_
            refine W_len rfl ty22 rfl rfl ?_
            refine W_gyes rfl rfl ?_
            refine W_bin rfl rfl (b_sub (m := (((m).length - 1 : Nat) : Int)) ((i64w (by omega)).trans (by omega))) rfl ?_
            refine W_gyes rfl rfl ?_
            refine W_indexAddr (j := (m).length - 1) rfl rfl ty22 ty3 rfl (by omega) rfl rfl ?_
            refine W_gyes rfl rfl ?_
            refine W_load (v := .int .i64 y) rfl ty3 rfl (by rw [Nat.mul_one]; exact hc1.up (by repeat (first | with_reducible exact HSub.refl _ | refine HSub.cons (by repeat (first | exact Take.here _ | apply Take.next | apply Take.app)) ?_ | refine HSub.app (by repeat (first | with_reducible exact TakeS.here _ | apply TakeS.next | apply TakeS.app)) ?_ | exact HSub.nil _ | exact HSub.refl _ | refine HSub.drop ?_ | refine HSub.dropS ?_))) rfl ?_
            refine W_gyes rfl rfl ?_
            refine W_bin rfl rfl b_neq rfl ?_
            rw [decide_eq_false (fun h => h rfl)]
            refine W_gyes rfl rfl ?_
            first | refine W_pickt rfl rfl rfl ?_ | refine W_pickf rfl rfl rfl ?_
            refine W_gyes rfl rfl ?_
            first | refine W_pickt rfl rfl rfl ?_ | refine W_pickf rfl rfl rfl ?_
            first | refine W_pickt rfl rfl rfl ?_ | refine W_pickf rfl rfl rfl ?_
            refine W_move rfl rfl ?_
            refine W_gyes rfl rfl ?_
            refine W_move rfl rfl ?_
            refine W_gyes rfl rfl ?_
            refine W_not rfl rfl ?_
            refine W_gyes rfl rfl ?_
            refine W_move rfl rfl ?_
            refine W_gno rfl rfl rfl ?_
            refine W_gno rfl rfl rfl ?_
            refine W_gno rfl rfl rfl ?_
            refine W_gnou rfl rfl rfl ?_
            refine W_gnou rfl rfl rfl ?_
            refine W_gno rfl rfl rfl ?_
            refine W_gyes rfl rfl ?_
            first | refine W_pickt rfl rfl rfl ?_ | refine W_pickf rfl rfl rfl ?_
            first | refine W_pickt rfl rfl rfl ?_ | refine W_pickf rfl rfl rfl ?_
            refine W_nil ?_
            refine W_condF rfl rfl ?_
            refine W_skip ?_
            refine W_sr ?_
            refine W_move rfl rfl ?_
            refine W_callq (.cons rfl .nil) Try.call23 rfl (lenI_q (bm := bm) hO2 (by repeat (first | exact List.mem_cons_self | apply List.mem_cons_of_mem | apply List.mem_append_right)) (by repeat (first | exact List.mem_cons_self | apply List.mem_cons_of_mem | apply List.mem_append_right))) ?_
            refine W_move rfl rfl ?_
            refine W_len rfl ty22 rfl rfl ?_
            refine W_bin rfl rfl b_neq rfl ?_
            rw [decide_eq_false (fun h => h rfl)]
            refine W_move rfl rfl ?_
            refine W_gyes rfl rfl ?_
            refine W_move rfl rfl ?_
            refine W_gyes rfl rfl ?_
            refine W_call (.cons rfl .nil) Try.call12 rfl ((ListI_L (bm := bm) (H := XB ++ H) hO2 hb2).hsub (by repeat (first | with_reducible exact HSub.refl _ | refine HSub.cons (by repeat (first | exact Take.here _ | apply Take.next | apply Take.app)) ?_ | refine HSub.app (by repeat (first | with_reducible exact TakeS.here _ | apply TakeS.next | apply TakeS.app)) ?_ | exact HSub.nil _ | exact HSub.refl _ | refine HSub.drop ?_ | refine HSub.dropS ?_))) ?_
            rintro v H' ⟨sv3, XB3, rfl, hS3, rfl⟩
            obtain ⟨a3, c4, rfl, _, _, hh⟩ := Holds.of_own (w0 := w0) (H := XB3 ++ []) hS3 (fun p hp => List.mem_append_left _ hp)
            refine W_gyes rfl rfl ?_
            refine W_move rfl rfl ?_
            refine W_gyes rfl rfl ?_
            refine W_callq (.cons rfl (.cons rfl .nil)) Try.call11 rfl (same_q (l := m) (r := m) (hh.up (HSub.app (TakeS.here _) (HSub.nil _))) (hmm.up (HSub.app (TakeS.app (TakeS.next (TakeS.next (TakeS.here _)))) (HSub.nil _))) (by omega)) ?_
            rw [decide_eq_true (p := m = m) rfl]
            refine W_gyes rfl rfl ?_
            refine W_not rfl rfl ?_
            first | refine W_pickt rfl rfl rfl ?_ | refine W_pickf rfl rfl rfl ?_
            refine W_move rfl rfl ?_
            refine W_gyes rfl rfl ?_
            refine W_move rfl rfl ?_
            refine W_gyes rfl rfl ?_
            refine W_move rfl rfl ?_
            refine W_gyes rfl rfl ?_
            refine W_callq (.cons rfl (.cons rfl .nil)) Try.call24 rfl (hasI_q (bm := bm) hO2 (by repeat (first | exact List.mem_cons_self | apply List.mem_cons_of_mem | apply List.mem_append_right)) (by repeat (first | exact List.mem_cons_self | apply List.mem_cons_of_mem | apply List.mem_append_right)) k) ?_
            refine W_gyes rfl rfl ?_
            refine W_move rfl rfl ?_
            refine W_gyes rfl rfl ?_
            refine W_move rfl rfl ?_
            refine W_gyes rfl rfl ?_
            refine W_call (.cons rfl (.cons rfl .nil)) Try.call25 rfl ((rfind_L (m := m) (k := k) (by omega) (hmm.up (HSub.app (TakeS.app (TakeS.next (TakeS.next (TakeS.here _)))) (HSub.nil _)))).hsub (.refl _)) ?_
            rintro v H' ⟨zf, rfl, hzf, hH⟩
            subst H'
            refine W_gyes rfl rfl ?_
            refine W_bin rfl rfl b_geq rfl ?_
            rw [find_is hzf]
            refine W_gyes rfl rfl ?_
            refine W_bne rfl rfl ty4 rfl ?_
            rw [bne_self]
            first | refine W_pickt rfl rfl rfl ?_ | refine W_pickf rfl rfl rfl ?_
            refine W_nil ?_
            refine W_condF rfl rfl ?_
            refine W_skip ?_
            refine W_blk ?_
            refine W_region ?_
            refine W_move rfl rfl ?_
            refine W_bin rfl rfl (b_add (m := ((i + 1 : Nat) : Int)) ((i64w (by omega)).trans (by omega))) rfl ?_
            refine W_assign rfl rfl ?_
            refine W_nil ?_
            refine W_again ⟨i + 1, last2, m, .slice (some ⟨q0, p0, none⟩) (m).length cm, XB, l2, c2, τ2⟩ ⟨by show i + 1 ≤ acts.length; omega, by show i + 1 ≤ 100; omega, by show last2 ≤ i + 1; omega, hS, hO2⟩ (by show acts.length - (i + 1) < acts.length - i; omega) (sub_cons rfl (sub_cons rfl (sub_cons rfl (sub_cons rfl (sub_cons rfl (sub_cons rfl (sub_nil _))))))) rfl (by repeat (first | with_reducible exact HSub.refl _ | refine HSub.cons (by repeat (first | exact Take.here _ | apply Take.next | apply Take.app)) ?_ | refine HSub.app (by repeat (first | with_reducible exact TakeS.here _ | apply TakeS.next | apply TakeS.app)) ?_ | exact HSub.nil _ | exact HSub.refl _ | refine HSub.drop ?_ | refine HSub.dropS ?_))
        · skip
          obtain ⟨a2, c2, rfl, hc2, _, hm2⟩ := Holds.of_own (w0 := w0) (H := XB2 ++ []) hS2 (fun p hp => List.mem_append_left _ hp)
          refine W_move rfl rfl ?_
          refine W_extract rfl rfl rfl ?_
          refine W_extract rfl rfl rfl ?_
          refine W_assign rfl rfl ?_
          refine W_assign rfl rfl ?_
          refine W_nil ?_
          refine W_seq ?_
          refine W_sr ?_
          refine W_move rfl rfl ?_
          refine W_fieldAddr rfl fld47_1 (by decide) rfl ?_
          refine W_load rfl ty3 rfl (Cell.own (by repeat (first | exact List.mem_cons_self | apply List.mem_cons_of_mem | apply List.mem_append_right)) rfl) rfl ?_
          refine W_buildSlice (l := ([a.k] : List Int).map (Value.int .i64)) ty22 ty3 (.cons rfl rfl rfl rfl rfl .nil) rfl rfl rfl rfl rfl rfl rfl (fun b83 => ?_)
          refine W_call (.cons rfl (.cons rfl .nil)) Try.call10 rfl ((touchI_L (bm := bm) (H := (b83, .cells 3 (1 * 1) (([a.k] : List Int).map (Value.int .i64))) :: (b11, .cells 47 2 (actC a)) :: (XB2 ++ H)) (ks := [a.k]) hO (by show last + 1 ≤ _; omega) (Holds.own (b := b83) (by repeat (first | exact List.mem_cons_self | apply List.mem_cons_of_mem | apply List.mem_append_right)))).hsub (by repeat (first | with_reducible exact HSub.refl _ | refine HSub.cons (by repeat (first | exact Take.here _ | apply Take.next | apply Take.app)) ?_ | refine HSub.app (by repeat (first | with_reducible exact TakeS.here _ | apply TakeS.next | apply TakeS.app)) ?_ | exact HSub.nil _ | exact HSub.refl _ | refine HSub.drop ?_ | refine HSub.dropS ?_))) ?_
          rintro v H' ⟨last2, l2, c3, τ2, rfl, hO2, hl2, rfl⟩
          rw [touchL_one, ht] at hO2 ⊢
          replace hl2 : last2 ≤ last + 1 := hl2
          replace hO2 : OrdIs room (drop1 m a.k ++ [a.k]) last2 l2 c3 τ2 := hO2
          refine W_move rfl rfl ?_
          refine W_bin rfl rfl b_neq rfl ?_
          refine W_nil ?_
          refine W_condF rfl rfl ?_
          refine W_skip ?_
          refine W_region ?_
          refine W_move rfl rfl ?_
          refine W_assign rfl rfl ?_
          refine W_nil ?_
          refine W_sr ?_
          refine W_move rfl rfl ?_
          have hml : ((drop1 m a.k ++ [a.k])).length ≤ 64 := Nat.le_trans hO2.le hb2
          rcases fst_or (drop1 m a.k ++ [a.k]) with ⟨f1, f2, e1, e2, e3⟩ | ⟨x, y, hx0, hy0, f1, f2, e1, e2, e3⟩
          · skip
            refine W_call (.cons rfl .nil) Try.call21 rfl ((OldestI_L (bm := bm) (H := XB2 ++ H) hO2 hb2).hsub (by repeat (first | with_reducible exact HSub.refl _ | refine HSub.cons (by repeat (first | exact Take.here _ | apply Take.next | apply Take.app)) ?_ | refine HSub.app (by repeat (first | with_reducible exact TakeS.here _ | apply TakeS.next | apply TakeS.app)) ?_ | exact HSub.nil _ | exact HSub.refl _ | refine HSub.drop ?_ | refine HSub.dropS ?_))) ?_
            rintro v H' ⟨rfl, rfl⟩
            rw [f1, e1]
            refine W_move rfl rfl ?_
            refine W_extract rfl rfl rfl ?_
            refine W_extract rfl rfl rfl ?_
            refine W_assign rfl rfl ?_
            refine W_assign rfl rfl ?_
            refine W_nil ?_
            refine W_sr ?_
            refine W_move rfl rfl ?_
            refine W_call (.cons rfl .nil) Try.call22 rfl ((NewestI_L (bm := bm) (H := XB2 ++ H) hO2 hb2).hsub (by repeat (first | with_reducible exact HSub.refl _ | refine HSub.cons (by repeat (first | exact Take.here _ | apply Take.next | apply Take.app)) ?_ | refine HSub.app (by repeat (first | with_reducible exact TakeS.here _ | apply TakeS.next | apply TakeS.app)) ?_ | exact HSub.nil _ | exact HSub.refl _ | refine HSub.drop ?_ | refine HSub.dropS ?_))) ?_
            rintro v H' ⟨rfl, rfl⟩
            rw [f2, e2]
            refine W_move rfl rfl ?_
            refine W_extract rfl rfl rfl ?_
            refine W_extract rfl rfl rfl ?_
            refine W_assign rfl rfl ?_
            refine W_assign rfl rfl ?_
            refine W_nil ?_
            refine W_seq ?_
            refine W_sr ?_
            refine W_move rfl rfl ?_
            refine W_move rfl rfl ?_
            refine W_len rfl ty22 rfl rfl ?_
            refine W_bin rfl rfl b_gtr rfl ?_
            rw [decide_eq_false (by omega)]
            refine W_bne rfl rfl ty4 rfl ?_
            refine W_move rfl rfl ?_
            refine W_gyes rfl rfl ?_
            refine W_move rfl rfl ?_
            refine W_gyes rfl rfl ?_
            refine W_move rfl rfl ?_
            refine W_gyes rfl rfl ?_
            refine W_bne rfl rfl ty4 rfl ?_
            first | refine W_pickt rfl rfl rfl ?_ | refine W_pickf rfl rfl rfl ?_
            refine W_move rfl rfl ?_
            refine W_gyes rfl rfl ?_
            refine W_move rfl rfl ?_
            refine W_gyes rfl rfl ?_
            refine W_move rfl rfl ?_
            refine W_gno rfl rfl rfl ?_
            refine W_gno rfl rfl rfl ?_
            refine W_gno rfl rfl rfl ?_
            refine W_gno rfl rfl rfl ?_
            refine W_gno rfl rfl rfl ?_
            refine W_gno rfl rfl rfl ?_
            refine W_gnou rfl rfl rfl ?_
            refine W_gnou rfl rfl rfl ?_
            refine W_gnou rfl rfl rfl ?_
            refine W_gnou rfl rfl rfl ?_
            refine W_gnou rfl rfl rfl ?_
            refine W_gnou rfl rfl rfl ?_
            refine W_gnou rfl rfl rfl ?_
            refine W_gnou rfl rfl rfl ?_
            refine W_gno rfl rfl rfl ?_
            refine W_gyes rfl rfl ?_
            first | refine W_pickt rfl rfl rfl ?_ | refine W_pickf rfl rfl rfl ?_
            first | refine W_pickt rfl rfl rfl ?_ | refine W_pickf rfl rfl rfl ?_
            refine W_move rfl rfl ?_
            refine W_gyes rfl rfl ?_
            refine W_move rfl rfl ?_
            refine W_gyes rfl rfl ?_
            refine W_not rfl rfl ?_
            refine W_gyes rfl rfl ?_
            refine W_move rfl rfl ?_
            refine W_gyes rfl rfl ?_
            refine W_move rfl rfl ?_
            refine W_gyes rfl rfl ?_
            refine W_bin rfl rfl b_neq rfl ?_
            refine W_gyes rfl rfl ?_
            refine W_move rfl rfl ?_
            refine W_gyes rfl rfl ?_
            refine W_move rfl rfl ?_
            refine W_gyes rfl rfl ?_
            refine W_bin rfl rfl b_neq rfl ?_
            refine W_gyes rfl rfl ?_
            first | refine W_pickt rfl rfl rfl ?_ | refine W_pickf rfl rfl rfl ?_
            refine W_gyes rfl rfl ?_
            first | refine W_pickt rfl rfl rfl ?_ | refine W_pickf rfl rfl rfl ?_
            first | refine W_pickt rfl rfl rfl ?_ | refine W_pickf rfl rfl rfl ?_
            refine W_nil ?_
            refine W_condF rfl rfl ?_
            refine W_skip ?_
            refine W_sr ?_
            refine W_move rfl rfl ?_
            refine W_callq (.cons rfl .nil) Try.call23 rfl (lenI_q (bm := bm) hO2 (by repeat (first | exact List.mem_cons_self | apply List.mem_cons_of_mem | apply List.mem_append_right)) (by repeat (first | exact List.mem_cons_self | apply List.mem_cons_of_mem | apply List.mem_append_right))) ?_
            refine W_move rfl rfl ?_
            refine W_len rfl ty22 rfl rfl ?_
            refine W_bin rfl rfl b_neq rfl ?_
            rw [decide_eq_false (fun h => h rfl)]
            refine W_move rfl rfl ?_
            refine W_gyes rfl rfl ?_
            refine W_move rfl rfl ?_
            refine W_gyes rfl rfl ?_
            refine W_call (.cons rfl .nil) Try.call12 rfl ((ListI_L (bm := bm) (H := XB2 ++ H) hO2 hb2).hsub (by repeat (first | with_reducible exact HSub.refl _ | refine HSub.cons (by repeat (first | exact Take.here _ | apply Take.next | apply Take.app)) ?_ | refine HSub.app (by repeat (first | with_reducible exact TakeS.here _ | apply TakeS.next | apply TakeS.app)) ?_ | exact HSub.nil _ | exact HSub.refl _ | refine HSub.drop ?_ | refine HSub.dropS ?_))) ?_
            rintro v H' ⟨sv3, XB3, rfl, hS3, rfl⟩
            obtain ⟨a3, c4, rfl, _, _, hh⟩ := Holds.of_own (w0 := w0) (H := XB3 ++ []) hS3 (fun p hp => List.mem_append_left _ hp)
            refine W_gyes rfl rfl ?_
            refine W_move rfl rfl ?_
            refine W_gyes rfl rfl ?_
            refine W_callq (.cons rfl (.cons rfl .nil)) Try.call11 rfl (same_q (l := (drop1 m a.k ++ [a.k])) (r := (drop1 m a.k ++ [a.k])) (hh.up (HSub.app (TakeS.here _) (HSub.nil _))) (hm2.up (HSub.app (TakeS.app (TakeS.next (TakeS.next (TakeS.here _)))) (HSub.nil _))) (by omega)) ?_
            rw [decide_eq_true (p := (drop1 m a.k ++ [a.k]) = (drop1 m a.k ++ [a.k])) rfl]
            refine W_gyes rfl rfl ?_
            refine W_not rfl rfl ?_
            first | refine W_pickt rfl rfl rfl ?_ | refine W_pickf rfl rfl rfl ?_
            refine W_move rfl rfl ?_
            refine W_gyes rfl rfl ?_
            refine W_move rfl rfl ?_
            refine W_gyes rfl rfl ?_
            refine W_move rfl rfl ?_
            refine W_gyes rfl rfl ?_
            refine W_callq (.cons rfl (.cons rfl .nil)) Try.call24 rfl (hasI_q (bm := bm) hO2 (by repeat (first | exact List.mem_cons_self | apply List.mem_cons_of_mem | apply List.mem_append_right)) (by repeat (first | exact List.mem_cons_self | apply List.mem_cons_of_mem | apply List.mem_append_right)) k) ?_
            refine W_gyes rfl rfl ?_
            refine W_move rfl rfl ?_
            refine W_gyes rfl rfl ?_
            refine W_move rfl rfl ?_
            refine W_gyes rfl rfl ?_
            refine W_call (.cons rfl (.cons rfl .nil)) Try.call25 rfl ((rfind_L (m := (drop1 m a.k ++ [a.k])) (k := k) (by omega) (hm2.up (HSub.app (TakeS.app (TakeS.next (TakeS.next (TakeS.here _)))) (HSub.nil _)))).hsub (.refl _)) ?_
            rintro v H' ⟨zf, rfl, hzf, hH⟩
            subst H'
            refine W_gyes rfl rfl ?_
            refine W_bin rfl rfl b_geq rfl ?_
            rw [find_is hzf]
            refine W_gyes rfl rfl ?_
            refine W_bne rfl rfl ty4 rfl ?_
            rw [bne_self]
            first | refine W_pickt rfl rfl rfl ?_ | refine W_pickf rfl rfl rfl ?_
            refine W_nil ?_
            refine W_condF rfl rfl ?_
            refine W_skip ?_
            refine W_blk ?_
            refine W_region ?_
            refine W_move rfl rfl ?_
            refine W_bin rfl rfl (b_add (m := ((i + 1 : Nat) : Int)) ((i64w (by omega)).trans (by omega))) rfl ?_
            refine W_assign rfl rfl ?_
            refine W_nil ?_
            refine W_again ⟨i + 1, last2, (drop1 m a.k ++ [a.k]), .slice a2 ((drop1 m a.k ++ [a.k])).length c2, XB2, l2, c3, τ2⟩ ⟨by show i + 1 ≤ acts.length; omega, by show i + 1 ≤ 100; omega, by show last2 ≤ i + 1; omega, hS2, hO2⟩ (by show acts.length - (i + 1) < acts.length - i; omega) (sub_cons rfl (sub_cons rfl (sub_cons rfl (sub_cons rfl (sub_cons rfl (sub_cons rfl (sub_nil _))))))) rfl (by repeat (first | with_reducible exact HSub.refl _ | refine HSub.cons (by repeat (first | exact Take.here _ | apply Take.next | apply Take.app)) ?_ | refine HSub.app (by repeat (first | with_reducible exact TakeS.here _ | apply TakeS.next | apply TakeS.app)) ?_ | exact HSub.nil _ | exact HSub.refl _ | refine HSub.drop ?_ | refine HSub.dropS ?_))
          · skip
            refine W_call (.cons rfl .nil) Try.call21 rfl ((OldestI_L (bm := bm) (H := XB2 ++ H) hO2 hb2).hsub (by repeat (first | with_reducible exact HSub.refl _ | refine HSub.cons (by repeat (first | exact Take.here _ | apply Take.next | apply Take.app)) ?_ | refine HSub.app (by repeat (first | with_reducible exact TakeS.here _ | apply TakeS.next | apply TakeS.app)) ?_ | exact HSub.nil _ | exact HSub.refl _ | refine HSub.drop ?_ | refine HSub.dropS ?_))) ?_
            rintro v H' ⟨rfl, rfl⟩
            rw [f1, e1]
            refine W_move rfl rfl ?_
            refine W_extract rfl rfl rfl ?_
            refine W_extract rfl rfl rfl ?_
            refine W_assign rfl rfl ?_
            refine W_assign rfl rfl ?_
            refine W_nil ?_
            refine W_sr ?_
            refine W_move rfl rfl ?_
            refine W_call (.cons rfl .nil) Try.call22 rfl ((NewestI_L (bm := bm) (H := XB2 ++ H) hO2 hb2).hsub (by repeat (first | with_reducible exact HSub.refl _ | refine HSub.cons (by repeat (first | exact Take.here _ | apply Take.next | apply Take.app)) ?_ | refine HSub.app (by repeat (first | with_reducible exact TakeS.here _ | apply TakeS.next | apply TakeS.app)) ?_ | exact HSub.nil _ | exact HSub.refl _ | refine HSub.drop ?_ | refine HSub.dropS ?_))) ?_
            rintro v H' ⟨rfl, rfl⟩
            rw [f2, e2]
            refine W_move rfl rfl ?_
            refine W_extract rfl rfl rfl ?_
            refine W_extract rfl rfl rfl ?_
            refine W_assign rfl rfl ?_
            refine W_assign rfl rfl ?_
            refine W_nil ?_
            refine W_seq ?_
            refine W_sr ?_
            refine W_move rfl rfl ?_
            refine W_move rfl rfl ?_
            refine W_len rfl ty22 rfl rfl ?_
            refine W_bin rfl rfl b_gtr rfl ?_
            rw [decide_eq_true (by omega)]
            refine W_bne rfl rfl ty4 rfl ?_
            refine W_move rfl rfl ?_
            refine W_gyes rfl rfl ?_
            refine W_move rfl rfl ?_
            refine W_gyes rfl rfl ?_
            refine W_move rfl rfl ?_
            refine W_gyes rfl rfl ?_
            refine W_bne rfl rfl ty4 rfl ?_
            first | refine W_pickt rfl rfl rfl ?_ | refine W_pickf rfl rfl rfl ?_
            refine W_move rfl rfl ?_
            refine W_gyes rfl rfl ?_
            refine W_move rfl rfl ?_
            refine W_gyes rfl rfl ?_
            refine W_move rfl rfl ?_
            refine W_gyes rfl rfl ?_
            obtain ⟨q0, p0, rfl, hc0⟩ := hm2.at (i := 0) (v := .int .i64 x) (by rw [List.getElem?_map, hx0]; rfl)
            obtain ⟨q1, p1, ee, hc1⟩ := hm2.at (i := ((drop1 m a.k ++ [a.k])).length - 1) (v := .int .i64 y) (by rw [List.getElem?_map, hy0]; rfl)
            cases ee
            refine W_move rfl rfl ?_
            refine W_gyes rfl rfl ?_
            refine W_move rfl rfl ?_
            refine W_gyes rfl rfl ?_
            refine W_indexAddr (j := 0) rfl rfl ty22 ty3 rfl (by omega) rfl rfl ?_
            refine W_gyes rfl rfl ?_
            refine W_load (v := .int .i64 x) rfl ty3 rfl (by rw [Nat.mul_one]; exact hc0.up (by repeat (first | with_reducible exact HSub.refl _ | refine HSub.cons (by repeat (first | exact Take.here _ | apply Take.next | apply Take.app)) ?_ | refine HSub.app (by repeat (first | with_reducible exact TakeS.here _ | apply TakeS.next | apply TakeS.app)) ?_ | exact HSub.nil _ | exact HSub.refl _ | refine HSub.drop ?_ | refine HSub.dropS ?_))) rfl ?_
            refine W_gyes rfl rfl ?_
            refine W_bin rfl rfl b_neq rfl ?_
            rw [decide_eq_false (fun h => h rfl)]
            refine W_gyes rfl rfl ?_
            refine W_move rfl rfl ?_
            refine W_gyes rfl rfl ?_
            refine W_move rfl rfl ?_
            refine W_gyes rfl rfl ?_
            refine W_move rfl rfl ?_
            refine W_gyes rfl rfl ?_
            refine W_move rfl rfl ?_
            refine W_gyes rfl rfl ?_
            refine W_len rfl ty22 rfl rfl ?_
            refine W_gyes rfl rfl ?_
            refine W_bin rfl rfl (b_sub (m := ((((drop1 m a.k ++ [a.k])).length - 1 : Nat) : Int)) ((i64w (by omega)).trans (by omega))) rfl ?_
            refine W_gyes rfl rfl ?_
            refine W_indexAddr (j := ((drop1 m a.k ++ [a.k])).length - 1) rfl rfl ty22 ty3 rfl (by omega) rfl rfl ?_
            refine W_gyes rfl rfl ?_
            refine W_load (v := .int .i64 y) rfl ty3 rfl (by rw [Nat.mul_one]; exact hc1.up (by repeat (first | with_reducible exact HSub.refl _ | refine HSub.cons (by repeat (first | exact Take.here _ | apply Take.next | apply Take.app)) ?_ | refine HSub.app (by repeat (first | with_reducible exact TakeS.here _ | apply TakeS.next | apply TakeS.app)) ?_ | exact HSub.nil _ | exact HSub.refl _ | refine HSub.drop ?_ | refine HSub.dropS ?_))) rfl ?_
            refine W_gyes rfl rfl ?_
            refine W_bin rfl rfl b_neq rfl ?_
            rw [decide_eq_false (fun h => h rfl)]
            refine W_gyes rfl rfl ?_
            first | refine W_pickt rfl rfl rfl ?_ | refine W_pickf rfl rfl rfl ?_
            refine W_gyes rfl rfl ?_
            first | refine W_pickt rfl rfl rfl ?_ | refine W_pickf rfl rfl rfl ?_
            first | refine W_pickt rfl rfl rfl ?_ | refine W_pickf rfl rfl rfl ?_
            refine W_move rfl rfl ?_
            refine W_gyes rfl rfl ?_
            refine W_move rfl rfl ?_
            refine W_gyes rfl rfl ?_
            refine W_not rfl rfl ?_
            refine W_gyes rfl rfl ?_
            refine W_move rfl rfl ?_
            refine W_gno rfl rfl rfl ?_
            refine W_gno rfl rfl rfl ?_
            refine W_gno rfl rfl rfl ?_
            refine W_gnou rfl rfl rfl ?_
            refine W_gnou rfl rfl rfl ?_
            refine W_gno rfl rfl rfl ?_
            refine W_gyes rfl rfl ?_
            first | refine W_pickt rfl rfl rfl ?_ | refine W_pickf rfl rfl rfl ?_
            first | refine W_pickt rfl rfl rfl ?_ | refine W_pickf rfl rfl rfl ?_
            refine W_nil ?_
            refine W_condF rfl rfl ?_
            refine W_skip ?_
            refine W_sr ?_
            refine W_move rfl rfl ?_
            refine W_callq (.cons rfl .nil) Try.call23 rfl (lenI_q (bm := bm) hO2 (by repeat (first | exact List.mem_cons_self | apply List.mem_cons_of_mem | apply List.mem_append_right)) (by repeat (first | exact List.mem_cons_self | apply List.mem_cons_of_mem | apply List.mem_append_right))) ?_
            refine W_move rfl rfl ?_
            refine W_len rfl ty22 rfl rfl ?_
            refine W_bin rfl rfl b_neq rfl ?_
            rw [decide_eq_false (fun h => h rfl)]
            refine W_move rfl rfl ?_
            refine W_gyes rfl rfl ?_
            refine W_move rfl rfl ?_
            refine W_gyes rfl rfl ?_
            refine W_call (.cons rfl .nil) Try.call12 rfl ((ListI_L (bm := bm) (H := XB2 ++ H) hO2 hb2).hsub (by repeat (first | with_reducible exact HSub.refl _ | refine HSub.cons (by repeat (first | exact Take.here _ | apply Take.next | apply Take.app)) ?_ | refine HSub.app (by repeat (first | with_reducible exact TakeS.here _ | apply TakeS.next | apply TakeS.app)) ?_ | exact HSub.nil _ | exact HSub.refl _ | refine HSub.drop ?_ | refine HSub.dropS ?_))) ?_
            rintro v H' ⟨sv3, XB3, rfl, hS3, rfl⟩
            obtain ⟨a3, c4, rfl, _, _, hh⟩ := Holds.of_own (w0 := w0) (H := XB3 ++ []) hS3 (fun p hp => List.mem_append_left _ hp)
            refine W_gyes rfl rfl ?_
            refine W_move rfl rfl ?_
            refine W_gyes rfl rfl ?_
            refine W_callq (.cons rfl (.cons rfl .nil)) Try.call11 rfl (same_q (l := (drop1 m a.k ++ [a.k])) (r := (drop1 m a.k ++ [a.k])) (hh.up (HSub.app (TakeS.here _) (HSub.nil _))) (hm2.up (HSub.app (TakeS.app (TakeS.next (TakeS.next (TakeS.here _)))) (HSub.nil _))) (by omega)) ?_
            rw [decide_eq_true (p := (drop1 m a.k ++ [a.k]) = (drop1 m a.k ++ [a.k])) rfl]
            refine W_gyes rfl rfl ?_
            refine W_not rfl rfl ?_
            first | refine W_pickt rfl rfl rfl ?_ | refine W_pickf rfl rfl rfl ?_
            refine W_move rfl rfl ?_
            refine W_gyes rfl rfl ?_
            refine W_move rfl rfl ?_
            refine W_gyes rfl rfl ?_
            refine W_move rfl rfl ?_
            refine W_gyes rfl rfl ?_
            refine W_callq (.cons rfl (.cons rfl .nil)) Try.call24 rfl (hasI_q (bm := bm) hO2 (by repeat (first | exact List.mem_cons_self | apply List.mem_cons_of_mem | apply List.mem_append_right)) (by repeat (first | exact List.mem_cons_self | apply List.mem_cons_of_mem | apply List.mem_append_right)) k) ?_
            refine W_gyes rfl rfl ?_
            refine W_move rfl rfl ?_
            refine W_gyes rfl rfl ?_
            refine W_move rfl rfl ?_
            refine W_gyes rfl rfl ?_
            refine W_call (.cons rfl (.cons rfl .nil)) Try.call25 rfl ((rfind_L (m := (drop1 m a.k ++ [a.k])) (k := k) (by omega) (hm2.up (HSub.app (TakeS.app (TakeS.next (TakeS.next (TakeS.here _)))) (HSub.nil _)))).hsub (.refl _)) ?_
            rintro v H' ⟨zf, rfl, hzf, hH⟩
            subst H'
            refine W_gyes rfl rfl ?_
            refine W_bin rfl rfl b_geq rfl ?_
            rw [find_is hzf]
            refine W_gyes rfl rfl ?_
            refine W_bne rfl rfl ty4 rfl ?_
            rw [bne_self]
            first | refine W_pickt rfl rfl rfl ?_ | refine W_pickf rfl rfl rfl ?_
            refine W_nil ?_
            refine W_condF rfl rfl ?_
            refine W_skip ?_
            refine W_blk ?_
            refine W_region ?_
            refine W_move rfl rfl ?_
            refine W_bin rfl rfl (b_add (m := ((i + 1 : Nat) : Int)) ((i64w (by omega)).trans (by omega))) rfl ?_
            refine W_assign rfl rfl ?_
            refine W_nil ?_
            refine W_again ⟨i + 1, last2, (drop1 m a.k ++ [a.k]), .slice (some ⟨q0, p0, none⟩) ((drop1 m a.k ++ [a.k])).length c2, XB2, l2, c3, τ2⟩ ⟨by show i + 1 ≤ acts.length; omega, by show i + 1 ≤ 100; omega, by show last2 ≤ i + 1; omega, hS2, hO2⟩ (by show acts.length - (i + 1) < acts.length - i; omega) (sub_cons rfl (sub_cons rfl (sub_cons rfl (sub_cons rfl (sub_cons rfl (sub_cons rfl (sub_nil _))))))) rfl (by repeat (first | with_reducible exact HSub.refl _ | refine HSub.cons (by repeat (first | exact Take.here _ | apply Take.next | apply Take.app)) ?_ | refine HSub.app (by repeat (first | with_reducible exact TakeS.here _ | apply TakeS.next | apply TakeS.app)) ?_ | exact HSub.nil _ | exact HSub.refl _ | refine HSub.drop ?_ | refine HSub.dropS ?_))
    · skip
      refine W_exit rfl ?_
      refine W_sr ?_
      refine W_callp .nil Try.call9 rfl (T := fun _ => True) trivial known_pure ?_
      refine W_assign rfl rfl ?_
      refine W_nil ?_
      refine W_ret1m (H2 := H) Try.results5 rfl (.nil _) (by repeat (first | with_reducible exact HSub.refl _ | refine HSub.cons (by repeat (first | exact Take.here _ | apply Take.next | apply Take.app)) ?_ | refine HSub.app (by repeat (first | with_reducible exact TakeS.here _ | apply TakeS.next | apply TakeS.app)) ?_ | exact HSub.nil _ | exact HSub.refl _ | refine HSub.drop ?_ | refine HSub.dropS ?_)) ?_
      exact ⟨rfl, rfl⟩
end Go.Proofs.Ytknbohnoiigioaa
