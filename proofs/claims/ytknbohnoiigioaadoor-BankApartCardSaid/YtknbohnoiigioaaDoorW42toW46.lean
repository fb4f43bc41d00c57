/-
  Own work: contracts of functions that the statement reaches, and plain facts on what they compute; each theorem says its conditions.
-/
import Derived.Test.YtknbohnoiigioaaDoorW39toW41
import Derived.Test.YtknbohnoiigioaaDoorSlRdtoSlFast
import Derived.Test.YtknbohnoiigioaaDoorSlHeaptoSlCut
set_option linter.all false
set_option linter.unusedSimpArgs false
set_option linter.unusedVariables false
namespace Go.Proofs.YtknbohnoiigioaaDoor
open Go Go.Sl
attribute [local irreducible] W
/-- on the way to a tick, one timer at a time -/
structure Goi (a : Nat) (L Li O : List Tm) : Prop where
  mem : ∀ t ∈ O, t ∈ L ∧ t.s.due ≤ a
  left : Li = L.filter (fun t => decide (t ∉ O))
  nodup : O.Nodup
  asc : O.Pairwise ahead
  cross : ∀ o ∈ O, ∀ t ∈ Li, ahead o t
theorem Goi.start {a : Nat} {L : List Tm} : Goi a L L [] :=
  ⟨fun t h => (by cases h), (List.filter_eq_self.2 fun t _ => by simp).symm, .nil, .nil, fun o h => (by cases h)⟩
theorem Goi.sub {a : Nat} {L Li O : List Tm} (h : Goi a L Li O) : List.Sublist Li L := by rw [h.left]; exact List.filter_sublist
theorem nodup_le {α : Type} [DecidableEq α] : ∀ {a b : List α}, a.Nodup → (∀ x ∈ a, x ∈ b) → a.length ≤ b.length
  | [], _, _, _ => Nat.zero_le _
  | x :: a, b, hn, h => by
    have hn' := List.nodup_cons.1 hn
    have hx := h x List.mem_cons_self
    have := nodup_le (a := a) (b := b.erase x) hn'.2 (fun y hy => (List.mem_erase_of_ne (fun e : y = x => hn'.1 (e ▸ hy))).2 (h y (List.mem_cons_of_mem _ hy)))
    rw [List.length_erase_of_mem hx] at this
    have : 0 < b.length := List.length_pos_of_mem hx
    simp only [List.length_cons]; omega
theorem Goi.len {a : Nat} {L Li O : List Tm} (h : Goi a L Li O) : O.length ≤ L.length := nodup_le h.nodup fun t ht => (h.mem t ht).1
theorem Goi.step {a i : Nat} {L Li O : List Tm} {t : Tm} (h : Goi a L Li O) (hn : (L.map (·.id)).Nodup) (ht : L.Pairwise (fun x y => x.turn < y.turn)) (hi : Li[i]? = some t) (hle : ∀ u ∈ Li, t.s.due ≤ u.s.due) (hf : ∀ (j : Nat) u, j < i → Li[j]? = some u → t.s.due < u.s.due) (hd : t.s.due ≤ a) : Goi a L (delT Li t.id) (O ++ [t]) := by
  have hin := List.mem_of_getElem? hi
  have hL := h.sub.subset hin
  have hno : t ∉ O := by rw [h.left] at hin; exact of_decide_eq_true (List.mem_filter.1 hin).2
  have hLn : (Li.map (·.id)).Nodup := hn.sublist (h.sub.map _)
  have hLt : Li.Pairwise (fun x y => x.turn < y.turn) := ht.sublist h.sub
  refine ⟨fun u hu => (List.mem_append.1 hu).elim (h.mem u) (fun h => by rw [List.mem_singleton.1 h]; exact ⟨hL, hd⟩), ?_, ?_, ?_, ?_⟩
  · unfold delT
    conv => lhs; rw [h.left]
    rw [List.filter_filter]
    refine List.filter_congr fun u hu => ?_
    rw [← Bool.decide_and]
    refine decide_eq_decide.2 ⟨fun ⟨h1, h2⟩ h3 => ?_, fun h1 => ⟨fun e => h1 ?_, fun h2 => h1 (List.mem_append_left _ h2)⟩⟩
    · rcases List.mem_append.1 h3 with h3 | h3
      · exact h2 h3
      · exact h1 (by rw [List.mem_singleton.1 h3])
    · rw [tm_uniq hn hu hL e]; exact List.mem_append_right _ List.mem_cons_self
  · rw [List.nodup_append]
    exact ⟨h.nodup, by simp, fun x hx y hy e => hno (by rw [← List.mem_singleton.1 hy, ← e]; exact hx)⟩
  · rw [List.pairwise_append]
    exact ⟨h.asc, List.pairwise_singleton _ _, fun x hx y hy => by rw [List.mem_singleton.1 hy]; exact h.cross x hx t hin⟩
  · intro o ho u hu
    obtain ⟨hu1, hu2⟩ := List.mem_filter.1 hu
    rcases List.mem_append.1 ho with ho | ho
    · exact h.cross o ho u hu1
    · rw [List.mem_singleton.1 ho]
      have h1 := hle u hu1
      by_cases e : t.s.due = u.s.due
      · refine .inr ⟨e, ?_⟩
        obtain ⟨j, hj, ej⟩ := List.getElem_of_mem hu1
        have hij : i < j := by
          rcases Nat.lt_trichotomy j i with c | c | c
          · have := hf j u c (by rw [List.getElem?_eq_getElem hj, ej]); omega
          · subst c
            rw [List.getElem?_eq_getElem hj, ej] at hi
            exact absurd (congrArg Tm.id (Option.some.inj hi)) (of_decide_eq_true hu2)
          · exact c
        have hi2 := (List.getElem?_eq_some_iff.1 hi)
        have := List.pairwise_iff_getElem.1 hLt i j hi2.1 hj hij
        rwa [hi2.2, ej] at this
      · exact .inl (by omega)
theorem Goi.done {now a : Nat} {L Li O : List Tm} (h : Goi a L Li O) (hn : (L.map (·.id)).Nodup) (hle : now ≤ a) (hl : ∀ t ∈ Li, a < t.s.due) : Gone now a L Li O := by
  have hiff : ∀ t ∈ L, (t ∉ O ↔ a < t.s.due) := fun t ht => ⟨fun h1 => hl t (by rw [h.left]; exact List.mem_filter.2 ⟨ht, decide_eq_true h1⟩), fun h1 h2 => by have := (h.mem t h2).2; omega⟩
  have hLn : L.Nodup := List.Pairwise.of_map _ (fun a b h e => h (congrArg Tm.id e)) hn
  refine ⟨hle, ?_, ?_, h.asc⟩
  · rw [h.left]
    exact List.filter_congr fun t ht => decide_eq_decide.2 (hiff t ht)
  · refine (List.perm_ext_iff_of_nodup h.nodup (hLn.sublist List.filter_sublist)).2 fun t => ⟨fun h1 => List.mem_filter.2 ⟨(h.mem t h1).1, decide_eq_true (h.mem t h1).2⟩, fun h1 => ?_⟩
    obtain ⟨h2, h3⟩ := List.mem_filter.1 h1
    have := of_decide_eq_true h3
    by_cases c : t ∈ O
    · exact c
    · have := (hiff t h2).1 c; omega
structure RtS where
  Li : List Tm
  O : List Tm
  v : Value
  XO : Heap
  ad : Option Addr
  cap : Nat
  XR : Heap
  z : Int
set_option maxHeartbeats 1000000 in
theorem rTo_stay {w0 : World} {H : Heap} {now cap : Nat} {L : List Tm} {ad : Option Addr} (hl : L.length ≤ 1000000) (hrow : Holds w0 H ad (rowT L)) {a : Nat} (ha : a ≤ now)  : PureAt Tryd.prog w0 H 47 [.agg (List.toArray [.int .u64 ((now : Nat) : Int), .slice ad L.length cap]), .int .u64 ((a : Nat) : Int)] (.tuple #[.agg (List.toArray [.int .u64 ((now : Nat) : Int), .slice ad L.length cap]), .slice none 0 0]) := by
  refine L_enter Tryd.func47 rfl Tryd.ntmps47 rfl rfl ?_
  refine W_sr ?_
  refine W_box (l := [.int .u64 ((now : Nat) : Int), .slice ad L.length cap]) rfl rfl rfl (fun b2 => ?_)
  refine W_alloc (l := [.int .u64 0, .slice none 0 0]) ty80 rfl rfl (fun b4 => ?_)
  refine W_assign rfl rfl ?_
  refine W_nil ?_
  refine W_sr ?_
  refine W_assign rfl rfl ?_
  refine W_nil ?_
  refine W_seq ?_
  refine W_sr ?_
  refine W_move rfl rfl ?_
  refine W_fieldAddr rfl fld80_0 (by decide) rfl ?_
  refine W_load rfl ty22 rfl (Cell.own (by repeat (first | exact List.mem_cons_self | apply List.mem_cons_of_mem | apply List.mem_append_right)) rfl) rfl ?_
  refine W_bin rfl rfl b_leq rfl ?_
  refine W_nil ?_
  refine W_condT rfl (decide_eq_true (by omega)) ?_
  refine W_sr ?_
  refine W_loadB (vs := [.int .u64 ((now : Nat) : Int), .slice ad L.length cap]) rfl ty80 rfl (b := b2) (by repeat (first | exact List.mem_cons_self | apply List.mem_cons_of_mem | apply List.mem_append_right)) rfl rfl rfl ?_
  refine W_move rfl rfl ?_
  refine W_storeA (l' := [.int .u64 ((now : Nat) : Int), .slice ad L.length cap]) rfl rfl ty80 rfl rfl (b := b4) (by repeat (first | exact List.mem_cons_self | apply List.mem_cons_of_mem | apply List.mem_append_right)) (by exact Nat.le_refl 2) rfl (by repeat (first | exact Upd.head _ | apply Upd.tail | apply Upd.app)) ?_
  refine W_assign rfl rfl ?_
  refine W_nil ?_
  refine W_ret2G (H2 := H) Tryd.results47 (.nil _) (.own rfl ty80 rfl (by repeat (first | exact List.mem_cons_self | apply List.mem_cons_of_mem | apply List.mem_append_right)) rfl) (.tmp rfl) (by repeat (first | with_reducible exact HSub.refl _ | refine HSub.cons (by repeat (first | exact Take.here _ | apply Take.next | apply Take.app)) ?_ | refine HSub.app (by repeat (first | with_reducible exact TakeS.here _ | apply TakeS.next | apply TakeS.app)) ?_ | exact HSub.nil _ | exact HSub.refl _ | refine HSub.drop ?_ | refine HSub.dropS ?_)) ?_
  exact ⟨rfl, rfl⟩
theorem delT_lt {L : List Tm} {t : Tm} (h : t ∈ L) : (delT L t.id).length < L.length := List.length_filter_lt_length_iff_exists.2 ⟨t, h, by simp⟩
set_option maxHeartbeats 4000000 in
theorem rTo_go {w0 : World} {H : Heap} {HR : Heap} {now cap : Nat} {L : List Tm} {ad : Option Addr} (hl : L.length ≤ 1000000) (hrow : Holds w0 HR ad (rowT L)) (hHR : HSub H HR) {a : Nat} (hcap : L.length ≤ cap) (hlt : now < a) (hn : (L.map (·.id)).Nodup) (ht : L.Pairwise (fun x y => x.turn < y.turn))  : LCalls Tryd.prog w0 47 #[.agg (List.toArray [.int .u64 ((now : Nat) : Int), .slice ad L.length cap]), .int .u64 ((a : Nat) : Int)] (H) (fun v H' => ∃ (Li O : List Tm) (ov : Value) (ad' : Option Addr) (cap' : Nat) (XR XO : Heap), v = .tuple #[.agg (List.toArray [.int .u64 ((a : Nat) : Int), .slice ad' Li.length cap']), ov] ∧ Gone now a L Li O ∧ Li.length ≤ cap' ∧ Holds w0 (XR ++ HR) ad' (rowT Li) ∧ OwnS 3 1 ov O.length ((O.map (·.id)).map (Value.int .i64)) XO ∧ H' = XO ++ (XR ++ H)) := by
  refine L_enter (l := [.agg (List.toArray [.int .u64 ((now : Nat) : Int), .slice ad L.length cap]), .int .u64 ((a : Nat) : Int)]) Tryd.func47 rfl Tryd.ntmps47 rfl rfl ?_
  refine W_sr ?_
  refine W_box (l := [.int .u64 ((now : Nat) : Int), .slice ad L.length cap]) rfl rfl rfl (fun b2 => ?_)
  refine W_alloc (l := [.int .u64 0, .slice none 0 0]) ty80 rfl rfl (fun b4 => ?_)
  refine W_assign rfl rfl ?_
  refine W_nil ?_
  refine W_sr ?_
  refine W_assign rfl rfl ?_
  refine W_nil ?_
  refine W_seq ?_
  refine W_sr ?_
  refine W_move rfl rfl ?_
  refine W_fieldAddr rfl fld80_0 (by decide) rfl ?_
  refine W_load rfl ty22 rfl (Cell.own (by repeat (first | exact List.mem_cons_self | apply List.mem_cons_of_mem | apply List.mem_append_right)) rfl) rfl ?_
  refine W_bin rfl rfl b_leq rfl ?_
  refine W_nil ?_
  refine W_condF rfl (decide_eq_false (by omega)) ?_
  refine W_skip ?_
  refine W_sr ?_
  refine W_loadB (vs := [.int .u64 ((now : Nat) : Int), .slice ad L.length cap]) rfl ty80 rfl (b := b2) (by repeat (first | exact List.mem_cons_self | apply List.mem_cons_of_mem | apply List.mem_append_right)) rfl rfl rfl ?_
  refine W_call (.cons rfl .nil) Tryd.call48 rfl ((rNext_L (now := now) (cap := cap) (ad := ad) (L := L) hl (hrow.up ((show HSub _ H from (by repeat (first | with_reducible exact HSub.refl _ | refine HSub.cons (by repeat (first | exact Take.here _ | apply Take.next | apply Take.app)) ?_ | refine HSub.app (by repeat (first | with_reducible exact TakeS.here _ | apply TakeS.next | apply TakeS.app)) ?_ | exact HSub.nil _ | exact HSub.refl _ | refine HSub.drop ?_ | refine HSub.dropS ?_))).trans hHR))).hsub (.refl _)) ?_
  rintro v H' ⟨z0, rfl, hB0, rfl⟩
  refine W_assign rfl rfl ?_
  refine W_nil ?_
  refine W_seq ?_
  refine W_block ?_
  refine W_loopC (X := RtS) [(1, _), (2, _), (4, _)] (fun (x : RtS) => [(6, x.v), (7, .int .i64 x.z)]) (fun _ => _) (fun (x : RtS) => (b4, .cells 80 2 [.int .u64 0, .slice none 0 0]) :: (b2, .cells 80 2 [.int .u64 ((now : Nat) : Int), .slice x.ad (x.Li).length x.cap]) :: (x.XO ++ (x.XR ++ H))) (fun (x : RtS) => Holds w0 (x.XR ++ HR) x.ad (rowT x.Li) ∧ x.Li.length ≤ x.cap ∧ BestT x.Li x.z ∧ OwnS 3 1 x.v x.O.length ((x.O.map (·.id)).map (Value.int .i64)) x.XO ∧ Goi a L x.Li x.O) (fun (x : RtS) => x.Li.length) ⟨L, [], .slice none 0 0, [], ad, cap, [], z0⟩ ⟨hrow, hcap, hB0, .nil, .start⟩ (sub_cons rfl (sub_cons rfl (sub_cons rfl (sub_nil _)))) (sub_cons rfl (sub_cons rfl (sub_nil _))) rfl (.refl _) ?_
  rintro ⟨Li, O, v, XO, ad, cap, XR, z⟩ ⟨hrw, hcp, hB, hO, hG⟩
  dsimp only at hrw hcp hB hO hG ⊢
  have hLl := hG.sub.length_le
  have hOl := hG.len
  simp only [List.cons_append, List.nil_append]
  refine W_seq ?_
  refine W_sr ?_
  rcases hB with ⟨rfl, hnil⟩ | ⟨i, t, rfl, hti, hle, hfirst⟩
  · skip
    refine W_move rfl rfl ?_
    refine W_bin rfl rfl b_geq rfl ?_
    first | rw [decide_eq_true (by omega)] | rw [decide_eq_false (by omega)]
    refine W_move rfl rfl ?_
    refine W_gno rfl rfl rfl ?_
    refine W_gno rfl rfl rfl ?_
    refine W_gno rfl rfl rfl ?_
    refine W_gno rfl rfl rfl ?_
    refine W_gno rfl rfl rfl ?_
    refine W_gno rfl rfl rfl ?_
    refine W_gno rfl rfl rfl ?_
    refine W_gno rfl rfl rfl ?_
    refine W_gno rfl rfl rfl ?_
    first | refine W_pickt rfl rfl rfl ?_ | refine W_pickf rfl rfl rfl ?_
    refine W_nil ?_
    refine W_condF rfl rfl ?_
    refine W_exit rfl ?_
    refine W_sr ?_
    refine W_move rfl rfl ?_
    refine W_fieldAddr rfl fld80_1 (by decide) rfl ?_
    refine W_load rfl ty78 rfl (Cell.own (by repeat (first | exact List.mem_cons_self | apply List.mem_cons_of_mem | apply List.mem_append_right)) rfl) rfl ?_
    refine W_build (l := [.int .u64 ((a : Nat) : Int), .slice ad Li.length cap]) ty80 pl80 (.cons rfl rfl rfl rfl rfl (.cons rfl rfl rfl rfl rfl .nil)) rfl rfl rfl ?_
    refine W_move rfl rfl ?_
    refine W_storeA (l' := [.int .u64 ((a : Nat) : Int), .slice ad Li.length cap]) rfl rfl ty80 rfl rfl (b := b4) (by repeat (first | exact List.mem_cons_self | apply List.mem_cons_of_mem | apply List.mem_append_right)) (by exact Nat.le_refl 2) rfl (by repeat (first | exact Upd.head _ | apply Upd.tail | apply Upd.app)) ?_
    refine W_assign rfl rfl ?_
    refine W_nil ?_
    refine W_ret2G (H2 := XO ++ (XR ++ H)) Tryd.results47 (.nil _) (.own rfl ty80 rfl (by repeat (first | exact List.mem_cons_self | apply List.mem_cons_of_mem | apply List.mem_append_right)) rfl) (.tmp rfl) (by repeat (first | with_reducible exact HSub.refl _ | refine HSub.cons (by repeat (first | exact Take.here _ | apply Take.next | apply Take.app)) ?_ | refine HSub.app (by repeat (first | with_reducible exact TakeS.here _ | apply TakeS.next | apply TakeS.app)) ?_ | exact HSub.nil _ | exact HSub.refl _ | refine HSub.drop ?_ | refine HSub.dropS ?_)) ?_
    have hfin : ∀ u ∈ Li, a < u.s.due := by rw [hnil]; intro u hu; cases hu
    exact ⟨Li, O, v, _, cap, XR, XO, rfl, hG.done hn (by omega) hfin, hcp, hrw, hO, rfl⟩
  · skip
    have hil := (List.getElem?_eq_some_iff.1 hti).1
    obtain ⟨q0_, p0_, rfl, hc⟩ := Holds.row tmC_len (by decide) hrw hti
    refine W_move rfl rfl ?_
    refine W_bin rfl rfl b_geq rfl ?_
    first | rw [decide_eq_true (by omega)] | rw [decide_eq_false (by omega)]
    refine W_move rfl rfl ?_
    refine W_gyes rfl rfl ?_
    refine W_fieldAddr rfl fld80_1 (by decide) rfl ?_
    refine W_gyes rfl rfl ?_
    refine W_load rfl ty78 rfl (Cell.own (by repeat (first | exact List.mem_cons_self | apply List.mem_cons_of_mem | apply List.mem_append_right)) rfl) rfl ?_
    refine W_gyes rfl rfl ?_
    refine W_move rfl rfl ?_
    refine W_gyes rfl rfl ?_
    refine W_indexAddr (j := i) rfl rfl ty78 ty77 rfl (by omega) rfl rfl ?_
    refine W_gyes rfl rfl ?_
    refine W_fieldAddr rfl fld77_1 (by decide) rfl ?_
    refine W_gyes rfl rfl ?_
    refine W_fieldAddr rfl fld65_3 (by decide) rfl ?_
    refine W_gyes rfl rfl ?_
    refine W_load (v := .int .u64 (t.s.due : Int)) rfl ty22 rfl ((hc 4 (.int .u64 (t.s.due : Int)) rfl).up ((show HSub _ (XR ++ H) from (by repeat (first | with_reducible exact HSub.refl _ | refine HSub.cons (by repeat (first | exact Take.here _ | apply Take.next | apply Take.app)) ?_ | refine HSub.app (by repeat (first | with_reducible exact TakeS.here _ | apply TakeS.next | apply TakeS.app)) ?_ | exact HSub.nil _ | exact HSub.refl _ | refine HSub.drop ?_ | refine HSub.dropS ?_))).trans (HSub.app (TakeS.here _) hHR))) rfl ?_
    refine W_gyes rfl rfl ?_
    refine W_move rfl rfl ?_
    refine W_gyes rfl rfl ?_
    refine W_bin rfl rfl b_leq rfl ?_
    first | refine W_pickt rfl rfl rfl ?_ | refine W_pickf rfl rfl rfl ?_
    refine W_nil ?_
    refine W_condPS (p := t.s.due ≤ a) rfl (by rw [decide_eq_true_eq]; exact Int.ofNat_le) (fun q0 => ?_) (fun q0 => ?_)
    · skip
      refine W_skip ?_
      refine W_block ?_
      refine W_sr ?_
      refine W_move rfl rfl ?_
      refine W_fieldAddr rfl fld80_1 (by decide) rfl ?_
      refine W_load rfl ty78 rfl (Cell.own (by repeat (first | exact List.mem_cons_self | apply List.mem_cons_of_mem | apply List.mem_append_right)) rfl) rfl ?_
      refine W_move rfl rfl ?_
      refine W_indexAddr (j := i) rfl rfl ty78 ty77 rfl (by omega) rfl rfl ?_
      refine W_fieldAddr rfl fld77_0 (by decide) rfl ?_
      refine W_load (v := .int .i64 t.id) rfl ty3 rfl ((hc 0 (.int .i64 t.id) rfl).up ((show HSub _ (XR ++ H) from (by repeat (first | with_reducible exact HSub.refl _ | refine HSub.cons (by repeat (first | exact Take.here _ | apply Take.next | apply Take.app)) ?_ | refine HSub.app (by repeat (first | with_reducible exact TakeS.here _ | apply TakeS.next | apply TakeS.app)) ?_ | exact HSub.nil _ | exact HSub.refl _ | refine HSub.drop ?_ | refine HSub.dropS ?_))).trans (HSub.app (TakeS.here _) hHR))) rfl ?_
      refine W_buildSlice (l := [.int .i64 t.id]) ty35 ty3 (.cons rfl rfl rfl rfl rfl .nil) rfl rfl rfl rfl rfl rfl rfl (fun b36 => ?_)
      refine W_append (news := [.int .i64 t.id]) (m := 1) (HB := XO) (H0 := (b36, .cells 3 1 [.int .i64 t.id]) :: (b2, .cells 80 2 [.int .u64 ((now : Nat) : Int), .slice (some ⟨q0_, p0_, none⟩) (Li).length cap]) :: (b4, .cells 80 2 [.int .u64 0, .slice none 0 0]) :: (XR ++ H)) rfl rfl ty35 ty3 rfl (by decide) hO rfl (Holds.own (by repeat (first | exact List.mem_cons_self | apply List.mem_cons_of_mem | apply List.mem_append_right))) rfl (by simp only [maxLen]; omega) (by omega) (by repeat (first | with_reducible exact HSub.refl _ | refine HSub.cons (by repeat (first | exact Take.here _ | apply Take.next | apply Take.app)) ?_ | refine HSub.app (by repeat (first | with_reducible exact TakeS.here _ | apply TakeS.next | apply TakeS.app)) ?_ | exact HSub.nil _ | exact HSub.refl _ | refine HSub.drop ?_ | refine HSub.dropS ?_)) rfl (fun v' XO' hO' => ?_)
      refine W_assign rfl rfl ?_
      refine W_nil ?_
      refine W_seq ?_
      refine W_anyS ((b2, .cells 80 2 [.int .u64 ((now : Nat) : Int), .slice (some ⟨q0_, p0_, none⟩) (Li).length cap]) :: (XR ++ H)) 11 (by kernel_rfl) ?_
      refine WS_take 0 (l' := #[true, false, false, false, false, false, false, false, false, false, false, false]) rfl rfl (by decide +kernel) (by decide +kernel) (by decide +kernel) (by decide +kernel) rfl (by decide +kernel) (X_loadB (vs := [.int .u64 ((now : Nat) : Int), .slice (some ⟨q0_, p0_, none⟩) Li.length cap]) rfl ty80 rfl (b := b2) (by repeat (first | exact List.mem_cons_self | apply List.mem_cons_of_mem | apply List.mem_append_right)) rfl rfl) rfl ?_
      refine WS_take 1 (l' := #[true, true, false, false, false, false, false, false, false, false, false, false]) rfl rfl (by decide +kernel) (by decide +kernel) (by decide +kernel) (by decide +kernel) rfl (by decide +kernel) (X_fieldAddr rfl fld80_1 (by decide)) rfl ?_
      refine WS_take 2 (l' := #[true, true, true, false, false, false, false, false, false, false, false, false]) rfl rfl (by decide +kernel) (by decide +kernel) (by decide +kernel) (by decide +kernel) rfl (by decide +kernel) (X_load (v := .slice (some ⟨q0_, p0_, none⟩) Li.length cap) rfl ty78 rfl (Cell.own (b := b2) (by repeat (first | exact List.mem_cons_self | apply List.mem_cons_of_mem | apply List.mem_append_right)) rfl)) rfl ?_
      refine WS_take 3 (l' := #[true, true, true, true, false, false, false, false, false, false, false, false]) rfl rfl (by decide +kernel) (by decide +kernel) (by decide +kernel) (by decide +kernel) rfl (by decide +kernel) (X_move rfl) rfl ?_
      refine WS_take 4 (l' := #[true, true, true, true, true, false, false, false, false, false, false, false]) rfl rfl (by decide +kernel) (by decide +kernel) (by decide +kernel) (by decide +kernel) rfl (by decide +kernel) (X_indexAddr (j := i) rfl rfl ty78 ty77 rfl (by omega) rfl) rfl ?_
      refine WS_take 5 (l' := #[true, true, true, true, true, true, false, false, false, false, false, false]) rfl rfl (by decide +kernel) (by decide +kernel) (by decide +kernel) (by decide +kernel) rfl (by decide +kernel) (X_fieldAddr rfl fld77_0 (by decide)) rfl ?_
      refine WS_take 6 (l' := #[true, true, true, true, true, true, true, false, false, false, false, false]) rfl rfl (by decide +kernel) (by decide +kernel) (by decide +kernel) (by decide +kernel) rfl (by decide +kernel) (X_load (v := .int .i64 t.id) rfl ty3 rfl ((hc 0 (.int .i64 t.id) rfl).up (.drop (HSub.app (TakeS.here _) hHR)))) rfl ?_
      refine WS_one 7 (l' := #[true, true, true, true, true, true, true, true, false, false, false, false]) (by repeat (first | with_reducible exact HSub.refl _ | refine HSub.cons (by repeat (first | exact Take.here _ | apply Take.next | apply Take.app)) ?_ | refine HSub.app (by repeat (first | with_reducible exact TakeS.here _ | apply TakeS.next | apply TakeS.app)) ?_ | exact HSub.nil _ | exact HSub.refl _ | refine HSub.drop ?_ | refine HSub.dropS ?_)) rfl (by decide +kernel) rfl (by decide +kernel) ?_
      refine W_call (.cons rfl (.cons rfl .nil)) Tryd.call45 rfl (rDel_hit (w0 := w0) (now := now) (cap := cap) (t := t) (H := XO' ++ ((b36, .cells 3 1 [.int .i64 t.id]) :: (b2, .cells 80 2 [.int .u64 ((now : Nat) : Int), .slice (some ⟨q0_, p0_, none⟩) (Li).length cap]) :: (b4, .cells 80 2 [.int .u64 0, .slice none 0 0]) :: (XR ++ H))) (by omega) (hrw.up ((show HSub _ (XR ++ H) from (by repeat (first | with_reducible exact HSub.refl _ | refine HSub.cons (by repeat (first | exact Take.here _ | apply Take.next | apply Take.app)) ?_ | refine HSub.app (by repeat (first | with_reducible exact TakeS.here _ | apply TakeS.next | apply TakeS.app)) ?_ | exact HSub.nil _ | exact HSub.refl _ | refine HSub.drop ?_ | refine HSub.dropS ?_))).trans (HSub.app (TakeS.here _) hHR))) hcp (hn.sublist (hG.sub.map _)) (List.mem_of_getElem? hti)) ?_
      rintro v2 H' ⟨sv2, XB2, rfl, hR2, rfl⟩
      obtain ⟨ad2, cap2, rfl, hcp2, _⟩ := hR2.shape
      have hrw2 : Holds w0 (XB2 ++ HR) ad2 (rowT (delT Li t.id)) := OwnS.holds hR2 (fun p hp => List.mem_append_left _ hp)
      have hG2 := hG.step hn ht hti hle hfirst q0
      have hd2 : (delT Li t.id).length ≤ Li.length := List.length_filter_le _ _
      refine W_nil ?_
      refine WS_goal ?_
      refine WS_take 8 (l' := #[true, true, true, true, true, true, true, true, true, false, false, false]) rfl rfl (by decide +kernel) (by decide +kernel) (by decide +kernel) (by decide +kernel) rfl (by decide +kernel) (X_move rfl) rfl ?_
      refine WS_take 9 (l' := #[true, true, true, true, true, true, true, true, true, true, false, false]) rfl rfl (by decide +kernel) (by decide +kernel) (by decide +kernel) (by decide +kernel) rfl (by decide +kernel) (X_extract rfl rfl) rfl ?_
      refine WS_takeP 10 (l' := #[true, true, true, true, true, true, true, true, true, true, true, false]) rfl rfl (by decide +kernel) (by decide +kernel) (by decide +kernel) rfl (by decide +kernel) (X_extract rfl rfl) rfl ?_
      refine WS_last (l' := #[true, true, true, true, true, true, true, true, true, true, true, true]) (by repeat (first | with_reducible exact HSub.refl _ | refine HSub.cons (by repeat (first | exact Take.here _ | apply Take.next | apply Take.app)) ?_ | refine HSub.app (by repeat (first | with_reducible exact TakeS.here _ | apply TakeS.next | apply TakeS.app)) ?_ | exact HSub.nil _ | exact HSub.refl _ | refine HSub.drop ?_ | refine HSub.dropS ?_)) (by decide +kernel) rfl (by decide +kernel) ?_
      refine W_storeA (l' := [.int .u64 ((now : Nat) : Int), .slice ad2 (delT Li t.id).length cap2]) rfl rfl ty80 rfl rfl (b := b2) (by repeat (first | exact List.mem_cons_self | apply List.mem_cons_of_mem | apply List.mem_append_right)) (by exact Nat.le_refl 2) rfl (by repeat (first | exact Upd.head _ | apply Upd.tail | apply Upd.app)) ?_
      refine W_nil ?_
      refine WC_goal ?_
      refine WC_done (.nil _) (by decide +kernel) ?_
      refine W_region ?_
      refine W_loadB (vs := [.int .u64 ((now : Nat) : Int), .slice ad2 (delT Li t.id).length cap2]) rfl ty80 rfl (b := b2) (by repeat (first | exact List.mem_cons_self | apply List.mem_cons_of_mem | apply List.mem_append_right)) rfl rfl rfl ?_
      refine W_call (.cons rfl .nil) Tryd.call48 rfl ((rNext_L (now := now) (cap := cap2) (ad := ad2) (L := (delT Li t.id)) (by omega) (hrw2.up ((show HSub _ (XB2 ++ H) from (by repeat (first | with_reducible exact HSub.refl _ | refine HSub.cons (by repeat (first | exact Take.here _ | apply Take.next | apply Take.app)) ?_ | refine HSub.app (by repeat (first | with_reducible exact TakeS.here _ | apply TakeS.next | apply TakeS.app)) ?_ | exact HSub.nil _ | exact HSub.refl _ | refine HSub.drop ?_ | refine HSub.dropS ?_))).trans (HSub.app (TakeS.here _) hHR)))).hsub (.refl _)) ?_
      rintro v H' ⟨z0, rfl, hB0, rfl⟩
      refine W_assign rfl rfl ?_
      refine W_nil ?_
      refine W_blk ?_
      refine W_again ⟨delT Li t.id, O ++ [t], v', XO', ad2, cap2, XB2, z0⟩ ⟨hrw2, hcp2, hB0, by show OwnS 3 1 v' (O ++ [t]).length (((O ++ [t]).map (·.id)).map (Value.int .i64)) XO'; rw [List.map_append, List.map_append, List.length_append]; exact hO', hG2⟩ (delT_lt (List.mem_of_getElem? hti)) (sub_cons rfl (sub_cons rfl (sub_cons rfl (sub_cons rfl (sub_cons rfl (sub_nil _)))))) rfl (by repeat (first | with_reducible exact HSub.refl _ | refine HSub.cons (by repeat (first | exact Take.here _ | apply Take.next | apply Take.app)) ?_ | refine HSub.app (by repeat (first | with_reducible exact TakeS.here _ | apply TakeS.next | apply TakeS.app)) ?_ | exact HSub.nil _ | exact HSub.refl _ | refine HSub.drop ?_ | refine HSub.dropS ?_))
    · skip
      refine W_exit rfl ?_
      refine W_sr ?_
      refine W_move rfl rfl ?_
      refine W_fieldAddr rfl fld80_1 (by decide) rfl ?_
      refine W_load rfl ty78 rfl (Cell.own (by repeat (first | exact List.mem_cons_self | apply List.mem_cons_of_mem | apply List.mem_append_right)) rfl) rfl ?_
      refine W_build (l := [.int .u64 ((a : Nat) : Int), .slice (some ⟨q0_, p0_, none⟩) Li.length cap]) ty80 pl80 (.cons rfl rfl rfl rfl rfl (.cons rfl rfl rfl rfl rfl .nil)) rfl rfl rfl ?_
      refine W_move rfl rfl ?_
      refine W_storeA (l' := [.int .u64 ((a : Nat) : Int), .slice (some ⟨q0_, p0_, none⟩) Li.length cap]) rfl rfl ty80 rfl rfl (b := b4) (by repeat (first | exact List.mem_cons_self | apply List.mem_cons_of_mem | apply List.mem_append_right)) (by exact Nat.le_refl 2) rfl (by repeat (first | exact Upd.head _ | apply Upd.tail | apply Upd.app)) ?_
      refine W_assign rfl rfl ?_
      refine W_nil ?_
      refine W_ret2G (H2 := XO ++ (XR ++ H)) Tryd.results47 (.nil _) (.own rfl ty80 rfl (by repeat (first | exact List.mem_cons_self | apply List.mem_cons_of_mem | apply List.mem_append_right)) rfl) (.tmp rfl) (by repeat (first | with_reducible exact HSub.refl _ | refine HSub.cons (by repeat (first | exact Take.here _ | apply Take.next | apply Take.app)) ?_ | refine HSub.app (by repeat (first | with_reducible exact TakeS.here _ | apply TakeS.next | apply TakeS.app)) ?_ | exact HSub.nil _ | exact HSub.refl _ | refine HSub.drop ?_ | refine HSub.dropS ?_)) ?_
      have hfin : ∀ u ∈ Li, a < u.s.due := fun u hu => by have := hle u hu; omega
      exact ⟨Li, O, v, _, cap, XR, XO, rfl, hG.done hn (by omega) hfin, hcp, hrw, hO, rfl⟩
/-- the numbers that are held, rising, as the document lists them -/
def idsR (L : List Tm) (i : Nat) : List Int := ((List.range i).map (fun j : Nat => (j : Int))).filter (heldB L)
theorem idsR_succ (L : List Tm) (i : Nat) : idsR L (i + 1) = idsR L i ++ (if heldB L (i : Int) = true then [(i : Int)] else []) := by
  unfold idsR
  rw [List.range_succ, List.map_append, List.filter_append]
  congr 1
  by_cases c : heldB L (i : Int) = true
  · rw [if_pos c]; simp [c]
  · rw [if_neg c]; simp [c]
theorem idsR_len (L : List Tm) (i : Nat) : (idsR L i).length ≤ i := by
  unfold idsR
  exact Nat.le_trans (List.length_filter_le _ _) (by rw [List.length_map, List.length_range]; exact Nat.le_refl _)
theorem range_asc (i : Nat) : ((List.range i).map (fun j : Nat => (j : Int))).Pairwise (· < ·) := by
  rw [List.pairwise_map]
  exact List.pairwise_lt_range.imp (fun h => by omega)
theorem idsR_is {L : List Tm} (hn : (L.map (·.id)).Nodup) (hr : ∀ t ∈ L, 0 ≤ t.id ∧ t.id < 256) : idsR L 256 = sortI (L.map (·.id)) := by
  have h1 : (idsR L 256).Pairwise (· < ·) := (range_asc 256).sublist List.filter_sublist
  have h2 : (idsR L 256).Nodup := h1.imp (fun h => by omega)
  refine asc_int ?_ h1 (sortI_asc hn)
  refine List.Perm.trans ?_ (sortI_perm _).symm
  refine (List.perm_ext_iff_of_nodup h2 hn).2 fun x => ⟨fun h => heldB_iff.1 (List.mem_filter.1 h).2, fun h => List.mem_filter.2 ⟨?_, heldB_iff.2 h⟩⟩
  obtain ⟨t, ht, rfl⟩ := List.mem_map.1 h
  have := hr t ht
  exact List.mem_map.2 ⟨t.id.toNat, List.mem_range.2 (by omega), by omega⟩
set_option maxHeartbeats 1000000 in
theorem rIds_L {w0 : World} {H : Heap} {now cap : Nat} {L : List Tm} {ad : Option Addr} (hl : L.length ≤ 1000000) (hrow : Holds w0 H ad (rowT L))  : LCalls Tryd.prog w0 49 #[.agg (List.toArray [.int .u64 ((now : Nat) : Int), .slice ad L.length cap])] (H) (fun v H' => ∃ XB, OwnS 3 1 v (idsR L 256).length ((idsR L 256).map (Value.int .i64)) XB ∧ H' = XB ++ H) := by
  refine L_enter (l := [.agg (List.toArray [.int .u64 ((now : Nat) : Int), .slice ad L.length cap])]) Tryd.func49 rfl Tryd.ntmps49 rfl rfl ?_
  refine W_sr ?_
  refine W_box (l := [.int .u64 ((now : Nat) : Int), .slice ad L.length cap]) rfl rfl rfl (fun b1 => ?_)
  refine W_assign rfl rfl ?_
  refine W_nil ?_
  refine W_sr ?_
  refine W_assign rfl rfl ?_
  refine W_nil ?_
  refine W_seq ?_
  refine W_sr ?_
  refine W_assign rfl rfl ?_
  refine W_nil ?_
  refine W_block ?_
  refine W_loopC (X := (Nat × Value × Heap)) [(1, _)] (fun (x : (Nat × Value × Heap)) => [(3, x.2.1), (4, .int .i64 (x.1 : Int))]) (fun _ => _) (fun (x : (Nat × Value × Heap)) => (b1, .cells 80 2 [.int .u64 ((now : Nat) : Int), .slice ad L.length cap]) :: (x.2.2 ++ H)) (fun (x : (Nat × Value × Heap)) => x.1 ≤ 256 ∧ OwnS 3 1 x.2.1 (idsR L x.1).length ((idsR L x.1).map (Value.int .i64)) x.2.2) (fun (x : (Nat × Value × Heap)) => 256 - x.1) (0, .slice none 0 0, []) ⟨Nat.zero_le _, .nil⟩ (sub_cons rfl (sub_nil _)) (sub_cons rfl (sub_cons rfl (sub_nil _))) rfl (.refl _) ?_
  rintro ⟨i, v, XO⟩ ⟨hi, hO⟩
  dsimp only at hi hO ⊢
  have hil := idsR_len L i
  simp only [List.cons_append, List.nil_append]
  refine W_seq ?_
  refine W_sr ?_
  refine W_move rfl rfl ?_
  refine W_bin rfl rfl b_lss rfl ?_
  refine W_nil ?_
  refine W_condPS (p := (i : Int) < 256) rfl (by simp) (fun q0 => ?_) (fun q0 => ?_)
  · skip
    refine W_skip ?_
    refine W_seq ?_
    refine W_block ?_
    refine W_sr ?_
    refine W_loadB (vs := [.int .u64 ((now : Nat) : Int), .slice ad L.length cap]) rfl ty80 rfl (b := b1) (by repeat (first | exact List.mem_cons_self | apply List.mem_cons_of_mem | apply List.mem_append_right)) rfl rfl rfl ?_
    refine W_move rfl rfl ?_
    refine W_call (.cons rfl (.cons rfl .nil)) Tryd.call39 rfl ((rFind_L (now := now) (cap := cap) (id := (i : Int)) hl (hrow.up (by repeat (first | with_reducible exact HSub.refl _ | refine HSub.cons (by repeat (first | exact Take.here _ | apply Take.next | apply Take.app)) ?_ | refine HSub.app (by repeat (first | with_reducible exact TakeS.here _ | apply TakeS.next | apply TakeS.app)) ?_ | exact HSub.nil _ | exact HSub.refl _ | refine HSub.drop ?_ | refine HSub.dropS ?_)))).hsub (.refl _)) ?_
    rintro v2 H' ⟨z, rfl, hz, rfl⟩
    have hzz := hz.held
    refine W_bin rfl rfl b_geq rfl ?_
    refine W_nil ?_
    refine W_condPS (p := 0 ≤ z) rfl (by simp) (fun q1 => ?_) (fun q1 => ?_)
    · skip
      refine W_region ?_
      refine W_move rfl rfl ?_
      refine W_move rfl rfl ?_
      refine W_buildSlice (l := [.int .i64 (i : Int)]) ty35 ty3 (.cons rfl rfl rfl rfl rfl .nil) rfl rfl rfl rfl rfl rfl rfl (fun b15 => ?_)
      refine W_append (news := [.int .i64 (i : Int)]) (m := 1) (HB := XO) (H0 := (b15, .cells 3 1 [.int .i64 (i : Int)]) :: (b1, .cells 80 2 [.int .u64 ((now : Nat) : Int), .slice ad L.length cap]) :: H) rfl rfl ty35 ty3 rfl (by decide) hO rfl (Holds.own (by repeat (first | exact List.mem_cons_self | apply List.mem_cons_of_mem | apply List.mem_append_right))) rfl (by simp only [maxLen]; omega) (by omega) (by repeat (first | with_reducible exact HSub.refl _ | refine HSub.cons (by repeat (first | exact Take.here _ | apply Take.next | apply Take.app)) ?_ | refine HSub.app (by repeat (first | with_reducible exact TakeS.here _ | apply TakeS.next | apply TakeS.app)) ?_ | exact HSub.nil _ | exact HSub.refl _ | refine HSub.drop ?_ | refine HSub.dropS ?_)) rfl (fun v' X' hO' => ?_)
      refine W_assign rfl rfl ?_
      refine W_nil ?_
      refine W_blk ?_
      refine W_region ?_
      refine W_move rfl rfl ?_
      refine W_bin rfl rfl (b_add (m := ((i + 1 : Nat) : Int)) ((i64w (by omega)).trans (by omega))) rfl ?_
      refine W_assign rfl rfl ?_
      refine W_nil ?_
      refine W_again (i + 1, v', X') ⟨by show i + 1 ≤ 256; omega, by show OwnS 3 1 v' (idsR L (i + 1)).length ((idsR L (i + 1)).map (Value.int .i64)) X'; rw [idsR_succ, if_pos (heldB_iff.2 (hzz.1 q1)), List.length_append, List.map_append]; exact hO'⟩ (by show 256 - (i + 1) < 256 - i; omega) (sub_cons rfl (sub_cons rfl (sub_cons rfl (sub_nil _)))) rfl (by repeat (first | with_reducible exact HSub.refl _ | refine HSub.cons (by repeat (first | exact Take.here _ | apply Take.next | apply Take.app)) ?_ | refine HSub.app (by repeat (first | with_reducible exact TakeS.here _ | apply TakeS.next | apply TakeS.app)) ?_ | exact HSub.nil _ | exact HSub.refl _ | refine HSub.drop ?_ | refine HSub.dropS ?_))
    · skip
      refine W_skip ?_
      refine W_blk ?_
      refine W_region ?_
      refine W_move rfl rfl ?_
      refine W_bin rfl rfl (b_add (m := ((i + 1 : Nat) : Int)) ((i64w (by omega)).trans (by omega))) rfl ?_
      refine W_assign rfl rfl ?_
      refine W_nil ?_
      refine W_again (i + 1, v, XO) ⟨by show i + 1 ≤ 256; omega, by show OwnS 3 1 v (idsR L (i + 1)).length ((idsR L (i + 1)).map (Value.int .i64)) XO; rw [idsR_succ, if_neg (fun h => q1 (hzz.2 (heldB_iff.1 h))), List.append_nil]; exact hO⟩ (by show 256 - (i + 1) < 256 - i; omega) (sub_cons rfl (sub_cons rfl (sub_cons rfl (sub_nil _)))) rfl (by repeat (first | with_reducible exact HSub.refl _ | refine HSub.cons (by repeat (first | exact Take.here _ | apply Take.next | apply Take.app)) ?_ | refine HSub.app (by repeat (first | with_reducible exact TakeS.here _ | apply TakeS.next | apply TakeS.app)) ?_ | exact HSub.nil _ | exact HSub.refl _ | refine HSub.drop ?_ | refine HSub.dropS ?_))
  · skip
    refine W_exit rfl ?_
    refine W_sr ?_
    refine W_move rfl rfl ?_
    refine W_assign rfl rfl ?_
    refine W_nil ?_
    refine W_ret1m (H2 := XO ++ H) Tryd.results49 rfl (.nil _) (by repeat (first | with_reducible exact HSub.refl _ | refine HSub.cons (by repeat (first | exact Take.here _ | apply Take.next | apply Take.app)) ?_ | refine HSub.app (by repeat (first | with_reducible exact TakeS.here _ | apply TakeS.next | apply TakeS.app)) ?_ | exact HSub.nil _ | exact HSub.refl _ | refine HSub.drop ?_ | refine HSub.dropS ?_)) ?_
    obtain rfl : i = 256 := by omega
    exact ⟨XO, hO, rfl⟩
set_option maxHeartbeats 1000000 in
theorem rOfS_pure {e : Spot} : Pure Tryd.prog (fun _ => True) 33 [.agg e.v.toArray] (.agg e.v.toArray) := by
  intro w0 H hT
  refine L_enter Tryd.func33 rfl Tryd.ntmps33 rfl rfl ?_
  refine W_sr ?_
  refine W_box (l := e.v) rfl rfl rfl (fun b1 => ?_)
  refine W_alloc (l := zSpot.v) ty65 rfl rfl (fun b2 => ?_)
  refine W_nil ?_
  refine W_sr ?_
  refine W_fieldAddr rfl fld27_0 (by decide) rfl ?_
  refine W_load (v := .int .i64 (e.lv : Int)) rfl ty3 rfl (Cell.own (b := b1) (by repeat (first | exact List.mem_cons_self | apply List.mem_cons_of_mem | apply List.mem_append_right)) rfl) rfl ?_
  refine W_fieldAddr rfl fld27_1 (by decide) rfl ?_
  refine W_load (v := .int .i64 (e.slot : Int)) rfl ty3 rfl (Cell.own (b := b1) (by repeat (first | exact List.mem_cons_self | apply List.mem_cons_of_mem | apply List.mem_append_right)) rfl) rfl ?_
  refine W_fieldAddr rfl fld27_2 (by decide) rfl ?_
  refine W_load (v := .int .u64 (e.at_ : Int)) rfl ty22 rfl (Cell.own (b := b1) (by repeat (first | exact List.mem_cons_self | apply List.mem_cons_of_mem | apply List.mem_append_right)) rfl) rfl ?_
  refine W_fieldAddr rfl fld27_3 (by decide) rfl ?_
  refine W_load (v := .int .u64 (e.due : Int)) rfl ty22 rfl (Cell.own (b := b1) (by repeat (first | exact List.mem_cons_self | apply List.mem_cons_of_mem | apply List.mem_append_right)) rfl) rfl ?_
  refine W_build (l := e.v) ty65 pl65 (.cons rfl rfl rfl rfl rfl (.cons rfl rfl rfl rfl rfl (.cons rfl rfl rfl rfl rfl (.cons rfl rfl rfl rfl rfl .nil)))) rfl rfl rfl ?_
  refine W_storeA (l' := e.v) rfl rfl ty65 rfl rfl (b := b2) (by repeat (first | exact List.mem_cons_self | apply List.mem_cons_of_mem | apply List.mem_append_right)) (by exact Nat.le_refl 4) rfl (by repeat (first | exact Upd.head _ | apply Upd.tail | apply Upd.app)) ?_
  refine W_nil ?_
  refine W_ret1cO (H2 := H) Tryd.results33 rfl (.nil _) ty65 rfl (by repeat (first | exact List.mem_cons_self | apply List.mem_cons_of_mem | apply List.mem_append_right)) rfl (by repeat (first | with_reducible exact HSub.refl _ | refine HSub.cons (by repeat (first | exact Take.here _ | apply Take.next | apply Take.app)) ?_ | refine HSub.app (by repeat (first | with_reducible exact TakeS.here _ | apply TakeS.next | apply TakeS.app)) ?_ | exact HSub.nil _ | exact HSub.refl _ | refine HSub.drop ?_ | refine HSub.dropS ?_)) ?_
  exact ⟨rfl, rfl⟩
end Go.Proofs.YtknbohnoiigioaaDoor
namespace Go.Proofs.YtknbohnoiigioaaDoor
open Go Go.Sl
attribute [local irreducible] W
structure Wl where
  bw : Nat
  now : Nat
  L : List Tm
  turn : Nat
abbrev Wl.p (w : Wl) : Value := .pointer (some ⟨w.bw, 0, none⟩)
/-- the blocks of a bank of these wheels -/
inductive BankH (bb : Nat) (Ws : List Wl) : Heap → Prop
  | mk {v : Value} {XS : Heap} {HWs : List Heap} (hv : OwnS 24 1 v Ws.length (Ws.map Wl.p) XS) (hl : HWs.length = Ws.length) (hw : ∀ (k : Nat) w HW, Ws[k]? = some w → HWs[k]? = some HW → WheelH w.bw w.now w.L w.turn HW) : BankH bb Ws ((bb, .cells 112 1 [v]) :: (XS ++ HWs.flatten))
theorem set_same {α : Type} {l : List α} {k : Nat} {x : α} (h : l[k]? = some x) : l.set k x = l := by
  apply List.ext_getElem?
  intro i
  by_cases e : k = i
  · subst e; rw [List.getElem?_set_self (List.getElem?_eq_some_iff.1 h).1, h]
  · rw [List.getElem?_set_ne e]
theorem BankH.at {bb k : Nat} {Ws : List Wl} {HB : Heap} {w : Wl} (h : BankH bb Ws HB) (hk : Ws[k]? = some w) : ∃ HW HR, WheelH w.bw w.now w.L w.turn HW ∧ (∀ H, HSub (HB ++ H) (HW ++ (HR ++ H))) ∧
    ∀ w' HW', w'.bw = w.bw → WheelH w'.bw w'.now w'.L w'.turn HW' → ∃ HB', BankH bb (Ws.set k w') HB' ∧ ∀ H, HSub (HW' ++ (HR ++ H)) (HB' ++ H) := by
  cases h with
  | @mk v XS HWs hv hl hw =>
    have hkl := (List.getElem?_eq_some_iff.1 hk).1
    obtain ⟨HW, hHW⟩ : ∃ HW, HWs[k]? = some HW := ⟨_, List.getElem?_eq_getElem (by omega)⟩
    refine ⟨HW, (bb, .cells 112 1 [v]) :: (XS ++ (HWs.set k []).flatten), hw k w HW hk hHW, fun H => ?_, fun w' HW' e hw' => ?_⟩
    · have h1 := ((flat_take hHW).append_left ((bb, .cells 112 1 [v]) :: XS)).append_right H
      refine HSub.of_perm ?_
      rw [List.append_assoc, List.append_assoc] at h1
      show (((bb, Blk.cells 112 1 [v]) :: XS) ++ HWs.flatten ++ H).Perm _
      rw [List.append_assoc]
      refine h1.trans ?_
      rw [List.append_assoc]
      refine (List.perm_append_comm_assoc _ _ _).trans ?_
      show (HW ++ (((bb, Blk.cells 112 1 [v]) :: XS) ++ _)).Perm (HW ++ ((((bb, Blk.cells 112 1 [v]) :: XS) ++ _) ++ H))
      rw [List.append_assoc]
    · refine ⟨(bb, .cells 112 1 [v]) :: (XS ++ (HWs.set k HW').flatten), .mk ?_ (by rw [List.length_set, List.length_set, hl]) ?_, fun H => ?_⟩
      · rw [List.length_set, List.map_set, set_same (by rw [List.getElem?_map, hk, show w'.p = w.p from by unfold Wl.p; rw [e]]; rfl)]; exact hv
      · intro j u HU hj hU
        by_cases c : k = j
        · subst c
          rw [List.getElem?_set_self hkl] at hj
          rw [List.getElem?_set_self (by omega)] at hU
          obtain rfl := Option.some.inj hj
          obtain rfl := Option.some.inj hU
          exact hw'
        · rw [List.getElem?_set_ne c] at hj hU
          exact hw j u HU hj hU
      · have h1 := ((flat_put (B := HW') (XS := HWs) (k := k) (by omega)).append_left ((bb, .cells 112 1 [v]) :: XS)).append_right H
        refine HSub.of_perm (List.Perm.trans ?_ h1)
        show (HW' ++ ((((bb, Blk.cells 112 1 [v]) :: XS) ++ _) ++ H)).Perm _
        rw [List.append_assoc, List.append_assoc, List.append_assoc]
        exact List.perm_append_comm_assoc _ _ _
/-- its own cell, and the row of its wheels -/
theorem BankH.row {bb : Nat} {Ws : List Wl} {HB : Heap} (h : BankH bb Ws HB) : ∃ ad cap, (bb, Blk.cells 112 1 [.slice ad Ws.length cap]) ∈ HB ∧ Ws.length ≤ cap ∧ ∀ {w0 : World} {H : Heap}, (∀ p ∈ HB, p ∈ H) → Holds w0 H ad (Ws.map Wl.p) := by
  cases h with
  | @mk v XS HWs hv hl hw =>
    obtain ⟨ad, cap, rfl, h1, _⟩ := hv.shape
    exact ⟨ad, cap, List.mem_cons_self, h1, fun hm => OwnS.holds hv (fun p hp => hm p (List.mem_cons_of_mem _ (List.mem_append_left _ hp)))⟩
/-- a CPU's wheel, or nil -/
def wlAt (Ws : List Wl) (cpu : Int) : Option Wl := if 0 ≤ cpu then Ws[cpu.toNat]? else none
def ofV (Ws : List Wl) (cpu : Int) : Value := match wlAt Ws cpu with
  | some w => w.p
  | none => .pointer none
set_option maxHeartbeats 1000000 in
theorem CPUs_q {w0 : World} {H : Heap} {HB : Heap} {bb : Nat} {Ws : List Wl} (hB : BankH bb Ws HB) (hm : ∀ p ∈ HB, p ∈ H)  : PureAt Tryd.prog w0 H 30 [.pointer (some ⟨bb, 0, none⟩)] (.int .i64 (Ws.length : Int)) := by
  obtain ⟨ad, cap, hcell, hlc, hrow0⟩ := hB.row
  have hrow : Holds w0 H ad (Ws.map Wl.p) := hrow0 hm
  refine L_enter Tryd.func30 rfl Tryd.ntmps30 rfl rfl ?_
  refine W_sr ?_
  refine W_assign rfl rfl ?_
  refine W_nil ?_
  refine W_seq ?_
  refine W_sr ?_
  refine W_move rfl rfl ?_
  refine W_x (X_ptrNil rfl rfl ty45) (fun _ h => by cases h) rfl ?_
  refine W_nil ?_
  refine W_condF rfl rfl ?_
  refine W_skip ?_
  refine W_sr ?_
  refine W_move rfl rfl ?_
  refine W_nilCheck rfl rfl ?_
  refine W_fieldAddr rfl fld112_0 (by decide) rfl ?_
  refine W_load (v := .slice ad Ws.length cap) rfl ty110 rfl (Cell.own (b := bb) (hm _ hcell) rfl) rfl ?_
  refine W_len rfl ty110 rfl rfl ?_
  refine W_assign rfl rfl ?_
  refine W_nil ?_
  refine W_ret1m (H2 := H) Tryd.results30 rfl (.nil _) (by first | exact hsubI | (repeat (first | with_reducible exact HSub.refl _ | refine HSub.cons (by repeat (first | exact Take.here _ | apply Take.next | apply Take.app)) ?_ | refine HSub.app (by repeat (first | with_reducible exact TakeS.here _ | apply TakeS.next | apply TakeS.app)) ?_ | exact HSub.nil _ | exact HSub.refl _ | refine HSub.drop ?_ | refine HSub.dropS ?_))) ?_
  exact ⟨rfl, rfl⟩
set_option maxHeartbeats 1000000 in
theorem CPUs_nil  : Pure Tryd.prog (fun _ => True) 30 [.pointer none] (.int .i64 0) := by
  intro w0 H hT
  refine L_enter Tryd.func30 rfl Tryd.ntmps30 rfl rfl ?_
  refine W_sr ?_
  refine W_assign rfl rfl ?_
  refine W_nil ?_
  refine W_seq ?_
  refine W_sr ?_
  refine W_move rfl rfl ?_
  refine W_x (X_ptrNil rfl rfl ty45) (fun _ h => by cases h) rfl ?_
  refine W_nil ?_
  refine W_condT rfl rfl ?_
  refine W_sr ?_
  refine W_assign rfl rfl ?_
  refine W_nil ?_
  refine W_ret1m (H2 := H) Tryd.results30 rfl (.nil _) (by first | exact hsubI | (repeat (first | with_reducible exact HSub.refl _ | refine HSub.cons (by repeat (first | exact Take.here _ | apply Take.next | apply Take.app)) ?_ | refine HSub.app (by repeat (first | with_reducible exact TakeS.here _ | apply TakeS.next | apply TakeS.app)) ?_ | exact HSub.nil _ | exact HSub.refl _ | refine HSub.drop ?_ | refine HSub.dropS ?_))) ?_
  exact ⟨rfl, rfl⟩
theorem cpu_ways (Ws : List Wl) (cpu : Int) : (cpu < 0 ∧ wlAt Ws cpu = none) ∨ (0 ≤ cpu ∧ (Ws.length : Int) ≤ cpu ∧ wlAt Ws cpu = none) ∨ (0 ≤ cpu ∧ cpu < (Ws.length : Int) ∧ wlAt Ws cpu = Ws[cpu.toNat]?) := by
  unfold wlAt
  by_cases h : 0 ≤ cpu
  · by_cases h2 : cpu < (Ws.length : Int)
    · exact .inr (.inr ⟨h, h2, if_pos h⟩)
    · exact .inr (.inl ⟨h, by omega, by rw [if_pos h, List.getElem?_eq_none (by omega)]⟩)
  · exact .inl ⟨by omega, if_neg h⟩
set_option maxHeartbeats 1000000 in
theorem of_q {w0 : World} {H : Heap} {HB : Heap} {bb : Nat} {Ws : List Wl} (hB : BankH bb Ws HB) (hm : ∀ p ∈ HB, p ∈ H) {cpu : Int}  : PureAt Tryd.prog w0 H 54 [.pointer (some ⟨bb, 0, none⟩), .int .i64 cpu] (ofV Ws cpu) := by
  obtain ⟨ad, cap, hcell, hlc, hrow0⟩ := hB.row
  have hrow : Holds w0 H ad (Ws.map Wl.p) := hrow0 hm
  refine L_enter Tryd.func54 rfl Tryd.ntmps54 rfl rfl ?_
  refine W_sr ?_
  refine W_assign rfl rfl ?_
  refine W_nil ?_
  refine W_seq ?_
  refine W_sr ?_
  rcases cpu_ways Ws cpu with ⟨h1, h2⟩ | ⟨h1, h2, h3⟩ | ⟨h1, h2, h3⟩
  · skip
    refine W_move rfl rfl ?_
    refine W_x (X_ptrNil rfl rfl ty45) (fun _ h => by cases h) rfl ?_
    refine W_move rfl rfl ?_
    refine W_gyes rfl rfl ?_
    refine W_move rfl rfl ?_
    refine W_gyes rfl rfl ?_
    refine W_bin rfl rfl b_lss rfl ?_
    rw [decide_eq_true (by omega)]
    first | refine W_pickt rfl rfl rfl ?_ | refine W_pickf rfl rfl rfl ?_
    refine W_move rfl rfl ?_
    refine W_gno rfl rfl rfl ?_
    refine W_gno rfl rfl rfl ?_
    refine W_gno rfl rfl rfl ?_
    refine W_gno rfl rfl rfl ?_
    refine W_gno rfl rfl rfl ?_
    refine W_gno rfl rfl rfl ?_
    refine W_gno rfl rfl rfl ?_
    first | refine W_pickt rfl rfl rfl ?_ | refine W_pickf rfl rfl rfl ?_
    refine W_nil ?_
    refine W_condT rfl rfl ?_
    refine W_sr ?_
    refine W_assign rfl rfl ?_
    refine W_nil ?_
    refine W_ret1m (H2 := H) Tryd.results54 rfl (.nil _) (by first | exact hsubI | (repeat (first | with_reducible exact HSub.refl _ | refine HSub.cons (by repeat (first | exact Take.here _ | apply Take.next | apply Take.app)) ?_ | refine HSub.app (by repeat (first | with_reducible exact TakeS.here _ | apply TakeS.next | apply TakeS.app)) ?_ | exact HSub.nil _ | exact HSub.refl _ | refine HSub.drop ?_ | refine HSub.dropS ?_))) ?_
    exact ⟨by unfold ofV; rw [h2], rfl⟩
  · skip
    refine W_move rfl rfl ?_
    refine W_x (X_ptrNil rfl rfl ty45) (fun _ h => by cases h) rfl ?_
    refine W_move rfl rfl ?_
    refine W_gyes rfl rfl ?_
    refine W_move rfl rfl ?_
    refine W_gyes rfl rfl ?_
    refine W_bin rfl rfl b_lss rfl ?_
    rw [decide_eq_false (by omega)]
    first | refine W_pickt rfl rfl rfl ?_ | refine W_pickf rfl rfl rfl ?_
    refine W_move rfl rfl ?_
    refine W_gyes rfl rfl ?_
    refine W_move rfl rfl ?_
    refine W_gyes rfl rfl ?_
    refine W_move rfl rfl ?_
    refine W_gyes rfl rfl ?_
    refine W_nilCheck rfl rfl ?_
    refine W_gyes rfl rfl ?_
    refine W_fieldAddr rfl fld112_0 (by decide) rfl ?_
    refine W_gyes rfl rfl ?_
    refine W_load (v := .slice ad Ws.length cap) rfl ty110 rfl (Cell.own (b := bb) (hm _ hcell) rfl) rfl ?_
    refine W_gyes rfl rfl ?_
    refine W_len rfl ty110 rfl rfl ?_
    refine W_gyes rfl rfl ?_
    refine W_bin rfl rfl b_geq rfl ?_
    rw [decide_eq_true (by omega)]
    first | refine W_pickt rfl rfl rfl ?_ | refine W_pickf rfl rfl rfl ?_
    refine W_nil ?_
    refine W_condT rfl rfl ?_
    refine W_sr ?_
    refine W_assign rfl rfl ?_
    refine W_nil ?_
    refine W_ret1m (H2 := H) Tryd.results54 rfl (.nil _) (by first | exact hsubI | (repeat (first | with_reducible exact HSub.refl _ | refine HSub.cons (by repeat (first | exact Take.here _ | apply Take.next | apply Take.app)) ?_ | refine HSub.app (by repeat (first | with_reducible exact TakeS.here _ | apply TakeS.next | apply TakeS.app)) ?_ | exact HSub.nil _ | exact HSub.refl _ | refine HSub.drop ?_ | refine HSub.dropS ?_))) ?_
    exact ⟨by unfold ofV; rw [h3], rfl⟩
  · skip
    refine W_move rfl rfl ?_
    refine W_x (X_ptrNil rfl rfl ty45) (fun _ h => by cases h) rfl ?_
    refine W_move rfl rfl ?_
    refine W_gyes rfl rfl ?_
    refine W_move rfl rfl ?_
    refine W_gyes rfl rfl ?_
    refine W_bin rfl rfl b_lss rfl ?_
    rw [decide_eq_false (by omega)]
    first | refine W_pickt rfl rfl rfl ?_ | refine W_pickf rfl rfl rfl ?_
    refine W_move rfl rfl ?_
    refine W_gyes rfl rfl ?_
    refine W_move rfl rfl ?_
    refine W_gyes rfl rfl ?_
    refine W_move rfl rfl ?_
    refine W_gyes rfl rfl ?_
    refine W_nilCheck rfl rfl ?_
    refine W_gyes rfl rfl ?_
    refine W_fieldAddr rfl fld112_0 (by decide) rfl ?_
    refine W_gyes rfl rfl ?_
    refine W_load (v := .slice ad Ws.length cap) rfl ty110 rfl (Cell.own (b := bb) (hm _ hcell) rfl) rfl ?_
    refine W_gyes rfl rfl ?_
    refine W_len rfl ty110 rfl rfl ?_
    refine W_gyes rfl rfl ?_
    refine W_bin rfl rfl b_geq rfl ?_
    rw [decide_eq_false (by omega)]
    first | refine W_pickt rfl rfl rfl ?_ | refine W_pickf rfl rfl rfl ?_
    refine W_nil ?_
    refine W_condF rfl rfl ?_
    refine W_skip ?_
    refine W_sr ?_
    refine W_move rfl rfl ?_
    refine W_nilCheck rfl rfl ?_
    refine W_fieldAddr rfl fld112_0 (by decide) rfl ?_
    obtain ⟨w, hw⟩ : ∃ w, Ws[cpu.toNat]? = some w := ⟨_, List.getElem?_eq_getElem (by omega)⟩
    obtain ⟨qb, qo, rfl, hc⟩ := hrow.at (i := cpu.toNat) (v := w.p) (by rw [List.getElem?_map, hw]; rfl)
    refine W_load (v := .slice (some ⟨qb, qo, none⟩) Ws.length cap) rfl ty110 rfl (Cell.own (b := bb) (hm _ hcell) rfl) rfl ?_
    refine W_move rfl rfl ?_
    refine W_indexAddr (j := cpu.toNat) rfl rfl ty110 ty24 (by omega) (by omega) rfl rfl ?_
    refine W_load (v := w.p) rfl ty24 rfl (by rw [Nat.mul_one]; exact hc) rfl ?_
    refine W_assign rfl rfl ?_
    refine W_nil ?_
    refine W_ret1m (H2 := H) Tryd.results54 rfl (.nil _) (by first | exact hsubI | (repeat (first | with_reducible exact HSub.refl _ | refine HSub.cons (by repeat (first | exact Take.here _ | apply Take.next | apply Take.app)) ?_ | refine HSub.app (by repeat (first | with_reducible exact TakeS.here _ | apply TakeS.next | apply TakeS.app)) ?_ | exact HSub.nil _ | exact HSub.refl _ | refine HSub.drop ?_ | refine HSub.dropS ?_))) ?_
    exact ⟨by unfold ofV; rw [h3, hw], rfl⟩
set_option maxHeartbeats 1000000 in
theorem of_nil {cpu : Int} : Pure Tryd.prog (fun _ => True) 54 [.pointer none, .int .i64 cpu] (.pointer none) := by
  intro w0 H hT
  refine L_enter Tryd.func54 rfl Tryd.ntmps54 rfl rfl ?_
  refine W_sr ?_
  refine W_assign rfl rfl ?_
  refine W_nil ?_
  refine W_seq ?_
  refine W_sr ?_
  refine W_move rfl rfl ?_
  refine W_x (X_ptrNil rfl rfl ty45) (fun _ h => by cases h) rfl ?_
  refine W_move rfl rfl ?_
  refine W_gno rfl rfl rfl ?_
  refine W_gno rfl rfl rfl ?_
  first | refine W_pickt rfl rfl rfl ?_ | refine W_pickf rfl rfl rfl ?_
  refine W_move rfl rfl ?_
  refine W_gno rfl rfl rfl ?_
  refine W_gno rfl rfl rfl ?_
  refine W_gno rfl rfl rfl ?_
  refine W_gno rfl rfl rfl ?_
  refine W_gno rfl rfl rfl ?_
  refine W_gno rfl rfl rfl ?_
  refine W_gno rfl rfl rfl ?_
  first | refine W_pickt rfl rfl rfl ?_ | refine W_pickf rfl rfl rfl ?_
  refine W_nil ?_
  refine W_condT rfl rfl ?_
  refine W_sr ?_
  refine W_assign rfl rfl ?_
  refine W_nil ?_
  refine W_ret1m (H2 := H) Tryd.results54 rfl (.nil _) (by first | exact hsubI | (repeat (first | with_reducible exact HSub.refl _ | refine HSub.cons (by repeat (first | exact Take.here _ | apply Take.next | apply Take.app)) ?_ | refine HSub.app (by repeat (first | with_reducible exact TakeS.here _ | apply TakeS.next | apply TakeS.app)) ?_ | exact HSub.nil _ | exact HSub.refl _ | refine HSub.drop ?_ | refine HSub.dropS ?_))) ?_
  exact ⟨rfl, rfl⟩
set_option maxHeartbeats 1000000 in
theorem NewB_range {cpus : Int} {z : Int} (h : cpus < 1 ∨ 64 < cpus) : Pure Tryd.prog (fun _ => True) 21 [.int .i64 cpus, .int .u64 z] (.tuple #[.pointer none, .int .i64 2]) := by
  intro w0 H hT
  refine L_enter Tryd.func21 rfl Tryd.ntmps21 rfl rfl ?_
  refine W_sr ?_
  refine W_assign rfl rfl ?_
  refine W_assign rfl rfl ?_
  refine W_nil ?_
  refine W_seq ?_
  refine W_sr ?_
  refine W_move rfl rfl ?_
  refine W_bin rfl rfl b_lss rfl ?_
  refine W_move rfl rfl ?_
  apply W_or
  iterate 4 exact rfl
  case h1 =>
    intro hg2
    refine W_gyes rfl rfl ?_
    refine W_move rfl rfl ?_
    refine W_gyes rfl rfl ?_
    refine W_bin rfl rfl b_gtr rfl ?_
    exact W_met rfl (by repeat (first | exact .refl | refine .cons rfl ?_))
  refine W_nil ?_
  refine W_condT rfl (by simp; omega) ?_
  refine W_sr ?_
  refine W_assign rfl rfl ?_
  refine W_assign rfl rfl ?_
  refine W_nil ?_
  refine W_ret2m (H2 := H) Tryd.results21 rfl rfl (.nil _) (by first | exact hsubI | (repeat (first | with_reducible exact HSub.refl _ | refine HSub.cons (by repeat (first | exact Take.here _ | apply Take.next | apply Take.app)) ?_ | refine HSub.app (by repeat (first | with_reducible exact TakeS.here _ | apply TakeS.next | apply TakeS.app)) ?_ | exact HSub.nil _ | exact HSub.refl _ | refine HSub.drop ?_ | refine HSub.dropS ?_))) ?_
  exact ⟨rfl, rfl⟩
structure NbS where
  i : Nat
  Ws : List Wl
  v : Value
  XS : Heap
  HWs : List Heap
def FreshW (now : Nat) (w : Wl) : Prop := w.now = now ∧ w.L = [] ∧ w.turn = 0
theorem all_snoc {Ws : List Wl} {HWs : List Heap} {u : Wl} {HU : Heap} (hl : HWs.length = Ws.length) (hw : ∀ (k : Nat) w HW, Ws[k]? = some w → HWs[k]? = some HW → WheelH w.bw w.now w.L w.turn HW) (hu : WheelH u.bw u.now u.L u.turn HU) : ∀ (k : Nat) w HW, (Ws ++ [u])[k]? = some w → (HWs ++ [HU])[k]? = some HW → WheelH w.bw w.now w.L w.turn HW := fun k w HW h1 h2 => by
  by_cases c : k < Ws.length
  · rw [List.getElem?_append_left c] at h1
    rw [List.getElem?_append_left (by omega)] at h2
    exact hw k w HW h1 h2
  · rw [List.getElem?_append_right (by omega)] at h1 h2
    rw [hl] at h2
    cases hk : k - Ws.length with
    | zero =>
      rw [hk] at h1 h2
      obtain rfl : u = w := by simpa using h1
      obtain rfl : HU = HW := by simpa using h2
      exact hu
    | succ j => rw [hk] at h1; simp at h1
set_option maxHeartbeats 1000000 in
theorem NewB_L {w0 : World} {H : Heap} {n now : Nat} (hn : 1 ≤ n ∧ n ≤ 64)  : LCalls Tryd.prog w0 21 #[.int .i64 (n : Int), .int .u64 ((now : Nat) : Int)] (H) (fun v H' => ∃ bb Ws HB, v = .tuple #[.pointer (some ⟨bb, 0, none⟩), .int .i64 0] ∧ BankH bb Ws HB ∧ Ws.length = n ∧ (∀ w ∈ Ws, FreshW now w) ∧ H' = HB ++ H) := by
  refine L_enter (l := [.int .i64 (n : Int), .int .u64 ((now : Nat) : Int)]) Tryd.func21 rfl Tryd.ntmps21 rfl rfl ?_
  refine W_sr ?_
  refine W_assign rfl rfl ?_
  refine W_assign rfl rfl ?_
  refine W_nil ?_
  refine W_seq ?_
  refine W_sr ?_
  refine W_move rfl rfl ?_
  refine W_bin rfl rfl b_lss rfl ?_
  rw [decide_eq_false (by omega)]
  refine W_move rfl rfl ?_
  refine W_gyes rfl rfl ?_
  refine W_move rfl rfl ?_
  refine W_gyes rfl rfl ?_
  refine W_bin rfl rfl b_gtr rfl ?_
  rw [decide_eq_false (by omega)]
  first | refine W_pickt rfl rfl rfl ?_ | refine W_pickf rfl rfl rfl ?_
  refine W_nil ?_
  refine W_condF rfl rfl ?_
  refine W_skip ?_
  refine W_sr ?_
  refine W_build (l := [.slice none 0 0]) ty112 pl112 .nil rfl rfl rfl ?_
  refine W_box (l := [.slice none 0 0]) rfl rfl rfl (fun b14 => ?_)
  refine W_assign rfl rfl ?_
  refine W_nil ?_
  refine W_seq ?_
  refine W_sr ?_
  refine W_move rfl rfl ?_
  refine W_move rfl rfl ?_
  refine W_nil ?_
  refine W_block ?_
  refine W_loopC (X := NbS) [(1, _), (6, _), (15, _)] (fun (x : NbS) => [(16, .int .i64 (x.i : Int))]) (fun _ => _) (fun (x : NbS) => (b14, .cells 112 1 [x.v]) :: (x.XS ++ (x.HWs.flatten ++ H))) (fun (x : NbS) => x.i ≤ n ∧ x.Ws.length = x.i ∧ OwnS 24 1 x.v x.Ws.length (x.Ws.map Wl.p) x.XS ∧ x.HWs.length = x.Ws.length ∧ (∀ (k : Nat) w HW, x.Ws[k]? = some w → x.HWs[k]? = some HW → WheelH w.bw w.now w.L w.turn HW) ∧ ∀ w ∈ x.Ws, FreshW now w) (fun (x : NbS) => n - x.i) ⟨0, [], .slice none 0 0, [], []⟩ ⟨Nat.zero_le _, rfl, .nil, rfl, fun k w HW h => (by cases h), fun w h => (by cases h)⟩ (sub_cons rfl (sub_cons rfl (sub_cons rfl (sub_nil _)))) (sub_cons rfl (sub_nil _)) rfl (.refl _) ?_
  rintro ⟨i, Ws, v, XS, HWs⟩ ⟨hi, hlen, hv, hl, hw, hf⟩
  dsimp only at hi hlen hv hl hw hf ⊢
  simp only [List.cons_append, List.nil_append]
  refine W_sr ?_
  refine W_bin rfl rfl b_lss rfl ?_
  refine W_nil ?_
  refine W_seq ?_
  refine W_condPS (p := (i : Int) < (n : Int)) rfl (by simp) (fun q0 => ?_) (fun q0 => ?_)
  · skip
    refine W_skip ?_
    refine W_seq ?_
    refine W_block ?_
    refine W_anyS [(b14, .cells 112 1 [v])] 11 (by kernel_rfl) ?_
    refine WS_take 0 (l' := #[true, false, false, false, false, false, false, false, false, false, false, false]) rfl rfl (by decide +kernel) (by decide +kernel) (by decide +kernel) (by decide +kernel) rfl (by decide +kernel) (X_move rfl) rfl ?_
    refine WS_take 1 (l' := #[true, true, false, false, false, false, false, false, false, false, false, false]) rfl rfl (by decide +kernel) (by decide +kernel) (by decide +kernel) (by decide +kernel) rfl (by decide +kernel) (X_move rfl) rfl ?_
    refine WS_take 2 (l' := #[true, true, true, false, false, false, false, false, false, false, false, false]) rfl rfl (by decide +kernel) (by decide +kernel) (by decide +kernel) (by decide +kernel) rfl (by decide +kernel) (X_nilCheck rfl) rfl ?_
    refine WS_take 3 (l' := #[true, true, true, true, false, false, false, false, false, false, false, false]) rfl rfl (by decide +kernel) (by decide +kernel) (by decide +kernel) (by decide +kernel) rfl (by decide +kernel) (X_fieldAddr rfl fld112_0 (by decide)) rfl ?_
    refine WS_take 4 (l' := #[true, true, true, true, true, false, false, false, false, false, false, false]) rfl rfl (by decide +kernel) (by decide +kernel) (by decide +kernel) (by decide +kernel) rfl (by decide +kernel) (X_load (v := v) rfl ty110 rfl (Cell.own (b := b14) (by repeat (first | exact List.mem_cons_self | apply List.mem_cons_of_mem | apply List.mem_append_right)) rfl)) rfl ?_
    refine WS_take 5 (l' := #[true, true, true, true, true, true, false, false, false, false, false, false]) rfl rfl (by decide +kernel) (by decide +kernel) (by decide +kernel) (by decide +kernel) rfl (by decide +kernel) (X_move rfl) rfl ?_
    refine WS_one 6 (l' := #[true, true, true, true, true, true, true, false, false, false, false, false]) (by first | exact hsubI | (repeat (first | with_reducible exact HSub.refl _ | refine HSub.cons (by repeat (first | exact Take.here _ | apply Take.next | apply Take.app)) ?_ | refine HSub.app (by repeat (first | with_reducible exact TakeS.here _ | apply TakeS.next | apply TakeS.app)) ?_ | exact HSub.nil _ | exact HSub.refl _ | refine HSub.drop ?_ | refine HSub.dropS ?_))) rfl (by decide +kernel) rfl (by decide +kernel) ?_
    refine W_call (.cons rfl .nil) Tryd.call13 rfl (New_W (now := now)) ?_
    rintro w2 H' ⟨bw, HW, rfl, hW, rfl⟩
    refine W_nil ?_
    refine WS_goal ?_
    refine WS_one 7 (l' := #[true, true, true, true, true, true, true, true, false, false, false, false]) (by first | exact hsubI | (repeat (first | with_reducible exact HSub.refl _ | refine HSub.cons (by repeat (first | exact Take.here _ | apply Take.next | apply Take.app)) ?_ | refine HSub.app (by repeat (first | with_reducible exact TakeS.here _ | apply TakeS.next | apply TakeS.app)) ?_ | exact HSub.nil _ | exact HSub.refl _ | refine HSub.drop ?_ | refine HSub.dropS ?_))) rfl (by decide +kernel) rfl (by decide +kernel) ?_
    refine W_buildSlice (l := [.pointer (some ⟨bw, 0, none⟩)]) ty110 ty24 (.cons rfl rfl rfl rfl rfl .nil) rfl rfl rfl rfl rfl rfl rfl (fun b25 => ?_)
    refine W_nil ?_
    refine WS_goal ?_
    refine WS_one 8 (l' := #[true, true, true, true, true, true, true, true, true, false, false, false]) (by first | exact hsubI | (repeat (first | with_reducible exact HSub.refl _ | refine HSub.cons (by repeat (first | exact Take.here _ | apply Take.next | apply Take.app)) ?_ | refine HSub.app (by repeat (first | with_reducible exact TakeS.here _ | apply TakeS.next | apply TakeS.app)) ?_ | exact HSub.nil _ | exact HSub.refl _ | refine HSub.drop ?_ | refine HSub.dropS ?_))) rfl (by decide +kernel) rfl (by decide +kernel) ?_
    refine W_append (news := [.pointer (some ⟨bw, 0, none⟩)]) (m := 1) (HB := XS) (H0 := (b25, .cells 24 1 [.pointer (some ⟨bw, 0, none⟩)]) :: (HW ++ ((b14, .cells 112 1 [v]) :: (HWs.flatten ++ H)))) rfl rfl ty110 ty24 rfl (by decide) hv rfl (Holds.own (b := b25) (by repeat (first | exact List.mem_cons_self | apply List.mem_cons_of_mem | apply List.mem_append_right))) rfl (by simp only [maxLen]; omega) (by omega) (by first | exact hsubI | (repeat (first | with_reducible exact HSub.refl _ | refine HSub.cons (by repeat (first | exact Take.here _ | apply Take.next | apply Take.app)) ?_ | refine HSub.app (by repeat (first | with_reducible exact TakeS.here _ | apply TakeS.next | apply TakeS.app)) ?_ | exact HSub.nil _ | exact HSub.refl _ | refine HSub.drop ?_ | refine HSub.dropS ?_))) rfl (fun v' X' hv' => ?_)
    refine W_nil ?_
    refine WS_goal ?_
    refine WS_takeP 9 (l' := #[true, true, true, true, true, true, true, true, true, true, false, false]) rfl rfl (by decide +kernel) (by decide +kernel) (by decide +kernel) rfl (by decide +kernel) (X_nilCheck rfl) rfl ?_
    refine WS_take 10 (l' := #[true, true, true, true, true, true, true, true, true, true, true, false]) rfl rfl (by decide +kernel) (by decide +kernel) (by decide +kernel) (by decide +kernel) rfl (by decide +kernel) (X_fieldAddr rfl fld112_0 (by decide)) rfl ?_
    refine WS_last (l' := #[true, true, true, true, true, true, true, true, true, true, true, true]) (by first | exact hsubI | (repeat (first | with_reducible exact HSub.refl _ | refine HSub.cons (by repeat (first | exact Take.here _ | apply Take.next | apply Take.app)) ?_ | refine HSub.app (by repeat (first | with_reducible exact TakeS.here _ | apply TakeS.next | apply TakeS.app)) ?_ | exact HSub.nil _ | exact HSub.refl _ | refine HSub.drop ?_ | refine HSub.dropS ?_))) (by decide +kernel) rfl (by decide +kernel) ?_
    have hv1 : v'.oneCell' = true := by obtain ⟨_, _, rfl, _⟩ := hv'.shape; rfl
    refine W_store (l' := [v']) rfl rfl ty110 hv1 rfl (b := b14) (by repeat (first | exact List.mem_cons_self | apply List.mem_cons_of_mem | apply List.mem_append_right)) rfl rfl (by repeat (first | exact Upd.head _ | apply Upd.tail | apply Upd.app)) ?_
    refine W_nil ?_
    refine WC_goal ?_
    refine WC_done (.nil _) (by decide +kernel) ?_
    refine W_blk ?_
    refine W_region ?_
    refine W_bin rfl rfl (b_add (m := ((i + 1 : Nat) : Int)) ((i64w (by omega)).trans (by omega))) rfl ?_
    refine W_move rfl rfl ?_
    refine W_nil ?_
    refine W_again ⟨i + 1, Ws ++ [⟨bw, now, [], 0⟩], v', X', HWs ++ [HW]⟩ ⟨by show i + 1 ≤ n; omega, by show (Ws ++ [_]).length = i + 1; rw [List.length_append, hlen]; rfl, by show OwnS 24 1 v' (Ws ++ [_]).length ((Ws ++ [_]).map Wl.p) X'; rw [List.length_append, List.map_append]; exact hv', by show (HWs ++ [HW]).length = (Ws ++ [_]).length; rw [List.length_append, List.length_append, hl]; rfl, all_snoc hl hw hW, fun w h => (List.mem_append.1 h).elim (hf w) (fun h => by rw [List.mem_singleton.1 h]; exact ⟨rfl, rfl, rfl⟩)⟩ (by show n - (i + 1) < n - i; omega) (sub_cons rfl (sub_cons rfl (sub_cons rfl (sub_cons rfl (sub_nil _))))) rfl (by show HSub _ ((b14, .cells 112 1 [v']) :: (X' ++ ((HWs ++ [HW]).flatten ++ H))); rw [List.flatten_append, List.flatten_singleton, List.append_assoc]; first | exact hsubI | (repeat (first | with_reducible exact HSub.refl _ | refine HSub.cons (by repeat (first | exact Take.here _ | apply Take.next | apply Take.app)) ?_ | refine HSub.app (by repeat (first | with_reducible exact TakeS.here _ | apply TakeS.next | apply TakeS.app)) ?_ | exact HSub.nil _ | exact HSub.refl _ | refine HSub.drop ?_ | refine HSub.dropS ?_)))
  · skip
    refine W_exit rfl ?_
    refine W_sr ?_
    refine W_move rfl rfl ?_
    refine W_assign rfl rfl ?_
    refine W_assign rfl rfl ?_
    refine W_nil ?_
    refine W_ret2m (H2 := (b14, .cells 112 1 [v]) :: (XS ++ (HWs.flatten ++ H))) Tryd.results21 rfl rfl (.nil _) (by first | exact hsubI | (repeat (first | with_reducible exact HSub.refl _ | refine HSub.cons (by repeat (first | exact Take.here _ | apply Take.next | apply Take.app)) ?_ | refine HSub.app (by repeat (first | with_reducible exact TakeS.here _ | apply TakeS.next | apply TakeS.app)) ?_ | exact HSub.nil _ | exact HSub.refl _ | refine HSub.drop ?_ | refine HSub.dropS ?_))) ?_
    exact ⟨b14, Ws, (b14, .cells 112 1 [v]) :: (XS ++ HWs.flatten), rfl, .mk hv hl hw, by omega, hf, by show _ = _ :: ((XS ++ HWs.flatten) ++ H); rw [List.append_assoc]⟩
end Go.Proofs.YtknbohnoiigioaaDoor
namespace Go.Proofs.YtknbohnoiigioaaDoor
open Go Go.Sl
attribute [local irreducible] W
theorem PureAt.via {P : Program} {w0 : World} {H H' : Heap} {f : FuncId} {args : List Value} {v : Value} (h : PureAt P w0 H' f args v) (h1 : HSub H H') (h2 : HSub H' H) : PureAt P w0 H f args v :=
  LCalls.sub (LCalls.hsub h h1) fun v' H2 ⟨e1, e2⟩ => ⟨H, by rw [e2]; exact h2, e1, rfl⟩
theorem BankH.same {bb k : Nat} {Ws : List Wl} {HB : Heap} {w : Wl} (h : BankH bb Ws HB) (hk : Ws[k]? = some w) : ∃ HW HR, WheelH w.bw w.now w.L w.turn HW ∧ (∀ H, HSub (HB ++ H) (HW ++ (HR ++ H))) ∧ ∀ H, HSub (HW ++ (HR ++ H)) (HB ++ H) := by
  cases h with
  | @mk v XS HWs hv hl hw =>
    have hkl := (List.getElem?_eq_some_iff.1 hk).1
    obtain ⟨HW, hHW⟩ : ∃ HW, HWs[k]? = some HW := ⟨_, List.getElem?_eq_getElem (by omega)⟩
    have hp : ∀ H, ((((bb, Blk.cells 112 1 [v]) :: XS) ++ HWs.flatten) ++ H).Perm (HW ++ ((((bb, Blk.cells 112 1 [v]) :: XS) ++ (HWs.set k []).flatten) ++ H)) := fun H => by
      have h1 := ((flat_take hHW).append_left ((bb, .cells 112 1 [v]) :: XS)).append_right H
      refine h1.trans ?_
      rw [List.append_assoc, List.append_assoc, List.append_assoc]
      exact List.perm_append_comm_assoc _ _ _
    exact ⟨HW, ((bb, .cells 112 1 [v]) :: XS) ++ (HWs.set k []).flatten, hw k w HW hk hHW, fun H => HSub.of_perm (hp H), fun H => HSub.of_perm (hp H).symm⟩
set_option maxHeartbeats 1000000 in
theorem such_L {w0 : World} {H : Heap} {b f : Value} (hb : b.cells.toList = [b]) (hf : f.cells.toList = [f]) : LCalls Tryd.prog w0 56 #[b, f] (H) (fun v H' => ∃ b2 b3, v = .func (.func 78) #[] #[.pointer (some ⟨b2, 0, none⟩), .pointer (some ⟨b3, 0, none⟩)] ∧ H' = (b3, .cells 114 1 [f]) :: (b2, .cells 45 1 [b]) :: H) := by
  refine L_enter (l := [b, f]) Tryd.func56 rfl Tryd.ntmps56 rfl rfl ?_
  refine W_sr ?_
  refine W_box (l := [b]) rfl hb rfl (fun b2 => ?_)
  refine W_box (l := [f]) rfl hf rfl (fun b3 => ?_)
  refine W_assign rfl rfl ?_
  refine W_nil ?_
  refine W_sr ?_
  refine W_makeFunc .nil (.cons rfl (.cons rfl .nil)) rfl ?_
  refine W_assign rfl rfl ?_
  refine W_nil ?_
  refine W_ret1m Tryd.results56 rfl (.nil _) (.refl _) ?_
  exact ⟨b2, b3, rfl, rfl⟩

set_option maxHeartbeats 2000000 in
theorem such_iter {w0 : World} {H HB0 : Heap} {lp b2 b3 bb n fi : Nat} {ca : List Value} {Ws0 : List Wl} (J : Nat → List Wl → Heap → Prop) (S : List Wl → Heap → Prop) (sel : Nat → Wl → Bool) (hfi : ∀ (args : Array Value) (w : World), (callFunc fi args).run Tryd.prog w = .ok (.enter fi args) w)
    (hn64 : n ≤ 64) (hlen : ∀ k Ws Hr, J k Ws Hr → Ws.length = n)
    (hcl : ∀ k Ws HB Hr w, k < n → Ws[k]? = some w → BankH bb Ws HB → J k Ws Hr → PureAt Tryd.prog w0 ((b2, .cells 45 1 [.pointer (some ⟨bb, 0, none⟩)]) :: (b3, .cells 114 1 [(Value.func (.func fi) #[] ca.toArray)]) :: (HB ++ Hr)) fi ([.int .i64 (k : Int), w.p] ++ ca) (.bool (sel k w)))
    (hskip : ∀ k Ws Hr w, k < n → Ws[k]? = some w → J k Ws Hr → sel k w = false → J (k + 1) Ws Hr)
    (hround : ∀ k Ws HB Hr w, k < n → Ws[k]? = some w → BankH bb Ws HB → J k Ws Hr → sel k w = true → RoundC Tryd.prog w0 lp #[.int .i64 (k : Int), w.p] ((b2, .cells 45 1 [.pointer (some ⟨bb, 0, none⟩)]) :: (b3, .cells 114 1 [(Value.func (.func fi) #[] ca.toArray)]) :: (HB ++ Hr)) (fun v H' => ∃ Ws' HB' Hr', BankH bb Ws' HB' ∧ HSub H' ((b2, .cells 45 1 [.pointer (some ⟨bb, 0, none⟩)]) :: (b3, .cells 114 1 [(Value.func (.func fi) #[] ca.toArray)]) :: (HB' ++ Hr')) ∧ ((v = .bool true ∧ J (k + 1) Ws' Hr') ∨ (v = .bool false ∧ S Ws' Hr'))))
    (hB0 : BankH bb Ws0 HB0) (hJ0 : J 0 Ws0 H) :
    LCalls Tryd.prog w0 78 #[.func (.yield lp) #[] #[], .pointer (some ⟨b2, 0, none⟩), .pointer (some ⟨b3, 0, none⟩)] ((b2, .cells 45 1 [.pointer (some ⟨bb, 0, none⟩)]) :: (b3, .cells 114 1 [(Value.func (.func fi) #[] ca.toArray)]) :: (HB0 ++ H)) (fun _ H' => ∃ Ws' HB' Hr', BankH bb Ws' HB' ∧ HSub H' ((b2, .cells 45 1 [.pointer (some ⟨bb, 0, none⟩)]) :: (b3, .cells 114 1 [(Value.func (.func fi) #[] ca.toArray)]) :: (HB' ++ Hr')) ∧ (J n Ws' Hr' ∨ S Ws' Hr')) := by
  refine L_enter (l := [.func (.yield lp) #[] #[], .pointer (some ⟨b2, 0, none⟩), .pointer (some ⟨b3, 0, none⟩)]) Tryd.func78 rfl Tryd.ntmps78 rfl rfl ?_
  refine W_sr ?_
  refine W_load (v := .pointer (some ⟨bb, 0, none⟩)) rfl ty45 rfl (Cell.own (b := b2) (by repeat (first | exact List.mem_cons_self | apply List.mem_cons_of_mem | apply List.mem_append_right)) rfl) rfl ?_
  have hm0 : ∀ p ∈ HB0, p ∈ (b2, .cells 45 1 [.pointer (some ⟨bb, 0, none⟩)]) :: (b3, .cells 114 1 [(Value.func (.func fi) #[] ca.toArray)]) :: (HB0 ++ H) := fun p hp => List.mem_cons_of_mem _ (List.mem_cons_of_mem _ (List.mem_append_left _ hp))
  have hcq := CPUs_q (w0 := w0) (bb := bb) (Ws := Ws0) hB0 hm0
  rw [hlen 0 Ws0 H hJ0] at hcq
  refine W_callq (.cons rfl .nil) Tryd.call30 rfl hcq ?_
  refine W_move rfl rfl ?_
  refine W_nil ?_
  refine W_block ?_
  refine W_loopC (X := (Nat × List Wl × Heap × Heap)) [(0, _), (1, _), (2, _), (7, _)] (fun (x : (Nat × List Wl × Heap × Heap)) => [(8, .int .i64 (x.1 : Int))]) (fun _ => _) (fun (x : (Nat × List Wl × Heap × Heap)) => (b2, .cells 45 1 [.pointer (some ⟨bb, 0, none⟩)]) :: (b3, .cells 114 1 [(Value.func (.func fi) #[] ca.toArray)]) :: (x.2.2.1 ++ x.2.2.2)) (fun (x : (Nat × List Wl × Heap × Heap)) => x.1 ≤ n ∧ BankH bb x.2.1 x.2.2.1 ∧ J x.1 x.2.1 x.2.2.2) (fun (x : (Nat × List Wl × Heap × Heap)) => n - x.1) (0, Ws0, HB0, H) ⟨Nat.zero_le _, hB0, hJ0⟩ (sub_cons rfl (sub_cons rfl (sub_cons rfl (sub_cons rfl (sub_nil _))))) (sub_cons rfl (sub_nil _)) rfl (.refl _) ?_
  rintro ⟨k, Ws, HB, Hr⟩ ⟨hk, hB, hJk⟩
  dsimp only at hk hB hJk ⊢
  simp only [List.cons_append, List.nil_append]
  refine W_sr ?_
  refine W_bin rfl rfl b_lss rfl ?_
  refine W_nil ?_
  refine W_seq ?_
  refine W_condPS (p := (k : Int) < (n : Int)) rfl (by simp) (fun q0 => ?_) (fun q0 => ?_)
  · skip
    refine W_skip ?_
    refine W_seq ?_
    refine W_block ?_
    refine W_sr ?_
    refine W_move rfl rfl ?_
    refine W_assign rfl rfl ?_
    refine W_nil ?_
    refine W_sr ?_
    obtain ⟨w, hw⟩ : ∃ w, Ws[k]? = some w := ⟨_, List.getElem?_eq_getElem (by rw [hlen k Ws Hr hJk]; omega)⟩
    have hkn : k < n := by omega
    obtain ⟨ad, cap, hcell, hlc, hrow0⟩ := hB.row
    have hmem : ∀ p ∈ HB, p ∈ (b2, .cells 45 1 [.pointer (some ⟨bb, 0, none⟩)]) :: (b3, .cells 114 1 [(Value.func (.func fi) #[] ca.toArray)]) :: (HB ++ Hr) := fun p hp => List.mem_cons_of_mem _ (List.mem_cons_of_mem _ (List.mem_append_left _ hp))
    obtain ⟨qb, qo, rfl, hc⟩ := (hrow0 (w0 := w0) hmem).at (i := k) (v := w.p) (by rw [List.getElem?_map, hw]; rfl)
    refine W_load (v := .pointer (some ⟨bb, 0, none⟩)) rfl ty45 rfl (Cell.own (b := b2) (by repeat (first | exact List.mem_cons_self | apply List.mem_cons_of_mem | apply List.mem_append_right)) rfl) rfl ?_
    refine W_nilCheck rfl rfl ?_
    refine W_fieldAddr rfl fld112_0 (by decide) rfl ?_
    refine W_load (v := .slice (some ⟨qb, qo, none⟩) Ws.length cap) rfl ty110 rfl (Cell.own (b := bb) (hmem _ hcell) rfl) rfl ?_
    refine W_move rfl rfl ?_
    refine W_indexAddr (j := k) rfl rfl ty110 ty24 rfl (by rw [hlen k Ws Hr hJk]; omega) rfl rfl ?_
    refine W_load (v := w.p) rfl ty24 rfl (by rw [Nat.mul_one]; exact hc) rfl ?_
    refine W_assign rfl rfl ?_
    refine W_nil ?_
    refine W_sr ?_
    refine W_load (v := (Value.func (.func fi) #[] ca.toArray)) rfl ty114 rfl (Cell.own (b := b3) (by repeat (first | exact List.mem_cons_self | apply List.mem_cons_of_mem | apply List.mem_append_right)) rfl) rfl ?_
    refine W_move rfl rfl ?_
    refine W_move rfl rfl ?_
    refine W_callqv (fa := []) (ca := ca) rfl (.cons rfl (.cons rfl .nil)) rfl hfi rfl (hcl k Ws HB Hr w hkn hw hB hJk) ?_
    rcases hs : sel k w with _ | _
    · skip
      refine W_move rfl rfl ?_
      refine W_gno rfl rfl rfl ?_
      refine W_gno rfl rfl rfl ?_
      refine W_gno rfl rfl rfl ?_
      refine W_gno rfl rfl rfl ?_
      refine W_gno rfl rfl rfl ?_
      first | refine W_pickt rfl rfl rfl ?_ | refine W_pickf rfl rfl rfl ?_
      refine W_nil ?_
      refine W_condF rfl rfl ?_
      refine W_skip ?_
      refine W_blk ?_
      refine W_region ?_
      refine W_bin rfl rfl (b_add (m := ((k + 1 : Nat) : Int)) ((i64w (by omega)).trans (by omega))) rfl ?_
      refine W_move rfl rfl ?_
      refine W_nil ?_
      refine W_again (k + 1, Ws, HB, Hr) ⟨by show k + 1 ≤ n; omega, hB, hskip k Ws Hr w hkn hw hJk hs⟩ (by show n - (k + 1) < n - k; omega) (sub_cons rfl (sub_cons rfl (sub_cons rfl (sub_cons rfl (sub_cons rfl (sub_nil _)))))) rfl (.refl _)
    · skip
      refine W_move rfl rfl ?_
      refine W_gyes rfl rfl ?_
      refine W_move rfl rfl ?_
      refine W_gyes rfl rfl ?_
      refine W_move rfl rfl ?_
      refine W_gyes rfl rfl ?_
      refine W_move rfl rfl ?_
      refine W_gyes rfl rfl ?_
      refine W_yield rfl (.cons rfl (.cons rfl .nil)) rfl (hround k Ws HB Hr w hkn hw hB hJk hs) ?_
      rintro v H' ⟨Ws', HB', Hr', hB', hsub, ⟨rfl, hJ'⟩ | ⟨rfl, hS'⟩⟩
      · skip
        refine W_hsub hsub ?_
        refine W_gyes rfl rfl ?_
        refine W_not rfl rfl ?_
        first | refine W_pickt rfl rfl rfl ?_ | refine W_pickf rfl rfl rfl ?_
        refine W_nil ?_
        refine W_condF rfl rfl ?_
        refine W_skip ?_
        refine W_blk ?_
        refine W_region ?_
        refine W_bin rfl rfl (b_add (m := ((k + 1 : Nat) : Int)) ((i64w (by omega)).trans (by omega))) rfl ?_
        refine W_move rfl rfl ?_
        refine W_nil ?_
        refine W_again (k + 1, Ws', HB', Hr') ⟨by show k + 1 ≤ n; omega, hB', hJ'⟩ (by show n - (k + 1) < n - k; omega) (sub_cons rfl (sub_cons rfl (sub_cons rfl (sub_cons rfl (sub_cons rfl (sub_nil _)))))) rfl (.refl _)
      · skip
        refine W_hsub hsub ?_
        refine W_gyes rfl rfl ?_
        refine W_not rfl rfl ?_
        first | refine W_pickt rfl rfl rfl ?_ | refine W_pickf rfl rfl rfl ?_
        refine W_nil ?_
        refine W_condT rfl rfl ?_
        refine W_ret0m Tryd.results78 (.nil _) (.refl _) ?_
        exact ⟨Ws', HB', Hr', hB', .refl _, .inr hS'⟩
  · skip
    refine W_exit rfl ?_
    refine W_end0m Tryd.results78 (.nil _) (.refl _) ?_
    obtain rfl : k = n := by omega
    exact ⟨Ws, HB, Hr, hB, .refl _, .inl hJk⟩

theorem such_none {w0 : World} {H : Heap} {lp b2 b3 : Nat} {cv : Value} : LCalls Tryd.prog w0 78 #[.func (.yield lp) #[] #[], .pointer (some ⟨b2, 0, none⟩), .pointer (some ⟨b3, 0, none⟩)] ((b2, .cells 45 1 [.pointer none]) :: (b3, .cells 114 1 [cv]) :: H) (fun _ H' => H' = (b2, .cells 45 1 [.pointer none]) :: (b3, .cells 114 1 [cv]) :: H) := by
  refine L_enter (l := [.func (.yield lp) #[] #[], .pointer (some ⟨b2, 0, none⟩), .pointer (some ⟨b3, 0, none⟩)]) Tryd.func78 rfl Tryd.ntmps78 rfl rfl ?_
  refine W_sr ?_
  refine W_load (v := .pointer none) rfl ty45 rfl (Cell.own (b := b2) (by repeat (first | exact List.mem_cons_self | apply List.mem_cons_of_mem | apply List.mem_append_right)) rfl) rfl ?_
  refine W_callp (.cons rfl .nil) Tryd.call30 rfl (T := fun _ => True) trivial (CPUs_nil ) ?_
  refine W_move rfl rfl ?_
  refine W_nil ?_
  refine W_block ?_
  refine W_loopC (X := Unit) [(0, _), (1, _), (2, _), (7, _)] (fun (_x : Unit) => [(8, .int .i64 0)]) (fun _ => _) (fun (_x : Unit) => (b2, .cells 45 1 [.pointer none]) :: (b3, .cells 114 1 [cv]) :: H) (fun (_x : Unit) => True) (fun (_x : Unit) => 0) () trivial (sub_cons rfl (sub_cons rfl (sub_cons rfl (sub_cons rfl (sub_nil _))))) (sub_cons rfl (sub_nil _)) rfl (.refl _) ?_
  intro _ _
  simp only [List.cons_append, List.nil_append]
  refine W_sr ?_
  refine W_bin rfl rfl b_lss rfl ?_
  refine W_nil ?_
  refine W_seq ?_
  refine W_condF rfl rfl ?_
  refine W_exit rfl ?_
  refine W_end0m (H2 := (b2, .cells 45 1 [.pointer none]) :: (b3, .cells 114 1 [cv]) :: H) Tryd.results78 (.nil _) (by first | exact hsubI | (repeat (first | with_reducible exact HSub.refl _ | refine HSub.cons (by repeat (first | exact Take.here _ | apply Take.next | apply Take.app)) ?_ | refine HSub.app (by repeat (first | with_reducible exact TakeS.here _ | apply TakeS.next | apply TakeS.app)) ?_ | exact HSub.nil _ | exact HSub.refl _ | refine HSub.drop ?_ | refine HSub.dropS ?_))) ?_
  rfl
end Go.Proofs.YtknbohnoiigioaaDoor
namespace Go.Proofs.YtknbohnoiigioaaDoor
open Go Go.Sl
attribute [local irreducible] W
theorem BankH.wheel {bb k : Nat} {Ws : List Wl} {HB : Heap} {w : Wl} (h : BankH bb Ws HB) (hk : Ws[k]? = some w) : ∃ HW, WheelH w.bw w.now w.L w.turn HW ∧ ∀ p ∈ HW, p ∈ HB := by
  cases h with
  | @mk v XS HWs hv hl hw =>
    have hkl := (List.getElem?_eq_some_iff.1 hk).1
    obtain ⟨HW, hHW⟩ : ∃ HW, HWs[k]? = some HW := ⟨_, List.getElem?_eq_getElem (by omega)⟩
    exact ⟨HW, hw k w HW hk hHW, fun p hp => List.mem_cons_of_mem _ (List.mem_append_right _ (List.mem_flatten.2 ⟨HW, List.mem_of_getElem? hHW, hp⟩))⟩
theorem find_q2 {w0 : World} {H HW : Heap} {bw now turn : Nat} {L : List Tm} {id : Int} (hW : WheelH bw now L turn HW) (hm : ∀ p ∈ HW, p ∈ H) : PureAt Tryd.prog w0 H 20 [.pointer (some ⟨bw, 0, none⟩), .int .i64 id] (.tuple #[.agg (spotOf L id).v.toArray, .bool (heldB L id)]) := by
  cases hW with
  | @mk bm c sl XS bs l h =>
    have h1 := hm _ List.mem_cons_self
    have h2 := hm _ (List.mem_cons_of_mem _ List.mem_cons_self)
    by_cases hin : id ∈ L.map (·.id)
    · obtain ⟨t, ht, rfl⟩ := List.mem_map.1 hin
      obtain ⟨hv, hh⟩ := h.hit ht
      rw [spotOf_in h.nodup ht, heldB_iff.2 hin]
      exact Find_q (now := now) (turn := turn) (c := c) (l := l) h.row h1 h2 hv hh
    · obtain ⟨hv, hh⟩ := h.miss hin
      rw [spotOf_out hin, show heldB L id = false by (cases hb : heldB L id with | false => rfl | true => exact absurd (heldB_iff.1 hb) hin)]
      exact Find_q (tn := 0) (e := zSpot) (now := now) (turn := turn) (c := c) (l := l) h.row h1 h2 hv hh
set_option maxHeartbeats 1000000 in
theorem findc_q {w0 : World} {H : Heap} {bi k : Nat} {id : Int} {w : Wl} {HW : Heap} (hW : WheelH w.bw w.now w.L w.turn HW) (hm : ∀ p ∈ HW, p ∈ H) (hb : (bi, .cells 3 1 [.int .i64 id]) ∈ H)  : PureAt Tryd.prog w0 H 58 [.int .i64 (k : Int), w.p, .pointer (some ⟨bi, 0, none⟩)] (.bool (heldB w.L id)) := by
  refine L_enter Tryd.func58 rfl Tryd.ntmps58 rfl rfl ?_
  refine W_sr ?_
  refine W_assign rfl rfl ?_
  refine W_nil ?_
  refine W_sr ?_
  refine W_move rfl rfl ?_
  refine W_load (v := .int .i64 id) rfl ty3 rfl (Cell.own hb rfl) rfl ?_
  refine W_callq (.cons rfl (.cons rfl .nil)) Tryd.call20 rfl (find_q2 (id := id) hW hm) ?_
  refine W_move rfl rfl ?_
  refine W_extract rfl rfl rfl ?_
  refine W_extract rfl rfl rfl ?_
  refine W_alloc (l := zSpot.v) ty27 rfl rfl (fun b6 => ?_)
  refine W_storeA (l' := (spotOf w.L id).v) rfl rfl ty27 rfl rfl (b := b6) (by repeat (first | exact List.mem_cons_self | apply List.mem_cons_of_mem | apply List.mem_append_right)) (by exact Nat.le_refl 4) rfl (by repeat (first | exact Upd.head _ | apply Upd.tail | apply Upd.app)) ?_
  refine W_assign rfl rfl ?_
  refine W_nil ?_
  refine W_sr ?_
  refine W_move rfl rfl ?_
  refine W_assign rfl rfl ?_
  refine W_nil ?_
  refine W_ret1m (H2 := H) Tryd.results58 rfl (.nil _) (by first | exact hsubI | (repeat (first | with_reducible exact HSub.refl _ | refine HSub.cons (by repeat (first | exact Take.here _ | apply Take.next | apply Take.app)) ?_ | refine HSub.app (by repeat (first | with_reducible exact TakeS.here _ | apply TakeS.next | apply TakeS.app)) ?_ | exact HSub.nil _ | exact HSub.refl _ | refine HSub.drop ?_ | refine HSub.dropS ?_))) ?_
  exact ⟨rfl, rfl⟩
/-- on which CPU a timer is held -/
def findK (Ws : List Wl) (id : Int) : Option Nat := Ws.findIdx? (fun w => heldB w.L id)
theorem findK_some {Ws : List Wl} {id : Int} {k : Nat} {w : Wl} (hw : Ws[k]? = some w) (hh : heldB w.L id = true) (hf : ∀ (j : Nat) u, j < k → Ws[j]? = some u → heldB u.L id = false) : findK Ws id = some k := by
  unfold findK
  have hk := (List.getElem?_eq_some_iff.1 hw)
  have hk1 := hk.1
  refine List.findIdx?_eq_some_iff_getElem.2 ⟨hk.1, by rw [hk.2]; exact hh, fun j hj => ?_⟩
  rw [hf j _ hj (List.getElem?_eq_getElem (by omega))]; simp
theorem findK_none {Ws : List Wl} {id : Int} (hf : ∀ (j : Nat) u, j < Ws.length → Ws[j]? = some u → heldB u.L id = false) : findK Ws id = none := by
  unfold findK
  rw [List.findIdx?_eq_none_iff]
  intro w hw
  obtain ⟨j, hj, e⟩ := List.getElem_of_mem hw
  exact hf j w hj (by rw [List.getElem?_eq_getElem hj, e])
def findV (Ws : List Wl) (id : Int) : Value := match findK Ws id with
  | some k => match Ws[k]? with
    | some w => .tuple #[.int .i64 (k : Int), .agg (spotOf w.L id).v.toArray, .bool true]
    | none => .tuple #[.int .i64 0, .agg zSpot.v.toArray, .bool false]
  | none => .tuple #[.int .i64 0, .agg zSpot.v.toArray, .bool false]
theorem snoc_all {Ws : List Wl} {p : Wl → Bool} {k : Nat} {w : Wl} (h : ∀ (j : Nat) u, j < k → Ws[j]? = some u → p u = false) (hw : Ws[k]? = some w) (hs : p w = false) : ∀ (j : Nat) u, j < k + 1 → Ws[j]? = some u → p u = false := fun j u hj hu => by
  by_cases e : j = k
  · subst e
    obtain rfl := Option.some.inj (hu.symm.trans hw)
    exact hs
  · exact h j u (by omega) hu
set_option maxHeartbeats 4000000 in
theorem FindB_L {w0 : World} {H : Heap} {HB : Heap} {bb : Nat} {Ws : List Wl} {id : Int} (hB : BankH bb Ws HB) (hn64 : Ws.length ≤ 64)  : LCalls Tryd.prog w0 27 #[.pointer (some ⟨bb, 0, none⟩), .int .i64 id] (HB ++ H) (fun v H' => ∃ HB', BankH bb Ws HB' ∧ v = findV Ws id ∧ H' = HB' ++ H) := by
  refine L_enter (l := [.pointer (some ⟨bb, 0, none⟩), .int .i64 id]) Tryd.func27 rfl Tryd.ntmps27 rfl rfl ?_
  refine W_sr ?_
  refine W_box (l := [.int .i64 id]) rfl rfl rfl (fun b3 => ?_)
  refine W_alloc (l := [.int .i64 0]) ty3 rfl rfl (fun b4 => ?_)
  refine W_alloc (l := zSpot.v) ty27 rfl rfl (fun b5 => ?_)
  refine W_alloc (l := [.bool false]) ty4 rfl rfl (fun b6 => ?_)
  refine W_nil ?_
  refine W_sr ?_
  refine W_makeFunc .nil (.cons rfl .nil) rfl ?_
  refine W_assign rfl rfl ?_
  refine W_nil ?_
  refine W_seq ?_
  refine W_sr ?_
  refine W_move rfl rfl ?_
  refine W_move rfl rfl ?_
  refine W_call (.cons rfl (.cons rfl .nil)) Tryd.call56 rfl (such_L (b := .pointer (some ⟨bb, 0, none⟩)) (f := .func (.func 58) #[] #[.pointer (some ⟨b3, 0, none⟩)]) rfl rfl) ?_
  rintro v H' ⟨b2_, b3_, rfl, rfl⟩
  refine W_nil ?_
  refine W_block ?_
  refine W_rangeFunc rfl Tryd.call78 ?_
  intro lp D r hst hpd hps hasg hbody hA
  have hr := loop_ready hst hpd
  show LCalls _ _ _ #[_, _, _] _ _
  refine ((such_iter (b2 := b2_) (b3 := b3_) (bb := bb) (n := Ws.length) (fi := 58) (ca := [.pointer (some ⟨b3, 0, none⟩)]) (Ws0 := Ws) (HB0 := HB) (H := (lp, .obj (.loop r)) :: (D, .obj (.deferred (some []))) :: (b6, .cells 4 1 [.bool false]) :: (b5, .cells 27 4 zSpot.v) :: (b4, .cells 3 1 [.int .i64 0]) :: (b3, .cells 3 1 [.int .i64 id]) :: H) (fun k Ws2 Hr => Ws2 = Ws ∧ (∀ (j : Nat) u, j < k → Ws[j]? = some u → heldB u.L id = false) ∧ Hr = (lp, .obj (.loop r)) :: (D, .obj (.deferred (some []))) :: (b6, .cells 4 1 [.bool false]) :: (b5, .cells 27 4 zSpot.v) :: (b4, .cells 3 1 [.int .i64 0]) :: (b3, .cells 3 1 [.int .i64 id]) :: H) (fun Ws2 Hr => Ws2 = Ws ∧ ∃ (k : Nat) (w : Wl), Ws[k]? = some w ∧ findK Ws id = some k ∧ Hr = (lp, .obj (.loop (Loop.at r .done (some .ret)))) :: (D, .obj (.deferred (some []))) :: (b6, .cells 4 1 [.bool true]) :: (b5, .cells 27 4 (spotOf w.L id).v) :: (b4, .cells 3 1 [.int .i64 (k : Int)]) :: (b3, .cells 3 1 [.int .i64 id]) :: H) (fun _ w => heldB w.L id) Tryd.call58 hn64 (fun k Ws' Hr hJ => by rw [hJ.1]) (fun k Ws2 HB2 Hr w hk hw hB2 hJ => by obtain ⟨rfl, _, rfl⟩ := hJ; obtain ⟨HW, hW, hmw⟩ := hB2.wheel hw; exact findc_q (bi := b3) hW (fun p hp => List.mem_cons_of_mem _ (List.mem_cons_of_mem _ (List.mem_append_left _ (hmw p hp)))) (by repeat (first | exact List.mem_cons_self | apply List.mem_cons_of_mem | apply List.mem_append_right))) (fun k Ws2 Hr w hk hw hJ hs => by obtain ⟨rfl, h1, h2⟩ := hJ; exact ⟨rfl, snoc_all h1 hw hs, h2⟩) ?_ hB ⟨rfl, fun j u hj => by omega, rfl⟩).hsub (by first | exact hsubI | (repeat (first | with_reducible exact HSub.refl _ | refine HSub.cons (by repeat (first | exact Take.here _ | apply Take.next | apply Take.app)) ?_ | refine HSub.app (by repeat (first | with_reducible exact TakeS.here _ | apply TakeS.next | apply TakeS.app)) ?_ | exact HSub.nil _ | exact HSub.refl _ | refine HSub.drop ?_ | refine HSub.dropS ?_)))).mono ?_
  · intro k Ws2 HB2 Hr w hk hw hB2 hJ hs
    obtain ⟨rfl, hJ1, rfl⟩ := hJ
    obtain ⟨HW, hW, hmw⟩ := hB2.wheel hw
    refine round_intro hst hpd hA hps rfl hasg rfl rfl rfl (by repeat (first | exact Take.here _ | apply Take.next | apply Take.app)) ?_
    refine W_sr ?_
    refine W_assign rfl rfl ?_
    refine W_nil ?_
    refine W_region ?_
    refine W_assign rfl rfl ?_
    refine W_nil ?_
    refine W_begin hst hpd (by repeat (first | exact Take.here _ | apply Take.next | apply Take.app)) hbody ?_
    refine W_block ?_
    refine W_sr ?_
    refine W_move rfl rfl ?_
    refine W_load (v := .int .i64 id) rfl ty3 rfl (Cell.own (b := b3) (by repeat (first | exact List.mem_cons_self | apply List.mem_cons_of_mem | apply List.mem_append_right)) rfl) rfl ?_
    refine W_callq (.cons rfl (.cons rfl .nil)) Tryd.call20 rfl (find_q2 (id := id) hW (fun p hp => (by repeat (first | exact List.mem_append_left _ (hmw p hp) | exact List.mem_cons_self | apply List.mem_cons_of_mem | apply List.mem_append_right)))) ?_
    refine W_move rfl rfl ?_
    refine W_extract rfl rfl rfl ?_
    refine W_extract rfl rfl rfl ?_
    refine W_alloc (l := zSpot.v) ty27 rfl rfl (fun b10 => ?_)
    refine W_storeA (l' := (spotOf w.L id).v) rfl rfl ty27 rfl rfl (b := b10) (by repeat (first | exact List.mem_cons_self | apply List.mem_cons_of_mem | apply List.mem_append_right)) (by exact Nat.le_refl 4) rfl (by repeat (first | exact Upd.head _ | apply Upd.tail | apply Upd.app)) ?_
    refine W_assign rfl rfl ?_
    refine W_nil ?_
    refine W_seq ?_
    refine Rd.W_anyC [(b10, .cells 27 4 (spotOf w.L id).v)] (by kernel_rfl) ?_
    refine Rd.WC_take 0 (l' := #[true, false, false, false, false]) rfl (by decide +kernel) (by decide +kernel) (by decide +kernel) (by decide +kernel) rfl (by decide +kernel) (X_move rfl) rfl ?_
    refine Rd.WC_take 1 (l' := #[true, true, false, false, false]) rfl (by decide +kernel) (by decide +kernel) (by decide +kernel) (by decide +kernel) rfl (by decide +kernel) (X_loadB (vs := (spotOf w.L id).v) rfl ty27 rfl (b := b10) (by repeat (first | exact List.mem_cons_self | apply List.mem_cons_of_mem | apply List.mem_append_right)) rfl rfl) rfl ?_
    refine Rd.WC_one 2 (l' := #[true, true, true, false, false]) (by first | exact hsubI | (repeat (first | with_reducible exact HSub.refl _ | refine HSub.cons (by repeat (first | exact Take.here _ | apply Take.next | apply Take.app)) ?_ | refine HSub.app (by repeat (first | with_reducible exact TakeS.here _ | apply TakeS.next | apply TakeS.app)) ?_ | exact HSub.nil _ | exact HSub.refl _ | refine HSub.drop ?_ | refine HSub.dropS ?_))) (by decide +kernel) rfl (by decide +kernel) ?_
    refine W_store (l' := [.int .i64 (k : Int)]) rfl rfl ty3 rfl rfl (b := b4) (by repeat (first | exact List.mem_cons_self | apply List.mem_cons_of_mem | apply List.mem_append_right)) rfl rfl (by repeat (first | exact Upd.head _ | apply Upd.tail | apply Upd.app)) ?_
    refine W_nil ?_
    refine Rd.WC_goal ?_
    refine Rd.WC_one 3 (l' := #[true, true, true, true, false]) (by first | exact hsubI | (repeat (first | with_reducible exact HSub.refl _ | refine HSub.cons (by repeat (first | exact Take.here _ | apply Take.next | apply Take.app)) ?_ | refine HSub.app (by repeat (first | with_reducible exact TakeS.here _ | apply TakeS.next | apply TakeS.app)) ?_ | exact HSub.nil _ | exact HSub.refl _ | refine HSub.drop ?_ | refine HSub.dropS ?_))) (by decide +kernel) rfl (by decide +kernel) ?_
    refine W_storeA (l' := (spotOf w.L id).v) rfl rfl ty27 rfl rfl (b := b5) (by repeat (first | exact List.mem_cons_self | apply List.mem_cons_of_mem | apply List.mem_append_right)) (by exact Nat.le_refl 4) rfl (by repeat (first | exact Upd.head _ | apply Upd.tail | apply Upd.app)) ?_
    refine W_nil ?_
    refine Rd.WC_goal ?_
    refine Rd.WC_one 4 (l' := #[true, true, true, true, true]) (by first | exact hsubI | (repeat (first | with_reducible exact HSub.refl _ | refine HSub.cons (by repeat (first | exact Take.here _ | apply Take.next | apply Take.app)) ?_ | refine HSub.app (by repeat (first | with_reducible exact TakeS.here _ | apply TakeS.next | apply TakeS.app)) ?_ | exact HSub.nil _ | exact HSub.refl _ | refine HSub.drop ?_ | refine HSub.dropS ?_))) (by decide +kernel) rfl (by decide +kernel) ?_
    refine W_store (l' := [.bool true]) rfl rfl ty4 rfl rfl (b := b6) (by repeat (first | exact List.mem_cons_self | apply List.mem_cons_of_mem | apply List.mem_append_right)) rfl rfl (by repeat (first | exact Upd.head _ | apply Upd.tail | apply Upd.app)) ?_
    refine W_nil ?_
    refine Rd.WC_goal ?_
    refine Rd.WC_done (by first | exact hsubI | (repeat (first | with_reducible exact HSub.refl _ | refine HSub.cons (by repeat (first | exact Take.here _ | apply Take.next | apply Take.app)) ?_ | refine HSub.app (by repeat (first | with_reducible exact TakeS.here _ | apply TakeS.next | apply TakeS.app)) ?_ | exact HSub.nil _ | exact HSub.refl _ | refine HSub.drop ?_ | refine HSub.dropS ?_))) (by decide +kernel) ?_
    refine W_retround (by repeat (first | exact Take.here _ | apply Take.next | apply Take.app)) ?_
    exact ⟨Ws2, HB2, (lp, .obj (.loop (Loop.at r .done (some .ret)))) :: (D, .obj (.deferred (some []))) :: (b6, .cells 4 1 [.bool true]) :: (b5, .cells 27 4 (spotOf w.L id).v) :: (b4, .cells 3 1 [.int .i64 (k : Int)]) :: (b3, .cells 3 1 [.int .i64 id]) :: H, hB2, (by first | exact hsubI | (repeat (first | with_reducible exact HSub.refl _ | refine HSub.cons (by repeat (first | exact Take.here _ | apply Take.next | apply Take.app)) ?_ | refine HSub.app (by repeat (first | with_reducible exact TakeS.here _ | apply TakeS.next | apply TakeS.app)) ?_ | exact HSub.nil _ | exact HSub.refl _ | refine HSub.drop ?_ | refine HSub.dropS ?_))), .inr ⟨rfl, rfl, k, w, hw, findK_some hw hs hJ1, rfl⟩⟩
    skip
  · intro _ H' hp
    obtain ⟨Ws2, HB2, Hr, hB2, hs, hJS⟩ := hp
    rcases hJS with ⟨rfl, hJ1, rfl⟩ | ⟨rfl, k, w, hw, hfk, rfl⟩
    case inr =>
      refine ⟨.done, some .ret, (b2_, .cells 45 1 [.pointer (some ⟨bb, 0, none⟩)]) :: (b3_, .cells 114 1 [.func (.func 58) #[] #[.pointer (some ⟨b3, 0, none⟩)]]) :: (HB2 ++ ((D, .obj (.deferred (some []))) :: (b6, .cells 4 1 [.bool true]) :: (b5, .cells 27 4 (spotOf w.L id).v) :: (b4, .cells 3 1 [.int .i64 (k : Int)]) :: (b3, .cells 3 1 [.int .i64 id]) :: H)), hs.trans (by first | exact hsubI | (repeat (first | with_reducible exact HSub.refl _ | refine HSub.cons (by repeat (first | exact Take.here _ | apply Take.next | apply Take.app)) ?_ | refine HSub.app (by repeat (first | with_reducible exact TakeS.here _ | apply TakeS.next | apply TakeS.app)) ?_ | exact HSub.nil _ | exact HSub.refl _ | refine HSub.drop ?_ | refine HSub.dropS ?_))), by decide, ?_⟩
      show W _ _ _ _ _ _ _ _ _
      refine W_ret3G (H2 := HB2 ++ H) Tryd.results27 (.cons (by repeat (first | exact Take.here _ | apply Take.next | apply Take.app)) (.nil _)) (.one rfl ty3 rfl (Cell.own (b := b4) (by repeat (first | exact List.mem_cons_self | apply List.mem_cons_of_mem | apply List.mem_append_right)) rfl)) (.own rfl ty27 rfl (b := b5) (by repeat (first | exact List.mem_cons_self | apply List.mem_cons_of_mem | apply List.mem_append_right)) rfl) (.one rfl ty4 rfl (Cell.own (b := b6) (by repeat (first | exact List.mem_cons_self | apply List.mem_cons_of_mem | apply List.mem_append_right)) rfl)) (by first | exact hsubI | (repeat (first | with_reducible exact HSub.refl _ | refine HSub.cons (by repeat (first | exact Take.here _ | apply Take.next | apply Take.app)) ?_ | refine HSub.app (by repeat (first | with_reducible exact TakeS.here _ | apply TakeS.next | apply TakeS.app)) ?_ | exact HSub.nil _ | exact HSub.refl _ | refine HSub.drop ?_ | refine HSub.dropS ?_))) ?_
      exact ⟨HB2, hB2, by unfold findV; rw [hfk]; dsimp only; rw [hw], rfl⟩
    refine ⟨.ready, none, (b2_, .cells 45 1 [.pointer (some ⟨bb, 0, none⟩)]) :: (b3_, .cells 114 1 [.func (.func 58) #[] #[.pointer (some ⟨b3, 0, none⟩)]]) :: (HB2 ++ ((D, .obj (.deferred (some []))) :: (b6, .cells 4 1 [.bool false]) :: (b5, .cells 27 4 zSpot.v) :: (b4, .cells 3 1 [.int .i64 0]) :: (b3, .cells 3 1 [.int .i64 id]) :: H)), by rw [hr]; exact hs.trans (by first | exact hsubI | (repeat (first | with_reducible exact HSub.refl _ | refine HSub.cons (by repeat (first | exact Take.here _ | apply Take.next | apply Take.app)) ?_ | refine HSub.app (by repeat (first | with_reducible exact TakeS.here _ | apply TakeS.next | apply TakeS.app)) ?_ | exact HSub.nil _ | exact HSub.refl _ | refine HSub.drop ?_ | refine HSub.dropS ?_))), by decide, ?_⟩
    show W _ _ _ _ _ _ _ _ _
    refine W_blk ?_
    refine W_sr ?_
    refine W_build ty27 pl27 .nil rfl (by simp only [fillL, spliceL, Value.cells, List.take_zero, List.take_succ_cons, List.take_nil, List.drop_zero, List.drop_succ_cons, List.drop_nil, List.nil_append, List.cons_append, List.append_nil, List.length_cons, List.length_nil, Nat.zero_add, Nat.reduceAdd, List.toList_toArray]; rfl) rfl ?_
    refine W_store (l' := [.int .i64 0]) rfl rfl ty3 rfl rfl (b := b4) (by repeat (first | exact List.mem_cons_self | apply List.mem_cons_of_mem | apply List.mem_append_right)) rfl rfl (by repeat (first | exact Upd.head _ | apply Upd.tail | apply Upd.app)) ?_
    refine W_storeA (l' := zSpot.v) rfl rfl ty27 rfl rfl (b := b5) (by repeat (first | exact List.mem_cons_self | apply List.mem_cons_of_mem | apply List.mem_append_right)) (by exact Nat.le_refl 4) rfl (by repeat (first | exact Upd.head _ | apply Upd.tail | apply Upd.app)) ?_
    refine W_store (l' := [.bool false]) rfl rfl ty4 rfl rfl (b := b6) (by repeat (first | exact List.mem_cons_self | apply List.mem_cons_of_mem | apply List.mem_append_right)) rfl rfl (by repeat (first | exact Upd.head _ | apply Upd.tail | apply Upd.app)) ?_
    refine W_nil ?_
    refine W_ret3G (H2 := HB2 ++ H) Tryd.results27 (.cons (by repeat (first | exact Take.here _ | apply Take.next | apply Take.app)) (.nil _)) (.one rfl ty3 rfl (Cell.own (b := b4) (by repeat (first | exact List.mem_cons_self | apply List.mem_cons_of_mem | apply List.mem_append_right)) rfl)) (.own rfl ty27 rfl (b := b5) (by repeat (first | exact List.mem_cons_self | apply List.mem_cons_of_mem | apply List.mem_append_right)) rfl) (.one rfl ty4 rfl (Cell.own (b := b6) (by repeat (first | exact List.mem_cons_self | apply List.mem_cons_of_mem | apply List.mem_append_right)) rfl)) (by first | exact hsubI | (repeat (first | with_reducible exact HSub.refl _ | refine HSub.cons (by repeat (first | exact Take.here _ | apply Take.next | apply Take.app)) ?_ | refine HSub.app (by repeat (first | with_reducible exact TakeS.here _ | apply TakeS.next | apply TakeS.app)) ?_ | exact HSub.nil _ | exact HSub.refl _ | refine HSub.drop ?_ | refine HSub.dropS ?_))) ?_
    exact ⟨HB2, hB2, by unfold findV; rw [findK_none hJ1], rfl⟩
end Go.Proofs.YtknbohnoiigioaaDoor
