/-
  Own work: contracts of functions that the statement reaches, and plain facts on what they compute; each theorem says its conditions.
-/
import Derived.Test.YtknbohnoiigioaaDoorW39toW41
set_option linter.all false
set_option linter.unusedSimpArgs false
set_option linter.unusedVariables false
namespace Go.Proofs.YtknbohnoiigioaaDoor
open Go Go.Sl
attribute [local irreducible] W
/-- on the way to a tick, one timer at a time -/
structure Goi (a : Nat) (L Li O : List Tm) : Prop where
  mem : ∀ t ∈ O, t ∈ L ∧ t.s.due ≤ a
  left : Li = L.filter (fun t => decide (t ∉ O))
  nodup : O.Nodup
  asc : O.Pairwise ahead
  cross : ∀ o ∈ O, ∀ t ∈ Li, ahead o t
theorem Goi.start {a : Nat} {L : List Tm} : Goi a L L [] :=
  ⟨fun t h => (by cases h), (List.filter_eq_self.2 fun t _ => by simp).symm, .nil, .nil, fun o h => (by cases h)⟩
theorem Goi.sub {a : Nat} {L Li O : List Tm} (h : Goi a L Li O) : List.Sublist Li L := by rw [h.left]; exact List.filter_sublist
theorem nodup_le {α : Type} [DecidableEq α] : ∀ {a b : List α}, a.Nodup → (∀ x ∈ a, x ∈ b) → a.length ≤ b.length
  | [], _, _, _ => Nat.zero_le _
  | x :: a, b, hn, h => by
    have hn' := List.nodup_cons.1 hn
    have hx := h x List.mem_cons_self
    have := nodup_le (a := a) (b := b.erase x) hn'.2 (fun y hy => (List.mem_erase_of_ne (fun e : y = x => hn'.1 (e ▸ hy))).2 (h y (List.mem_cons_of_mem _ hy)))
    rw [List.length_erase_of_mem hx] at this
    have : 0 < b.length := List.length_pos_of_mem hx
    simp only [List.length_cons]; omega
theorem Goi.len {a : Nat} {L Li O : List Tm} (h : Goi a L Li O) : O.length ≤ L.length := nodup_le h.nodup fun t ht => (h.mem t ht).1
theorem Goi.step {a i : Nat} {L Li O : List Tm} {t : Tm} (h : Goi a L Li O) (hn : (L.map (·.id)).Nodup) (ht : L.Pairwise (fun x y => x.turn < y.turn)) (hi : Li[i]? = some t) (hle : ∀ u ∈ Li, t.s.due ≤ u.s.due) (hf : ∀ (j : Nat) u, j < i → Li[j]? = some u → t.s.due < u.s.due) (hd : t.s.due ≤ a) : Goi a L (delT Li t.id) (O ++ [t]) := by
  have hin := List.mem_of_getElem? hi
  have hL := h.sub.subset hin
  have hno : t ∉ O := by rw [h.left] at hin; exact of_decide_eq_true (List.mem_filter.1 hin).2
  have hLn : (Li.map (·.id)).Nodup := hn.sublist (h.sub.map _)
  have hLt : Li.Pairwise (fun x y => x.turn < y.turn) := ht.sublist h.sub
  refine ⟨fun u hu => (List.mem_append.1 hu).elim (h.mem u) (fun h => by rw [List.mem_singleton.1 h]; exact ⟨hL, hd⟩), ?_, ?_, ?_, ?_⟩
  · unfold delT
    conv => lhs; rw [h.left]
    rw [List.filter_filter]
    refine List.filter_congr fun u hu => ?_
    rw [← Bool.decide_and]
    refine decide_eq_decide.2 ⟨fun ⟨h1, h2⟩ h3 => ?_, fun h1 => ⟨fun e => h1 ?_, fun h2 => h1 (List.mem_append_left _ h2)⟩⟩
    · rcases List.mem_append.1 h3 with h3 | h3
      · exact h2 h3
      · exact h1 (by rw [List.mem_singleton.1 h3])
    · rw [tm_uniq hn hu hL e]; exact List.mem_append_right _ List.mem_cons_self
  · rw [List.nodup_append]
    exact ⟨h.nodup, by simp, fun x hx y hy e => hno (by rw [← List.mem_singleton.1 hy, ← e]; exact hx)⟩
  · rw [List.pairwise_append]
    exact ⟨h.asc, List.pairwise_singleton _ _, fun x hx y hy => by rw [List.mem_singleton.1 hy]; exact h.cross x hx t hin⟩
  · intro o ho u hu
    obtain ⟨hu1, hu2⟩ := List.mem_filter.1 hu
    rcases List.mem_append.1 ho with ho | ho
    · exact h.cross o ho u hu1
    · rw [List.mem_singleton.1 ho]
      have h1 := hle u hu1
      by_cases e : t.s.due = u.s.due
      · refine .inr ⟨e, ?_⟩
        obtain ⟨j, hj, ej⟩ := List.getElem_of_mem hu1
        have hij : i < j := by
          rcases Nat.lt_trichotomy j i with c | c | c
          · have := hf j u c (by rw [List.getElem?_eq_getElem hj, ej]); omega
          · subst c
            rw [List.getElem?_eq_getElem hj, ej] at hi
            exact absurd (congrArg Tm.id (Option.some.inj hi)) (of_decide_eq_true hu2)
          · exact c
        have hi2 := (List.getElem?_eq_some_iff.1 hi)
        have := List.pairwise_iff_getElem.1 hLt i j hi2.1 hj hij
        rwa [hi2.2, ej] at this
      · exact .inl (by omega)
theorem Goi.done {now a : Nat} {L Li O : List Tm} (h : Goi a L Li O) (hn : (L.map (·.id)).Nodup) (hle : now ≤ a) (hl : ∀ t ∈ Li, a < t.s.due) : Gone now a L Li O := by
  have hiff : ∀ t ∈ L, (t ∉ O ↔ a < t.s.due) := fun t ht => ⟨fun h1 => hl t (by rw [h.left]; exact List.mem_filter.2 ⟨ht, decide_eq_true h1⟩), fun h1 h2 => by have := (h.mem t h2).2; omega⟩
  have hLn : L.Nodup := List.Pairwise.of_map _ (fun a b h e => h (congrArg Tm.id e)) hn
  refine ⟨hle, ?_, ?_, h.asc⟩
  · rw [h.left]
    exact List.filter_congr fun t ht => decide_eq_decide.2 (hiff t ht)
  · refine (List.perm_ext_iff_of_nodup h.nodup (hLn.sublist List.filter_sublist)).2 fun t => ⟨fun h1 => List.mem_filter.2 ⟨(h.mem t h1).1, decide_eq_true (h.mem t h1).2⟩, fun h1 => ?_⟩
    obtain ⟨h2, h3⟩ := List.mem_filter.1 h1
    have := of_decide_eq_true h3
    by_cases c : t ∈ O
    · exact c
    · have := (hiff t h2).1 c; omega
structure RtS where
  Li : List Tm
  O : List Tm
  v : Value
  XO : Heap
  ad : Option Addr
  cap : Nat
  XR : Heap
  z : Int
set_option maxHeartbeats 1000000 in
theorem rTo_stay {w0 : World} {H : Heap} {now cap : Nat} {L : List Tm} {ad : Option Addr} (hl : L.length ≤ 1000000) (hrow : Holds w0 H ad (rowT L)) {a : Nat} (ha : a ≤ now)  : PureAt Tryd.prog w0 H 47 [.agg (List.toArray [.int .u64 ((now : Nat) : Int), .slice ad L.length cap]), .int .u64 ((a : Nat) : Int)] (.tuple #[.agg (List.toArray [.int .u64 ((now : Nat) : Int), .slice ad L.length cap]), .slice none 0 0]) := by
  refine L_enter Tryd.func47 rfl Tryd.ntmps47 rfl rfl ?_
  refine W_sr ?_
  refine W_box (l := [.int .u64 ((now : Nat) : Int), .slice ad L.length cap]) rfl rfl rfl (fun b2 => ?_)
  refine W_alloc (l := [.int .u64 0, .slice none 0 0]) ty80 rfl rfl (fun b4 => ?_)
  refine W_assign rfl rfl ?_
  refine W_nil ?_
  refine W_sr ?_
  refine W_assign rfl rfl ?_
  refine W_nil ?_
  refine W_seq ?_
  refine W_sr ?_
  refine W_move rfl rfl ?_
  refine W_fieldAddr rfl fld80_0 (by decide) rfl ?_
  refine W_load rfl ty22 rfl (Cell.own (by repeat (first | exact List.mem_cons_self | apply List.mem_cons_of_mem | apply List.mem_append_right)) rfl) rfl ?_
  refine W_bin rfl rfl b_leq rfl ?_
  refine W_nil ?_
  refine W_condT rfl (decide_eq_true (by omega)) ?_
  refine W_sr ?_
  refine W_loadB (vs := [.int .u64 ((now : Nat) : Int), .slice ad L.length cap]) rfl ty80 rfl (b := b2) (by repeat (first | exact List.mem_cons_self | apply List.mem_cons_of_mem | apply List.mem_append_right)) rfl rfl rfl ?_
  refine W_move rfl rfl ?_
  refine W_storeA (l' := [.int .u64 ((now : Nat) : Int), .slice ad L.length cap]) rfl rfl ty80 rfl rfl (b := b4) (by repeat (first | exact List.mem_cons_self | apply List.mem_cons_of_mem | apply List.mem_append_right)) (by exact Nat.le_refl 2) rfl (by repeat (first | exact Upd.head _ | apply Upd.tail | apply Upd.app)) ?_
  refine W_assign rfl rfl ?_
  refine W_nil ?_
  refine W_ret2G (H2 := H) Tryd.results47 (.nil _) (.own rfl ty80 rfl (by repeat (first | exact List.mem_cons_self | apply List.mem_cons_of_mem | apply List.mem_append_right)) rfl) (.tmp rfl) (by repeat (first | with_reducible exact HSub.refl _ | refine HSub.cons (by repeat (first | exact Take.here _ | apply Take.next | apply Take.app)) ?_ | refine HSub.app (by repeat (first | with_reducible exact TakeS.here _ | apply TakeS.next | apply TakeS.app)) ?_ | exact HSub.nil _ | exact HSub.refl _ | refine HSub.drop ?_ | refine HSub.dropS ?_)) ?_
  exact ⟨rfl, rfl⟩
theorem delT_lt {L : List Tm} {t : Tm} (h : t ∈ L) : (delT L t.id).length < L.length := List.length_filter_lt_length_iff_exists.2 ⟨t, h, by simp⟩
set_option maxHeartbeats 4000000 in
theorem rTo_go {w0 : World} {H : Heap} {HR : Heap} {now cap : Nat} {L : List Tm} {ad : Option Addr} (hl : L.length ≤ 1000000) (hrow : Holds w0 HR ad (rowT L)) (hHR : HSub H HR) {a : Nat} (hcap : L.length ≤ cap) (hlt : now < a) (hn : (L.map (·.id)).Nodup) (ht : L.Pairwise (fun x y => x.turn < y.turn))  : LCalls Tryd.prog w0 47 #[.agg (List.toArray [.int .u64 ((now : Nat) : Int), .slice ad L.length cap]), .int .u64 ((a : Nat) : Int)] (H) (fun v H' => ∃ (Li O : List Tm) (ov : Value) (ad' : Option Addr) (cap' : Nat) (XR XO : Heap), v = .tuple #[.agg (List.toArray [.int .u64 ((a : Nat) : Int), .slice ad' Li.length cap']), ov] ∧ Gone now a L Li O ∧ Li.length ≤ cap' ∧ Holds w0 (XR ++ HR) ad' (rowT Li) ∧ OwnS 3 1 ov O.length ((O.map (·.id)).map (Value.int .i64)) XO ∧ H' = XO ++ (XR ++ H)) := by
  refine L_enter (l := [.agg (List.toArray [.int .u64 ((now : Nat) : Int), .slice ad L.length cap]), .int .u64 ((a : Nat) : Int)]) Tryd.func47 rfl Tryd.ntmps47 rfl rfl ?_
  refine W_sr ?_
  refine W_box (l := [.int .u64 ((now : Nat) : Int), .slice ad L.length cap]) rfl rfl rfl (fun b2 => ?_)
  refine W_alloc (l := [.int .u64 0, .slice none 0 0]) ty80 rfl rfl (fun b4 => ?_)
  refine W_assign rfl rfl ?_
  refine W_nil ?_
  refine W_sr ?_
  refine W_assign rfl rfl ?_
  refine W_nil ?_
  refine W_seq ?_
  refine W_sr ?_
  refine W_move rfl rfl ?_
  refine W_fieldAddr rfl fld80_0 (by decide) rfl ?_
  refine W_load rfl ty22 rfl (Cell.own (by repeat (first | exact List.mem_cons_self | apply List.mem_cons_of_mem | apply List.mem_append_right)) rfl) rfl ?_
  refine W_bin rfl rfl b_leq rfl ?_
  refine W_nil ?_
  refine W_condF rfl (decide_eq_false (by omega)) ?_
  refine W_skip ?_
  refine W_sr ?_
  refine W_loadB (vs := [.int .u64 ((now : Nat) : Int), .slice ad L.length cap]) rfl ty80 rfl (b := b2) (by repeat (first | exact List.mem_cons_self | apply List.mem_cons_of_mem | apply List.mem_append_right)) rfl rfl rfl ?_
  refine W_call (.cons rfl .nil) Tryd.call48 rfl ((rNext_L (now := now) (cap := cap) (ad := ad) (L := L) hl (hrow.up ((show HSub _ H from (by repeat (first | with_reducible exact HSub.refl _ | refine HSub.cons (by repeat (first | exact Take.here _ | apply Take.next | apply Take.app)) ?_ | refine HSub.app (by repeat (first | with_reducible exact TakeS.here _ | apply TakeS.next | apply TakeS.app)) ?_ | exact HSub.nil _ | exact HSub.refl _ | refine HSub.drop ?_ | refine HSub.dropS ?_))).trans hHR))).hsub (.refl _)) ?_
  rintro v H' ⟨z0, rfl, hB0, rfl⟩
  refine W_assign rfl rfl ?_
  refine W_nil ?_
  refine W_seq ?_
  refine W_block ?_
  refine W_loopC (X := RtS) [(1, _), (2, _), (4, _)] (fun (x : RtS) => [(6, x.v), (7, .int .i64 x.z)]) (fun _ => _) (fun (x : RtS) => (b4, .cells 80 2 [.int .u64 0, .slice none 0 0]) :: (b2, .cells 80 2 [.int .u64 ((now : Nat) : Int), .slice x.ad (x.Li).length x.cap]) :: (x.XO ++ (x.XR ++ H))) (fun (x : RtS) => Holds w0 (x.XR ++ HR) x.ad (rowT x.Li) ∧ x.Li.length ≤ x.cap ∧ BestT x.Li x.z ∧ OwnS 3 1 x.v x.O.length ((x.O.map (·.id)).map (Value.int .i64)) x.XO ∧ Goi a L x.Li x.O) (fun (x : RtS) => x.Li.length) ⟨L, [], .slice none 0 0, [], ad, cap, [], z0⟩ ⟨hrow, hcap, hB0, .nil, .start⟩ (sub_cons rfl (sub_cons rfl (sub_cons rfl (sub_nil _)))) (sub_cons rfl (sub_cons rfl (sub_nil _))) rfl (.refl _) ?_
  rintro ⟨Li, O, v, XO, ad, cap, XR, z⟩ ⟨hrw, hcp, hB, hO, hG⟩
  dsimp only at hrw hcp hB hO hG ⊢
  have hLl := hG.sub.length_le
  have hOl := hG.len
  simp only [List.cons_append, List.nil_append]
  refine W_seq ?_
  refine W_sr ?_
  rcases hB with ⟨rfl, hnil⟩ | ⟨i, t, rfl, hti, hle, hfirst⟩
  · skip
    refine W_move rfl rfl ?_
    refine W_bin rfl rfl b_geq rfl ?_
    first | rw [decide_eq_true (by omega)] | rw [decide_eq_false (by omega)]
    refine W_move rfl rfl ?_
    refine W_gno rfl rfl rfl ?_
    refine W_gno rfl rfl rfl ?_
    refine W_gno rfl rfl rfl ?_
    refine W_gno rfl rfl rfl ?_
    refine W_gno rfl rfl rfl ?_
    refine W_gno rfl rfl rfl ?_
    refine W_gno rfl rfl rfl ?_
    refine W_gno rfl rfl rfl ?_
    refine W_gno rfl rfl rfl ?_
    first | refine W_pickt rfl rfl rfl ?_ | refine W_pickf rfl rfl rfl ?_
    refine W_nil ?_
    refine W_condF rfl rfl ?_
    refine W_exit rfl ?_
    refine W_sr ?_
    refine W_move rfl rfl ?_
    refine W_fieldAddr rfl fld80_1 (by decide) rfl ?_
    refine W_load rfl ty78 rfl (Cell.own (by repeat (first | exact List.mem_cons_self | apply List.mem_cons_of_mem | apply List.mem_append_right)) rfl) rfl ?_
    refine W_build (l := [.int .u64 ((a : Nat) : Int), .slice ad Li.length cap]) ty80 pl80 (.cons rfl rfl rfl rfl rfl (.cons rfl rfl rfl rfl rfl .nil)) rfl rfl rfl ?_
    refine W_move rfl rfl ?_
    refine W_storeA (l' := [.int .u64 ((a : Nat) : Int), .slice ad Li.length cap]) rfl rfl ty80 rfl rfl (b := b4) (by repeat (first | exact List.mem_cons_self | apply List.mem_cons_of_mem | apply List.mem_append_right)) (by exact Nat.le_refl 2) rfl (by repeat (first | exact Upd.head _ | apply Upd.tail | apply Upd.app)) ?_
    refine W_assign rfl rfl ?_
    refine W_nil ?_
    refine W_ret2G (H2 := XO ++ (XR ++ H)) Tryd.results47 (.nil _) (.own rfl ty80 rfl (by repeat (first | exact List.mem_cons_self | apply List.mem_cons_of_mem | apply List.mem_append_right)) rfl) (.tmp rfl) (by repeat (first | with_reducible exact HSub.refl _ | refine HSub.cons (by repeat (first | exact Take.here _ | apply Take.next | apply Take.app)) ?_ | refine HSub.app (by repeat (first | with_reducible exact TakeS.here _ | apply TakeS.next | apply TakeS.app)) ?_ | exact HSub.nil _ | exact HSub.refl _ | refine HSub.drop ?_ | refine HSub.dropS ?_)) ?_
    have hfin : ∀ u ∈ Li, a < u.s.due := by rw [hnil]; intro u hu; cases hu
    exact ⟨Li, O, v, _, cap, XR, XO, rfl, hG.done hn (by omega) hfin, hcp, hrw, hO, rfl⟩
  · skip
    have hil := (List.getElem?_eq_some_iff.1 hti).1
    obtain ⟨q0_, p0_, rfl, hc⟩ := Holds.row tmC_len (by decide) hrw hti
    refine W_move rfl rfl ?_
    refine W_bin rfl rfl b_geq rfl ?_
    first | rw [decide_eq_true (by omega)] | rw [decide_eq_false (by omega)]
    refine W_move rfl rfl ?_
    refine W_gyes rfl rfl ?_
    refine W_fieldAddr rfl fld80_1 (by decide) rfl ?_
    refine W_gyes rfl rfl ?_
    refine W_load rfl ty78 rfl (Cell.own (by repeat (first | exact List.mem_cons_self | apply List.mem_cons_of_mem | apply List.mem_append_right)) rfl) rfl ?_
    refine W_gyes rfl rfl ?_
    refine W_move rfl rfl ?_
    refine W_gyes rfl rfl ?_
    refine W_indexAddr (j := i) rfl rfl ty78 ty77 rfl (by omega) rfl rfl ?_
    refine W_gyes rfl rfl ?_
    refine W_fieldAddr rfl fld77_1 (by decide) rfl ?_
    refine W_gyes rfl rfl ?_
    refine W_fieldAddr rfl fld65_3 (by decide) rfl ?_
    refine W_gyes rfl rfl ?_
    refine W_load (v := .int .u64 (t.s.due : Int)) rfl ty22 rfl ((hc 4 (.int .u64 (t.s.due : Int)) rfl).up ((show HSub _ (XR ++ H) from (by repeat (first | with_reducible exact HSub.refl _ | refine HSub.cons (by repeat (first | exact Take.here _ | apply Take.next | apply Take.app)) ?_ | refine HSub.app (by repeat (first | with_reducible exact TakeS.here _ | apply TakeS.next | apply TakeS.app)) ?_ | exact HSub.nil _ | exact HSub.refl _ | refine HSub.drop ?_ | refine HSub.dropS ?_))).trans (HSub.app (TakeS.here _) hHR))) rfl ?_
    refine W_gyes rfl rfl ?_
    refine W_move rfl rfl ?_
    refine W_gyes rfl rfl ?_
    refine W_bin rfl rfl b_leq rfl ?_
    first | refine W_pickt rfl rfl rfl ?_ | refine W_pickf rfl rfl rfl ?_
    refine W_nil ?_
    refine W_condPS (p := t.s.due ≤ a) rfl (by rw [decide_eq_true_eq]; exact Int.ofNat_le) (fun q0 => ?_) (fun q0 => ?_)
    · skip
      refine W_skip ?_
      refine W_block ?_
      refine W_sr ?_
      refine W_move rfl rfl ?_
      refine W_fieldAddr rfl fld80_1 (by decide) rfl ?_
      refine W_load rfl ty78 rfl (Cell.own (by repeat (first | exact List.mem_cons_self | apply List.mem_cons_of_mem | apply List.mem_append_right)) rfl) rfl ?_
      refine W_move rfl rfl ?_
      refine W_indexAddr (j := i) rfl rfl ty78 ty77 rfl (by omega) rfl rfl ?_
      refine W_fieldAddr rfl fld77_0 (by decide) rfl ?_
      refine W_load (v := .int .i64 t.id) rfl ty3 rfl ((hc 0 (.int .i64 t.id) rfl).up ((show HSub _ (XR ++ H) from (by repeat (first | with_reducible exact HSub.refl _ | refine HSub.cons (by repeat (first | exact Take.here _ | apply Take.next | apply Take.app)) ?_ | refine HSub.app (by repeat (first | with_reducible exact TakeS.here _ | apply TakeS.next | apply TakeS.app)) ?_ | exact HSub.nil _ | exact HSub.refl _ | refine HSub.drop ?_ | refine HSub.dropS ?_))).trans (HSub.app (TakeS.here _) hHR))) rfl ?_
      refine W_buildSlice (l := [.int .i64 t.id]) ty35 ty3 (.cons rfl rfl rfl rfl rfl .nil) rfl rfl rfl rfl rfl rfl rfl (fun b36 => ?_)
      refine W_append (news := [.int .i64 t.id]) (m := 1) (HB := XO) (H0 := (b36, .cells 3 1 [.int .i64 t.id]) :: (b2, .cells 80 2 [.int .u64 ((now : Nat) : Int), .slice (some ⟨q0_, p0_, none⟩) (Li).length cap]) :: (b4, .cells 80 2 [.int .u64 0, .slice none 0 0]) :: (XR ++ H)) rfl rfl ty35 ty3 rfl (by decide) hO rfl (Holds.own (by repeat (first | exact List.mem_cons_self | apply List.mem_cons_of_mem | apply List.mem_append_right))) rfl (by simp only [maxLen]; omega) (by omega) (by repeat (first | with_reducible exact HSub.refl _ | refine HSub.cons (by repeat (first | exact Take.here _ | apply Take.next | apply Take.app)) ?_ | refine HSub.app (by repeat (first | with_reducible exact TakeS.here _ | apply TakeS.next | apply TakeS.app)) ?_ | exact HSub.nil _ | exact HSub.refl _ | refine HSub.drop ?_ | refine HSub.dropS ?_)) rfl (fun v' XO' hO' => ?_)
      refine W_assign rfl rfl ?_
      refine W_nil ?_
      refine W_seq ?_
      refine W_anyS ((b2, .cells 80 2 [.int .u64 ((now : Nat) : Int), .slice (some ⟨q0_, p0_, none⟩) (Li).length cap]) :: (XR ++ H)) 11 (by kernel_rfl) ?_
      refine WS_take 0 (l' := #[true, false, false, false, false, false, false, false, false, false, false, false]) rfl rfl (by decide +kernel) (by decide +kernel) (by decide +kernel) (by decide +kernel) rfl (by decide +kernel) (X_loadB (vs := [.int .u64 ((now : Nat) : Int), .slice (some ⟨q0_, p0_, none⟩) Li.length cap]) rfl ty80 rfl (b := b2) (by repeat (first | exact List.mem_cons_self | apply List.mem_cons_of_mem | apply List.mem_append_right)) rfl rfl) rfl ?_
      refine WS_take 1 (l' := #[true, true, false, false, false, false, false, false, false, false, false, false]) rfl rfl (by decide +kernel) (by decide +kernel) (by decide +kernel) (by decide +kernel) rfl (by decide +kernel) (X_fieldAddr rfl fld80_1 (by decide)) rfl ?_
      refine WS_take 2 (l' := #[true, true, true, false, false, false, false, false, false, false, false, false]) rfl rfl (by decide +kernel) (by decide +kernel) (by decide +kernel) (by decide +kernel) rfl (by decide +kernel) (X_load (v := .slice (some ⟨q0_, p0_, none⟩) Li.length cap) rfl ty78 rfl (Cell.own (b := b2) (by repeat (first | exact List.mem_cons_self | apply List.mem_cons_of_mem | apply List.mem_append_right)) rfl)) rfl ?_
      refine WS_take 3 (l' := #[true, true, true, true, false, false, false, false, false, false, false, false]) rfl rfl (by decide +kernel) (by decide +kernel) (by decide +kernel) (by decide +kernel) rfl (by decide +kernel) (X_move rfl) rfl ?_
      refine WS_take 4 (l' := #[true, true, true, true, true, false, false, false, false, false, false, false]) rfl rfl (by decide +kernel) (by decide +kernel) (by decide +kernel) (by decide +kernel) rfl (by decide +kernel) (X_indexAddr (j := i) rfl rfl ty78 ty77 rfl (by omega) rfl) rfl ?_
      refine WS_take 5 (l' := #[true, true, true, true, true, true, false, false, false, false, false, false]) rfl rfl (by decide +kernel) (by decide +kernel) (by decide +kernel) (by decide +kernel) rfl (by decide +kernel) (X_fieldAddr rfl fld77_0 (by decide)) rfl ?_
      refine WS_take 6 (l' := #[true, true, true, true, true, true, true, false, false, false, false, false]) rfl rfl (by decide +kernel) (by decide +kernel) (by decide +kernel) (by decide +kernel) rfl (by decide +kernel) (X_load (v := .int .i64 t.id) rfl ty3 rfl ((hc 0 (.int .i64 t.id) rfl).up (.drop (HSub.app (TakeS.here _) hHR)))) rfl ?_
      refine WS_one 7 (l' := #[true, true, true, true, true, true, true, true, false, false, false, false]) (by repeat (first | with_reducible exact HSub.refl _ | refine HSub.cons (by repeat (first | exact Take.here _ | apply Take.next | apply Take.app)) ?_ | refine HSub.app (by repeat (first | with_reducible exact TakeS.here _ | apply TakeS.next | apply TakeS.app)) ?_ | exact HSub.nil _ | exact HSub.refl _ | refine HSub.drop ?_ | refine HSub.dropS ?_)) rfl (by decide +kernel) rfl (by decide +kernel) ?_
      refine W_call (.cons rfl (.cons rfl .nil)) Tryd.call45 rfl (rDel_hit (w0 := w0) (now := now) (cap := cap) (t := t) (H := XO' ++ ((b36, .cells 3 1 [.int .i64 t.id]) :: (b2, .cells 80 2 [.int .u64 ((now : Nat) : Int), .slice (some ⟨q0_, p0_, none⟩) (Li).length cap]) :: (b4, .cells 80 2 [.int .u64 0, .slice none 0 0]) :: (XR ++ H))) (by omega) (hrw.up ((show HSub _ (XR ++ H) from (by repeat (first | with_reducible exact HSub.refl _ | refine HSub.cons (by repeat (first | exact Take.here _ | apply Take.next | apply Take.app)) ?_ | refine HSub.app (by repeat (first | with_reducible exact TakeS.here _ | apply TakeS.next | apply TakeS.app)) ?_ | exact HSub.nil _ | exact HSub.refl _ | refine HSub.drop ?_ | refine HSub.dropS ?_))).trans (HSub.app (TakeS.here _) hHR))) hcp (hn.sublist (hG.sub.map _)) (List.mem_of_getElem? hti)) ?_
      rintro v2 H' ⟨sv2, XB2, rfl, hR2, rfl⟩
      obtain ⟨ad2, cap2, rfl, hcp2, _⟩ := hR2.shape
      have hrw2 : Holds w0 (XB2 ++ HR) ad2 (rowT (delT Li t.id)) := OwnS.holds hR2 (fun p hp => List.mem_append_left _ hp)
      have hG2 := hG.step hn ht hti hle hfirst q0
      have hd2 : (delT Li t.id).length ≤ Li.length := List.length_filter_le _ _
      refine W_nil ?_
      refine WS_goal ?_
      refine WS_take 8 (l' := #[true, true, true, true, true, true, true, true, true, false, false, false]) rfl rfl (by decide +kernel) (by decide +kernel) (by decide +kernel) (by decide +kernel) rfl (by decide +kernel) (X_move rfl) rfl ?_
      refine WS_take 9 (l' := #[true, true, true, true, true, true, true, true, true, true, false, false]) rfl rfl (by decide +kernel) (by decide +kernel) (by decide +kernel) (by decide +kernel) rfl (by decide +kernel) (X_extract rfl rfl) rfl ?_
      refine WS_takeP 10 (l' := #[true, true, true, true, true, true, true, true, true, true, true, false]) rfl rfl (by decide +kernel) (by decide +kernel) (by decide +kernel) rfl (by decide +kernel) (X_extract rfl rfl) rfl ?_
      refine WS_last (l' := #[true, true, true, true, true, true, true, true, true, true, true, true]) (by repeat (first | with_reducible exact HSub.refl _ | refine HSub.cons (by repeat (first | exact Take.here _ | apply Take.next | apply Take.app)) ?_ | refine HSub.app (by repeat (first | with_reducible exact TakeS.here _ | apply TakeS.next | apply TakeS.app)) ?_ | exact HSub.nil _ | exact HSub.refl _ | refine HSub.drop ?_ | refine HSub.dropS ?_)) (by decide +kernel) rfl (by decide +kernel) ?_
      refine W_storeA (l' := [.int .u64 ((now : Nat) : Int), .slice ad2 (delT Li t.id).length cap2]) rfl rfl ty80 rfl rfl (b := b2) (by repeat (first | exact List.mem_cons_self | apply List.mem_cons_of_mem | apply List.mem_append_right)) (by exact Nat.le_refl 2) rfl (by repeat (first | exact Upd.head _ | apply Upd.tail | apply Upd.app)) ?_
      refine W_nil ?_
      refine WC_goal ?_
      refine WC_done (.nil _) (by decide +kernel) ?_
      refine W_region ?_
      refine W_loadB (vs := [.int .u64 ((now : Nat) : Int), .slice ad2 (delT Li t.id).length cap2]) rfl ty80 rfl (b := b2) (by repeat (first | exact List.mem_cons_self | apply List.mem_cons_of_mem | apply List.mem_append_right)) rfl rfl rfl ?_
      refine W_call (.cons rfl .nil) Tryd.call48 rfl ((rNext_L (now := now) (cap := cap2) (ad := ad2) (L := (delT Li t.id)) (by omega) (hrw2.up ((show HSub _ (XB2 ++ H) from (by repeat (first | with_reducible exact HSub.refl _ | refine HSub.cons (by repeat (first | exact Take.here _ | apply Take.next | apply Take.app)) ?_ | refine HSub.app (by repeat (first | with_reducible exact TakeS.here _ | apply TakeS.next | apply TakeS.app)) ?_ | exact HSub.nil _ | exact HSub.refl _ | refine HSub.drop ?_ | refine HSub.dropS ?_))).trans (HSub.app (TakeS.here _) hHR)))).hsub (.refl _)) ?_
      rintro v H' ⟨z0, rfl, hB0, rfl⟩
      refine W_assign rfl rfl ?_
      refine W_nil ?_
      refine W_blk ?_
      refine W_again ⟨delT Li t.id, O ++ [t], v', XO', ad2, cap2, XB2, z0⟩ ⟨hrw2, hcp2, hB0, by show OwnS 3 1 v' (O ++ [t]).length (((O ++ [t]).map (·.id)).map (Value.int .i64)) XO'; rw [List.map_append, List.map_append, List.length_append]; exact hO', hG2⟩ (delT_lt (List.mem_of_getElem? hti)) (sub_cons rfl (sub_cons rfl (sub_cons rfl (sub_cons rfl (sub_cons rfl (sub_nil _)))))) rfl (by repeat (first | with_reducible exact HSub.refl _ | refine HSub.cons (by repeat (first | exact Take.here _ | apply Take.next | apply Take.app)) ?_ | refine HSub.app (by repeat (first | with_reducible exact TakeS.here _ | apply TakeS.next | apply TakeS.app)) ?_ | exact HSub.nil _ | exact HSub.refl _ | refine HSub.drop ?_ | refine HSub.dropS ?_))
    · skip
      refine W_exit rfl ?_
      refine W_sr ?_
      refine W_move rfl rfl ?_
      refine W_fieldAddr rfl fld80_1 (by decide) rfl ?_
      refine W_load rfl ty78 rfl (Cell.own (by repeat (first | exact List.mem_cons_self | apply List.mem_cons_of_mem | apply List.mem_append_right)) rfl) rfl ?_
      refine W_build (l := [.int .u64 ((a : Nat) : Int), .slice (some ⟨q0_, p0_, none⟩) Li.length cap]) ty80 pl80 (.cons rfl rfl rfl rfl rfl (.cons rfl rfl rfl rfl rfl .nil)) rfl rfl rfl ?_
      refine W_move rfl rfl ?_
      refine W_storeA (l' := [.int .u64 ((a : Nat) : Int), .slice (some ⟨q0_, p0_, none⟩) Li.length cap]) rfl rfl ty80 rfl rfl (b := b4) (by repeat (first | exact List.mem_cons_self | apply List.mem_cons_of_mem | apply List.mem_append_right)) (by exact Nat.le_refl 2) rfl (by repeat (first | exact Upd.head _ | apply Upd.tail | apply Upd.app)) ?_
      refine W_assign rfl rfl ?_
      refine W_nil ?_
      refine W_ret2G (H2 := XO ++ (XR ++ H)) Tryd.results47 (.nil _) (.own rfl ty80 rfl (by repeat (first | exact List.mem_cons_self | apply List.mem_cons_of_mem | apply List.mem_append_right)) rfl) (.tmp rfl) (by repeat (first | with_reducible exact HSub.refl _ | refine HSub.cons (by repeat (first | exact Take.here _ | apply Take.next | apply Take.app)) ?_ | refine HSub.app (by repeat (first | with_reducible exact TakeS.here _ | apply TakeS.next | apply TakeS.app)) ?_ | exact HSub.nil _ | exact HSub.refl _ | refine HSub.drop ?_ | refine HSub.dropS ?_)) ?_
      have hfin : ∀ u ∈ Li, a < u.s.due := fun u hu => by have := hle u hu; omega
      exact ⟨Li, O, v, _, cap, XR, XO, rfl, hG.done hn (by omega) hfin, hcp, hrw, hO, rfl⟩
/-- the numbers that are held, rising, as the document lists them -/
def idsR (L : List Tm) (i : Nat) : List Int := ((List.range i).map (fun j : Nat => (j : Int))).filter (heldB L)
theorem idsR_succ (L : List Tm) (i : Nat) : idsR L (i + 1) = idsR L i ++ (if heldB L (i : Int) = true then [(i : Int)] else []) := by
  unfold idsR
  rw [List.range_succ, List.map_append, List.filter_append]
  congr 1
  by_cases c : heldB L (i : Int) = true
  · rw [if_pos c]; simp [c]
  · rw [if_neg c]; simp [c]
theorem idsR_len (L : List Tm) (i : Nat) : (idsR L i).length ≤ i := by
  unfold idsR
  exact Nat.le_trans (List.length_filter_le _ _) (by rw [List.length_map, List.length_range]; exact Nat.le_refl _)
theorem range_asc (i : Nat) : ((List.range i).map (fun j : Nat => (j : Int))).Pairwise (· < ·) := by
  rw [List.pairwise_map]
  exact List.pairwise_lt_range.imp (fun h => by omega)
theorem idsR_is {L : List Tm} (hn : (L.map (·.id)).Nodup) (hr : ∀ t ∈ L, 0 ≤ t.id ∧ t.id < 256) : idsR L 256 = sortI (L.map (·.id)) := by
  have h1 : (idsR L 256).Pairwise (· < ·) := (range_asc 256).sublist List.filter_sublist
  have h2 : (idsR L 256).Nodup := h1.imp (fun h => by omega)
  refine asc_int ?_ h1 (sortI_asc hn)
  refine List.Perm.trans ?_ (sortI_perm _).symm
  refine (List.perm_ext_iff_of_nodup h2 hn).2 fun x => ⟨fun h => heldB_iff.1 (List.mem_filter.1 h).2, fun h => List.mem_filter.2 ⟨?_, heldB_iff.2 h⟩⟩
  obtain ⟨t, ht, rfl⟩ := List.mem_map.1 h
  have := hr t ht
  exact List.mem_map.2 ⟨t.id.toNat, List.mem_range.2 (by omega), by omega⟩
set_option maxHeartbeats 1000000 in
theorem rIds_L {w0 : World} {H : Heap} {now cap : Nat} {L : List Tm} {ad : Option Addr} (hl : L.length ≤ 1000000) (hrow : Holds w0 H ad (rowT L))  : LCalls Tryd.prog w0 49 #[.agg (List.toArray [.int .u64 ((now : Nat) : Int), .slice ad L.length cap])] (H) (fun v H' => ∃ XB, OwnS 3 1 v (idsR L 256).length ((idsR L 256).map (Value.int .i64)) XB ∧ H' = XB ++ H) := by
  refine L_enter (l := [.agg (List.toArray [.int .u64 ((now : Nat) : Int), .slice ad L.length cap])]) Tryd.func49 rfl Tryd.ntmps49 rfl rfl ?_
  refine W_sr ?_
  refine W_box (l := [.int .u64 ((now : Nat) : Int), .slice ad L.length cap]) rfl rfl rfl (fun b1 => ?_)
  refine W_assign rfl rfl ?_
  refine W_nil ?_
  refine W_sr ?_
  refine W_assign rfl rfl ?_
  refine W_nil ?_
  refine W_seq ?_
  refine W_sr ?_
  refine W_assign rfl rfl ?_
  refine W_nil ?_
  refine W_block ?_
  refine W_loopC (X := (Nat × Value × Heap)) [(1, _)] (fun (x : (Nat × Value × Heap)) => [(3, x.2.1), (4, .int .i64 (x.1 : Int))]) (fun _ => _) (fun (x : (Nat × Value × Heap)) => (b1, .cells 80 2 [.int .u64 ((now : Nat) : Int), .slice ad L.length cap]) :: (x.2.2 ++ H)) (fun (x : (Nat × Value × Heap)) => x.1 ≤ 256 ∧ OwnS 3 1 x.2.1 (idsR L x.1).length ((idsR L x.1).map (Value.int .i64)) x.2.2) (fun (x : (Nat × Value × Heap)) => 256 - x.1) (0, .slice none 0 0, []) ⟨Nat.zero_le _, .nil⟩ (sub_cons rfl (sub_nil _)) (sub_cons rfl (sub_cons rfl (sub_nil _))) rfl (.refl _) ?_
  rintro ⟨i, v, XO⟩ ⟨hi, hO⟩
  dsimp only at hi hO ⊢
  have hil := idsR_len L i
  simp only [List.cons_append, List.nil_append]
  refine W_seq ?_
  refine W_sr ?_
  refine W_move rfl rfl ?_
  refine W_bin rfl rfl b_lss rfl ?_
  refine W_nil ?_
  refine W_condPS (p := (i : Int) < 256) rfl (by simp) (fun q0 => ?_) (fun q0 => ?_)
  · skip
    refine W_skip ?_
    refine W_seq ?_
    refine W_block ?_
    refine W_sr ?_
    refine W_loadB (vs := [.int .u64 ((now : Nat) : Int), .slice ad L.length cap]) rfl ty80 rfl (b := b1) (by repeat (first | exact List.mem_cons_self | apply List.mem_cons_of_mem | apply List.mem_append_right)) rfl rfl rfl ?_
    refine W_move rfl rfl ?_
    refine W_call (.cons rfl (.cons rfl .nil)) Tryd.call39 rfl ((rFind_L (now := now) (cap := cap) (id := (i : Int)) hl (hrow.up (by repeat (first | with_reducible exact HSub.refl _ | refine HSub.cons (by repeat (first | exact Take.here _ | apply Take.next | apply Take.app)) ?_ | refine HSub.app (by repeat (first | with_reducible exact TakeS.here _ | apply TakeS.next | apply TakeS.app)) ?_ | exact HSub.nil _ | exact HSub.refl _ | refine HSub.drop ?_ | refine HSub.dropS ?_)))).hsub (.refl _)) ?_
    rintro v2 H' ⟨z, rfl, hz, rfl⟩
    have hzz := hz.held
    refine W_bin rfl rfl b_geq rfl ?_
    refine W_nil ?_
    refine W_condPS (p := 0 ≤ z) rfl (by simp) (fun q1 => ?_) (fun q1 => ?_)
    · skip
      refine W_region ?_
      refine W_move rfl rfl ?_
      refine W_move rfl rfl ?_
      refine W_buildSlice (l := [.int .i64 (i : Int)]) ty35 ty3 (.cons rfl rfl rfl rfl rfl .nil) rfl rfl rfl rfl rfl rfl rfl (fun b15 => ?_)
      refine W_append (news := [.int .i64 (i : Int)]) (m := 1) (HB := XO) (H0 := (b15, .cells 3 1 [.int .i64 (i : Int)]) :: (b1, .cells 80 2 [.int .u64 ((now : Nat) : Int), .slice ad L.length cap]) :: H) rfl rfl ty35 ty3 rfl (by decide) hO rfl (Holds.own (by repeat (first | exact List.mem_cons_self | apply List.mem_cons_of_mem | apply List.mem_append_right))) rfl (by simp only [maxLen]; omega) (by omega) (by repeat (first | with_reducible exact HSub.refl _ | refine HSub.cons (by repeat (first | exact Take.here _ | apply Take.next | apply Take.app)) ?_ | refine HSub.app (by repeat (first | with_reducible exact TakeS.here _ | apply TakeS.next | apply TakeS.app)) ?_ | exact HSub.nil _ | exact HSub.refl _ | refine HSub.drop ?_ | refine HSub.dropS ?_)) rfl (fun v' X' hO' => ?_)
      refine W_assign rfl rfl ?_
      refine W_nil ?_
      refine W_blk ?_
      refine W_region ?_
      refine W_move rfl rfl ?_
      refine W_bin rfl rfl (b_add (m := ((i + 1 : Nat) : Int)) ((i64w (by omega)).trans (by omega))) rfl ?_
      refine W_assign rfl rfl ?_
      refine W_nil ?_
      refine W_again (i + 1, v', X') ⟨by show i + 1 ≤ 256; omega, by show OwnS 3 1 v' (idsR L (i + 1)).length ((idsR L (i + 1)).map (Value.int .i64)) X'; rw [idsR_succ, if_pos (heldB_iff.2 (hzz.1 q1)), List.length_append, List.map_append]; exact hO'⟩ (by show 256 - (i + 1) < 256 - i; omega) (sub_cons rfl (sub_cons rfl (sub_cons rfl (sub_nil _)))) rfl (by repeat (first | with_reducible exact HSub.refl _ | refine HSub.cons (by repeat (first | exact Take.here _ | apply Take.next | apply Take.app)) ?_ | refine HSub.app (by repeat (first | with_reducible exact TakeS.here _ | apply TakeS.next | apply TakeS.app)) ?_ | exact HSub.nil _ | exact HSub.refl _ | refine HSub.drop ?_ | refine HSub.dropS ?_))
    · skip
      refine W_skip ?_
      refine W_blk ?_
      refine W_region ?_
      refine W_move rfl rfl ?_
      refine W_bin rfl rfl (b_add (m := ((i + 1 : Nat) : Int)) ((i64w (by omega)).trans (by omega))) rfl ?_
      refine W_assign rfl rfl ?_
      refine W_nil ?_
      refine W_again (i + 1, v, XO) ⟨by show i + 1 ≤ 256; omega, by show OwnS 3 1 v (idsR L (i + 1)).length ((idsR L (i + 1)).map (Value.int .i64)) XO; rw [idsR_succ, if_neg (fun h => q1 (hzz.2 (heldB_iff.1 h))), List.append_nil]; exact hO⟩ (by show 256 - (i + 1) < 256 - i; omega) (sub_cons rfl (sub_cons rfl (sub_cons rfl (sub_nil _)))) rfl (by repeat (first | with_reducible exact HSub.refl _ | refine HSub.cons (by repeat (first | exact Take.here _ | apply Take.next | apply Take.app)) ?_ | refine HSub.app (by repeat (first | with_reducible exact TakeS.here _ | apply TakeS.next | apply TakeS.app)) ?_ | exact HSub.nil _ | exact HSub.refl _ | refine HSub.drop ?_ | refine HSub.dropS ?_))
  · skip
    refine W_exit rfl ?_
    refine W_sr ?_
    refine W_move rfl rfl ?_
    refine W_assign rfl rfl ?_
    refine W_nil ?_
    refine W_ret1m (H2 := XO ++ H) Tryd.results49 rfl (.nil _) (by repeat (first | with_reducible exact HSub.refl _ | refine HSub.cons (by repeat (first | exact Take.here _ | apply Take.next | apply Take.app)) ?_ | refine HSub.app (by repeat (first | with_reducible exact TakeS.here _ | apply TakeS.next | apply TakeS.app)) ?_ | exact HSub.nil _ | exact HSub.refl _ | refine HSub.drop ?_ | refine HSub.dropS ?_)) ?_
    obtain rfl : i = 256 := by omega
    exact ⟨XO, hO, rfl⟩
set_option maxHeartbeats 1000000 in
theorem rOfS_pure {e : Spot} : Pure Tryd.prog (fun _ => True) 33 [.agg e.v.toArray] (.agg e.v.toArray) := by
  intro w0 H hT
  refine L_enter Tryd.func33 rfl Tryd.ntmps33 rfl rfl ?_
  refine W_sr ?_
  refine W_box (l := e.v) rfl rfl rfl (fun b1 => ?_)
  refine W_alloc (l := zSpot.v) ty65 rfl rfl (fun b2 => ?_)
  refine W_nil ?_
  refine W_sr ?_
  refine W_fieldAddr rfl fld27_0 (by decide) rfl ?_
  refine W_load (v := .int .i64 (e.lv : Int)) rfl ty3 rfl (Cell.own (b := b1) (by repeat (first | exact List.mem_cons_self | apply List.mem_cons_of_mem | apply List.mem_append_right)) rfl) rfl ?_
  refine W_fieldAddr rfl fld27_1 (by decide) rfl ?_
  refine W_load (v := .int .i64 (e.slot : Int)) rfl ty3 rfl (Cell.own (b := b1) (by repeat (first | exact List.mem_cons_self | apply List.mem_cons_of_mem | apply List.mem_append_right)) rfl) rfl ?_
  refine W_fieldAddr rfl fld27_2 (by decide) rfl ?_
  refine W_load (v := .int .u64 (e.at_ : Int)) rfl ty22 rfl (Cell.own (b := b1) (by repeat (first | exact List.mem_cons_self | apply List.mem_cons_of_mem | apply List.mem_append_right)) rfl) rfl ?_
  refine W_fieldAddr rfl fld27_3 (by decide) rfl ?_
  refine W_load (v := .int .u64 (e.due : Int)) rfl ty22 rfl (Cell.own (b := b1) (by repeat (first | exact List.mem_cons_self | apply List.mem_cons_of_mem | apply List.mem_append_right)) rfl) rfl ?_
  refine W_build (l := e.v) ty65 pl65 (.cons rfl rfl rfl rfl rfl (.cons rfl rfl rfl rfl rfl (.cons rfl rfl rfl rfl rfl (.cons rfl rfl rfl rfl rfl .nil)))) rfl rfl rfl ?_
  refine W_storeA (l' := e.v) rfl rfl ty65 rfl rfl (b := b2) (by repeat (first | exact List.mem_cons_self | apply List.mem_cons_of_mem | apply List.mem_append_right)) (by exact Nat.le_refl 4) rfl (by repeat (first | exact Upd.head _ | apply Upd.tail | apply Upd.app)) ?_
  refine W_nil ?_
  refine W_ret1cO (H2 := H) Tryd.results33 rfl (.nil _) ty65 rfl (by repeat (first | exact List.mem_cons_self | apply List.mem_cons_of_mem | apply List.mem_append_right)) rfl (by repeat (first | with_reducible exact HSub.refl _ | refine HSub.cons (by repeat (first | exact Take.here _ | apply Take.next | apply Take.app)) ?_ | refine HSub.app (by repeat (first | with_reducible exact TakeS.here _ | apply TakeS.next | apply TakeS.app)) ?_ | exact HSub.nil _ | exact HSub.refl _ | refine HSub.drop ?_ | refine HSub.dropS ?_)) ?_
  exact ⟨rfl, rfl⟩
end Go.Proofs.YtknbohnoiigioaaDoor
