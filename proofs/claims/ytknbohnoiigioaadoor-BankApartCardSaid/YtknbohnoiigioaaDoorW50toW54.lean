/-
  Own work: contracts of functions that the statement reaches, and plain facts on what they compute; each theorem says its conditions.
-/
import Derived.Test.YtknbohnoiigioaaDoorW47toW49
import Derived.Test.YtknbohnoiigioaaDoorSlRdtoSlFast
set_option linter.all false
set_option linter.unusedSimpArgs false
set_option linter.unusedVariables false
namespace Go.Proofs.YtknbohnoiigioaaDoor
open Go Go.Sl
attribute [local irreducible] W
theorem PutIs.ok_of {Ws Ws' : List Wl} {cpu id e : Int} {a k : Nat} {s : Spot} {w : Wl} (h : PutIs Ws cpu id a Ws' s e) (hc : cpu = (k : Int)) (hk : Ws[k]? = some w) (hf : findK Ws id = none) (hr : 0 ≤ id ∧ id < 256) (hm : w.now < 18446744073709551615) : Ws' = Ws.set k ⟨w.bw, w.now, w.L ++ [tmOf w.now a w.turn id], w.turn + 1⟩ ∧ s = (placeT w.now a).1 ∧ e = 0 := by
  have hw : wlAt Ws cpu = some w := by unfold wlAt; rw [if_pos (by omega), show cpu.toNat = k by omega, hk]
  cases h with
  | cpu h => rw [hw] at h; cases h
  | twice h h2 => rw [hf] at h2; cases h2
  | range h _ h2 => exact absurd hr h2
  | late h _ _ h2 =>
    rw [hw] at h
    obtain rfl := Option.some.inj h
    omega
  | @ok k2 w2 hc2 hk2 _ _ _ =>
    obtain rfl : k = k2 := by omega
    obtain rfl : w = w2 := Option.some.inj (hk.symm.trans hk2)
    exact ⟨rfl, rfl, rfl⟩
theorem PutIs.twice_of {Ws Ws' : List Wl} {cpu id e : Int} {a j : Nat} {s : Spot} {w : Wl} (h : PutIs Ws cpu id a Ws' s e) (hw : wlAt Ws cpu = some w) (hf : findK Ws id = some j) : Ws' = Ws ∧ s = zSpot ∧ e = 5 := by
  cases h with
  | cpu h => rw [hw] at h; cases h
  | twice h h2 => exact ⟨rfl, rfl, rfl⟩
  | range h h2 _ => rw [hf] at h2; cases h2
  | late h h2 _ _ => rw [hf] at h2; cases h2
  | ok _ _ h2 _ _ => rw [hf] at h2; cases h2
theorem fresh_none {Ws : List Wl} {now : Nat} (h : ∀ w ∈ Ws, FreshW now w) (id : Int) : findK Ws id = none := findK_none fun j u _ hu => by
  rw [(h u (List.mem_of_getElem? hu)).2.1]; rfl
theorem put_fresh {Ws Ws' : List Wl} {cpu e : Int} {a : Nat} {s : Spot} (hf : ∀ w ∈ Ws, FreshW 0 w) (h : PutIs Ws cpu 0 a Ws' s e) : ((cpu < 0 ∨ (Ws.length : Int) ≤ cpu) ∧ e = 2 ∧ Ws'.length = Ws.length) ∨ ((0 ≤ cpu ∧ cpu < (Ws.length : Int)) ∧ e = 0 ∧ Ws'.length = Ws.length) := by
  rcases cpu_ways Ws cpu with ⟨h1, h2⟩ | ⟨h1, h2, h3⟩ | ⟨h1, h2, h3⟩
  · cases h with
    | cpu h => exact .inl ⟨.inl h1, rfl, rfl⟩
    | twice h _ => rw [h2] at h; cases h
    | range h _ _ => rw [h2] at h; cases h
    | late h _ _ _ => rw [h2] at h; cases h
    | ok hc _ _ _ _ => omega
  · cases h with
    | cpu h => exact .inl ⟨.inr h2, rfl, rfl⟩
    | twice h _ => rw [h3] at h; cases h
    | range h _ _ => rw [h3] at h; cases h
    | late h _ _ _ => rw [h3] at h; cases h
    | ok hc hk _ _ _ => have := (List.getElem?_eq_some_iff.1 hk).1; omega
  · obtain ⟨w, hw⟩ : ∃ w, Ws[cpu.toNat]? = some w := ⟨_, List.getElem?_eq_getElem (by omega)⟩
    obtain ⟨rfl, rfl, rfl⟩ := h.ok_of (k := cpu.toNat) (by omega) hw (fresh_none hf 0) (by decide) (by rw [(hf w (List.mem_of_getElem? hw)).1]; decide)
    exact .inr ⟨⟨h1, h2⟩, rfl, by rw [List.length_set]⟩
theorem two_fresh {Ws : List Wl} (hl : Ws.length = 2) (hf : ∀ w ∈ Ws, FreshW 0 w) : ∃ p q, Ws = [⟨p, 0, [], 0⟩, ⟨q, 0, [], 0⟩] := by
  match Ws, hl with
  | [u, v], _ =>
    obtain ⟨h1, h2, h3⟩ := hf u List.mem_cons_self
    obtain ⟨g1, g2, g3⟩ := hf v (List.mem_cons_of_mem _ List.mem_cons_self)
    cases u; cases v
    dsimp only at h1 h2 h3 g1 g2 g3
    subst h1 h2 h3 g1 g2 g3
    exact ⟨_, _, rfl⟩
theorem CatchIs.of_at {Ws Ws' : List Wl} {cpu : Int} {a k : Nat} {O : List Tm} {w : Wl} (h : CatchIs Ws cpu a Ws' O) (hc : cpu = (k : Int)) (hk : Ws[k]? = some w) : ∃ Li, Gone w.now (max w.now a) w.L Li O ∧ Ws' = Ws.set k ⟨w.bw, max w.now a, Li, w.turn⟩ := by
  rcases h with ⟨h, _, _⟩ | ⟨k2, w2, Li, hc2, hk2, hG, e⟩
  · exfalso
    unfold wlAt at h
    rw [if_pos (by omega), show cpu.toNat = k by omega, hk] at h; cases h
  · obtain rfl : k = k2 := by omega
    obtain rfl : w = w2 := Option.some.inj (hk.symm.trans hk2)
    exact ⟨Li, hG, e⟩
set_option maxHeartbeats 1000000 in
theorem FindB_nil {id : Int} : Pure Tryd.prog (fun _ => True) 27 [.pointer none, .int .i64 id] (.tuple #[.int .i64 0, .agg zSpot.v.toArray, .bool false]) := by
  intro w0 H hT
  refine L_enter Tryd.func27 rfl Tryd.ntmps27 rfl rfl ?_
  refine W_sr ?_
  refine W_box (l := [.int .i64 id]) rfl rfl rfl (fun b3 => ?_)
  refine W_alloc (l := [.int .i64 0]) ty3 rfl rfl (fun b4 => ?_)
  refine W_alloc (l := zSpot.v) ty27 rfl rfl (fun b5 => ?_)
  refine W_alloc (l := [.bool false]) ty4 rfl rfl (fun b6 => ?_)
  refine W_nil ?_
  refine W_sr ?_
  refine W_makeFunc .nil (.cons rfl .nil) rfl ?_
  refine W_assign rfl rfl ?_
  refine W_nil ?_
  refine W_seq ?_
  refine W_sr ?_
  refine W_move rfl rfl ?_
  refine W_move rfl rfl ?_
  refine W_call (.cons rfl (.cons rfl .nil)) Tryd.call56 rfl (such_L (b := .pointer none) (f := .func (.func 58) #[] #[.pointer (some ⟨b3, 0, none⟩)]) rfl rfl) ?_
  rintro v H' ⟨b2_, b3_, rfl, rfl⟩
  refine W_nil ?_
  refine W_block ?_
  refine W_rangeFunc rfl Tryd.call78 ?_
  intro lp D r hst hpd hps hasg hbody hA
  have hr := loop_ready hst hpd
  show LCalls _ _ _ #[_, _, _] _ _
  refine ((such_none (b2 := b2_) (b3 := b3_) (cv := .func (.func 58) #[] #[.pointer (some ⟨b3, 0, none⟩)]) (H := (lp, .obj (.loop r)) :: (D, .obj (.deferred (some []))) :: (b6, .cells 4 1 [.bool false]) :: (b5, .cells 27 4 zSpot.v) :: (b4, .cells 3 1 [.int .i64 0]) :: (b3, .cells 3 1 [.int .i64 id]) :: H)).hsub (by first | exact hsubI | (repeat (first | with_reducible exact HSub.refl _ | refine HSub.cons (by repeat (first | exact Take.here _ | apply Take.next | apply Take.app)) ?_ | refine HSub.app (by repeat (first | with_reducible exact TakeS.here _ | apply TakeS.next | apply TakeS.app)) ?_ | exact HSub.nil _ | exact HSub.refl _ | refine HSub.drop ?_ | refine HSub.dropS ?_)))).mono ?_
  rintro _ H' rfl
  refine ⟨.ready, none, (b2_, .cells 45 1 [.pointer none]) :: (b3_, .cells 114 1 [.func (.func 58) #[] #[.pointer (some ⟨b3, 0, none⟩)]]) :: (D, .obj (.deferred (some []))) :: (b6, .cells 4 1 [.bool false]) :: (b5, .cells 27 4 zSpot.v) :: (b4, .cells 3 1 [.int .i64 0]) :: (b3, .cells 3 1 [.int .i64 id]) :: H, by rw [hr]; exact (by first | exact hsubI | (repeat (first | with_reducible exact HSub.refl _ | refine HSub.cons (by repeat (first | exact Take.here _ | apply Take.next | apply Take.app)) ?_ | refine HSub.app (by repeat (first | with_reducible exact TakeS.here _ | apply TakeS.next | apply TakeS.app)) ?_ | exact HSub.nil _ | exact HSub.refl _ | refine HSub.drop ?_ | refine HSub.dropS ?_))), by decide, ?_⟩
  show W _ _ _ _ _ _ _ _ _
  refine W_blk ?_
  refine W_sr ?_
  refine W_build ty27 pl27 .nil rfl (by simp only [fillL, spliceL, Value.cells, List.take_zero, List.take_succ_cons, List.take_nil, List.drop_zero, List.drop_succ_cons, List.drop_nil, List.nil_append, List.cons_append, List.append_nil, List.length_cons, List.length_nil, Nat.zero_add, Nat.reduceAdd, List.toList_toArray]; rfl) rfl ?_
  refine W_store (l' := [.int .i64 0]) rfl rfl ty3 rfl rfl (b := b4) (by repeat (first | exact List.mem_cons_self | apply List.mem_cons_of_mem | apply List.mem_append_right)) rfl rfl (by repeat (first | exact Upd.head _ | apply Upd.tail | apply Upd.app)) ?_
  refine W_storeA (l' := zSpot.v) rfl rfl ty27 rfl rfl (b := b5) (by repeat (first | exact List.mem_cons_self | apply List.mem_cons_of_mem | apply List.mem_append_right)) (by exact Nat.le_refl 4) rfl (by repeat (first | exact Upd.head _ | apply Upd.tail | apply Upd.app)) ?_
  refine W_store (l' := [.bool false]) rfl rfl ty4 rfl rfl (b := b6) (by repeat (first | exact List.mem_cons_self | apply List.mem_cons_of_mem | apply List.mem_append_right)) rfl rfl (by repeat (first | exact Upd.head _ | apply Upd.tail | apply Upd.app)) ?_
  refine W_nil ?_
  refine W_ret3G (H2 := H) Tryd.results27 (.cons (by repeat (first | exact Take.here _ | apply Take.next | apply Take.app)) (.nil _)) (.one rfl ty3 rfl (Cell.own (b := b4) (by repeat (first | exact List.mem_cons_self | apply List.mem_cons_of_mem | apply List.mem_append_right)) rfl)) (.own rfl ty27 rfl (b := b5) (by repeat (first | exact List.mem_cons_self | apply List.mem_cons_of_mem | apply List.mem_append_right)) rfl) (.one rfl ty4 rfl (Cell.own (b := b6) (by repeat (first | exact List.mem_cons_self | apply List.mem_cons_of_mem | apply List.mem_append_right)) rfl)) (by first | exact hsubI | (repeat (first | with_reducible exact HSub.refl _ | refine HSub.cons (by repeat (first | exact Take.here _ | apply Take.next | apply Take.app)) ?_ | refine HSub.app (by repeat (first | with_reducible exact TakeS.here _ | apply TakeS.next | apply TakeS.app)) ?_ | exact HSub.nil _ | exact HSub.refl _ | refine HSub.drop ?_ | refine HSub.dropS ?_))) ?_
  exact ⟨rfl, rfl⟩
set_option maxHeartbeats 4000000 in
theorem knownB_pure  : Pure Tryd.prog (Tab) 28 [] (.bool true) := by
  intro w0 H hT
  refine L_enter Tryd.func28 rfl Tryd.ntmps28 rfl rfl ?_
  refine W_sr ?_
  refine W_assign rfl rfl ?_
  refine W_nil ?_
  refine W_sr ?_
  refine W_call (.cons rfl (.cons rfl .nil)) Tryd.call21 rfl (NewB_L (n := 2) (now := 0) (by decide)) ?_
  rintro v H' ⟨bb, Ws, HB, rfl, hB, hWl, hfr, rfl⟩
  obtain ⟨p, q, rfl⟩ := two_fresh hWl hfr
  refine W_move rfl rfl ?_
  refine W_extract rfl rfl rfl ?_
  refine W_extract rfl rfl rfl ?_
  refine W_assign rfl rfl ?_
  refine W_assign rfl rfl ?_
  refine W_nil ?_
  refine W_seq ?_
  refine W_sr ?_
  refine W_move rfl rfl ?_
  refine W_bin rfl rfl b_neq rfl ?_
  refine W_nil ?_
  refine W_condF rfl rfl ?_
  refine W_skip ?_
  refine W_sr ?_
  refine W_move rfl rfl ?_
  refine W_call (.cons rfl (.cons rfl (.cons rfl (.cons rfl .nil)))) Tryd.call22 rfl ((PutB_L (cpu := 1) (id := 7) (a := 5) hB (by simp) (by decide) (by intro w hw; simp only [List.mem_cons, List.not_mem_nil, or_false] at hw; rcases hw with rfl | rfl <;> simp) (by intro w hw; simp only [List.mem_cons, List.not_mem_nil, or_false] at hw; rcases hw with rfl | rfl <;> simp) (H := H)).hsub (by first | exact hsubI | (repeat (first | with_reducible exact HSub.refl _ | refine HSub.cons (by repeat (first | exact Take.here _ | apply Take.next | apply Take.app)) ?_ | refine HSub.app (by repeat (first | with_reducible exact TakeS.here _ | apply TakeS.next | apply TakeS.app)) ?_ | exact HSub.nil _ | exact HSub.refl _ | refine HSub.drop ?_ | refine HSub.dropS ?_)))) ?_
  rintro v H' ⟨Ws1, HB1, s1, e1, hB1, rfl, hP1, rfl⟩
  obtain ⟨hWs1, hs1, rfl⟩ := hP1.ok_of (k := 1) rfl rfl rfl (by decide) (by simp)
  obtain rfl : s1 = (⟨0, 5, 5, 5⟩ : Spot) := hs1.trans (show (placeT 0 5).1 = (⟨0, 5, 5, 5⟩ : Spot) from by decide +kernel)
  have hWs2 : Ws1 = [(⟨p, 0, [], 0⟩ : Wl), ⟨q, 0, [(⟨7, (⟨0, 5, 5, 5⟩ : Spot), 1⟩ : Tm)], 1⟩] := hWs1.trans (by show [(⟨p, 0, [], 0⟩ : Wl), (⟨q, 0, [⟨7, (placeT 0 5).1, 1⟩], 1⟩ : Wl)] = _; rw [show (placeT 0 5).1 = (⟨0, 5, 5, 5⟩ : Spot) from by decide +kernel])
  subst hWs2
  refine W_move rfl rfl ?_
  refine W_extract rfl rfl rfl ?_
  refine W_extract rfl rfl rfl ?_
  refine W_alloc (l := zSpot.v) ty27 rfl rfl (fun b3 => ?_)
  refine W_storeA (l' := (⟨0, 5, 5, 5⟩ : Spot).v) rfl rfl ty27 rfl rfl (b := b3) (by repeat (first | exact List.mem_cons_self | apply List.mem_cons_of_mem | apply List.mem_append_right)) (by exact Nat.le_refl 4) rfl (by repeat (first | exact Upd.head _ | apply Upd.tail | apply Upd.app)) ?_
  refine W_assign rfl rfl ?_
  refine W_nil ?_
  refine W_sr ?_
  refine W_move rfl rfl ?_
  refine W_call (.cons rfl (.cons rfl (.cons rfl (.cons rfl .nil)))) Tryd.call22 rfl ((PutB_L (cpu := 0) (id := 7) (a := 9) hB1 (by simp) (by decide) (by intro w hw; simp only [List.mem_cons, List.not_mem_nil, or_false] at hw; rcases hw with rfl | rfl <;> simp) (by intro w hw; simp only [List.mem_cons, List.not_mem_nil, or_false] at hw; rcases hw with rfl | rfl <;> simp) (H := (b3, .cells 27 4 (⟨0, 5, 5, 5⟩ : Spot).v) :: H)).hsub (by first | exact hsubI | (repeat (first | with_reducible exact HSub.refl _ | refine HSub.cons (by repeat (first | exact Take.here _ | apply Take.next | apply Take.app)) ?_ | refine HSub.app (by repeat (first | with_reducible exact TakeS.here _ | apply TakeS.next | apply TakeS.app)) ?_ | exact HSub.nil _ | exact HSub.refl _ | refine HSub.drop ?_ | refine HSub.dropS ?_)))) ?_
  rintro v H' ⟨Ws2, HB2, s2, e2, hB2, rfl, hP2, rfl⟩
  obtain ⟨rfl, rfl, rfl⟩ := hP2.twice_of (w := (⟨p, 0, [], 0⟩ : Wl)) (j := 1) rfl rfl
  refine W_move rfl rfl ?_
  refine W_extract rfl rfl rfl ?_
  refine W_extract rfl rfl rfl ?_
  refine W_alloc (l := zSpot.v) ty27 rfl rfl (fun b5 => ?_)
  refine W_storeA (l' := zSpot.v) rfl rfl ty27 rfl rfl (b := b5) (by repeat (first | exact List.mem_cons_self | apply List.mem_cons_of_mem | apply List.mem_append_right)) (by exact Nat.le_refl 4) rfl (by repeat (first | exact Upd.head _ | apply Upd.tail | apply Upd.app)) ?_
  refine W_assign rfl rfl ?_
  refine W_nil ?_
  refine W_seq ?_
  refine W_sr ?_
  refine W_move rfl rfl ?_
  refine W_bin rfl rfl b_neq rfl ?_
  refine W_move rfl rfl ?_
  refine W_gyes rfl rfl ?_
  refine W_move rfl rfl ?_
  refine W_gyes rfl rfl ?_
  refine W_bin rfl rfl b_neq rfl ?_
  first | refine W_pickt rfl rfl rfl ?_ | refine W_pickf rfl rfl rfl ?_
  refine W_move rfl rfl ?_
  refine W_gyes rfl rfl ?_
  refine W_move rfl rfl ?_
  refine W_gyes rfl rfl ?_
  refine W_call (.cons rfl (.cons rfl (.cons rfl .nil))) Tryd.call24 rfl ((CatchB_L (cpu := 0) (a := 10) hB2 (by decide) (by intro w hw t ht; simp only [List.mem_cons, List.not_mem_nil, or_false] at hw; rcases hw with rfl | rfl <;> (first | (cases ht; done) | (simp only [List.mem_cons, List.not_mem_nil, or_false] at ht; subst ht; simp))) hT (H := (b5, .cells 27 4 zSpot.v) :: (b3, .cells 27 4 (⟨0, 5, 5, 5⟩ : Spot).v) :: H)).hsub (by first | exact hsubI | (repeat (first | with_reducible exact HSub.refl _ | refine HSub.cons (by repeat (first | exact Take.here _ | apply Take.next | apply Take.app)) ?_ | refine HSub.app (by repeat (first | with_reducible exact TakeS.here _ | apply TakeS.next | apply TakeS.app)) ?_ | exact HSub.nil _ | exact HSub.refl _ | refine HSub.drop ?_ | refine HSub.dropS ?_)))) ?_
  rintro v H' ⟨Ws3, HB3, O3, XO3, hB3, hO3, hC3, rfl⟩
  obtain ⟨Li3, hG3, rfl⟩ := hC3.of_at (k := 0) rfl rfl
  replace hG3 : Gone 0 10 [] Li3 O3 := hG3
  obtain rfl : O3 = [] := hG3.is (by decide) (by decide)
  obtain rfl : Li3 = [] := hG3.left
  replace hB3 : BankH bb [⟨p, 10, [], 0⟩, ⟨q, 0, [(⟨7, (⟨0, 5, 5, 5⟩ : Spot), 1⟩ : Tm)], 1⟩] HB3 := hB3
  obtain ⟨ad3, cap3, rfl, _, _⟩ := hO3.shape
  refine W_gyes rfl rfl ?_
  refine W_len rfl ty35 rfl rfl ?_
  refine W_gyes rfl rfl ?_
  refine W_bin rfl rfl b_neq rfl ?_
  first | refine W_pickt rfl rfl rfl ?_ | refine W_pickf rfl rfl rfl ?_
  refine W_move rfl rfl ?_
  refine W_gyes rfl rfl ?_
  refine W_move rfl rfl ?_
  refine W_gyes rfl rfl ?_
  refine W_call (.cons rfl (.cons rfl .nil)) Tryd.call23 rfl ((LateB_L (a := 10) hB3 (by simp) (by intro w hw; simp only [List.mem_cons, List.not_mem_nil, or_false] at hw; rcases hw with rfl | rfl <;> simp) hT (H := XO3 ++ ((b5, .cells 27 4 zSpot.v) :: (b3, .cells 27 4 (⟨0, 5, 5, 5⟩ : Spot).v) :: H))).hsub (by first | exact hsubI | (repeat (first | with_reducible exact HSub.refl _ | refine HSub.cons (by repeat (first | exact Take.here _ | apply Take.next | apply Take.app)) ?_ | refine HSub.app (by repeat (first | with_reducible exact TakeS.here _ | apply TakeS.next | apply TakeS.app)) ?_ | exact HSub.nil _ | exact HSub.refl _ | refine HSub.drop ?_ | refine HSub.dropS ?_)))) ?_
  rintro v H' ⟨HB4, hB4, rfl, rfl⟩
  rw [show lateM [⟨p, 10, [], 0⟩, ⟨q, 0, [(⟨7, (⟨0, 5, 5, 5⟩ : Spot), 1⟩ : Tm)], 1⟩] 10 ([⟨p, 10, [], 0⟩, ⟨q, 0, [(⟨7, (⟨0, 5, 5, 5⟩ : Spot), 1⟩ : Tm)], 1⟩] : List Wl).length = 2 from by kernel_rfl]
  refine W_gyes rfl rfl ?_
  refine W_bin rfl rfl b_neq rfl ?_
  first | refine W_pickt rfl rfl rfl ?_ | refine W_pickf rfl rfl rfl ?_
  refine W_nil ?_
  refine W_condF rfl rfl ?_
  refine W_skip ?_
  refine W_sr ?_
  refine W_move rfl rfl ?_
  refine W_call (.cons rfl (.cons rfl (.cons rfl .nil))) Tryd.call24 rfl ((CatchB_L (cpu := 1) (a := 10) hB4 (by decide) (by intro w hw t ht; simp only [List.mem_cons, List.not_mem_nil, or_false] at hw; rcases hw with rfl | rfl <;> (first | (cases ht; done) | (simp only [List.mem_cons, List.not_mem_nil, or_false] at ht; subst ht; simp))) hT (H := XO3 ++ ((b5, .cells 27 4 zSpot.v) :: (b3, .cells 27 4 (⟨0, 5, 5, 5⟩ : Spot).v) :: H))).hsub (by first | exact hsubI | (repeat (first | with_reducible exact HSub.refl _ | refine HSub.cons (by repeat (first | exact Take.here _ | apply Take.next | apply Take.app)) ?_ | refine HSub.app (by repeat (first | with_reducible exact TakeS.here _ | apply TakeS.next | apply TakeS.app)) ?_ | exact HSub.nil _ | exact HSub.refl _ | refine HSub.drop ?_ | refine HSub.dropS ?_)))) ?_
  rintro v H' ⟨Ws5, HB5, O5, XO5, hB5, hO5, hC5, rfl⟩
  obtain ⟨Li5, hG5, rfl⟩ := hC5.of_at (k := 1) rfl rfl
  replace hG5 : Gone 0 10 [(⟨7, (⟨0, 5, 5, 5⟩ : Spot), 1⟩ : Tm)] Li5 O5 := hG5
  obtain rfl : O5 = [(⟨7, (⟨0, 5, 5, 5⟩ : Spot), 1⟩ : Tm)] := hG5.is (by decide) (by decide)
  obtain ⟨ad5, cap5, rfl, _, _⟩ := hO5.shape
  refine W_buildSlice (l := [.int .i64 7]) ty35 ty3 (.cons rfl rfl rfl rfl rfl .nil) rfl rfl rfl rfl rfl rfl rfl (fun b42 => ?_)
  refine W_callq (.cons rfl (.cons rfl .nil)) Tryd.call37 rfl (same_q (l := [7]) (r := [7]) (OwnS.holds hO5 (fun p hp => (by repeat (first | exact List.mem_append_left _ hp | exact List.mem_cons_self | apply List.mem_cons_of_mem | apply List.mem_append_right)))) (Holds.own (b := b42) (by repeat (first | exact List.mem_cons_self | apply List.mem_cons_of_mem | apply List.mem_append_right))) (by decide)) ?_
  refine W_assign rfl rfl ?_
  refine W_nil ?_
  refine W_ret1m (H2 := H) Tryd.results28 rfl (.nil _) (by first | exact hsubI | (repeat (first | with_reducible exact HSub.refl _ | refine HSub.cons (by repeat (first | exact Take.here _ | apply Take.next | apply Take.app)) ?_ | refine HSub.app (by repeat (first | with_reducible exact TakeS.here _ | apply TakeS.next | apply TakeS.app)) ?_ | exact HSub.nil _ | exact HSub.refl _ | refine HSub.drop ?_ | refine HSub.dropS ?_))) ?_
  exact ⟨rfl, rfl⟩
end Go.Proofs.YtknbohnoiigioaaDoor
namespace Go.Proofs.YtknbohnoiigioaaDoor
open Go Go.Sl
attribute [local irreducible] W
set_option maxHeartbeats 4000000 in
theorem bankLimits_A {cpus cpu : Int} {a : Nat} (ha : a ≤ 18446744073709551615) (hc : cpus < 1 ∨ 64 < cpus) : Pure Tryd.prog (Tab) 9 [.int .i64 cpus, .int .i64 cpu, .int .u64 ((a : Nat) : Int)] (.bool true) := by
  intro w0 H hT
  refine L_enter Tryd.func9 rfl Tryd.ntmps9 rfl rfl ?_
  refine W_sr ?_
  refine W_assign rfl rfl ?_
  refine W_nil ?_
  refine W_sr ?_
  refine W_move rfl rfl ?_
  refine W_callp (.cons rfl (.cons rfl .nil)) Tryd.call21 rfl (T := fun _ => True) trivial (NewB_range hc) ?_
  refine W_move rfl rfl ?_
  refine W_extract rfl rfl rfl ?_
  refine W_extract rfl rfl rfl ?_
  refine W_assign rfl rfl ?_
  refine W_assign rfl rfl ?_
  refine W_nil ?_
  refine W_seq ?_
  refine W_sr ?_
  refine W_move rfl rfl ?_
  refine W_bin rfl rfl b_lss rfl ?_
  refine W_move rfl rfl ?_
  apply W_or
  iterate 4 exact rfl
  case h1 =>
    intro hg2
    refine W_gyes rfl rfl ?_
    refine W_move rfl rfl ?_
    refine W_gyes rfl rfl ?_
    refine W_bin rfl rfl b_gtr rfl ?_
    exact W_met rfl (by repeat (first | exact .refl | refine .cons rfl ?_))
  refine W_nil ?_
  refine W_condT rfl (by simp; omega) ?_
  refine W_sr ?_
  refine W_move rfl rfl ?_
  refine W_bin rfl rfl b_neq rfl ?_
  refine W_move rfl rfl ?_
  refine W_gyes rfl rfl ?_
  refine W_move rfl rfl ?_
  refine W_gyes rfl rfl ?_
  refine W_x (X_ptrNotNil rfl rfl ty45) (fun _ h => by cases h) rfl ?_
  first | refine W_pickt rfl rfl rfl ?_ | refine W_pickf rfl rfl rfl ?_
  refine W_nil ?_
  refine W_condF rfl rfl ?_
  refine W_skip ?_
  refine W_sr ?_
  refine W_assign rfl rfl ?_
  refine W_nil ?_
  refine W_sr ?_
  refine W_move rfl rfl ?_
  refine W_move rfl rfl ?_
  refine W_move rfl rfl ?_
  refine W_callp (.cons rfl (.cons rfl (.cons rfl (.cons rfl .nil)))) Tryd.call22 rfl (T := fun _ => True) trivial (PutB_nil ) ?_
  refine W_move rfl rfl ?_
  refine W_extract rfl rfl rfl ?_
  refine W_extract rfl rfl rfl ?_
  refine W_alloc (l := zSpot.v) ty27 rfl rfl (fun b12 => ?_)
  refine W_storeA (l' := zSpot.v) rfl rfl ty27 rfl rfl (b := b12) (by repeat (first | exact List.mem_cons_self | apply List.mem_cons_of_mem | apply List.mem_append_right)) (by exact Nat.le_refl 4) rfl (by repeat (first | exact Upd.head _ | apply Upd.tail | apply Upd.app)) ?_
  refine W_assign rfl rfl ?_
  refine W_nil ?_
  refine W_sr ?_
  refine W_move rfl rfl ?_
  refine W_callq (.cons rfl (.cons rfl .nil)) Tryd.call42 rfl (NextB_nil (l := []) (ad := none) (cap := 0) (by decide) Holds.nil) ?_
  refine W_move rfl rfl ?_
  refine W_extract rfl rfl rfl ?_
  refine W_extract rfl rfl rfl ?_
  refine W_assign rfl rfl ?_
  refine W_assign rfl rfl ?_
  refine W_nil ?_
  refine W_sr ?_
  refine W_move rfl rfl ?_
  refine W_callp (.cons rfl (.cons rfl .nil)) Tryd.call27 rfl (T := fun _ => True) trivial (FindB_nil ) ?_
  refine W_move rfl rfl ?_
  refine W_extract rfl rfl rfl ?_
  refine W_extract rfl rfl rfl ?_
  refine W_extract rfl rfl rfl ?_
  refine W_alloc (l := zSpot.v) ty27 rfl rfl (fun b17 => ?_)
  refine W_assign rfl rfl ?_
  refine W_storeA (l' := zSpot.v) rfl rfl ty27 rfl rfl (b := b17) (by repeat (first | exact List.mem_cons_self | apply List.mem_cons_of_mem | apply List.mem_append_right)) (by exact Nat.le_refl 4) rfl (by repeat (first | exact Upd.head _ | apply Upd.tail | apply Upd.app)) ?_
  refine W_assign rfl rfl ?_
  refine W_nil ?_
  refine W_sr ?_
  refine W_callp .nil Tryd.call28 rfl hT knownB_pure ?_
  refine W_move rfl rfl ?_
  refine W_gyes rfl rfl ?_
  refine W_move rfl rfl ?_
  refine W_gyes rfl rfl ?_
  refine W_bin rfl rfl b_eql rfl ?_
  first | refine W_pickt rfl rfl rfl ?_ | refine W_pickf rfl rfl rfl ?_
  refine W_move rfl rfl ?_
  refine W_gyes rfl rfl ?_
  refine W_move rfl rfl ?_
  refine W_gyes rfl rfl ?_
  refine W_buildSlice (l := [.int .i64 0]) ty35 ty3 (.cons rfl rfl rfl rfl rfl .nil) rfl rfl rfl rfl rfl rfl rfl (fun b96 => ?_)
  refine W_gyes rfl rfl ?_
  refine W_callp (.cons rfl (.cons rfl .nil)) Tryd.call35 rfl (T := fun _ => True) trivial (DelB_nil (n := 1)) ?_
  refine W_gyes rfl rfl ?_
  refine W_bin rfl rfl b_eql rfl ?_
  first | refine W_pickt rfl rfl rfl ?_ | refine W_pickf rfl rfl rfl ?_
  refine W_move rfl rfl ?_
  refine W_gyes rfl rfl ?_
  refine W_move rfl rfl ?_
  refine W_gyes rfl rfl ?_
  refine W_move rfl rfl ?_
  refine W_gyes rfl rfl ?_
  refine W_move rfl rfl ?_
  refine W_gyes rfl rfl ?_
  refine W_callp (.cons rfl (.cons rfl (.cons rfl .nil))) Tryd.call24 rfl (T := fun _ => True) trivial (CatchB_nil ) ?_
  refine W_gyes rfl rfl ?_
  refine W_len rfl ty35 rfl rfl ?_
  refine W_gyes rfl rfl ?_
  refine W_bin rfl rfl b_eql rfl ?_
  first | refine W_pickt rfl rfl rfl ?_ | refine W_pickf rfl rfl rfl ?_
  refine W_move rfl rfl ?_
  refine W_gyes rfl rfl ?_
  refine W_move rfl rfl ?_
  refine W_gyes rfl rfl ?_
  refine W_bin rfl rfl b_eql rfl ?_
  first | refine W_pickt rfl rfl rfl ?_ | refine W_pickf rfl rfl rfl ?_
  refine W_move rfl rfl ?_
  refine W_gyes rfl rfl ?_
  refine W_move rfl rfl ?_
  refine W_gyes rfl rfl ?_
  refine W_not rfl rfl ?_
  first | refine W_pickt rfl rfl rfl ?_ | refine W_pickf rfl rfl rfl ?_
  refine W_move rfl rfl ?_
  refine W_gyes rfl rfl ?_
  refine W_move rfl rfl ?_
  refine W_gyes rfl rfl ?_
  refine W_not rfl rfl ?_
  first | refine W_pickt rfl rfl rfl ?_ | refine W_pickf rfl rfl rfl ?_
  refine W_move rfl rfl ?_
  refine W_gyes rfl rfl ?_
  refine W_move rfl rfl ?_
  refine W_gyes rfl rfl ?_
  refine W_move rfl rfl ?_
  refine W_gyes rfl rfl ?_
  refine W_callp (.cons rfl (.cons rfl .nil)) Tryd.call23 rfl (T := fun _ => True) trivial (LateB_nil (a := a)) ?_
  refine W_gyes rfl rfl ?_
  refine W_bin rfl rfl b_eql rfl ?_
  first | refine W_pickt rfl rfl rfl ?_ | refine W_pickf rfl rfl rfl ?_
  refine W_move rfl rfl ?_
  refine W_gyes rfl rfl ?_
  refine W_move rfl rfl ?_
  refine W_gyes rfl rfl ?_
  refine W_move rfl rfl ?_
  refine W_gyes rfl rfl ?_
  refine W_callp (.cons rfl (.cons rfl .nil)) Tryd.call41 rfl (T := fun _ => True) trivial (NowB_nil ) ?_
  refine W_gyes rfl rfl ?_
  refine W_bin rfl rfl b_eql rfl ?_
  first | refine W_pickt rfl rfl rfl ?_ | refine W_pickf rfl rfl rfl ?_
  refine W_move rfl rfl ?_
  refine W_gyes rfl rfl ?_
  refine W_move rfl rfl ?_
  refine W_gyes rfl rfl ?_
  refine W_callp (.cons rfl .nil) Tryd.call30 rfl (T := fun _ => True) trivial (CPUs_nil ) ?_
  refine W_gyes rfl rfl ?_
  refine W_bin rfl rfl b_eql rfl ?_
  first | refine W_pickt rfl rfl rfl ?_ | refine W_pickf rfl rfl rfl ?_
  refine W_move rfl rfl ?_
  refine W_gyes rfl rfl ?_
  refine W_move rfl rfl ?_
  refine W_gyes rfl rfl ?_
  refine W_callp (.cons rfl .nil) Tryd.call29 rfl (T := fun _ => True) trivial (LenB_nil ) ?_
  refine W_gyes rfl rfl ?_
  refine W_bin rfl rfl b_eql rfl ?_
  first | refine W_pickt rfl rfl rfl ?_ | refine W_pickf rfl rfl rfl ?_
  refine W_assign rfl rfl ?_
  refine W_nil ?_
  refine W_ret1m (H2 := H) Tryd.results9 rfl (.nil _) (by first | exact hsubI | (repeat (first | with_reducible exact HSub.refl _ | refine HSub.cons (by repeat (first | exact Take.here _ | apply Take.next | apply Take.app)) ?_ | refine HSub.app (by repeat (first | with_reducible exact TakeS.here _ | apply TakeS.next | apply TakeS.app)) ?_ | exact HSub.nil _ | exact HSub.refl _ | refine HSub.drop ?_ | refine HSub.dropS ?_))) ?_
  exact ⟨rfl, rfl⟩
set_option maxHeartbeats 4000000 in
theorem bankLimits_B {cpu : Int} {n a : Nat} (ha : a ≤ 18446744073709551615) (hc : 1 ≤ n ∧ n ≤ 64) : Pure Tryd.prog (Tab) 9 [.int .i64 (n : Int), .int .i64 cpu, .int .u64 ((a : Nat) : Int)] (.bool true) := by
  intro w0 H hT
  refine L_enter Tryd.func9 rfl Tryd.ntmps9 rfl rfl ?_
  refine W_sr ?_
  refine W_assign rfl rfl ?_
  refine W_nil ?_
  refine W_sr ?_
  refine W_move rfl rfl ?_
  refine W_call (.cons rfl (.cons rfl .nil)) Tryd.call21 rfl (NewB_L (n := n) (now := 0) hc) ?_
  rintro v H' ⟨bb, Ws, HB, rfl, hB, hWl, hfr, rfl⟩
  refine W_move rfl rfl ?_
  refine W_extract rfl rfl rfl ?_
  refine W_extract rfl rfl rfl ?_
  refine W_assign rfl rfl ?_
  refine W_assign rfl rfl ?_
  refine W_nil ?_
  refine W_seq ?_
  refine W_sr ?_
  refine W_move rfl rfl ?_
  refine W_bin rfl rfl b_lss rfl ?_
  refine W_move rfl rfl ?_
  apply W_or
  iterate 4 exact rfl
  case h1 =>
    intro hg2
    refine W_gyes rfl rfl ?_
    refine W_move rfl rfl ?_
    refine W_gyes rfl rfl ?_
    refine W_bin rfl rfl b_gtr rfl ?_
    exact W_met rfl (by repeat (first | exact .refl | refine .cons rfl ?_))
  refine W_nil ?_
  refine W_condF rfl (by simp; omega) ?_
  refine W_sr ?_
  refine W_move rfl rfl ?_
  refine W_move rfl rfl ?_
  refine W_move rfl rfl ?_
  refine W_call (.cons rfl (.cons rfl (.cons rfl (.cons rfl .nil)))) Tryd.call22 rfl (PutB_L (cpu := cpu) (id := 0) (a := a) hB (by omega) ha (fun w hw => by rw [(hfr w hw).1]; decide) (fun w hw => by rw [(hfr w hw).2.2]; decide)) ?_
  rintro v H' ⟨Ws1, HB1, s1, e1, hB1, rfl, hP1, rfl⟩
  rcases put_fresh hfr hP1 with ⟨h1 | h1, rfl, hl1⟩ | ⟨⟨h1, h2⟩, rfl, hl1⟩
  · skip
    refine W_move rfl rfl ?_
    refine W_extract rfl rfl rfl ?_
    refine W_extract rfl rfl rfl ?_
    refine W_alloc (l := zSpot.v) ty27 rfl rfl (fun b9 => ?_)
    refine W_storeA (l' := s1.v) rfl rfl ty27 rfl rfl (b := b9) (by repeat (first | exact List.mem_cons_self | apply List.mem_cons_of_mem | apply List.mem_append_right)) (by exact Nat.le_refl 4) rfl (by repeat (first | exact Upd.head _ | apply Upd.tail | apply Upd.app)) ?_
    refine W_assign rfl rfl ?_
    refine W_nil ?_
    refine W_sr ?_
    refine W_move rfl rfl ?_
    refine W_bin rfl rfl b_neq rfl ?_
    refine W_move rfl rfl ?_
    refine W_gyes rfl rfl ?_
    refine W_move rfl rfl ?_
    refine W_gyes rfl rfl ?_
    refine W_bin rfl rfl b_eql rfl ?_
    refine W_gyes rfl rfl ?_
    refine W_move rfl rfl ?_
    refine W_gyes rfl rfl ?_
    refine W_bin rfl rfl b_geq rfl ?_
    rw [decide_eq_false (by omega)]
    refine W_gyes rfl rfl ?_
    refine W_move rfl rfl ?_
    refine W_gno rfl rfl rfl ?_
    refine W_gno rfl rfl rfl ?_
    refine W_gno rfl rfl rfl ?_
    refine W_gyes rfl rfl ?_
    first | refine W_pickt rfl rfl rfl ?_ | refine W_pickf rfl rfl rfl ?_
    refine W_gyes rfl rfl ?_
    refine W_bne rfl rfl ty4 rfl ?_
    first | refine W_pickt rfl rfl rfl ?_ | refine W_pickf rfl rfl rfl ?_
    refine W_move rfl rfl ?_
    refine W_gyes rfl rfl ?_
    refine W_move rfl rfl ?_
    refine W_gyes rfl rfl ?_
    refine W_bin rfl rfl b_neq rfl ?_
    refine W_gyes rfl rfl ?_
    refine W_move rfl rfl ?_
    refine W_gyes rfl rfl ?_
    refine W_move rfl rfl ?_
    refine W_gyes rfl rfl ?_
    refine W_bin rfl rfl b_neq rfl ?_
    refine W_gyes rfl rfl ?_
    first | refine W_pickt rfl rfl rfl ?_ | refine W_pickf rfl rfl rfl ?_
    first | refine W_pickt rfl rfl rfl ?_ | refine W_pickf rfl rfl rfl ?_
    refine W_move rfl rfl ?_
    refine W_gyes rfl rfl ?_
    refine W_move rfl rfl ?_
    refine W_gyes rfl rfl ?_
    refine W_callq (.cons rfl .nil) Tryd.call30 rfl (CPUs_q hB1 (fun p hp => (by repeat (first | exact List.mem_append_left _ hp | exact List.mem_cons_self | apply List.mem_cons_of_mem | apply List.mem_append_right)))) ?_
    refine W_gyes rfl rfl ?_
    refine W_move rfl rfl ?_
    refine W_gyes rfl rfl ?_
    refine W_bin rfl rfl b_neq rfl ?_
    rw [decide_eq_false (by omega)]
    first | refine W_pickt rfl rfl rfl ?_ | refine W_pickf rfl rfl rfl ?_
    refine W_nil ?_
    refine W_condF rfl rfl ?_
    refine W_skip ?_
    refine W_sr ?_
    refine W_assign rfl rfl ?_
    refine W_nil ?_
    refine W_sr ?_
    refine W_move rfl rfl ?_
    refine W_move rfl rfl ?_
    refine W_move rfl rfl ?_
    refine W_callp (.cons rfl (.cons rfl (.cons rfl (.cons rfl .nil)))) Tryd.call22 rfl (T := fun _ => True) trivial (PutB_nil ) ?_
    refine W_move rfl rfl ?_
    refine W_extract rfl rfl rfl ?_
    refine W_extract rfl rfl rfl ?_
    refine W_alloc (l := zSpot.v) ty27 rfl rfl (fun b12 => ?_)
    refine W_storeA (l' := zSpot.v) rfl rfl ty27 rfl rfl (b := b12) (by repeat (first | exact List.mem_cons_self | apply List.mem_cons_of_mem | apply List.mem_append_right)) (by exact Nat.le_refl 4) rfl (by repeat (first | exact Upd.head _ | apply Upd.tail | apply Upd.app)) ?_
    refine W_assign rfl rfl ?_
    refine W_nil ?_
    refine W_sr ?_
    refine W_move rfl rfl ?_
    refine W_callq (.cons rfl (.cons rfl .nil)) Tryd.call42 rfl (NextB_nil (l := []) (ad := none) (cap := 0) (by decide) Holds.nil) ?_
    refine W_move rfl rfl ?_
    refine W_extract rfl rfl rfl ?_
    refine W_extract rfl rfl rfl ?_
    refine W_assign rfl rfl ?_
    refine W_assign rfl rfl ?_
    refine W_nil ?_
    refine W_sr ?_
    refine W_move rfl rfl ?_
    refine W_callp (.cons rfl (.cons rfl .nil)) Tryd.call27 rfl (T := fun _ => True) trivial (FindB_nil ) ?_
    refine W_move rfl rfl ?_
    refine W_extract rfl rfl rfl ?_
    refine W_extract rfl rfl rfl ?_
    refine W_extract rfl rfl rfl ?_
    refine W_alloc (l := zSpot.v) ty27 rfl rfl (fun b17 => ?_)
    refine W_assign rfl rfl ?_
    refine W_storeA (l' := zSpot.v) rfl rfl ty27 rfl rfl (b := b17) (by repeat (first | exact List.mem_cons_self | apply List.mem_cons_of_mem | apply List.mem_append_right)) (by exact Nat.le_refl 4) rfl (by repeat (first | exact Upd.head _ | apply Upd.tail | apply Upd.app)) ?_
    refine W_assign rfl rfl ?_
    refine W_nil ?_
    refine W_sr ?_
    refine W_callp .nil Tryd.call28 rfl hT knownB_pure ?_
    refine W_move rfl rfl ?_
    refine W_gyes rfl rfl ?_
    refine W_move rfl rfl ?_
    refine W_gyes rfl rfl ?_
    refine W_bin rfl rfl b_eql rfl ?_
    first | refine W_pickt rfl rfl rfl ?_ | refine W_pickf rfl rfl rfl ?_
    refine W_move rfl rfl ?_
    refine W_gyes rfl rfl ?_
    refine W_move rfl rfl ?_
    refine W_gyes rfl rfl ?_
    refine W_buildSlice (l := [.int .i64 0]) ty35 ty3 (.cons rfl rfl rfl rfl rfl .nil) rfl rfl rfl rfl rfl rfl rfl (fun b96 => ?_)
    refine W_gyes rfl rfl ?_
    refine W_callp (.cons rfl (.cons rfl .nil)) Tryd.call35 rfl (T := fun _ => True) trivial (DelB_nil (n := 1)) ?_
    refine W_gyes rfl rfl ?_
    refine W_bin rfl rfl b_eql rfl ?_
    first | refine W_pickt rfl rfl rfl ?_ | refine W_pickf rfl rfl rfl ?_
    refine W_move rfl rfl ?_
    refine W_gyes rfl rfl ?_
    refine W_move rfl rfl ?_
    refine W_gyes rfl rfl ?_
    refine W_move rfl rfl ?_
    refine W_gyes rfl rfl ?_
    refine W_move rfl rfl ?_
    refine W_gyes rfl rfl ?_
    refine W_callp (.cons rfl (.cons rfl (.cons rfl .nil))) Tryd.call24 rfl (T := fun _ => True) trivial (CatchB_nil ) ?_
    refine W_gyes rfl rfl ?_
    refine W_len rfl ty35 rfl rfl ?_
    refine W_gyes rfl rfl ?_
    refine W_bin rfl rfl b_eql rfl ?_
    first | refine W_pickt rfl rfl rfl ?_ | refine W_pickf rfl rfl rfl ?_
    refine W_move rfl rfl ?_
    refine W_gyes rfl rfl ?_
    refine W_move rfl rfl ?_
    refine W_gyes rfl rfl ?_
    refine W_bin rfl rfl b_eql rfl ?_
    first | refine W_pickt rfl rfl rfl ?_ | refine W_pickf rfl rfl rfl ?_
    refine W_move rfl rfl ?_
    refine W_gyes rfl rfl ?_
    refine W_move rfl rfl ?_
    refine W_gyes rfl rfl ?_
    refine W_not rfl rfl ?_
    first | refine W_pickt rfl rfl rfl ?_ | refine W_pickf rfl rfl rfl ?_
    refine W_move rfl rfl ?_
    refine W_gyes rfl rfl ?_
    refine W_move rfl rfl ?_
    refine W_gyes rfl rfl ?_
    refine W_not rfl rfl ?_
    first | refine W_pickt rfl rfl rfl ?_ | refine W_pickf rfl rfl rfl ?_
    refine W_move rfl rfl ?_
    refine W_gyes rfl rfl ?_
    refine W_move rfl rfl ?_
    refine W_gyes rfl rfl ?_
    refine W_move rfl rfl ?_
    refine W_gyes rfl rfl ?_
    refine W_callp (.cons rfl (.cons rfl .nil)) Tryd.call23 rfl (T := fun _ => True) trivial (LateB_nil (a := a)) ?_
    refine W_gyes rfl rfl ?_
    refine W_bin rfl rfl b_eql rfl ?_
    first | refine W_pickt rfl rfl rfl ?_ | refine W_pickf rfl rfl rfl ?_
    refine W_move rfl rfl ?_
    refine W_gyes rfl rfl ?_
    refine W_move rfl rfl ?_
    refine W_gyes rfl rfl ?_
    refine W_move rfl rfl ?_
    refine W_gyes rfl rfl ?_
    refine W_callp (.cons rfl (.cons rfl .nil)) Tryd.call41 rfl (T := fun _ => True) trivial (NowB_nil ) ?_
    refine W_gyes rfl rfl ?_
    refine W_bin rfl rfl b_eql rfl ?_
    first | refine W_pickt rfl rfl rfl ?_ | refine W_pickf rfl rfl rfl ?_
    refine W_move rfl rfl ?_
    refine W_gyes rfl rfl ?_
    refine W_move rfl rfl ?_
    refine W_gyes rfl rfl ?_
    refine W_callp (.cons rfl .nil) Tryd.call30 rfl (T := fun _ => True) trivial (CPUs_nil ) ?_
    refine W_gyes rfl rfl ?_
    refine W_bin rfl rfl b_eql rfl ?_
    first | refine W_pickt rfl rfl rfl ?_ | refine W_pickf rfl rfl rfl ?_
    refine W_move rfl rfl ?_
    refine W_gyes rfl rfl ?_
    refine W_move rfl rfl ?_
    refine W_gyes rfl rfl ?_
    refine W_callp (.cons rfl .nil) Tryd.call29 rfl (T := fun _ => True) trivial (LenB_nil ) ?_
    refine W_gyes rfl rfl ?_
    refine W_bin rfl rfl b_eql rfl ?_
    first | refine W_pickt rfl rfl rfl ?_ | refine W_pickf rfl rfl rfl ?_
    refine W_assign rfl rfl ?_
    refine W_nil ?_
    refine W_ret1m (H2 := H) Tryd.results9 rfl (.nil _) (by first | exact hsubI | (repeat (first | with_reducible exact HSub.refl _ | refine HSub.cons (by repeat (first | exact Take.here _ | apply Take.next | apply Take.app)) ?_ | refine HSub.app (by repeat (first | with_reducible exact TakeS.here _ | apply TakeS.next | apply TakeS.app)) ?_ | exact HSub.nil _ | exact HSub.refl _ | refine HSub.drop ?_ | refine HSub.dropS ?_))) ?_
    exact ⟨rfl, rfl⟩
  · skip
    refine W_move rfl rfl ?_
    refine W_extract rfl rfl rfl ?_
    refine W_extract rfl rfl rfl ?_
    refine W_alloc (l := zSpot.v) ty27 rfl rfl (fun b9 => ?_)
    refine W_storeA (l' := s1.v) rfl rfl ty27 rfl rfl (b := b9) (by repeat (first | exact List.mem_cons_self | apply List.mem_cons_of_mem | apply List.mem_append_right)) (by exact Nat.le_refl 4) rfl (by repeat (first | exact Upd.head _ | apply Upd.tail | apply Upd.app)) ?_
    refine W_assign rfl rfl ?_
    refine W_nil ?_
    refine W_sr ?_
    refine W_move rfl rfl ?_
    refine W_bin rfl rfl b_neq rfl ?_
    refine W_move rfl rfl ?_
    refine W_gyes rfl rfl ?_
    refine W_move rfl rfl ?_
    refine W_gyes rfl rfl ?_
    refine W_bin rfl rfl b_eql rfl ?_
    refine W_gyes rfl rfl ?_
    refine W_move rfl rfl ?_
    refine W_gyes rfl rfl ?_
    refine W_bin rfl rfl b_geq rfl ?_
    rw [decide_eq_true (by omega)]
    refine W_gyes rfl rfl ?_
    refine W_move rfl rfl ?_
    refine W_gyes rfl rfl ?_
    refine W_move rfl rfl ?_
    refine W_gyes rfl rfl ?_
    refine W_move rfl rfl ?_
    refine W_gyes rfl rfl ?_
    refine W_bin rfl rfl b_lss rfl ?_
    rw [decide_eq_false (by omega)]
    refine W_gyes rfl rfl ?_
    first | refine W_pickt rfl rfl rfl ?_ | refine W_pickf rfl rfl rfl ?_
    refine W_gyes rfl rfl ?_
    refine W_bne rfl rfl ty4 rfl ?_
    first | refine W_pickt rfl rfl rfl ?_ | refine W_pickf rfl rfl rfl ?_
    refine W_move rfl rfl ?_
    refine W_gyes rfl rfl ?_
    refine W_move rfl rfl ?_
    refine W_gyes rfl rfl ?_
    refine W_bin rfl rfl b_neq rfl ?_
    refine W_gyes rfl rfl ?_
    refine W_move rfl rfl ?_
    refine W_gyes rfl rfl ?_
    refine W_move rfl rfl ?_
    refine W_gyes rfl rfl ?_
    refine W_bin rfl rfl b_neq rfl ?_
    refine W_gyes rfl rfl ?_
    first | refine W_pickt rfl rfl rfl ?_ | refine W_pickf rfl rfl rfl ?_
    first | refine W_pickt rfl rfl rfl ?_ | refine W_pickf rfl rfl rfl ?_
    refine W_move rfl rfl ?_
    refine W_gyes rfl rfl ?_
    refine W_move rfl rfl ?_
    refine W_gyes rfl rfl ?_
    refine W_callq (.cons rfl .nil) Tryd.call30 rfl (CPUs_q hB1 (fun p hp => (by repeat (first | exact List.mem_append_left _ hp | exact List.mem_cons_self | apply List.mem_cons_of_mem | apply List.mem_append_right)))) ?_
    refine W_gyes rfl rfl ?_
    refine W_move rfl rfl ?_
    refine W_gyes rfl rfl ?_
    refine W_bin rfl rfl b_neq rfl ?_
    rw [decide_eq_false (by omega)]
    first | refine W_pickt rfl rfl rfl ?_ | refine W_pickf rfl rfl rfl ?_
    refine W_nil ?_
    refine W_condF rfl rfl ?_
    refine W_skip ?_
    refine W_sr ?_
    refine W_assign rfl rfl ?_
    refine W_nil ?_
    refine W_sr ?_
    refine W_move rfl rfl ?_
    refine W_move rfl rfl ?_
    refine W_move rfl rfl ?_
    refine W_callp (.cons rfl (.cons rfl (.cons rfl (.cons rfl .nil)))) Tryd.call22 rfl (T := fun _ => True) trivial (PutB_nil ) ?_
    refine W_move rfl rfl ?_
    refine W_extract rfl rfl rfl ?_
    refine W_extract rfl rfl rfl ?_
    refine W_alloc (l := zSpot.v) ty27 rfl rfl (fun b12 => ?_)
    refine W_storeA (l' := zSpot.v) rfl rfl ty27 rfl rfl (b := b12) (by repeat (first | exact List.mem_cons_self | apply List.mem_cons_of_mem | apply List.mem_append_right)) (by exact Nat.le_refl 4) rfl (by repeat (first | exact Upd.head _ | apply Upd.tail | apply Upd.app)) ?_
    refine W_assign rfl rfl ?_
    refine W_nil ?_
    refine W_sr ?_
    refine W_move rfl rfl ?_
    refine W_callq (.cons rfl (.cons rfl .nil)) Tryd.call42 rfl (NextB_nil (l := []) (ad := none) (cap := 0) (by decide) Holds.nil) ?_
    refine W_move rfl rfl ?_
    refine W_extract rfl rfl rfl ?_
    refine W_extract rfl rfl rfl ?_
    refine W_assign rfl rfl ?_
    refine W_assign rfl rfl ?_
    refine W_nil ?_
    refine W_sr ?_
    refine W_move rfl rfl ?_
    refine W_callp (.cons rfl (.cons rfl .nil)) Tryd.call27 rfl (T := fun _ => True) trivial (FindB_nil ) ?_
    refine W_move rfl rfl ?_
    refine W_extract rfl rfl rfl ?_
    refine W_extract rfl rfl rfl ?_
    refine W_extract rfl rfl rfl ?_
    refine W_alloc (l := zSpot.v) ty27 rfl rfl (fun b17 => ?_)
    refine W_assign rfl rfl ?_
    refine W_storeA (l' := zSpot.v) rfl rfl ty27 rfl rfl (b := b17) (by repeat (first | exact List.mem_cons_self | apply List.mem_cons_of_mem | apply List.mem_append_right)) (by exact Nat.le_refl 4) rfl (by repeat (first | exact Upd.head _ | apply Upd.tail | apply Upd.app)) ?_
    refine W_assign rfl rfl ?_
    refine W_nil ?_
    refine W_sr ?_
    refine W_callp .nil Tryd.call28 rfl hT knownB_pure ?_
    refine W_move rfl rfl ?_
    refine W_gyes rfl rfl ?_
    refine W_move rfl rfl ?_
    refine W_gyes rfl rfl ?_
    refine W_bin rfl rfl b_eql rfl ?_
    first | refine W_pickt rfl rfl rfl ?_ | refine W_pickf rfl rfl rfl ?_
    refine W_move rfl rfl ?_
    refine W_gyes rfl rfl ?_
    refine W_move rfl rfl ?_
    refine W_gyes rfl rfl ?_
    refine W_buildSlice (l := [.int .i64 0]) ty35 ty3 (.cons rfl rfl rfl rfl rfl .nil) rfl rfl rfl rfl rfl rfl rfl (fun b96 => ?_)
    refine W_gyes rfl rfl ?_
    refine W_callp (.cons rfl (.cons rfl .nil)) Tryd.call35 rfl (T := fun _ => True) trivial (DelB_nil (n := 1)) ?_
    refine W_gyes rfl rfl ?_
    refine W_bin rfl rfl b_eql rfl ?_
    first | refine W_pickt rfl rfl rfl ?_ | refine W_pickf rfl rfl rfl ?_
    refine W_move rfl rfl ?_
    refine W_gyes rfl rfl ?_
    refine W_move rfl rfl ?_
    refine W_gyes rfl rfl ?_
    refine W_move rfl rfl ?_
    refine W_gyes rfl rfl ?_
    refine W_move rfl rfl ?_
    refine W_gyes rfl rfl ?_
    refine W_callp (.cons rfl (.cons rfl (.cons rfl .nil))) Tryd.call24 rfl (T := fun _ => True) trivial (CatchB_nil ) ?_
    refine W_gyes rfl rfl ?_
    refine W_len rfl ty35 rfl rfl ?_
    refine W_gyes rfl rfl ?_
    refine W_bin rfl rfl b_eql rfl ?_
    first | refine W_pickt rfl rfl rfl ?_ | refine W_pickf rfl rfl rfl ?_
    refine W_move rfl rfl ?_
    refine W_gyes rfl rfl ?_
    refine W_move rfl rfl ?_
    refine W_gyes rfl rfl ?_
    refine W_bin rfl rfl b_eql rfl ?_
    first | refine W_pickt rfl rfl rfl ?_ | refine W_pickf rfl rfl rfl ?_
    refine W_move rfl rfl ?_
    refine W_gyes rfl rfl ?_
    refine W_move rfl rfl ?_
    refine W_gyes rfl rfl ?_
    refine W_not rfl rfl ?_
    first | refine W_pickt rfl rfl rfl ?_ | refine W_pickf rfl rfl rfl ?_
    refine W_move rfl rfl ?_
    refine W_gyes rfl rfl ?_
    refine W_move rfl rfl ?_
    refine W_gyes rfl rfl ?_
    refine W_not rfl rfl ?_
    first | refine W_pickt rfl rfl rfl ?_ | refine W_pickf rfl rfl rfl ?_
    refine W_move rfl rfl ?_
    refine W_gyes rfl rfl ?_
    refine W_move rfl rfl ?_
    refine W_gyes rfl rfl ?_
    refine W_move rfl rfl ?_
    refine W_gyes rfl rfl ?_
    refine W_callp (.cons rfl (.cons rfl .nil)) Tryd.call23 rfl (T := fun _ => True) trivial (LateB_nil (a := a)) ?_
    refine W_gyes rfl rfl ?_
    refine W_bin rfl rfl b_eql rfl ?_
    first | refine W_pickt rfl rfl rfl ?_ | refine W_pickf rfl rfl rfl ?_
    refine W_move rfl rfl ?_
    refine W_gyes rfl rfl ?_
    refine W_move rfl rfl ?_
    refine W_gyes rfl rfl ?_
    refine W_move rfl rfl ?_
    refine W_gyes rfl rfl ?_
    refine W_callp (.cons rfl (.cons rfl .nil)) Tryd.call41 rfl (T := fun _ => True) trivial (NowB_nil ) ?_
    refine W_gyes rfl rfl ?_
    refine W_bin rfl rfl b_eql rfl ?_
    first | refine W_pickt rfl rfl rfl ?_ | refine W_pickf rfl rfl rfl ?_
    refine W_move rfl rfl ?_
    refine W_gyes rfl rfl ?_
    refine W_move rfl rfl ?_
    refine W_gyes rfl rfl ?_
    refine W_callp (.cons rfl .nil) Tryd.call30 rfl (T := fun _ => True) trivial (CPUs_nil ) ?_
    refine W_gyes rfl rfl ?_
    refine W_bin rfl rfl b_eql rfl ?_
    first | refine W_pickt rfl rfl rfl ?_ | refine W_pickf rfl rfl rfl ?_
    refine W_move rfl rfl ?_
    refine W_gyes rfl rfl ?_
    refine W_move rfl rfl ?_
    refine W_gyes rfl rfl ?_
    refine W_callp (.cons rfl .nil) Tryd.call29 rfl (T := fun _ => True) trivial (LenB_nil ) ?_
    refine W_gyes rfl rfl ?_
    refine W_bin rfl rfl b_eql rfl ?_
    first | refine W_pickt rfl rfl rfl ?_ | refine W_pickf rfl rfl rfl ?_
    refine W_assign rfl rfl ?_
    refine W_nil ?_
    refine W_ret1m (H2 := H) Tryd.results9 rfl (.nil _) (by first | exact hsubI | (repeat (first | with_reducible exact HSub.refl _ | refine HSub.cons (by repeat (first | exact Take.here _ | apply Take.next | apply Take.app)) ?_ | refine HSub.app (by repeat (first | with_reducible exact TakeS.here _ | apply TakeS.next | apply TakeS.app)) ?_ | exact HSub.nil _ | exact HSub.refl _ | refine HSub.drop ?_ | refine HSub.dropS ?_))) ?_
    exact ⟨rfl, rfl⟩
  · skip
    refine W_move rfl rfl ?_
    refine W_extract rfl rfl rfl ?_
    refine W_extract rfl rfl rfl ?_
    refine W_alloc (l := zSpot.v) ty27 rfl rfl (fun b9 => ?_)
    refine W_storeA (l' := s1.v) rfl rfl ty27 rfl rfl (b := b9) (by repeat (first | exact List.mem_cons_self | apply List.mem_cons_of_mem | apply List.mem_append_right)) (by exact Nat.le_refl 4) rfl (by repeat (first | exact Upd.head _ | apply Upd.tail | apply Upd.app)) ?_
    refine W_assign rfl rfl ?_
    refine W_nil ?_
    refine W_sr ?_
    refine W_move rfl rfl ?_
    refine W_bin rfl rfl b_neq rfl ?_
    refine W_move rfl rfl ?_
    refine W_gyes rfl rfl ?_
    refine W_move rfl rfl ?_
    refine W_gyes rfl rfl ?_
    refine W_bin rfl rfl b_eql rfl ?_
    refine W_gyes rfl rfl ?_
    refine W_move rfl rfl ?_
    refine W_gyes rfl rfl ?_
    refine W_bin rfl rfl b_geq rfl ?_
    rw [decide_eq_true (by omega)]
    refine W_gyes rfl rfl ?_
    refine W_move rfl rfl ?_
    refine W_gyes rfl rfl ?_
    refine W_move rfl rfl ?_
    refine W_gyes rfl rfl ?_
    refine W_move rfl rfl ?_
    refine W_gyes rfl rfl ?_
    refine W_bin rfl rfl b_lss rfl ?_
    rw [decide_eq_true (by omega)]
    refine W_gyes rfl rfl ?_
    first | refine W_pickt rfl rfl rfl ?_ | refine W_pickf rfl rfl rfl ?_
    refine W_gyes rfl rfl ?_
    refine W_bne rfl rfl ty4 rfl ?_
    first | refine W_pickt rfl rfl rfl ?_ | refine W_pickf rfl rfl rfl ?_
    refine W_move rfl rfl ?_
    refine W_gyes rfl rfl ?_
    refine W_move rfl rfl ?_
    refine W_gyes rfl rfl ?_
    refine W_bin rfl rfl b_neq rfl ?_
    refine W_gyes rfl rfl ?_
    refine W_move rfl rfl ?_
    refine W_gno rfl rfl rfl ?_
    refine W_gno rfl rfl rfl ?_
    refine W_gyes rfl rfl ?_
    first | refine W_pickt rfl rfl rfl ?_ | refine W_pickf rfl rfl rfl ?_
    first | refine W_pickt rfl rfl rfl ?_ | refine W_pickf rfl rfl rfl ?_
    refine W_move rfl rfl ?_
    refine W_gyes rfl rfl ?_
    refine W_move rfl rfl ?_
    refine W_gyes rfl rfl ?_
    refine W_callq (.cons rfl .nil) Tryd.call30 rfl (CPUs_q hB1 (fun p hp => (by repeat (first | exact List.mem_append_left _ hp | exact List.mem_cons_self | apply List.mem_cons_of_mem | apply List.mem_append_right)))) ?_
    refine W_gyes rfl rfl ?_
    refine W_move rfl rfl ?_
    refine W_gyes rfl rfl ?_
    refine W_bin rfl rfl b_neq rfl ?_
    rw [decide_eq_false (by omega)]
    first | refine W_pickt rfl rfl rfl ?_ | refine W_pickf rfl rfl rfl ?_
    refine W_nil ?_
    refine W_condF rfl rfl ?_
    refine W_skip ?_
    refine W_sr ?_
    refine W_assign rfl rfl ?_
    refine W_nil ?_
    refine W_sr ?_
    refine W_move rfl rfl ?_
    refine W_move rfl rfl ?_
    refine W_move rfl rfl ?_
    refine W_callp (.cons rfl (.cons rfl (.cons rfl (.cons rfl .nil)))) Tryd.call22 rfl (T := fun _ => True) trivial (PutB_nil ) ?_
    refine W_move rfl rfl ?_
    refine W_extract rfl rfl rfl ?_
    refine W_extract rfl rfl rfl ?_
    refine W_alloc (l := zSpot.v) ty27 rfl rfl (fun b12 => ?_)
    refine W_storeA (l' := zSpot.v) rfl rfl ty27 rfl rfl (b := b12) (by repeat (first | exact List.mem_cons_self | apply List.mem_cons_of_mem | apply List.mem_append_right)) (by exact Nat.le_refl 4) rfl (by repeat (first | exact Upd.head _ | apply Upd.tail | apply Upd.app)) ?_
    refine W_assign rfl rfl ?_
    refine W_nil ?_
    refine W_sr ?_
    refine W_move rfl rfl ?_
    refine W_callq (.cons rfl (.cons rfl .nil)) Tryd.call42 rfl (NextB_nil (l := []) (ad := none) (cap := 0) (by decide) Holds.nil) ?_
    refine W_move rfl rfl ?_
    refine W_extract rfl rfl rfl ?_
    refine W_extract rfl rfl rfl ?_
    refine W_assign rfl rfl ?_
    refine W_assign rfl rfl ?_
    refine W_nil ?_
    refine W_sr ?_
    refine W_move rfl rfl ?_
    refine W_callp (.cons rfl (.cons rfl .nil)) Tryd.call27 rfl (T := fun _ => True) trivial (FindB_nil ) ?_
    refine W_move rfl rfl ?_
    refine W_extract rfl rfl rfl ?_
    refine W_extract rfl rfl rfl ?_
    refine W_extract rfl rfl rfl ?_
    refine W_alloc (l := zSpot.v) ty27 rfl rfl (fun b17 => ?_)
    refine W_assign rfl rfl ?_
    refine W_storeA (l' := zSpot.v) rfl rfl ty27 rfl rfl (b := b17) (by repeat (first | exact List.mem_cons_self | apply List.mem_cons_of_mem | apply List.mem_append_right)) (by exact Nat.le_refl 4) rfl (by repeat (first | exact Upd.head _ | apply Upd.tail | apply Upd.app)) ?_
    refine W_assign rfl rfl ?_
    refine W_nil ?_
    refine W_sr ?_
    refine W_callp .nil Tryd.call28 rfl hT knownB_pure ?_
    refine W_move rfl rfl ?_
    refine W_gyes rfl rfl ?_
    refine W_move rfl rfl ?_
    refine W_gyes rfl rfl ?_
    refine W_bin rfl rfl b_eql rfl ?_
    first | refine W_pickt rfl rfl rfl ?_ | refine W_pickf rfl rfl rfl ?_
    refine W_move rfl rfl ?_
    refine W_gyes rfl rfl ?_
    refine W_move rfl rfl ?_
    refine W_gyes rfl rfl ?_
    refine W_buildSlice (l := [.int .i64 0]) ty35 ty3 (.cons rfl rfl rfl rfl rfl .nil) rfl rfl rfl rfl rfl rfl rfl (fun b96 => ?_)
    refine W_gyes rfl rfl ?_
    refine W_callp (.cons rfl (.cons rfl .nil)) Tryd.call35 rfl (T := fun _ => True) trivial (DelB_nil (n := 1)) ?_
    refine W_gyes rfl rfl ?_
    refine W_bin rfl rfl b_eql rfl ?_
    first | refine W_pickt rfl rfl rfl ?_ | refine W_pickf rfl rfl rfl ?_
    refine W_move rfl rfl ?_
    refine W_gyes rfl rfl ?_
    refine W_move rfl rfl ?_
    refine W_gyes rfl rfl ?_
    refine W_move rfl rfl ?_
    refine W_gyes rfl rfl ?_
    refine W_move rfl rfl ?_
    refine W_gyes rfl rfl ?_
    refine W_callp (.cons rfl (.cons rfl (.cons rfl .nil))) Tryd.call24 rfl (T := fun _ => True) trivial (CatchB_nil ) ?_
    refine W_gyes rfl rfl ?_
    refine W_len rfl ty35 rfl rfl ?_
    refine W_gyes rfl rfl ?_
    refine W_bin rfl rfl b_eql rfl ?_
    first | refine W_pickt rfl rfl rfl ?_ | refine W_pickf rfl rfl rfl ?_
    refine W_move rfl rfl ?_
    refine W_gyes rfl rfl ?_
    refine W_move rfl rfl ?_
    refine W_gyes rfl rfl ?_
    refine W_bin rfl rfl b_eql rfl ?_
    first | refine W_pickt rfl rfl rfl ?_ | refine W_pickf rfl rfl rfl ?_
    refine W_move rfl rfl ?_
    refine W_gyes rfl rfl ?_
    refine W_move rfl rfl ?_
    refine W_gyes rfl rfl ?_
    refine W_not rfl rfl ?_
    first | refine W_pickt rfl rfl rfl ?_ | refine W_pickf rfl rfl rfl ?_
    refine W_move rfl rfl ?_
    refine W_gyes rfl rfl ?_
    refine W_move rfl rfl ?_
    refine W_gyes rfl rfl ?_
    refine W_not rfl rfl ?_
    first | refine W_pickt rfl rfl rfl ?_ | refine W_pickf rfl rfl rfl ?_
    refine W_move rfl rfl ?_
    refine W_gyes rfl rfl ?_
    refine W_move rfl rfl ?_
    refine W_gyes rfl rfl ?_
    refine W_move rfl rfl ?_
    refine W_gyes rfl rfl ?_
    refine W_callp (.cons rfl (.cons rfl .nil)) Tryd.call23 rfl (T := fun _ => True) trivial (LateB_nil (a := a)) ?_
    refine W_gyes rfl rfl ?_
    refine W_bin rfl rfl b_eql rfl ?_
    first | refine W_pickt rfl rfl rfl ?_ | refine W_pickf rfl rfl rfl ?_
    refine W_move rfl rfl ?_
    refine W_gyes rfl rfl ?_
    refine W_move rfl rfl ?_
    refine W_gyes rfl rfl ?_
    refine W_move rfl rfl ?_
    refine W_gyes rfl rfl ?_
    refine W_callp (.cons rfl (.cons rfl .nil)) Tryd.call41 rfl (T := fun _ => True) trivial (NowB_nil ) ?_
    refine W_gyes rfl rfl ?_
    refine W_bin rfl rfl b_eql rfl ?_
    first | refine W_pickt rfl rfl rfl ?_ | refine W_pickf rfl rfl rfl ?_
    refine W_move rfl rfl ?_
    refine W_gyes rfl rfl ?_
    refine W_move rfl rfl ?_
    refine W_gyes rfl rfl ?_
    refine W_callp (.cons rfl .nil) Tryd.call30 rfl (T := fun _ => True) trivial (CPUs_nil ) ?_
    refine W_gyes rfl rfl ?_
    refine W_bin rfl rfl b_eql rfl ?_
    first | refine W_pickt rfl rfl rfl ?_ | refine W_pickf rfl rfl rfl ?_
    refine W_move rfl rfl ?_
    refine W_gyes rfl rfl ?_
    refine W_move rfl rfl ?_
    refine W_gyes rfl rfl ?_
    refine W_callp (.cons rfl .nil) Tryd.call29 rfl (T := fun _ => True) trivial (LenB_nil ) ?_
    refine W_gyes rfl rfl ?_
    refine W_bin rfl rfl b_eql rfl ?_
    first | refine W_pickt rfl rfl rfl ?_ | refine W_pickf rfl rfl rfl ?_
    refine W_assign rfl rfl ?_
    refine W_nil ?_
    refine W_ret1m (H2 := H) Tryd.results9 rfl (.nil _) (by first | exact hsubI | (repeat (first | with_reducible exact HSub.refl _ | refine HSub.cons (by repeat (first | exact Take.here _ | apply Take.next | apply Take.app)) ?_ | refine HSub.app (by repeat (first | with_reducible exact TakeS.here _ | apply TakeS.next | apply TakeS.app)) ?_ | exact HSub.nil _ | exact HSub.refl _ | refine HSub.drop ?_ | refine HSub.dropS ?_))) ?_
    exact ⟨rfl, rfl⟩
theorem bankLimits_pure {cpus cpu : Int} {a : Nat} (ha : a ≤ 18446744073709551615) : Pure Tryd.prog (Tab) 9 [.int .i64 cpus, .int .i64 cpu, .int .u64 ((a : Nat) : Int)] (.bool true) := by
  by_cases h : cpus < 1 ∨ 64 < cpus
  · exact bankLimits_A ha h
  · obtain ⟨n, rfl⟩ : ∃ n : Nat, cpus = (n : Int) := ⟨cpus.toNat, by omega⟩
    exact bankLimits_B ha (by omega)
end Go.Proofs.YtknbohnoiigioaaDoor
namespace Go.Proofs.YtknbohnoiigioaaDoor
open Go Go.Sl
attribute [local irreducible] W
/-- how many CPUs a law makes of a number -/
def cpuN (z : Int) : Nat := (1 + z % 64).toNat
theorem cpuN_ok (z : Int) : 1 ≤ cpuN z ∧ cpuN z ≤ 64 := by unfold cpuN; omega
theorem mod64_is (z : Int) : (IntKind.u64.wrap z).tmod 64 = z % 64 := by
  have e : IntKind.u64.wrap z = z % 18446744073709551616 := by simp [IntKind.wrap, IntKind.signed, IntKind.bits]
  have h0 : 0 ≤ z % 18446744073709551616 := Int.emod_nonneg _ (by decide)
  rw [e, Int.tmod_eq_emod_of_nonneg h0, Int.emod_emod_of_dvd z (by decide : (64 : Int) ∣ 18446744073709551616)]
/-- numbers below i that fall to a CPU -/
def onCpu (N i c : Nat) : List Int := ((List.range i).filter (fun j => decide (j % N = c))).map (fun j : Nat => (j : Int))
theorem onCpu_succ (N i c : Nat) : onCpu N (i + 1) c = onCpu N i c ++ (if i % N = c then [(i : Int)] else []) := by
  unfold onCpu
  rw [List.range_succ, List.filter_append, List.map_append]
  congr 1
  by_cases e : i % N = c
  · rw [if_pos e]; simp [e]
  · rw [if_neg e]; simp [e]
theorem onCpu_mem {N i c : Nat} {x : Int} : x ∈ onCpu N i c ↔ ∃ j : Nat, x = (j : Int) ∧ j < i ∧ j % N = c := by
  unfold onCpu
  rw [List.mem_map]
  exact ⟨fun ⟨j, hj, e⟩ => ⟨j, e.symm, List.mem_range.1 (List.mem_filter.1 hj).1, of_decide_eq_true (List.mem_filter.1 hj).2⟩, fun ⟨j, e, h1, h2⟩ => ⟨j, List.mem_filter.2 ⟨List.mem_range.2 h1, decide_eq_true h2⟩, e.symm⟩⟩
/-- the wheels behind i timers that were put on CPUs in turn -/
structure TurnIs (N now i : Nat) (Ws : List Wl) : Prop where
  len : Ws.length = N
  now : ∀ w ∈ Ws, w.now = now
  ids : ∀ (c : Nat) w, Ws[c]? = some w → w.L.map (·.id) = onCpu N i c
  turn : ∀ w ∈ Ws, w.turn ≤ i
  sum : lenK Ws Ws.length = i
theorem TurnIs.start {N now : Nat} {Ws : List Wl} (hl : Ws.length = N) (hf : ∀ w ∈ Ws, FreshW now w) : TurnIs N now 0 Ws where
  len := hl
  now w hw := (hf w hw).1
  ids c w hw := by rw [(hf w (List.mem_of_getElem? hw)).2.1]; rfl
  turn w hw := by rw [(hf w hw).2.2]; exact Nat.le_refl _
  sum := by
    have : ∀ k, lenK Ws k = 0 := fun k => by
      induction k with
      | zero => rfl
      | succ k ih =>
        show lenK Ws k + (match Ws[k]? with | some w => w.L.length | none => 0) = 0
        rw [ih]
        cases hk : Ws[k]? with
        | none => rfl
        | some w => show 0 + w.L.length = 0; rw [(hf w (List.mem_of_getElem? hk)).2.1]; rfl
    exact this _
theorem TurnIs.none {N now i : Nat} {Ws : List Wl} (h : TurnIs N now i Ws) : findK Ws (i : Int) = none := findK_none fun j u hj hu => by
  cases hb : heldB u.L (i : Int) with
  | false => rfl
  | true =>
    have h1 := heldB_iff.1 hb
    rw [h.ids j u hu] at h1
    obtain ⟨m, e, hm, _⟩ := onCpu_mem.1 h1
    omega
theorem lenK_set {Ws : List Wl} {k : Nat} {w w' : Wl} (hw : Ws[k]? = some w) (hl : w'.L.length = w.L.length + 1) : ∀ n, lenK (Ws.set k w') n = lenK Ws n + if k < n then 1 else 0
  | 0 => rfl
  | n + 1 => by
    have ih := lenK_set hw hl n
    show lenK (Ws.set k w') n + (match (Ws.set k w')[n]? with | some w => w.L.length | none => 0) = lenK Ws n + (match Ws[n]? with | some w => w.L.length | none => 0) + _
    rw [ih]
    by_cases e : k = n
    · subst e
      rw [List.getElem?_set_self (List.getElem?_eq_some_iff.1 hw).1, hw, if_neg (by omega), if_pos (by omega)]
      show lenK Ws k + 0 + w'.L.length = lenK Ws k + w.L.length + 1
      omega
    · rw [List.getElem?_set_ne e]
      by_cases hkn : k < n
      · rw [if_pos hkn, if_pos (by omega)]; omega
      · rw [if_neg hkn, if_neg (by omega)]; omega
theorem TurnIs.put {N now i a : Nat} {Ws : List Wl} {w : Wl} (h : TurnIs N now i Ws) (hN : 0 < N) (hw : Ws[i % N]? = some w) : TurnIs N now (i + 1) (Ws.set (i % N) ⟨w.bw, w.now, w.L ++ [tmOf w.now a w.turn (i : Int)], w.turn + 1⟩) where
  len := by rw [List.length_set, h.len]
  now u hu := by
    rcases List.mem_or_eq_of_mem_set hu with hu | rfl
    · exact h.now u hu
    · exact h.now w (List.mem_of_getElem? hw)
  ids c u hu := by
    rw [onCpu_succ]
    by_cases e : i % N = c
    · subst e
      rw [List.getElem?_set_self (List.getElem?_eq_some_iff.1 hw).1] at hu
      obtain rfl := Option.some.inj hu
      rw [if_pos rfl]
      show (w.L ++ [_]).map _ = _
      rw [List.map_append, h.ids _ w hw]; rfl
    · rw [List.getElem?_set_ne e] at hu
      rw [if_neg e, List.append_nil, h.ids c u hu]
  turn u hu := by
    rcases List.mem_or_eq_of_mem_set hu with hu | rfl
    · have := h.turn u hu; omega
    · have := h.turn w (List.mem_of_getElem? hw)
      show w.turn + 1 ≤ i + 1; omega
  sum := by
    have hk := (List.getElem?_eq_some_iff.1 hw).1
    rw [lenK_set hw (by rw [List.length_append]; rfl), List.length_set, h.sum, if_pos hk]
end Go.Proofs.YtknbohnoiigioaaDoor
namespace Go.Proofs.YtknbohnoiigioaaDoor
open Go Go.Sl
attribute [local irreducible] W
structure BaS where
  c : Nat
  Ws : List Wl
  HB : Heap
  OB : List Bool
  cnt : Nat
theorem BankH.wheelOf {bb : Nat} {Ws : List Wl} {HB : Heap} (h : BankH bb Ws HB) {w : Wl} (hw : w ∈ Ws) : ∃ HW, WheelH w.bw w.now w.L w.turn HW := by
  obtain ⟨k, hk, e⟩ := List.getElem_of_mem hw
  obtain ⟨HW, hW, _⟩ := h.wheel (k := k) (w := w) (by rw [List.getElem?_eq_getElem hk, e])
  exact ⟨HW, hW⟩
theorem any_takeB {O : List Tm} {k : Nat} {t : Tm} (h : O[k]? = some t) (j : Int) : (O.take (k + 1)).any (fun u => decide (u.id = j)) = ((O.take k).any (fun u => decide (u.id = j)) || decide (t.id = j)) := by
  rw [takeAt h, List.any_append]; simp
theorem set_trueB {OBq : List Bool} {n m : Nat} {f : Nat → Bool} {g : Nat → Bool} (h : ∀ j, j < n → OBq[j]? = some (f j || g j)) (hm : m < n) (hl : m < OBq.length) : ∀ j, j < n → (OBq.set m true)[j]? = some (f j || (g j || decide ((m : Int) = (j : Int)))) := fun j hj => by
  by_cases e : m = j
  · subst e
    rw [List.getElem?_set_self hl]; simp
  · rw [List.getElem?_set_ne e, h j hj, decide_eq_false (by omega), Bool.or_false]
theorem lenK_mono {Ws : List Wl} {k : Nat} : ∀ {n}, k ≤ n → lenK Ws k ≤ lenK Ws n
  | 0, h => by rw [Nat.le_zero.1 h]; exact Nat.le_refl _
  | n + 1, h => by
    rcases Nat.lt_or_eq_of_le h with h | rfl
    · exact Nat.le_trans (lenK_mono (Nat.le_of_lt_succ h)) (Nat.le_add_right _ _)
    · exact Nat.le_refl _
theorem lenK_nil {Ws : List Wl} (h : ∀ w ∈ Ws, w.L = []) : ∀ k, lenK Ws k = 0
  | 0 => rfl
  | k + 1 => by
    show lenK Ws k + (match Ws[k]? with | some w => w.L.length | none => 0) = 0
    rw [lenK_nil h k]
    cases hk : Ws[k]? with
    | none => rfl
    | some w => show 0 + w.L.length = 0; rw [h w (List.mem_of_getElem? hk)]; rfl
set_option maxHeartbeats 1000000 in
theorem bankAll_M {z : Int} {now : Nat} {l : List Int} {ad : Option Addr} {cap : Nat} (hwf : ∀ b ∈ l, 0 ≤ b ∧ b ≤ 18446744073709551615) (hcap : l.length ≤ 9223372036854775807) : Pure Tryd.prog (fun w => Tab w ∧ InRow w ad (l.map (Value.int .u64))) 7 [.int .i64 z, .int .u64 ((18446744073709551615 : Nat) : Int), .slice ad l.length cap] (.bool true) := by
  intro w0 H hT
  have hrow : Holds w0 H ad (l.map (Value.int .u64)) := Holds.old hT.2
  replace hT := hT.1
  refine L_enter Tryd.func7 rfl Tryd.ntmps7 rfl rfl ?_
  refine W_sr ?_
  refine W_assign rfl rfl ?_
  refine W_nil ?_
  refine W_sr ?_
  refine W_move rfl rfl ?_
  refine W_conv rfl ty3 ty22 rfl rfl ?_
  refine W_bin rfl rfl (b_rem (by decide) (m := z % 64) (mod64_is z)) rfl ?_
  refine W_conv rfl ty22 ty3 (i64w (by omega)) rfl ?_
  refine W_bin rfl rfl (b_add (m := ((cpuN z : Nat) : Int)) (by rw [i64w (by omega)]; unfold cpuN; omega)) rfl ?_
  obtain ⟨N, hN⟩ : ∃ N, N = cpuN z := ⟨_, rfl⟩
  have hN1 : 1 ≤ N ∧ N ≤ 64 := by rw [hN]; exact cpuN_ok z
  rw [← hN]
  clear hN
  refine W_assign rfl rfl ?_
  refine W_nil ?_
  refine W_sr ?_
  refine W_move rfl rfl ?_
  refine W_move rfl rfl ?_
  refine W_call (.cons rfl (.cons rfl .nil)) Tryd.call21 rfl (NewB_L (n := N) (now := 18446744073709551615) hN1) ?_
  rintro v H' ⟨bb, Ws0, HB0, rfl, hB0, hWl, hfr, rfl⟩
  refine W_move rfl rfl ?_
  refine W_extract rfl rfl rfl ?_
  refine W_extract rfl rfl rfl ?_
  refine W_assign rfl rfl ?_
  refine W_assign rfl rfl ?_
  refine W_nil ?_
  refine W_seq ?_
  refine W_sr ?_
  refine W_move rfl rfl ?_
  refine W_bin rfl rfl b_neq rfl ?_
  refine W_move rfl rfl ?_
  refine W_gyes rfl rfl ?_
  refine W_move rfl rfl ?_
  refine W_gyes rfl rfl ?_
  refine W_bin rfl rfl b_eql rfl ?_
  rw [decide_eq_true (by rfl)]
  first | refine W_pickt rfl rfl rfl ?_ | refine W_pickf rfl rfl rfl ?_
  refine W_nil ?_
  refine W_condT rfl rfl ?_
  refine W_sr ?_
  refine W_callp .nil Tryd.call28 rfl hT knownB_pure ?_
  refine W_move rfl rfl ?_
  refine W_gyes rfl rfl ?_
  refine W_move rfl rfl ?_
  refine W_gyes rfl rfl ?_
  refine W_bin rfl rfl b_eql rfl ?_
  first | refine W_pickt rfl rfl rfl ?_ | refine W_pickf rfl rfl rfl ?_
  refine W_assign rfl rfl ?_
  refine W_nil ?_
  refine W_ret1m (H2 := H) Tryd.results7 rfl (.nil _) (by first | exact hsubI | (repeat (first | with_reducible exact HSub.refl _ | refine HSub.cons (by repeat (first | exact Take.here _ | apply Take.next | apply Take.app)) ?_ | refine HSub.app (by repeat (first | with_reducible exact TakeS.here _ | apply TakeS.next | apply TakeS.app)) ?_ | exact HSub.nil _ | exact HSub.refl _ | refine HSub.drop ?_ | refine HSub.dropS ?_))) ?_
  exact ⟨rfl, rfl⟩
set_option maxHeartbeats 8000000 in
theorem bankAll_L {z : Int} {now : Nat} {l : List Int} {ad : Option Addr} {cap : Nat} (hwf : ∀ b ∈ l, 0 ≤ b ∧ b ≤ 18446744073709551615) (hcap : l.length ≤ 9223372036854775807) (hnow : now < 18446744073709551615) : Pure Tryd.prog (fun w => Tab w ∧ InRow w ad (l.map (Value.int .u64))) 7 [.int .i64 z, .int .u64 ((now : Nat) : Int), .slice ad l.length cap] (.bool true) := by
  intro w0 H hT
  have hrow : Holds w0 H ad (l.map (Value.int .u64)) := Holds.old hT.2
  replace hT := hT.1
  refine L_enter Tryd.func7 rfl Tryd.ntmps7 rfl rfl ?_
  refine W_sr ?_
  refine W_assign rfl rfl ?_
  refine W_nil ?_
  refine W_sr ?_
  refine W_move rfl rfl ?_
  refine W_conv rfl ty3 ty22 rfl rfl ?_
  refine W_bin rfl rfl (b_rem (by decide) (m := z % 64) (mod64_is z)) rfl ?_
  refine W_conv rfl ty22 ty3 (i64w (by omega)) rfl ?_
  refine W_bin rfl rfl (b_add (m := ((cpuN z : Nat) : Int)) (by rw [i64w (by omega)]; unfold cpuN; omega)) rfl ?_
  obtain ⟨N, hN⟩ : ∃ N, N = cpuN z := ⟨_, rfl⟩
  have hN1 : 1 ≤ N ∧ N ≤ 64 := by rw [hN]; exact cpuN_ok z
  rw [← hN]
  clear hN
  refine W_assign rfl rfl ?_
  refine W_nil ?_
  refine W_sr ?_
  refine W_move rfl rfl ?_
  refine W_move rfl rfl ?_
  refine W_call (.cons rfl (.cons rfl .nil)) Tryd.call21 rfl (NewB_L (n := N) (now := now) hN1) ?_
  rintro v H' ⟨bb, Ws0, HB0, rfl, hB0, hWl, hfr, rfl⟩
  refine W_move rfl rfl ?_
  refine W_extract rfl rfl rfl ?_
  refine W_extract rfl rfl rfl ?_
  refine W_assign rfl rfl ?_
  refine W_assign rfl rfl ?_
  refine W_nil ?_
  refine W_seq ?_
  refine W_sr ?_
  refine W_move rfl rfl ?_
  refine W_bin rfl rfl b_neq rfl ?_
  refine W_move rfl rfl ?_
  refine W_gyes rfl rfl ?_
  refine W_move rfl rfl ?_
  refine W_gyes rfl rfl ?_
  refine W_bin rfl rfl b_eql rfl ?_
  rw [decide_eq_false (by omega)]
  first | refine W_pickt rfl rfl rfl ?_ | refine W_pickf rfl rfl rfl ?_
  refine W_nil ?_
  refine W_condF rfl rfl ?_
  refine W_skip ?_
  refine W_sr ?_
  refine W_move rfl rfl ?_
  refine W_len rfl ty23 rfl rfl ?_
  refine W_min2 rfl rfl (m := ((min l.length 100 : Nat) : Int)) (by split <;> omega) rfl ?_
  obtain ⟨n, hn⟩ : ∃ n, n = min l.length 100 := ⟨_, rfl⟩
  rw [← hn]
  refine W_assign rfl rfl ?_
  refine W_nil ?_
  refine W_seq ?_
  refine W_sr ?_
  refine W_assign rfl rfl ?_
  refine W_nil ?_
  refine W_block ?_
  refine W_loopC (X := (Nat × List Wl × Heap)) [(0, _), (2, _), (7, _), (9, _)] (fun (x : (Nat × List Wl × Heap)) => [(10, .int .i64 (x.1 : Int))]) (fun _ => _) (fun (x : (Nat × List Wl × Heap)) => x.2.2 ++ H) (fun (x : (Nat × List Wl × Heap)) => x.1 ≤ n ∧ BankH bb x.2.1 x.2.2 ∧ TurnIs N now x.1 x.2.1) (fun (x : (Nat × List Wl × Heap)) => n - x.1) (0, Ws0, HB0) ⟨Nat.zero_le _, hB0, TurnIs.start hWl hfr⟩ (sub_cons rfl (sub_cons rfl (sub_cons rfl (sub_cons rfl (sub_nil _))))) (sub_cons rfl (sub_nil _)) rfl (.refl _) ?_
  rintro ⟨i, Ws, HB⟩ ⟨hi, hB, hTI⟩
  dsimp only at hi hB hTI ⊢
  simp only [List.cons_append, List.nil_append]
  refine W_seq ?_
  refine W_sr ?_
  refine W_move rfl rfl ?_
  refine W_move rfl rfl ?_
  refine W_bin rfl rfl b_lss rfl ?_
  refine W_nil ?_
  refine W_condPS (p := (i : Int) < (n : Int)) rfl (by simp) (fun r0 => ?_) (fun r0 => ?_)
  · skip
    refine W_skip ?_
    refine W_seq ?_
    refine W_block ?_
    refine W_seq ?_
    obtain ⟨x_a, hx_a⟩ : ∃ x, l[i]? = some x := ⟨_, List.getElem?_eq_getElem (by omega)⟩
    obtain ⟨q0, p0, rfl, hc⟩ := hrow.at (i := i) (v := .int .u64 x_a) (by rw [List.getElem?_map, hx_a]; rfl)
    have ha0 := hwf x_a (List.mem_of_getElem? hx_a)
    have hg_a : (l.getD i 0) = x_a := by rw [List.getD_eq_getElem?_getD, hx_a]; rfl
    obtain ⟨a, rfl⟩ : ∃ a : Nat, x_a = (a : Int) := ⟨x_a.toNat, by omega⟩
    have ha : a ≤ 18446744073709551615 := by omega
    have hmod : i % N < N := Nat.mod_lt _ (by omega)
    obtain ⟨w, hwk⟩ : ∃ w, Ws[i % N]? = some w := ⟨_, List.getElem?_eq_getElem (by rw [hTI.len]; exact hmod)⟩
    have hTIn := hTI.put (a := a) (by omega) hwk
    refine W_cutX (X := (List Wl × Heap)) (fun _ => [(0, .int .i64 (N : Int)), (2, .slice (some ⟨q0, p0, none⟩) l.length cap), (7, .pointer (some ⟨bb, 0, none⟩)), (9, .int .i64 (n : Int)), (10, .int .i64 (i : Int)), (12, .int .i64 0)]) (fun x => x.2 ++ H) (fun x => BankH bb x.1 x.2 ∧ TurnIs N now (i + 1) x.1) ?_ ?_
    · skip
      refine W_anyC H (by kernel_rfl) ?_
      refine WC_take 0 (l' := #[true, false, false, false, false, false, false, false, false, false, false, false, false, false, false, false]) rfl (by decide +kernel) (by decide +kernel) (by decide +kernel) rfl (by decide +kernel) (X_move rfl) rfl ?_
      refine WC_take 1 (l' := #[true, true, false, false, false, false, false, false, false, false, false, false, false, false, false, false]) rfl (by decide +kernel) (by decide +kernel) (by decide +kernel) rfl (by decide +kernel) (X_move rfl) rfl ?_
      refine WC_take 2 (l' := #[true, true, true, false, false, false, false, false, false, false, false, false, false, false, false, false]) rfl (by decide +kernel) (by decide +kernel) (by decide +kernel) rfl (by decide +kernel) (X_move rfl) rfl ?_
      refine WC_take 3 (l' := #[true, true, true, true, false, false, false, false, false, false, false, false, false, false, false, false]) rfl (by decide +kernel) (by decide +kernel) (by decide +kernel) rfl (by decide +kernel) (X_bin rfl rfl (b_rem (by omega) (m := ((i % N : Nat) : Int)) (tmN i N))) rfl ?_
      refine WC_take 4 (l' := #[true, true, true, true, true, false, false, false, false, false, false, false, false, false, false, false]) rfl (by decide +kernel) (by decide +kernel) (by decide +kernel) rfl (by decide +kernel) (X_move rfl) rfl ?_
      refine WC_take 5 (l' := #[true, true, true, true, true, true, false, false, false, false, false, false, false, false, false, false]) rfl (by decide +kernel) (by decide +kernel) (by decide +kernel) rfl (by decide +kernel) (X_move rfl) rfl ?_
      refine WC_take 6 (l' := #[true, true, true, true, true, true, true, false, false, false, false, false, false, false, false, false]) rfl (by decide +kernel) (by decide +kernel) (by decide +kernel) rfl (by decide +kernel) (X_move rfl) rfl ?_
      refine WC_take 7 (l' := #[true, true, true, true, true, true, true, true, false, false, false, false, false, false, false, false]) rfl (by decide +kernel) (by decide +kernel) (by decide +kernel) rfl (by decide +kernel) (X_indexAddr (j := i) rfl rfl ty23 ty22 rfl (by omega) rfl) rfl ?_
      refine WC_take 8 (l' := #[true, true, true, true, true, true, true, true, true, false, false, false, false, false, false, false]) rfl (by decide +kernel) (by decide +kernel) (by decide +kernel) rfl (by decide +kernel) (X_load (v := .int .u64 ((a : Nat) : Int)) rfl ty22 rfl (by rw [Nat.mul_one]; exact hc.up (by first | exact hsubI | (repeat (first | with_reducible exact HSub.refl _ | refine HSub.cons (by repeat (first | exact Take.here _ | apply Take.next | apply Take.app)) ?_ | refine HSub.app (by repeat (first | with_reducible exact TakeS.here _ | apply TakeS.next | apply TakeS.app)) ?_ | exact HSub.nil _ | exact HSub.refl _ | refine HSub.drop ?_ | refine HSub.dropS ?_))))) rfl ?_
      refine WC_two 9 13 (l' := #[true, true, true, true, true, true, true, true, true, true, false, false, false, false, false, false]) (l'' := #[true, true, true, true, true, true, true, true, true, false, false, false, false, true, false, false]) (by first | exact hsubI | (repeat (first | with_reducible exact HSub.refl _ | refine HSub.cons (by repeat (first | exact Take.here _ | apply Take.next | apply Take.app)) ?_ | refine HSub.app (by repeat (first | with_reducible exact TakeS.here _ | apply TakeS.next | apply TakeS.app)) ?_ | exact HSub.nil _ | exact HSub.refl _ | refine HSub.drop ?_ | refine HSub.dropS ?_))) (by decide +kernel) rfl rfl (by decide +kernel) (by decide +kernel) ?_ ?_
      · skip
        refine W_call (.cons rfl (.cons rfl (.cons rfl (.cons rfl .nil)))) Tryd.call22 rfl (LCalls.hsub (PutB_L (cpu := ((i % N : Nat) : Int)) (id := (i : Int)) (a := a) hB (by rw [hTI.len]; omega) ha (fun w hw => by rw [hTI.now w hw]; omega) (fun w hw => by have := hTI.turn w hw; omega) (H := H)) (by first | exact hsubI | (repeat (first | with_reducible exact HSub.refl _ | refine HSub.cons (by repeat (first | exact Take.here _ | apply Take.next | apply Take.app)) ?_ | refine HSub.app (by repeat (first | with_reducible exact TakeS.here _ | apply TakeS.next | apply TakeS.app)) ?_ | exact HSub.nil _ | exact HSub.refl _ | refine HSub.drop ?_ | refine HSub.dropS ?_)))) ?_
        rintro v H' ⟨Ws2, HB2, s2, e2, hB2, rfl, hP, rfl⟩
        obtain ⟨rfl, rfl, rfl⟩ := hP.ok_of (k := i % N) rfl hwk hTI.none ⟨by omega, by omega⟩ (by rw [hTI.now w (List.mem_of_getElem? hwk)]; omega)
        refine W_nil ?_
        refine WC_goal ?_
        refine WC_take 10 (l' := #[true, true, true, true, true, true, true, true, true, true, true, false, false, false, false, false]) rfl (by decide +kernel) (by decide +kernel) (by decide +kernel) rfl (by decide +kernel) (X_move rfl) rfl ?_
        refine WC_take 11 (l' := #[true, true, true, true, true, true, true, true, true, true, true, true, false, false, false, false]) rfl (by decide +kernel) (by decide +kernel) (by decide +kernel) rfl (by decide +kernel) (X_extract rfl rfl) rfl ?_
        refine WC_take 12 (l' := #[true, true, true, true, true, true, true, true, true, true, true, true, true, false, false, false]) rfl (by decide +kernel) (by decide +kernel) (by decide +kernel) rfl (by decide +kernel) (X_extract rfl rfl) rfl ?_
        refine WC_one 13 (l' := #[true, true, true, true, true, true, true, true, true, true, true, true, true, true, false, false]) (by first | exact hsubI | (repeat (first | with_reducible exact HSub.refl _ | refine HSub.cons (by repeat (first | exact Take.here _ | apply Take.next | apply Take.app)) ?_ | refine HSub.app (by repeat (first | with_reducible exact TakeS.here _ | apply TakeS.next | apply TakeS.app)) ?_ | exact HSub.nil _ | exact HSub.refl _ | refine HSub.drop ?_ | refine HSub.dropS ?_))) (by decide +kernel) rfl (by decide +kernel) ?_
        refine W_alloc (l := zSpot.v) ty27 rfl rfl (fun b11 => ?_)
        refine W_nil ?_
        refine WC_goal ?_
        refine WC_one 14 (l' := #[true, true, true, true, true, true, true, true, true, true, true, true, true, true, true, false]) (by first | exact hsubI | (repeat (first | with_reducible exact HSub.refl _ | refine HSub.cons (by repeat (first | exact Take.here _ | apply Take.next | apply Take.app)) ?_ | refine HSub.app (by repeat (first | with_reducible exact TakeS.here _ | apply TakeS.next | apply TakeS.app)) ?_ | exact HSub.nil _ | exact HSub.refl _ | refine HSub.drop ?_ | refine HSub.dropS ?_))) (by decide +kernel) rfl (by decide +kernel) ?_
        refine W_storeA (l' := (placeT w.now a).1.v) rfl rfl ty27 rfl rfl (b := b11) (by repeat (first | exact List.mem_cons_self | apply List.mem_cons_of_mem | apply List.mem_append_right)) (by exact Nat.le_refl 4) rfl (by repeat (first | exact Upd.head _ | apply Upd.tail | apply Upd.app)) ?_
        refine W_nil ?_
        refine WC_goal ?_
        refine WC_take 15 (l' := #[true, true, true, true, true, true, true, true, true, true, true, true, true, true, true, true]) rfl (by decide +kernel) (by decide +kernel) (by decide +kernel) rfl (by decide +kernel) (X_assign rfl) rfl ?_
        refine WC_done (by first | exact hsubI | (repeat (first | with_reducible exact HSub.refl _ | refine HSub.cons (by repeat (first | exact Take.here _ | apply Take.next | apply Take.app)) ?_ | refine HSub.app (by repeat (first | with_reducible exact TakeS.here _ | apply TakeS.next | apply TakeS.app)) ?_ | exact HSub.nil _ | exact HSub.refl _ | refine HSub.drop ?_ | refine HSub.dropS ?_))) (by decide +kernel) ?_
        refine W_joinX (_, HB2) ⟨hB2, hTIn⟩ (sub_cons rfl (sub_cons rfl (sub_cons rfl (sub_cons rfl (sub_cons rfl (sub_cons rfl (sub_nil _))))))) (by first | exact hsubI | (repeat (first | with_reducible exact HSub.refl _ | refine HSub.cons (by repeat (first | exact Take.here _ | apply Take.next | apply Take.app)) ?_ | refine HSub.app (by repeat (first | with_reducible exact TakeS.here _ | apply TakeS.next | apply TakeS.app)) ?_ | exact HSub.nil _ | exact HSub.refl _ | refine HSub.drop ?_ | refine HSub.dropS ?_)))
      · skip
        refine W_alloc (l := zSpot.v) ty27 rfl rfl (fun b11 => ?_)
        refine W_nil ?_
        refine WC_goal ?_
        refine WC_one 9 (l' := #[true, true, true, true, true, true, true, true, true, true, false, false, false, true, false, false]) (by first | exact hsubI | (repeat (first | with_reducible exact HSub.refl _ | refine HSub.cons (by repeat (first | exact Take.here _ | apply Take.next | apply Take.app)) ?_ | refine HSub.app (by repeat (first | with_reducible exact TakeS.here _ | apply TakeS.next | apply TakeS.app)) ?_ | exact HSub.nil _ | exact HSub.refl _ | refine HSub.drop ?_ | refine HSub.dropS ?_))) (by decide +kernel) rfl (by decide +kernel) ?_
        refine W_call (.cons rfl (.cons rfl (.cons rfl (.cons rfl .nil)))) Tryd.call22 rfl (LCalls.hsub (PutB_L (cpu := ((i % N : Nat) : Int)) (id := (i : Int)) (a := a) hB (by rw [hTI.len]; omega) ha (fun w hw => by rw [hTI.now w hw]; omega) (fun w hw => by have := hTI.turn w hw; omega) (H := (b11, .cells 27 4 zSpot.v) :: H)) (by first | exact hsubI | (repeat (first | with_reducible exact HSub.refl _ | refine HSub.cons (by repeat (first | exact Take.here _ | apply Take.next | apply Take.app)) ?_ | refine HSub.app (by repeat (first | with_reducible exact TakeS.here _ | apply TakeS.next | apply TakeS.app)) ?_ | exact HSub.nil _ | exact HSub.refl _ | refine HSub.drop ?_ | refine HSub.dropS ?_)))) ?_
        rintro v H' ⟨Ws2, HB2, s2, e2, hB2, rfl, hP, rfl⟩
        obtain ⟨rfl, rfl, rfl⟩ := hP.ok_of (k := i % N) rfl hwk hTI.none ⟨by omega, by omega⟩ (by rw [hTI.now w (List.mem_of_getElem? hwk)]; omega)
        refine W_nil ?_
        refine WC_goal ?_
        refine WC_take 10 (l' := #[true, true, true, true, true, true, true, true, true, true, true, false, false, true, false, false]) rfl (by decide +kernel) (by decide +kernel) (by decide +kernel) rfl (by decide +kernel) (X_move rfl) rfl ?_
        refine WC_take 11 (l' := #[true, true, true, true, true, true, true, true, true, true, true, true, false, true, false, false]) rfl (by decide +kernel) (by decide +kernel) (by decide +kernel) rfl (by decide +kernel) (X_extract rfl rfl) rfl ?_
        refine WC_take 12 (l' := #[true, true, true, true, true, true, true, true, true, true, true, true, true, true, false, false]) rfl (by decide +kernel) (by decide +kernel) (by decide +kernel) rfl (by decide +kernel) (X_extract rfl rfl) rfl ?_
        refine WC_one 14 (l' := #[true, true, true, true, true, true, true, true, true, true, true, true, true, true, true, false]) (by first | exact hsubI | (repeat (first | with_reducible exact HSub.refl _ | refine HSub.cons (by repeat (first | exact Take.here _ | apply Take.next | apply Take.app)) ?_ | refine HSub.app (by repeat (first | with_reducible exact TakeS.here _ | apply TakeS.next | apply TakeS.app)) ?_ | exact HSub.nil _ | exact HSub.refl _ | refine HSub.drop ?_ | refine HSub.dropS ?_))) (by decide +kernel) rfl (by decide +kernel) ?_
        refine W_storeA (l' := (placeT w.now a).1.v) rfl rfl ty27 rfl rfl (b := b11) (by repeat (first | exact List.mem_cons_self | apply List.mem_cons_of_mem | apply List.mem_append_right)) (by exact Nat.le_refl 4) rfl (by repeat (first | exact Upd.head _ | apply Upd.tail | apply Upd.app)) ?_
        refine W_nil ?_
        refine WC_goal ?_
        refine WC_take 15 (l' := #[true, true, true, true, true, true, true, true, true, true, true, true, true, true, true, true]) rfl (by decide +kernel) (by decide +kernel) (by decide +kernel) rfl (by decide +kernel) (X_assign rfl) rfl ?_
        refine WC_done (by first | exact hsubI | (repeat (first | with_reducible exact HSub.refl _ | refine HSub.cons (by repeat (first | exact Take.here _ | apply Take.next | apply Take.app)) ?_ | refine HSub.app (by repeat (first | with_reducible exact TakeS.here _ | apply TakeS.next | apply TakeS.app)) ?_ | exact HSub.nil _ | exact HSub.refl _ | refine HSub.drop ?_ | refine HSub.dropS ?_))) (by decide +kernel) ?_
        refine W_joinX (_, HB2) ⟨hB2, hTIn⟩ (sub_cons rfl (sub_cons rfl (sub_cons rfl (sub_cons rfl (sub_cons rfl (sub_cons rfl (sub_nil _))))))) (by first | exact hsubI | (repeat (first | with_reducible exact HSub.refl _ | refine HSub.cons (by repeat (first | exact Take.here _ | apply Take.next | apply Take.app)) ?_ | refine HSub.app (by repeat (first | with_reducible exact TakeS.here _ | apply TakeS.next | apply TakeS.app)) ?_ | exact HSub.nil _ | exact HSub.refl _ | refine HSub.drop ?_ | refine HSub.dropS ?_)))
    rintro ⟨Ws2, HB2⟩ ⟨hB2, hTI2⟩
    dsimp only at hB2 hTI2 ⊢
    refine W_sr ?_
    refine W_move rfl rfl ?_
    refine W_bin rfl rfl b_neq rfl ?_
    refine W_nil ?_
    refine W_condF rfl rfl ?_
    refine W_skip ?_
    refine W_blk ?_
    refine W_region ?_
    refine W_move rfl rfl ?_
    refine W_bin rfl rfl (b_add (m := ((i + 1 : Nat) : Int)) ((i64w (by omega)).trans (by omega))) rfl ?_
    refine W_assign rfl rfl ?_
    refine W_nil ?_
    refine W_again (i + 1, Ws2, HB2) ⟨by show i + 1 ≤ n; omega, hB2, hTI2⟩ (by show n - (i + 1) < n - i; omega) (sub_cons rfl (sub_cons rfl (sub_cons rfl (sub_cons rfl (sub_cons rfl (sub_nil _)))))) rfl (.refl _)
  · skip
    refine W_exit rfl ?_
    refine W_sr ?_
    refine W_assign rfl rfl ?_
    refine W_nil ?_
    refine W_sr ?_
    obtain rfl : n = i := by omega
    obtain ⟨W0, hW0⟩ : ∃ W0, W0 = Ws := ⟨_, rfl⟩
    have hids : ∀ (c : Nat) w, Ws[c]? = some w → w.L.map (·.id) = onCpu N n c := hTI.ids
    have hsum : lenK Ws N = n := by have := hTI.sum; rwa [hTI.len] at this
    refine W_alloc (l := (List.replicate 100 false).map Value.bool) ty39 rfl (by decide) (fun b14 => ?_)
    refine W_nil ?_
    refine W_seq ?_
    refine W_sr ?_
    refine W_assign rfl rfl ?_
    refine W_nil ?_
    refine W_block ?_
    refine W_loopC (X := BaS) [(0, _), (7, _), (9, _), (14, _)] (fun (x : BaS) => [(15, .int .i64 (x.c : Int)), (13, .int .i64 (x.cnt : Int))]) (fun _ => _) (fun (x : BaS) => (b14, .cells 39 100 ((x.OB).map Value.bool)) :: (x.HB ++ H)) (fun (x : BaS) => x.c ≤ N ∧ BankH bb x.Ws x.HB ∧ x.Ws.length = N ∧ (∀ (k : Nat) w, x.Ws[k]? = some w → (k < x.c → w.L = []) ∧ (x.c ≤ k → Ws[k]? = some w)) ∧ x.OB.length = 100 ∧ (∀ j : Nat, j < n → x.OB[j]? = some (decide (j % N < x.c))) ∧ x.cnt = lenK Ws x.c) (fun (x : BaS) => N - x.c) ⟨0, Ws, HB, List.replicate 100 false, 0⟩ ⟨Nat.zero_le _, hB, hTI.len, fun k w hw => ⟨fun h => absurd h (Nat.not_lt_zero _), fun _ => hw⟩, List.length_replicate, fun j hj => by rw [List.getElem?_replicate, if_pos (by omega)]; exact congrArg some (decide_eq_false (Nat.not_lt_zero _)).symm, rfl⟩ (sub_cons rfl (sub_cons rfl (sub_cons rfl (sub_cons rfl (sub_nil _))))) (sub_cons rfl (sub_cons rfl (sub_nil _))) rfl (.refl _) ?_
    rintro ⟨c, Wc, HBc, OB, cnt⟩ ⟨hc_, hBc, hWcl, hWc, hOl, hOB, hcnt⟩
    dsimp only at hc_ hBc hWcl hWc hOl hOB hcnt ⊢
    simp only [List.cons_append, List.nil_append]
    refine W_seq ?_
    refine W_sr ?_
    refine W_move rfl rfl ?_
    refine W_move rfl rfl ?_
    refine W_bin rfl rfl b_lss rfl ?_
    refine W_nil ?_
    refine W_condPS (p := (c : Int) < (N : Int)) rfl (by simp) (fun r1 => ?_) (fun r1 => ?_)
    · skip
      refine W_skip ?_
      refine W_seq ?_
      refine W_block ?_
      refine W_sr ?_
      refine W_move rfl rfl ?_
      refine W_move rfl rfl ?_
      have hcl := lenK_mono (Ws := Ws) hc_
      obtain ⟨w, hw⟩ : ∃ w, Wc[c]? = some w := ⟨_, List.getElem?_eq_getElem (by omega)⟩
      have hwW := (hWc c w hw).2 (Nat.le_refl _)
      have hwm := List.mem_of_getElem? hwW
      have hd : ∀ u ∈ Wc, ∀ t ∈ u.L, u.now < t.s.due := fun u hu t ht => by
        obtain ⟨k, hk, e⟩ := List.getElem_of_mem hu
        have hk2 : Wc[k]? = some u := by rw [List.getElem?_eq_getElem hk, e]
        by_cases hkc : k < c
        · rw [(hWc k u hk2).1 hkc] at ht; cases ht
        · have hu2 := List.mem_of_getElem? ((hWc k u hk2).2 (by omega))
          obtain ⟨HU, hU⟩ := hBc.wheelOf hu
          exact hU.later (by rw [hTI.now u hu2]; exact hnow) t ht
      refine W_call (.cons rfl (.cons rfl (.cons rfl .nil))) Tryd.call24 rfl (LCalls.hsub (CatchB_L (cpu := (c : Int)) (a := 18446744073709551615) hBc (Nat.le_refl _) hd hT (H := (b14, .cells 39 100 ((OB).map Value.bool)) :: H)) (by first | exact hsubI | (repeat (first | with_reducible exact HSub.refl _ | refine HSub.cons (by repeat (first | exact Take.here _ | apply Take.next | apply Take.app)) ?_ | refine HSub.app (by repeat (first | with_reducible exact TakeS.here _ | apply TakeS.next | apply TakeS.app)) ?_ | exact HSub.nil _ | exact HSub.refl _ | refine HSub.drop ?_ | refine HSub.dropS ?_)))) ?_
      rintro v H' ⟨W3, HB3, O, XO, hB3, hO, hC, rfl⟩
      obtain ⟨Li, hG, rfl⟩ := hC.of_at (k := c) rfl hw
      obtain ⟨ad2, cap2, rfl, _, _⟩ := hO.shape
      have hmx : max w.now 18446744073709551615 = 18446744073709551615 := Nat.max_eq_right (by rw [hTI.now w hwm]; omega)
      obtain ⟨HU, hU⟩ := hBc.wheelOf (List.mem_of_getElem? hw)
      have hall : ∀ t ∈ w.L, t.s.due ≤ 18446744073709551615 := fun t ht => dueW hU ht
      have hperm : O.Perm w.L := by
        have := hG.perm
        rwa [hmx, List.filter_eq_self.2 (fun t ht => decide_eq_true (hall t ht))] at this
      have hLi : Li = [] := by rw [hG.left, hmx]; exact List.filter_eq_nil_iff.2 (fun t ht => by have := hall t ht; simp; omega)
      have hOlen : O.length = w.L.length := hperm.length_eq
      have hOl2 : w.L.length ≤ 256 := hU.ids.2.2.2
      have hOid : ∀ x : Int, x ∈ O.map (·.id) ↔ ∃ j : Nat, x = (j : Int) ∧ j < n ∧ j % N = c := fun x => by
        rw [(hperm.map (·.id)).mem_iff, hids c w hwW]; exact onCpu_mem
      have hnd2 : (O.map (·.id)).Nodup := ((hperm.map (·.id)).nodup_iff).2 hU.ids.1
      have hOr : Holds w0 (XO ++ (HB3 ++ H)) ad2 ((O.map (·.id)).map (Value.int .i64)) := OwnS.holds hO (fun p hp => List.mem_append_left _ hp)
      have all_done : ∀ (k : Nat) u, (Wc.set c ⟨w.bw, max w.now 18446744073709551615, Li, w.turn⟩)[k]? = some u → (k < c + 1 → u.L = []) ∧ (c + 1 ≤ k → Ws[k]? = some u) := fun k u hu => by
        by_cases e : c = k
        · subst e
          rw [List.getElem?_set_self (by omega)] at hu
          obtain rfl := Option.some.inj hu
          exact ⟨fun _ => hLi, fun h => by omega⟩
        · rw [List.getElem?_set_ne e] at hu
          exact ⟨fun h => (hWc k u hu).1 (by omega), fun h => (hWc k u hu).2 (by omega)⟩
      refine W_assign rfl rfl ?_
      refine W_nil ?_
      refine W_sr ?_
      refine W_assign rfl rfl ?_
      refine W_nil ?_
      refine W_block ?_
      refine W_loopC (X := (Nat × List Bool)) [(0, _), (7, _), (9, _), (14, _), (15, _), (16, _)] (fun (x : (Nat × List Bool)) => [(17, .int .i64 (x.1 : Int)), (13, .int .i64 ((cnt + x.1 : Nat) : Int))]) (fun _ => _) (fun (x : (Nat × List Bool)) => (b14, .cells 39 100 ((x.2).map Value.bool)) :: (XO ++ (HB3 ++ H))) (fun (x : (Nat × List Bool)) => x.1 ≤ O.length ∧ x.2.length = 100 ∧ ∀ j : Nat, j < n → x.2[j]? = some (decide (j % N < c) || (O.take x.1).any (fun t => decide (t.id = (j : Int))))) (fun (x : (Nat × List Bool)) => O.length - x.1) (0, OB) ⟨Nat.zero_le _, hOl, fun j hj => by rw [hOB j hj]; simp⟩ (sub_cons rfl (sub_cons rfl (sub_cons rfl (sub_cons rfl (sub_cons rfl (sub_cons rfl (sub_nil _))))))) (sub_cons rfl (sub_cons rfl (sub_nil _))) rfl (by first | exact hsubI | (repeat (first | with_reducible exact HSub.refl _ | refine HSub.cons (by repeat (first | exact Take.here _ | apply Take.next | apply Take.app)) ?_ | refine HSub.app (by repeat (first | with_reducible exact TakeS.here _ | apply TakeS.next | apply TakeS.app)) ?_ | exact HSub.nil _ | exact HSub.refl _ | refine HSub.drop ?_ | refine HSub.dropS ?_))) ?_
      rintro ⟨q, OBq⟩ ⟨hq, hBl, hBq⟩
      dsimp only at hq hBl hBq ⊢
      simp only [List.cons_append, List.nil_append]
      refine W_seq ?_
      refine W_sr ?_
      refine W_move rfl rfl ?_
      refine W_move rfl rfl ?_
      refine W_len rfl ty35 rfl rfl ?_
      refine W_bin rfl rfl b_lss rfl ?_
      refine W_nil ?_
      refine W_condPS (p := (q : Int) < (O.length : Int)) rfl (by simp) (fun r2 => ?_) (fun r2 => ?_)
      · skip
        refine W_skip ?_
        refine W_seq ?_
        refine W_block ?_
        refine W_seq ?_
        refine W_sr ?_
        obtain ⟨tq, htq⟩ : ∃ tq, O[q]? = some tq := ⟨_, List.getElem?_eq_getElem (by omega)⟩
        obtain ⟨q0_, p0_, rfl, hc⟩ := hOr.at (i := q) (v := .int .i64 tq.id) (by rw [List.getElem?_map, List.getElem?_map, htq]; rfl)
        have hmq := List.mem_of_getElem? htq
        obtain ⟨m, hmid, hm, hmc⟩ := (hOid tq.id).1 (List.mem_map_of_mem hmq)
        rw [hmid] at hc
        have hBm : OBq[m]? = some false := by
          rw [hBq m hm, ← hmid, decide_eq_false (by omega)]
          rw [show (O.take q).any (fun t => decide (t.id = tq.id)) = false from ?_]
          · rfl
          · rw [List.any_eq_false]
            intro u hu e
            obtain ⟨j, hj, e2⟩ := List.getElem_of_mem hu
            rw [List.length_take] at hj
            have e3 : O[j]? = some u := by rw [← e2, List.getElem_take]; exact List.getElem?_eq_getElem (by omega)
            have h1 : (O.map (·.id))[j]'(by rw [List.length_map]; omega) = (O.map (·.id))[q]'(by rw [List.length_map]; omega) := by
              have a1 := (List.getElem?_eq_some_iff.1 e3).2
              have a2 := (List.getElem?_eq_some_iff.1 htq).2
              rw [List.getElem_map, List.getElem_map, a1, a2]; exact of_decide_eq_true e
            exact (List.pairwise_iff_getElem.1 hnd2) j q _ _ (by omega) h1
        refine W_move rfl rfl ?_
        refine W_move rfl rfl ?_
        refine W_indexAddr (j := q) rfl rfl ty35 ty3 rfl (by omega) rfl rfl ?_
        refine W_load (v := .int .i64 ((m : Nat) : Int)) rfl ty3 rfl (by rw [Nat.mul_one]; exact hc.up (by first | exact hsubI | (repeat (first | with_reducible exact HSub.refl _ | refine HSub.cons (by repeat (first | exact Take.here _ | apply Take.next | apply Take.app)) ?_ | refine HSub.app (by repeat (first | with_reducible exact TakeS.here _ | apply TakeS.next | apply TakeS.app)) ?_ | exact HSub.nil _ | exact HSub.refl _ | refine HSub.drop ?_ | refine HSub.dropS ?_)))) rfl ?_
        refine W_bin rfl rfl b_lss rfl ?_
        rw [decide_eq_false (by omega)]
        refine W_move rfl rfl ?_
        refine W_gyes rfl rfl ?_
        refine W_move rfl rfl ?_
        refine W_gyes rfl rfl ?_
        refine W_move rfl rfl ?_
        refine W_gyes rfl rfl ?_
        refine W_indexAddr (j := q) rfl rfl ty35 ty3 rfl (by omega) rfl rfl ?_
        refine W_gyes rfl rfl ?_
        refine W_load (v := .int .i64 ((m : Nat) : Int)) rfl ty3 rfl (by rw [Nat.mul_one]; exact hc.up (by first | exact hsubI | (repeat (first | with_reducible exact HSub.refl _ | refine HSub.cons (by repeat (first | exact Take.here _ | apply Take.next | apply Take.app)) ?_ | refine HSub.app (by repeat (first | with_reducible exact TakeS.here _ | apply TakeS.next | apply TakeS.app)) ?_ | exact HSub.nil _ | exact HSub.refl _ | refine HSub.drop ?_ | refine HSub.dropS ?_)))) rfl ?_
        refine W_gyes rfl rfl ?_
        refine W_move rfl rfl ?_
        refine W_gyes rfl rfl ?_
        refine W_bin rfl rfl b_geq rfl ?_
        rw [decide_eq_false (by omega)]
        first | refine W_pickt rfl rfl rfl ?_ | refine W_pickf rfl rfl rfl ?_
        refine W_move rfl rfl ?_
        refine W_gyes rfl rfl ?_
        refine W_move rfl rfl ?_
        refine W_gyes rfl rfl ?_
        refine W_move rfl rfl ?_
        refine W_gyes rfl rfl ?_
        refine W_indexAddr (j := q) rfl rfl ty35 ty3 rfl (by omega) rfl rfl ?_
        refine W_gyes rfl rfl ?_
        refine W_load (v := .int .i64 ((m : Nat) : Int)) rfl ty3 rfl (by rw [Nat.mul_one]; exact hc.up (by first | exact hsubI | (repeat (first | with_reducible exact HSub.refl _ | refine HSub.cons (by repeat (first | exact Take.here _ | apply Take.next | apply Take.app)) ?_ | refine HSub.app (by repeat (first | with_reducible exact TakeS.here _ | apply TakeS.next | apply TakeS.app)) ?_ | exact HSub.nil _ | exact HSub.refl _ | refine HSub.drop ?_ | refine HSub.dropS ?_)))) rfl ?_
        refine W_gyes rfl rfl ?_
        refine W_indexAddrA (j := m) rfl rfl ty39 ty4 rfl (by omega) (at_ := m) (by omega) rfl ?_
        refine W_gyes rfl rfl ?_
        refine W_load rfl ty4 rfl (Cell.own (b := b14) (by repeat (first | exact List.mem_cons_self | apply List.mem_cons_of_mem | apply List.mem_append_right)) (by rw [List.getElem?_map, hBm]; rfl)) rfl ?_
        first | refine W_pickt rfl rfl rfl ?_ | refine W_pickf rfl rfl rfl ?_
        refine W_move rfl rfl ?_
        refine W_gyes rfl rfl ?_
        refine W_move rfl rfl ?_
        refine W_gyes rfl rfl ?_
        refine W_move rfl rfl ?_
        refine W_gyes rfl rfl ?_
        refine W_indexAddr (j := q) rfl rfl ty35 ty3 rfl (by omega) rfl rfl ?_
        refine W_gyes rfl rfl ?_
        refine W_load (v := .int .i64 ((m : Nat) : Int)) rfl ty3 rfl (by rw [Nat.mul_one]; exact hc.up (by first | exact hsubI | (repeat (first | with_reducible exact HSub.refl _ | refine HSub.cons (by repeat (first | exact Take.here _ | apply Take.next | apply Take.app)) ?_ | refine HSub.app (by repeat (first | with_reducible exact TakeS.here _ | apply TakeS.next | apply TakeS.app)) ?_ | exact HSub.nil _ | exact HSub.refl _ | refine HSub.drop ?_ | refine HSub.dropS ?_)))) rfl ?_
        refine W_gyes rfl rfl ?_
        refine W_move rfl rfl ?_
        refine W_gyes rfl rfl ?_
        refine W_bin rfl rfl (b_rem (by omega) (m := ((m % N : Nat) : Int)) (tmN m N)) rfl ?_
        refine W_gyes rfl rfl ?_
        refine W_move rfl rfl ?_
        refine W_gyes rfl rfl ?_
        refine W_bin rfl rfl b_neq rfl ?_
        rw [decide_eq_false (by omega)]
        first | refine W_pickt rfl rfl rfl ?_ | refine W_pickf rfl rfl rfl ?_
        refine W_nil ?_
        refine W_condF rfl rfl ?_
        refine W_skip ?_
        refine W_sr ?_
        refine W_move rfl rfl ?_
        refine W_move rfl rfl ?_
        refine W_indexAddr (j := q) rfl rfl ty35 ty3 rfl (by omega) rfl rfl ?_
        refine W_load (v := .int .i64 ((m : Nat) : Int)) rfl ty3 rfl (by rw [Nat.mul_one]; exact hc.up (by first | exact hsubI | (repeat (first | with_reducible exact HSub.refl _ | refine HSub.cons (by repeat (first | exact Take.here _ | apply Take.next | apply Take.app)) ?_ | refine HSub.app (by repeat (first | with_reducible exact TakeS.here _ | apply TakeS.next | apply TakeS.app)) ?_ | exact HSub.nil _ | exact HSub.refl _ | refine HSub.drop ?_ | refine HSub.dropS ?_)))) rfl ?_
        refine W_indexAddrA (j := m) rfl rfl ty39 ty4 rfl (by omega) (at_ := m) (by omega) rfl ?_
        refine W_store (l' := ((OBq.set m true).map Value.bool)) rfl rfl ty4 rfl rfl (b := b14) (by repeat (first | exact List.mem_cons_self | apply List.mem_cons_of_mem | apply List.mem_append_right)) (by rw [Nat.blt_eq, List.length_map]; omega) (by rw [List.map_set]) (by repeat (first | exact Upd.head _ | apply Upd.tail | apply Upd.app)) ?_
        refine W_nil ?_
        refine W_region ?_
        refine W_move rfl rfl ?_
        refine W_bin rfl rfl (b_add (m := ((cnt + (q + 1) : Nat) : Int)) (by rw [i64w (by omega)]; omega)) rfl ?_
        refine W_assign rfl rfl ?_
        refine W_nil ?_
        refine W_blk ?_
        refine W_region ?_
        refine W_move rfl rfl ?_
        refine W_bin rfl rfl (b_add (m := ((q + 1 : Nat) : Int)) ((i64w (by omega)).trans (by omega))) rfl ?_
        refine W_assign rfl rfl ?_
        refine W_nil ?_
        refine W_again (q + 1, OBq.set m true) ⟨by show q + 1 ≤ O.length; omega, by show (OBq.set _ _).length = _; rw [List.length_set]; exact hBl, fun j hj => by show (OBq.set m true)[j]? = _; rw [any_takeB htq, hmid]; exact set_trueB hBq hm (by omega) j hj⟩ (by show O.length - (q + 1) < O.length - q; omega) (sub_cons rfl (sub_cons rfl (sub_cons rfl (sub_cons rfl (sub_cons rfl (sub_cons rfl (sub_cons rfl (sub_cons rfl (sub_nil _))))))))) rfl (by first | exact hsubI | (repeat (first | with_reducible exact HSub.refl _ | refine HSub.cons (by repeat (first | exact Take.here _ | apply Take.next | apply Take.app)) ?_ | refine HSub.app (by repeat (first | with_reducible exact TakeS.here _ | apply TakeS.next | apply TakeS.app)) ?_ | exact HSub.nil _ | exact HSub.refl _ | refine HSub.drop ?_ | refine HSub.dropS ?_)))
      · skip
        refine W_exit rfl ?_
        refine W_blk ?_
        refine W_region ?_
        have hq2 : q = w.L.length := by omega
        have hOBn : ∀ j : Nat, j < n → OBq[j]? = some (decide (j % N < c + 1)) := fun j hj => by
          rw [hBq j hj, List.take_of_length_le (by omega)]
          congr 1
          have hany : O.any (fun t => decide (t.id = (j : Int))) = decide (j % N = c) := by
            by_cases e : j % N = c
            · rw [decide_eq_true e, List.any_eq_true]
              obtain ⟨t, ht, e2⟩ := List.mem_map.1 ((hOid (j : Int)).2 ⟨j, rfl, hj, e⟩)
              exact ⟨t, ht, decide_eq_true e2⟩
            · rw [decide_eq_false e, List.any_eq_false]
              intro t ht e2
              obtain ⟨j2, e3, _, e4⟩ := (hOid t.id).1 (List.mem_map_of_mem ht)
              have := of_decide_eq_true e2
              have : j2 = j := by omega
              exact e (this ▸ e4)
          rw [hany, ← Bool.decide_or]
          exact decide_eq_decide.2 ⟨fun h => by omega, fun h => by omega⟩
        refine W_move rfl rfl ?_
        refine W_bin rfl rfl (b_add (m := ((c + 1 : Nat) : Int)) ((i64w (by omega)).trans (by omega))) rfl ?_
        refine W_assign rfl rfl ?_
        refine W_nil ?_
        refine W_again ⟨c + 1, Wc.set c ⟨w.bw, max w.now 18446744073709551615, Li, w.turn⟩, HB3, OBq, cnt + q⟩ ⟨by show c + 1 ≤ N; omega, hB3, by show (Wc.set _ _).length = N; rw [List.length_set, hWcl], all_done, hBl, hOBn, by show cnt + q = lenK Ws (c + 1); rw [lenK_at hwW, ← hcnt, hq2]⟩ (by show N - (c + 1) < N - c; omega) (sub_cons rfl (sub_cons rfl (sub_cons rfl (sub_cons rfl (sub_cons rfl (sub_cons rfl (sub_nil _))))))) rfl (by first | exact hsubI | (repeat (first | with_reducible exact HSub.refl _ | refine HSub.cons (by repeat (first | exact Take.here _ | apply Take.next | apply Take.app)) ?_ | refine HSub.app (by repeat (first | with_reducible exact TakeS.here _ | apply TakeS.next | apply TakeS.app)) ?_ | exact HSub.nil _ | exact HSub.refl _ | refine HSub.drop ?_ | refine HSub.dropS ?_)))
    · skip
      refine W_exit rfl ?_
      refine W_sr ?_
      refine W_callp .nil Tryd.call28 rfl hT knownB_pure ?_
      refine W_move rfl rfl ?_
      refine W_gyes rfl rfl ?_
      refine W_move rfl rfl ?_
      refine W_gyes rfl rfl ?_
      refine W_move rfl rfl ?_
      refine W_gyes rfl rfl ?_
      refine W_bin rfl rfl b_eql rfl ?_
      have h1 : c = N := by omega
      rw [h1, hsum] at hcnt
      rw [decide_eq_true (by omega)]
      first | refine W_pickt rfl rfl rfl ?_ | refine W_pickf rfl rfl rfl ?_
      refine W_move rfl rfl ?_
      refine W_gyes rfl rfl ?_
      refine W_move rfl rfl ?_
      refine W_gyes rfl rfl ?_
      obtain rfl : c = N := by omega
      have hnil : ∀ u ∈ Wc, u.L = [] := fun u hu => by
        obtain ⟨k, hk, e⟩ := List.getElem_of_mem hu
        exact (hWc k u (by rw [List.getElem?_eq_getElem hk, e])).1 (by omega)
      refine W_call (.cons rfl .nil) Tryd.call29 rfl (LCalls.hsub (LenB_L hBc (by omega) (H := (b14, .cells 39 100 ((OB).map Value.bool)) :: H)) (by first | exact hsubI | (repeat (first | with_reducible exact HSub.refl _ | refine HSub.cons (by repeat (first | exact Take.here _ | apply Take.next | apply Take.app)) ?_ | refine HSub.app (by repeat (first | with_reducible exact TakeS.here _ | apply TakeS.next | apply TakeS.app)) ?_ | exact HSub.nil _ | exact HSub.refl _ | refine HSub.drop ?_ | refine HSub.dropS ?_)))) ?_
      rintro v H' ⟨HB9, hB9, rfl, rfl⟩
      rw [lenK_nil hnil]
      refine W_gyes rfl rfl ?_
      refine W_bin rfl rfl b_eql rfl ?_
      first | refine W_pickt rfl rfl rfl ?_ | refine W_pickf rfl rfl rfl ?_
      refine W_assign rfl rfl ?_
      refine W_nil ?_
      refine W_ret1m (H2 := H) Tryd.results7 rfl (.nil _) (by first | exact hsubI | (repeat (first | with_reducible exact HSub.refl _ | refine HSub.cons (by repeat (first | exact Take.here _ | apply Take.next | apply Take.app)) ?_ | refine HSub.app (by repeat (first | with_reducible exact TakeS.here _ | apply TakeS.next | apply TakeS.app)) ?_ | exact HSub.nil _ | exact HSub.refl _ | refine HSub.drop ?_ | refine HSub.dropS ?_))) ?_
      exact ⟨rfl, rfl⟩
theorem bankAll_pure {z : Int} {now : Nat} {l : List Int} {ad : Option Addr} {cap : Nat} (hwf : ∀ b ∈ l, 0 ≤ b ∧ b ≤ 18446744073709551615) (hcap : l.length ≤ 9223372036854775807) (hnow : now ≤ 18446744073709551615) : Pure Tryd.prog (fun w => Tab w ∧ InRow w ad (l.map (Value.int .u64))) 7 [.int .i64 z, .int .u64 ((now : Nat) : Int), .slice ad l.length cap] (.bool true) := by
  rcases Nat.lt_or_eq_of_le hnow with h | rfl
  · exact bankAll_L hwf hcap h
  · exact bankAll_M (now := 0) hwf hcap
end Go.Proofs.YtknbohnoiigioaaDoor
namespace Go.Proofs.YtknbohnoiigioaaDoor
open Go Go.Sl
attribute [local irreducible] W
theorem lateM_bit {Ws : List Wl} {a j : Nat} (hj : j < 64) : ∀ {k}, k ≤ 64 → ((lateM Ws a k).testBit j = true ↔ j < k ∧ ∃ w, Ws[j]? = some w ∧ lateB a w = true)
  | 0, _ => by
    constructor
    · intro h
      have : (0 : Nat).testBit j = true := h
      rw [Nat.zero_testBit] at this; cases this
    · rintro ⟨h, _⟩; omega
  | k + 1, hk => by
    have ih := lateM_bit (Ws := Ws) (a := a) hj (k := k) (by omega)
    unfold lateM
    cases hw : Ws[k]? with
    | none =>
      refine ih.trans ⟨fun ⟨h, x⟩ => ⟨by omega, x⟩, fun ⟨h, w, h1, h2⟩ => ⟨?_, w, h1, h2⟩⟩
      by_cases e : j = k
      · subst e; rw [hw] at h1; cases h1
      · omega
    | some w =>
      dsimp only
      by_cases hl : lateB a w = true
      · rw [if_pos hl]
        have e : withL (lateM Ws a k) [(k : Int)] = lateM Ws a k ||| bitN (k : Int) := rfl
        rw [e, bit_or (by omega), Bool.or_eq_true, ih]
        constructor
        · rintro (⟨h, x⟩ | h)
          · exact ⟨by omega, x⟩
          · have e := of_decide_eq_true h
            exact ⟨by omega, w, by rw [e]; exact hw, hl⟩
        · rintro ⟨h, u, h1, h2⟩
          by_cases e : j = k
          · exact .inr (decide_eq_true e)
          · exact .inl ⟨by omega, u, h1, h2⟩
      · rw [if_neg hl]
        refine ih.trans ⟨fun ⟨h, x⟩ => ⟨by omega, x⟩, fun ⟨h, u, h1, h2⟩ => ⟨?_, u, h1, h2⟩⟩
        by_cases e : j = k
        · subst e; rw [hw] at h1; exact absurd (Option.some.inj h1 ▸ h2) hl
        · omega
theorem lateB_iff {a : Nat} {w : Wl} : lateB a w = true ↔ ∃ t ∈ w.L, t.s.due ≤ a := by
  unfold lateB
  cases h : leastT w.L with
  | none => rw [leastT_none.1 h]; simp
  | some d =>
    obtain ⟨⟨t, ht, e⟩, hall⟩ := leastT_is h
    constructor
    · intro h; exact ⟨t, ht, by have := of_decide_eq_true h; omega⟩
    · rintro ⟨u, hu, h⟩; exact decide_eq_true (by have := hall u hu; omega)
theorem late_has {Ws : List Wl} {a c : Nat} {w : Wl} (hc : Ws[c]? = some w) (hl : Ws.length ≤ 64) : hasM (lateM Ws a Ws.length) (c : Int) = lateB a w := by
  have hcl := (List.getElem?_eq_some_iff.1 hc).1
  rw [hasM_is (by omega), Bool.eq_iff_iff, lateM_bit (by omega) hl]
  exact ⟨fun ⟨_, u, h1, h2⟩ => Option.some.inj (hc.symm.trans h1) ▸ h2, fun h => ⟨hcl, w, hc, h⟩⟩
theorem late_without {Ws : List Wl} {a c : Nat} {w w' : Wl} (hc : Ws[c]? = some w) (hl : Ws.length ≤ 64) (hd : ∀ t ∈ w'.L, a < t.s.due) : lateM (Ws.set c w') a Ws.length = outL (lateM Ws a Ws.length) [(c : Int)] := by
  have hcl := (List.getElem?_eq_some_iff.1 hc).1
  refine Nat.eq_of_testBit_eq fun j => ?_
  by_cases hj : j < 64
  · have e : outL (lateM Ws a Ws.length) [(c : Int)] = lateM Ws a Ws.length &&& (18446744073709551615 - bitN (c : Int)) := rfl
    rw [e, bit_out (by omega) hj, Bool.eq_iff_iff, Bool.and_eq_true, lateM_bit hj hl, lateM_bit hj hl, decide_eq_true_iff]
    by_cases e2 : c = j
    · subst e2
      constructor
      · rintro ⟨h, u, h1, h2⟩
        rw [List.getElem?_set_self hcl] at h1
        obtain rfl := Option.some.inj h1
        obtain ⟨t, ht, h3⟩ := lateB_iff.1 h2
        have := hd t ht; omega
      · rintro ⟨_, h⟩; exact absurd rfl h
    · rw [List.getElem?_set_ne e2]; exact ⟨fun h => ⟨h, fun e => e2 e.symm⟩, fun h => h.1⟩
  · have hp : 18446744073709551616 ≤ 2 ^ j := Nat.pow_le_pow_right (n := 2) (by decide) (show 64 ≤ j by omega)
    rw [Nat.testBit_lt_two_pow (Nat.lt_of_lt_of_le (lateM_lt _ _ _) hp), Nat.testBit_lt_two_pow (Nat.lt_of_lt_of_le (outL_ok _ (lateM_lt _ _ _)) hp)]
theorem ap_fired {now a : Nat} {w : Wl} {Li O : List Tm} (hG : Gone w.now (max w.now a) w.L Li O) (hd : ∀ t ∈ w.L, w.now < t.s.due) (e : w.now = now) : decide ((0 : Int) < (O.length : Int)) = (lateB a w && decide ((now : Int) < (a : Int))) := by
  rw [Bool.eq_iff_iff, Bool.and_eq_true, lateB_iff, decide_eq_true_iff, decide_eq_true_iff]
  constructor
  · intro h
    obtain ⟨t, ht⟩ := List.exists_mem_of_length_pos (l := O) (by omega)
    have h1 := List.mem_filter.1 (hG.perm.mem_iff.1 ht)
    have h2 := of_decide_eq_true h1.2
    have := hd t h1.1
    exact ⟨⟨t, h1.1, by omega⟩, by omega⟩
  · rintro ⟨⟨t, ht, h1⟩, h2⟩
    have : t ∈ O := hG.perm.mem_iff.2 (List.mem_filter.2 ⟨ht, decide_eq_true (by omega)⟩)
    have := List.length_pos_of_mem this
    omega
theorem ap_left {a : Nat} {w : Wl} {Li O : List Tm} (hG : Gone w.now (max w.now a) w.L Li O) : ∀ t ∈ Li, a < t.s.due ∧ w.now < t.s.due := fun t ht => by
  rw [hG.left] at ht
  have := of_decide_eq_true (List.mem_filter.1 ht).2
  omega
/-- the wheels behind a catch -/
abbrev apW (Ws : List Wl) (c a : Nat) (w : Wl) (Li : List Tm) : List Wl := Ws.set c ⟨w.bw, max w.now a, Li, w.turn⟩
theorem ap_find {N now n a c i : Nat} {Ws : List Wl} {w : Wl} {Li O : List Tm} (hTI : TurnIs N now n Ws) (hN : 0 < N) (hw : Ws[c]? = some w) (hG : Gone w.now (max w.now a) w.L Li O) (hnd : (Li.map (·.id)).Nodup) (hi : i < n) :
    (∃ s : Spot, findV (apW Ws c a w Li) (i : Int) = .tuple #[.int .i64 ((i % N : Nat) : Int), .agg s.v.toArray, .bool true] ∧ (i % N = c → a < s.due)) ∨ (findV (apW Ws c a w Li) (i : Int) = .tuple #[.int .i64 0, .agg zSpot.v.toArray, .bool false] ∧ i % N = c) := by
  have hcl := (List.getElem?_eq_some_iff.1 hw).1
  have hsub : ∀ t ∈ Li, t ∈ w.L := fun t ht => by rw [hG.left] at ht; exact (List.mem_filter.1 ht).1
  have hoth : ∀ (j : Nat) u, j ≠ i % N → (apW Ws c a w Li)[j]? = some u → heldB u.L (i : Int) = false := fun j u hj hu => by
    cases hb : heldB u.L (i : Int) with
    | false => rfl
    | true =>
      have h1 := heldB_iff.1 hb
      have h2 : (i : Int) ∈ onCpu N n j := by
        by_cases e : c = j
        · subst e
          rw [List.getElem?_set_self hcl] at hu
          obtain rfl := Option.some.inj hu
          obtain ⟨t, ht, e⟩ := List.mem_map.1 h1
          rw [← hTI.ids c w hw, ← e]
          exact List.mem_map_of_mem (hsub t ht)
        · rw [List.getElem?_set_ne e] at hu
          rw [← hTI.ids j u hu]; exact h1
      obtain ⟨m, e, _, e3⟩ := onCpu_mem.1 h2
      have : m = i := by omega
      subst this
      exact absurd e3.symm hj
  have hkl : i % N < Ws.length := by rw [hTI.len]; exact Nat.mod_lt _ hN
  obtain ⟨u, hu⟩ : ∃ u, (apW Ws c a w Li)[i % N]? = some u := ⟨_, List.getElem?_eq_getElem (by rw [List.length_set]; exact hkl)⟩
  cases hb : heldB u.L (i : Int) with
  | true =>
    have hf := findK_some hu hb (fun j v hj hv => hoth j v (by omega) hv)
    refine .inl ⟨spotOf u.L (i : Int), by unfold findV; rw [hf]; dsimp only; rw [hu], fun e => ?_⟩
    rw [e, List.getElem?_set_self hcl] at hu
    obtain rfl := Option.some.inj hu
    obtain ⟨t, ht, e2⟩ := List.mem_map.1 (heldB_iff.1 hb)
    rw [← e2, spotOf_in hnd ht]
    exact (ap_left hG t ht).1
  | false =>
    have hf : findK (apW Ws c a w Li) (i : Int) = none := findK_none fun j v _ hv => by
      by_cases e : j = i % N
      · subst e; obtain rfl := Option.some.inj (hu.symm.trans hv); exact hb
      · exact hoth j v e hv
    refine .inr ⟨by unfold findV; rw [hf], ?_⟩
    by_cases e : c = i % N
    · exact e.symm
    · rw [List.getElem?_set_ne e] at hu
      have : (i : Int) ∈ u.L.map (·.id) := by rw [hTI.ids _ u hu]; exact onCpu_mem.2 ⟨i, rfl, hi, rfl⟩
      rw [heldB_iff.2 this] at hb; cases hb
end Go.Proofs.YtknbohnoiigioaaDoor
