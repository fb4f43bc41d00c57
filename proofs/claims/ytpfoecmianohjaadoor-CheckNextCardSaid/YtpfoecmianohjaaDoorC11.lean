/-
  Own work: contracts of functions that the statement reaches, and plain facts on what they compute; each theorem says its conditions.
-/
import Derived.Test.YtpfoecmianohjaaDoorC10
set_option linter.all false
set_option linter.unusedSimpArgs false
set_option linter.unusedVariables false
namespace Go.Proofs.YtpfoecmianohjaaDoor
open Go Go.Sl
attribute [local irreducible] W

theorem bools_getD {o : List Bool} {k : Nat} (h : k < o.length) : (bools o)[k]? = some (.bool (o.getD k false)) := by
  simp [bools, List.getD, h]
theorem bools_set (o : List Bool) (t : Nat) : (bools o).set t (.bool true) = bools (o.set t true) := by simp [bools, List.map_set]
theorem bools_len (o : List Bool) : (bools o).length = o.length := by simp [bools]
theorem fold_succ {β : Type} (f : β → Nat → β) (b : β) (k : Nat) : (List.range (k + 1)).foldl f b = f ((List.range k).foldl f b) k := by rw [List.range_succ, List.foldl_append]; rfl
theorem step_t {l : List Ins} {x : Ins} {k t : Nat} {o : List Bool} (hx : l[k]? = some x) (h : (o.getD k false && rbehB x k t) = true) : stepB (edge l) k o t = o.set t true := by
  unfold stepB edge; rw [hx]; show (bif o.getD k false && rbehB x k t then _ else _) = _; rw [h]; rfl
theorem step_f {l : List Ins} {x : Ins} {k t : Nat} {o : List Bool} (hx : l[k]? = some x) (h : (o.getD k false && rbehB x k t) = false) : stepB (edge l) k o t = o := by
  unfold stepB edge; rw [hx]; show (bif o.getD k false && rbehB x k t then _ else _) = _; rw [h]; rfl
set_option maxHeartbeats 1000000 in
theorem rreach_L {w0 : World} {H : Heap} (l : List Ins) {ad : Option Addr} {cap : Nat} (hn : l.length ≤ 1000000) (hrow : Holds w0 H ad (insRow l)) (hT : Tab w0) : LCalls Tryd.prog w0 32 #[.slice ad l.length cap] H (fun v H' => ∃ b, v = .slice (some ⟨b, 0, none⟩) 64 64 ∧ H' = (b, .cells 4 64 (bools (reachB l))) :: H) := by
  obtain ⟨n, hnn⟩ : ∃ n, n = min l.length 64 := ⟨_, rfl⟩
  refine L_enter (l := [.slice ad l.length cap]) Tryd.func32 rfl Tryd.ntmps32 rfl rfl ?_
  refine W_sr ?_
  refine W_assign rfl rfl ?_
  refine W_nil ?_
  refine W_sr ?_
  refine W_move rfl rfl ?_
  refine W_len rfl ty43 rfl rfl ?_
  refine W_assign rfl rfl ?_
  refine W_nil ?_
  refine W_seq ?_
  refine W_sr ?_
  refine W_move rfl rfl ?_
  refine W_bin rfl rfl b_gtr rfl ?_
  refine W_nil ?_
  refine W_condJ (p := 64 < (l.length : Int)) [(0, .slice ad l.length cap), (3, .int .i64 (n : Int))] (H) rfl (by simp) (fun c0 => ?_) (fun c0 => ?_) ?_
  · skip
    refine W_region ?_
    refine W_assign rfl rfl ?_
    refine W_nil ?_
    refine W_joined (sub_cons rfl (sub_cons (by rw [show (n : Int) = 64 by omega]; rfl) (sub_nil _))) (by repeat (first | exact HSub.refl _ | refine HSub.cons (by repeat (first | exact Take.here _ | apply Take.next | apply Take.app)) ?_ | refine HSub.app (by repeat (first | exact TakeS.here _ | apply TakeS.next | apply TakeS.app)) ?_ | refine HSub.drop ?_ | refine HSub.dropS ?_ | exact HSub.nil _))
  · skip
    refine W_skip ?_
    refine W_joined (sub_cons rfl (sub_cons (by rw [show (n : Int) = l.length by omega]; rfl) (sub_nil _))) (by repeat (first | exact HSub.refl _ | refine HSub.cons (by repeat (first | exact Take.here _ | apply Take.next | apply Take.app)) ?_ | refine HSub.app (by repeat (first | exact TakeS.here _ | apply TakeS.next | apply TakeS.app)) ?_ | refine HSub.drop ?_ | refine HSub.dropS ?_ | exact HSub.nil _))
  skip
  refine W_sr ?_
  refine W_makeSlice (ln := 64) (cp := 64) (l := bools (List.replicate 64 false)) rfl rfl ty57 ty4 rfl rfl (by decide) (by decide) (by decide) (by simp [toList_madeCells_one, bools, Value.cells]) rfl (fun b12 => ?_)
  refine W_assign rfl rfl ?_
  refine W_nil ?_
  refine W_seq ?_
  refine W_sr ?_
  refine W_move rfl rfl ?_
  refine W_bin rfl rfl b_gtr rfl ?_
  refine W_nil ?_
  refine W_condJ (p := 0 < (n : Int)) [(0, .slice ad l.length cap), (3, .int .i64 (n : Int)), (4, .slice (some ⟨b12, 0, none⟩) 64 64)] ((b12, .cells 4 64 (bools (initB n))) :: H) rfl (by simp) (fun c1 => ?_) (fun c1 => ?_) ?_
  · skip
    refine W_region ?_
    refine W_move rfl rfl ?_
    refine W_indexAddr (j := 0) rfl rfl ty57 ty4 rfl (by decide) rfl rfl ?_
    refine W_store (l := bools (List.replicate 64 false)) rfl rfl ty4 rfl rfl (by repeat (first | exact List.mem_cons_self | apply List.mem_cons_of_mem | apply List.mem_append_right)) (by rw [bools_len]; decide) (bools_set _ 0) (by repeat (first | exact Upd.head _ | apply Upd.tail | apply Upd.app)) ?_
    refine W_nil ?_
    refine W_joined (sub_cons rfl (sub_cons rfl (sub_cons rfl (sub_nil _)))) (by rw [show initB n = (List.replicate 64 false).set 0 true by unfold initB; rw [decide_eq_true (by omega)]; rfl]; exact .refl _)
  · skip
    refine W_skip ?_
    refine W_joined (sub_cons rfl (sub_cons rfl (sub_cons rfl (sub_nil _)))) (by rw [show initB n = List.replicate 64 false by unfold initB; rw [decide_eq_false (by omega)]; rfl]; exact .refl _)
  skip
  refine W_seq ?_
  refine W_sr ?_
  refine W_assign rfl rfl ?_
  refine W_nil ?_
  refine W_block ?_
  refine W_loopD (X := Nat) (fun i => [(0, .slice ad l.length cap), (3, .int .i64 (n : Int)), (4, .slice (some ⟨b12, 0, none⟩) 64 64), (5, .int .i64 (i : Int))]) (fun _ => []) (fun i => (b12, .cells 4 64 (bools (roundsB (edge l) n i (initB n)))) :: H) (fun i => i ≤ n) (fun i => n - i) 0 (by omega) (sub_cons rfl (sub_cons rfl (sub_cons rfl (sub_cons rfl (sub_nil _))))) rfl (by repeat (first | exact HSub.refl _ | refine HSub.cons (by repeat (first | exact Take.here _ | apply Take.next | apply Take.app)) ?_ | refine HSub.app (by repeat (first | exact TakeS.here _ | apply TakeS.next | apply TakeS.app)) ?_ | refine HSub.drop ?_ | refine HSub.dropS ?_ | exact HSub.nil _)) ?_
  intro i hi
  obtain ⟨o, ho⟩ : ∃ o, o = roundsB (edge l) n i (initB n) := ⟨_, rfl⟩
  have hol : o.length = 64 := by rw [ho, rounds_len, initB_len]
  simp only [← ho]
  refine W_seq ?_
  refine W_sr ?_
  refine W_move rfl rfl ?_
  refine W_move rfl rfl ?_
  refine W_bin rfl rfl b_lss rfl ?_
  refine W_nil ?_
  refine W_condPS (p := (i : Int) < (n : Int)) rfl (by simp) (fun c2 => ?_) (fun c2 => ?_)
  · skip
    refine W_skip ?_
    refine W_seq ?_
    refine W_block ?_
    refine W_sr ?_
    refine W_assign rfl rfl ?_
    refine W_nil ?_
    refine W_block ?_
    refine W_loopD (X := Nat) (fun k => [(0, .slice ad l.length cap), (3, .int .i64 (n : Int)), (4, .slice (some ⟨b12, 0, none⟩) 64 64), (5, .int .i64 (i : Int)), (6, .int .i64 (k : Int))]) (fun _ => []) (fun k => (b12, .cells 4 64 (bools ((List.range k).foldl (rowB (edge l) n) o))) :: H) (fun k => k ≤ n) (fun k => n - k) 0 (by omega) (sub_cons rfl (sub_cons rfl (sub_cons rfl (sub_cons rfl (sub_cons rfl (sub_nil _)))))) rfl (by repeat (first | exact HSub.refl _ | refine HSub.cons (by repeat (first | exact Take.here _ | apply Take.next | apply Take.app)) ?_ | refine HSub.app (by repeat (first | exact TakeS.here _ | apply TakeS.next | apply TakeS.app)) ?_ | refine HSub.drop ?_ | refine HSub.dropS ?_ | exact HSub.nil _)) ?_
    intro k hk
    obtain ⟨p, hp⟩ : ∃ p, p = (List.range k).foldl (rowB (edge l) n) o := ⟨_, rfl⟩
    have hpl : p.length = 64 := by rw [hp, ← (fold_sub (fun o _ => row_sub o) _ o).1, hol]
    simp only [← hp]
    refine W_seq ?_
    refine W_sr ?_
    refine W_move rfl rfl ?_
    refine W_move rfl rfl ?_
    refine W_bin rfl rfl b_lss rfl ?_
    refine W_nil ?_
    refine W_condPS (p := (k : Int) < (n : Int)) rfl (by simp) (fun c3 => ?_) (fun c3 => ?_)
    · skip
      refine W_skip ?_
      refine W_seq ?_
      refine W_block ?_
      refine W_sr ?_
      refine W_assign rfl rfl ?_
      refine W_nil ?_
      refine W_block ?_
      refine W_loopD (X := Nat) (fun t => [(0, .slice ad l.length cap), (3, .int .i64 (n : Int)), (4, .slice (some ⟨b12, 0, none⟩) 64 64), (5, .int .i64 (i : Int)), (6, .int .i64 (k : Int)), (7, .int .i64 (t : Int))]) (fun _ => []) (fun t => (b12, .cells 4 64 (bools ((List.range t).foldl (stepB (edge l) k) p))) :: H) (fun t => t ≤ n) (fun t => n - t) 0 (by omega) (sub_cons rfl (sub_cons rfl (sub_cons rfl (sub_cons rfl (sub_cons rfl (sub_cons rfl (sub_nil _))))))) rfl (by repeat (first | exact HSub.refl _ | refine HSub.cons (by repeat (first | exact Take.here _ | apply Take.next | apply Take.app)) ?_ | refine HSub.app (by repeat (first | exact TakeS.here _ | apply TakeS.next | apply TakeS.app)) ?_ | refine HSub.drop ?_ | refine HSub.dropS ?_ | exact HSub.nil _)) ?_
      intro t ht
      obtain ⟨q, hq⟩ : ∃ q, q = (List.range t).foldl (stepB (edge l) k) p := ⟨_, rfl⟩
      have hql : q.length = 64 := by rw [hq, ← (fold_sub (fun o _ => step_sub o) _ p).1, hpl]
      simp only [← hq]
      refine W_seq ?_
      refine W_sr ?_
      refine W_move rfl rfl ?_
      refine W_move rfl rfl ?_
      refine W_bin rfl rfl b_lss rfl ?_
      refine W_nil ?_
      refine W_condPS (p := (t : Int) < (n : Int)) rfl (by simp) (fun c4 => ?_) (fun c4 => ?_)
      · skip
        refine W_skip ?_
        refine W_seq ?_
        refine W_block ?_
        refine W_sr ?_
        obtain ⟨x, hx⟩ : ∃ x, l[k]? = some x := ⟨_, List.getElem?_eq_getElem (by omega)⟩
        obtain ⟨b, o', rfl, hc⟩ := hrow.row cells_len (by decide) hx
        refine W_move rfl rfl ?_
        refine W_move rfl rfl ?_
        refine W_indexAddr (j := k) rfl rfl ty57 ty4 rfl (by omega) rfl rfl ?_
        refine W_load rfl ty4 rfl (Cell.own (by repeat (first | exact List.mem_cons_self | apply List.mem_cons_of_mem | apply List.mem_append_right)) (by rw [Nat.zero_add, Nat.mul_one]; exact bools_getD (by omega))) rfl ?_
        refine W_move rfl rfl ?_
        apply W_and
        iterate 4 exact rfl
        case h1 =>
          intro hg4
          refine W_gyes rfl rfl ?_
          refine W_move rfl rfl ?_
          refine W_gyes rfl rfl ?_
          refine W_move rfl rfl ?_
          refine W_gyes rfl rfl ?_
          refine W_indexAddr (j := k) rfl rfl ty43 ty59 rfl (by omega) rfl rfl ?_
          refine W_gyes rfl rfl ?_
          refine W_loadA rfl ty59 rfl (vs := [.int .i64 x.op, .int .i64 x.dst, .int .i64 x.src, .int .i64 x.off, .int .i64 x.imm]) rfl (hc.up (by repeat (first | exact HSub.refl _ | refine HSub.cons (by repeat (first | exact Take.here _ | apply Take.next | apply Take.app)) ?_ | refine HSub.app (by repeat (first | exact TakeS.here _ | apply TakeS.next | apply TakeS.app)) ?_ | refine HSub.drop ?_ | refine HSub.dropS ?_ | exact HSub.nil _))) rfl ?_
          refine W_gyes rfl rfl ?_
          refine W_move rfl rfl ?_
          refine W_gyes rfl rfl ?_
          refine W_move rfl rfl ?_
          refine W_gyes rfl rfl ?_
          refine W_callp (.cons rfl (.cons rfl (.cons rfl .nil))) Tryd.call55 rfl hT (rbeh_pure _ _ _) ?_
          exact W_met rfl (by repeat (first | exact .refl | refine .cons rfl ?_))
        refine W_nil ?_
        refine W_condS rfl (fun c5 => ?_) (fun c5 => ?_)
        · skip
          refine W_region ?_
          refine W_move rfl rfl ?_
          refine W_move rfl rfl ?_
          refine W_indexAddr (j := t) rfl rfl ty57 ty4 rfl (by omega) rfl rfl ?_
          refine W_store (l := bools q) (l' := bools (q.set t true)) rfl rfl ty4 rfl rfl (by repeat (first | exact List.mem_cons_self | apply List.mem_cons_of_mem | apply List.mem_append_right)) (by rw [bools_len, Nat.blt_eq]; omega) (by rw [Nat.zero_add, Nat.mul_one]; exact bools_set q t) (by repeat (first | exact Upd.head _ | apply Upd.tail | apply Upd.app)) ?_
          refine W_nil ?_
          refine W_blk ?_
          refine W_region ?_
          refine W_move rfl rfl ?_
          refine W_bin rfl rfl (b_add (m := ((t + 1 : Nat) : Int)) ((i64w (by omega)).trans (by omega))) rfl ?_
          refine W_assign rfl rfl ?_
          refine W_nil ?_
          refine W_again (t + 1) (by omega) (by omega) (sub_cons rfl (sub_cons rfl (sub_cons rfl (sub_cons rfl (sub_cons rfl (sub_cons rfl (sub_nil _))))))) rfl (by simp only [fold_succ, ← hq]; rw [step_t hx c5]; exact .refl _)
        · skip
          refine W_skip ?_
          refine W_blk ?_
          refine W_region ?_
          refine W_move rfl rfl ?_
          refine W_bin rfl rfl (b_add (m := ((t + 1 : Nat) : Int)) ((i64w (by omega)).trans (by omega))) rfl ?_
          refine W_assign rfl rfl ?_
          refine W_nil ?_
          refine W_again (t + 1) (by omega) (by omega) (sub_cons rfl (sub_cons rfl (sub_cons rfl (sub_cons rfl (sub_cons rfl (sub_cons rfl (sub_nil _))))))) rfl (by simp only [fold_succ, ← hq]; rw [step_f hx c5]; exact .refl _)
      · skip
        refine W_exit rfl ?_
        refine W_blk ?_
        refine W_region ?_
        refine W_move rfl rfl ?_
        refine W_bin rfl rfl (b_add (m := ((k + 1 : Nat) : Int)) ((i64w (by omega)).trans (by omega))) rfl ?_
        refine W_assign rfl rfl ?_
        refine W_nil ?_
        obtain rfl : t = n := by omega
        refine W_again (k + 1) (by omega) (by omega) (sub_cons rfl (sub_cons rfl (sub_cons rfl (sub_cons rfl (sub_cons rfl (sub_nil _)))))) rfl (by simp only [fold_succ, ← hp]; rw [hq]; exact .refl _)
    · skip
      refine W_exit rfl ?_
      refine W_blk ?_
      refine W_region ?_
      refine W_move rfl rfl ?_
      refine W_bin rfl rfl (b_add (m := ((i + 1 : Nat) : Int)) ((i64w (by omega)).trans (by omega))) rfl ?_
      refine W_assign rfl rfl ?_
      refine W_nil ?_
      obtain rfl : k = n := by omega
      refine W_again (i + 1) (by omega) (by omega) (sub_cons rfl (sub_cons rfl (sub_cons rfl (sub_cons rfl (sub_nil _))))) rfl (by show Go.Sl.HSub _ ((b12, .cells 4 64 (bools (sweepB (edge l) k (roundsB (edge l) k i (initB k))))) :: H); rw [← ho, hp]; exact .refl _)
  · skip
    refine W_exit rfl ?_
    refine W_sr ?_
    refine W_move rfl rfl ?_
    refine W_assign rfl rfl ?_
    refine W_nil ?_
    refine W_ret1m (H2 := (b12, .cells 4 64 (bools o)) :: H) Tryd.results32 rfl (.nil _) (by repeat (first | exact HSub.refl _ | refine HSub.cons (by repeat (first | exact Take.here _ | apply Take.next | apply Take.app)) ?_ | refine HSub.app (by repeat (first | exact TakeS.here _ | apply TakeS.next | apply TakeS.app)) ?_ | refine HSub.drop ?_ | refine HSub.dropS ?_ | exact HSub.nil _)) ?_
    obtain rfl : i = n := by omega
    exact ⟨b12, rfl, by rw [ho, show reachB l = roundsB (edge l) i i (initB i) by unfold reachB; rw [← hnn]]⟩
end Go.Proofs.YtpfoecmianohjaaDoor
