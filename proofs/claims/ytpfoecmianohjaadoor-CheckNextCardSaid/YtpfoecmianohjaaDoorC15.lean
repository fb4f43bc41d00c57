/-
  Own work: contracts of functions that the statement reaches, and plain facts on what they compute; each theorem says its conditions.
-/
import Derived.Test.YtpfoecmianohjaaDoorC14
set_option linter.all false
set_option linter.unusedSimpArgs false
set_option linter.unusedVariables false
namespace Go.Proofs.YtpfoecmianohjaaDoor
open Go Go.Sl
attribute [local irreducible] W

theorem has_mark {l : List Ins} {k : Nat} (h : k < 64) : hasN (reachN l) (k : Int) = (reachB l).getD k false := by
  unfold hasN goodB reachN
  rw [word_bit, Int.toNat_natCast, decide_eq_true (show (0 : Int) ≤ k by omega), decide_eq_true (show (k : Int) < 64 by omega)]
  rfl
set_option maxHeartbeats 4000000 in
theorem rcheck_q {w0 : World} {H : Heap} {l : List Ins} {s : Bool} {ad : Option Addr} {cap : Nat} (hl : InsOk l) (hn : l.length ≤ 1000000) (hrow : Holds w0 H ad (insRow l)) (hT : Tab w0) : PureAt Tryd.prog w0 H 24 [.slice ad l.length cap, .bool s] (.tuple #[.int .i64 (chkR l s).1, .int .i64 (chkR l s).2]) := by
  refine L_enter Tryd.func24 rfl Tryd.ntmps24 rfl rfl ?_
  refine W_sr ?_
  refine W_assign rfl rfl ?_
  refine W_assign rfl rfl ?_
  refine W_nil ?_
  refine W_seq ?_
  refine W_sr ?_
  refine W_move rfl rfl ?_
  refine W_len rfl ty43 rfl rfl ?_
  refine W_bin rfl rfl b_lss rfl ?_
  refine W_move rfl rfl ?_
  apply W_or
  iterate 4 exact rfl
  case h1 =>
    intro hg3
    refine W_gyes rfl rfl ?_
    refine W_move rfl rfl ?_
    refine W_gyes rfl rfl ?_
    refine W_len rfl ty43 rfl rfl ?_
    refine W_gyes rfl rfl ?_
    refine W_bin rfl rfl b_gtr rfl ?_
    exact W_met rfl (by repeat (first | exact .refl | refine .cons rfl ?_))
  refine W_nil ?_
  refine W_condPS (p := (l.length : Int) < 1 ∨ 64 < (l.length : Int)) rfl (by simp only [Bool.or_eq_true, decide_eq_true_eq]) (fun c0 => ?_) (fun c0 => ?_)
  · skip
    refine W_sr ?_
    refine W_assign rfl rfl ?_
    refine W_assign rfl rfl ?_
    refine W_nil ?_
    refine W_ret2m (H2 := H) Tryd.results24 rfl rfl (.nil _) (by repeat (first | exact HSub.refl _ | refine HSub.cons (by repeat (first | exact Take.here _ | apply Take.next | apply Take.app)) ?_ | refine HSub.app (by repeat (first | exact TakeS.here _ | apply TakeS.next | apply TakeS.app)) ?_ | refine HSub.drop ?_ | refine HSub.dropS ?_ | exact HSub.nil _)) ?_
    exact ⟨by rw [chkR_long (by omega)], rfl⟩
  · skip
    refine W_skip ?_
    refine W_seq ?_
    refine W_sr ?_
    refine W_assign rfl rfl ?_
    refine W_nil ?_
    refine W_block ?_
    refine W_loopD (X := Nat) (fun i => [(0, .slice ad l.length cap), (1, .bool s), (6, .int .i64 (i : Int))]) (fun _ => []) (fun _ => H) (fun i => i ≤ l.length ∧ ∀ k, k < i → lookE l s 0 k = 0) (fun i => l.length - i) 0 ⟨by omega, fun k hk => absurd hk (by omega)⟩ (sub_cons rfl (sub_cons rfl (sub_cons rfl (sub_nil _)))) rfl (by repeat (first | exact HSub.refl _ | refine HSub.cons (by repeat (first | exact Take.here _ | apply Take.next | apply Take.app)) ?_ | refine HSub.app (by repeat (first | exact TakeS.here _ | apply TakeS.next | apply TakeS.app)) ?_ | refine HSub.drop ?_ | refine HSub.dropS ?_ | exact HSub.nil _)) ?_
    rintro i ⟨hi, hno⟩
    refine W_seq ?_
    refine W_sr ?_
    refine W_move rfl rfl ?_
    refine W_move rfl rfl ?_
    refine W_len rfl ty43 rfl rfl ?_
    refine W_bin rfl rfl b_lss rfl ?_
    refine W_nil ?_
    refine W_condPS (p := (i : Int) < (l.length : Int)) rfl (by simp) (fun c1 => ?_) (fun c1 => ?_)
    · skip
      refine W_skip ?_
      refine W_seq ?_
      refine W_block ?_
      refine W_sr ?_
      have hil : i < l.length := by omega
      obtain ⟨x, hx⟩ : ∃ x, l[i]? = some x := ⟨_, List.getElem?_eq_getElem hil⟩
      have hxo := hl x (List.mem_of_getElem? hx)
      obtain ⟨b, o, rfl, hc⟩ := hrow.row cells_len (by decide) hx
      refine W_move rfl rfl ?_
      refine W_move rfl rfl ?_
      refine W_indexAddr (j := i) rfl rfl ty43 ty59 rfl (by omega) rfl rfl ?_
      refine W_loadA rfl ty59 rfl (vs := [.int .i64 x.op, .int .i64 x.dst, .int .i64 x.src, .int .i64 x.off, .int .i64 x.imm]) rfl hc rfl ?_
      refine W_callp (.cons rfl .nil) Tryd.call46 rfl hT (refChk_pure _) ?_
      refine W_assign rfl rfl ?_
      refine W_nil ?_
      refine W_sr ?_
      refine W_move rfl rfl ?_
      refine W_bin rfl rfl b_neq rfl ?_
      refine W_nil ?_
      refine W_condPS (p := refChk x ≠ 0) rfl (by simp) (fun c2 => ?_) (fun c2 => ?_)
      · skip
        refine W_sr ?_
        refine W_move rfl rfl ?_
        refine W_move rfl rfl ?_
        refine W_assign rfl rfl ?_
        refine W_assign rfl rfl ?_
        refine W_nil ?_
        refine W_ret2m (H2 := H) Tryd.results24 rfl rfl (.nil _) (by repeat (first | exact HSub.refl _ | refine HSub.cons (by repeat (first | exact Take.here _ | apply Take.next | apply Take.app)) ?_ | refine HSub.app (by repeat (first | exact TakeS.here _ | apply TakeS.next | apply TakeS.app)) ?_ | refine HSub.drop ?_ | refine HSub.dropS ?_ | exact HSub.nil _)) ?_
        exact ⟨by rw [chkR_found (j := 0) (by omega) (by omega) (fun j hj => absurd hj (by omega)) hil (by rw [look0 hx, chk_eq]; exact c2) hno, look0 hx, chk_eq], rfl⟩
      · skip
        refine W_skip ?_
        refine W_blk ?_
        refine W_region ?_
        refine W_move rfl rfl ?_
        refine W_bin rfl rfl (b_add (m := ((i + 1 : Nat) : Int)) ((i64w (by omega)).trans (by omega))) rfl ?_
        refine W_assign rfl rfl ?_
        refine W_nil ?_
        refine W_again (i + 1) ⟨by omega, fun k hk => by rcases Nat.lt_or_ge k i with h | h; exact hno k h; obtain rfl : k = i := (by omega); rw [look0 hx, chk_eq]; exact Decidable.not_not.1 c2⟩ (by omega) (sub_cons rfl (sub_cons rfl (sub_cons rfl (sub_nil _)))) rfl (by repeat (first | exact HSub.refl _ | refine HSub.cons (by repeat (first | exact Take.here _ | apply Take.next | apply Take.app)) ?_ | refine HSub.app (by repeat (first | exact TakeS.here _ | apply TakeS.next | apply TakeS.app)) ?_ | refine HSub.drop ?_ | refine HSub.dropS ?_ | exact HSub.nil _))
    · skip
      refine W_exit rfl ?_
      refine W_seq ?_
      refine W_sr ?_
      refine W_assign rfl rfl ?_
      refine W_nil ?_
      refine W_block ?_
      have hall0 : ∀ k, k < l.length → lookE l s 0 k = 0 := fun k hk => by obtain rfl : i = l.length := (by omega); exact hno k hk
      refine W_loopD (X := Nat) (fun i => [(0, .slice ad l.length cap), (1, .bool s), (8, .int .i64 (i : Int))]) (fun _ => []) (fun _ => H) (fun i => i ≤ l.length ∧ ∀ k, k < i → lookE l s 1 k = 0) (fun i => l.length - i) 0 ⟨by omega, fun k hk => absurd hk (by omega)⟩ (sub_cons rfl (sub_cons rfl (sub_cons rfl (sub_nil _)))) rfl (by repeat (first | exact HSub.refl _ | refine HSub.cons (by repeat (first | exact Take.here _ | apply Take.next | apply Take.app)) ?_ | refine HSub.app (by repeat (first | exact TakeS.here _ | apply TakeS.next | apply TakeS.app)) ?_ | refine HSub.drop ?_ | refine HSub.dropS ?_ | exact HSub.nil _)) ?_
      rintro i ⟨hi, hno⟩
      refine W_seq ?_
      refine W_sr ?_
      refine W_move rfl rfl ?_
      refine W_move rfl rfl ?_
      refine W_len rfl ty43 rfl rfl ?_
      refine W_bin rfl rfl b_lss rfl ?_
      refine W_nil ?_
      refine W_condPS (p := (i : Int) < (l.length : Int)) rfl (by simp) (fun c2 => ?_) (fun c2 => ?_)
      · skip
        refine W_skip ?_
        refine W_seq ?_
        refine W_block ?_
        refine W_sr ?_
        have hil : i < l.length := by omega
        obtain ⟨x, hx⟩ : ∃ x, l[i]? = some x := ⟨_, List.getElem?_eq_getElem hil⟩
        have hxo := hl x (List.mem_of_getElem? hx)
        refine W_move rfl rfl ?_
        refine W_move rfl rfl ?_
        refine W_move rfl rfl ?_
        refine W_callq (.cons rfl (.cons rfl (.cons rfl .nil))) Tryd.call47 rfl (rwrong_q rfl hn hil hx hxo hrow hT) ?_
        refine W_assign rfl rfl ?_
        refine W_nil ?_
        refine W_sr ?_
        refine W_move rfl rfl ?_
        refine W_bin rfl rfl b_neq rfl ?_
        refine W_nil ?_
        refine W_condPS (p := rwrongE x l.length i s ≠ 0) rfl (by simp) (fun c3 => ?_) (fun c3 => ?_)
        · skip
          refine W_sr ?_
          refine W_move rfl rfl ?_
          refine W_move rfl rfl ?_
          refine W_assign rfl rfl ?_
          refine W_assign rfl rfl ?_
          refine W_nil ?_
          refine W_ret2m (H2 := H) Tryd.results24 rfl rfl (.nil _) (by repeat (first | exact HSub.refl _ | refine HSub.cons (by repeat (first | exact Take.here _ | apply Take.next | apply Take.app)) ?_ | refine HSub.app (by repeat (first | exact TakeS.here _ | apply TakeS.next | apply TakeS.app)) ?_ | refine HSub.drop ?_ | refine HSub.dropS ?_ | exact HSub.nil _)) ?_
          exact ⟨by rw [chkR_found (j := 1) (by omega) (by omega) (fun j hj k hk => by obtain rfl : j = 0 := (by omega); exact hall0 k hk) hil (by rw [look1 hx, wrong_eq]; exact c3) hno, look1 hx, wrong_eq], rfl⟩
        · skip
          refine W_skip ?_
          refine W_blk ?_
          refine W_region ?_
          refine W_move rfl rfl ?_
          refine W_bin rfl rfl (b_add (m := ((i + 1 : Nat) : Int)) ((i64w (by omega)).trans (by omega))) rfl ?_
          refine W_assign rfl rfl ?_
          refine W_nil ?_
          refine W_again (i + 1) ⟨by omega, fun k hk => by rcases Nat.lt_or_ge k i with h | h; exact hno k h; obtain rfl : k = i := (by omega); rw [look1 hx, wrong_eq]; exact Decidable.not_not.1 c3⟩ (by omega) (sub_cons rfl (sub_cons rfl (sub_cons rfl (sub_nil _)))) rfl (by repeat (first | exact HSub.refl _ | refine HSub.cons (by repeat (first | exact Take.here _ | apply Take.next | apply Take.app)) ?_ | refine HSub.app (by repeat (first | exact TakeS.here _ | apply TakeS.next | apply TakeS.app)) ?_ | refine HSub.drop ?_ | refine HSub.dropS ?_ | exact HSub.nil _))
      · skip
        refine W_exit rfl ?_
        refine W_sr ?_
        refine W_move rfl rfl ?_
        refine W_call (.cons rfl .nil) Tryd.call32 rfl (rreach_L l (by omega) hrow hT) ?_
        rintro v H' ⟨br, rfl, rfl⟩
        refine W_assign rfl rfl ?_
        refine W_nil ?_
        refine W_seq ?_
        refine W_sr ?_
        refine W_assign rfl rfl ?_
        refine W_nil ?_
        refine W_block ?_
        have hall1 : ∀ k, k < l.length → lookE l s 1 k = 0 := fun k hk => by obtain rfl : i = l.length := (by omega); exact hno k hk
        refine W_loopD (X := Nat) (fun i => [(0, .slice ad l.length cap), (1, .bool s), (10, .slice (some ⟨br, 0, none⟩) 64 64), (11, .int .i64 (i : Int))]) (fun _ => []) (fun _ => (br, .cells 4 64 (bools (reachB l))) :: H) (fun i => i ≤ l.length ∧ ∀ k, k < i → lookE l s 2 k = 0) (fun i => l.length - i) 0 ⟨by omega, fun k hk => absurd hk (by omega)⟩ (sub_cons rfl (sub_cons rfl (sub_cons rfl (sub_cons rfl (sub_nil _))))) rfl (by repeat (first | exact HSub.refl _ | refine HSub.cons (by repeat (first | exact Take.here _ | apply Take.next | apply Take.app)) ?_ | refine HSub.app (by repeat (first | exact TakeS.here _ | apply TakeS.next | apply TakeS.app)) ?_ | refine HSub.drop ?_ | refine HSub.dropS ?_ | exact HSub.nil _)) ?_
        rintro i ⟨hi, hno⟩
        refine W_seq ?_
        refine W_sr ?_
        refine W_move rfl rfl ?_
        refine W_move rfl rfl ?_
        refine W_len rfl ty43 rfl rfl ?_
        refine W_bin rfl rfl b_lss rfl ?_
        refine W_nil ?_
        refine W_condPS (p := (i : Int) < (l.length : Int)) rfl (by simp) (fun c3 => ?_) (fun c3 => ?_)
        · skip
          refine W_skip ?_
          refine W_seq ?_
          refine W_block ?_
          refine W_sr ?_
          have hil : i < l.length := by omega
          refine W_move rfl rfl ?_
          refine W_move rfl rfl ?_
          refine W_indexAddr (j := i) rfl rfl ty57 ty4 rfl (by omega) rfl rfl ?_
          refine W_load rfl ty4 rfl (Cell.own (by repeat (first | exact List.mem_cons_self | apply List.mem_cons_of_mem | apply List.mem_append_right)) (by rw [Nat.zero_add, Nat.mul_one]; exact bools_getD (by rw [reachB_len]; omega))) rfl ?_
          refine W_not rfl rfl ?_
          refine W_nil ?_
          refine W_condS rfl (fun c4 => ?_) (fun c4 => ?_)
          · skip
            refine W_sr ?_
            refine W_move rfl rfl ?_
            refine W_assign rfl rfl ?_
            refine W_assign rfl rfl ?_
            refine W_nil ?_
            refine W_ret2m (H2 := H) Tryd.results24 rfl rfl (.nil _) (by repeat (first | exact HSub.refl _ | refine HSub.cons (by repeat (first | exact Take.here _ | apply Take.next | apply Take.app)) ?_ | refine HSub.app (by repeat (first | exact TakeS.here _ | apply TakeS.next | apply TakeS.app)) ?_ | refine HSub.drop ?_ | refine HSub.dropS ?_ | exact HSub.nil _)) ?_
            have c4 : (reachB l).getD i false = false := by simpa using c4
            exact ⟨by rw [chkR_found (j := 2) (by omega) (by omega) (fun j hj k hk => by rcases (show j = 0 ∨ j = 1 by omega) with rfl | rfl; exact hall0 k hk; exact hall1 k hk) hil (by rw [look2, has_mark (by omega), c4]; decide) hno, look2, has_mark (by omega), c4]; rfl, rfl⟩
          · skip
            refine W_skip ?_
            refine W_blk ?_
            refine W_region ?_
            refine W_move rfl rfl ?_
            refine W_bin rfl rfl (b_add (m := ((i + 1 : Nat) : Int)) ((i64w (by omega)).trans (by omega))) rfl ?_
            refine W_assign rfl rfl ?_
            refine W_nil ?_
            refine W_again (i + 1) ⟨by omega, fun k hk => by rcases Nat.lt_or_ge k i with h | h; exact hno k h; obtain rfl : k = i := (by omega); have c4 : (reachB l).getD k false = true := (by simpa using c4); rw [look2, has_mark (by omega), c4]; rfl⟩ (by omega) (sub_cons rfl (sub_cons rfl (sub_cons rfl (sub_cons rfl (sub_nil _))))) rfl (by repeat (first | exact HSub.refl _ | refine HSub.cons (by repeat (first | exact Take.here _ | apply Take.next | apply Take.app)) ?_ | refine HSub.app (by repeat (first | exact TakeS.here _ | apply TakeS.next | apply TakeS.app)) ?_ | refine HSub.drop ?_ | refine HSub.dropS ?_ | exact HSub.nil _))
        · skip
          refine W_exit rfl ?_
          refine W_sr ?_
          refine W_assign rfl rfl ?_
          refine W_assign rfl rfl ?_
          refine W_nil ?_
          refine W_ret2m (H2 := H) Tryd.results24 rfl rfl (.nil _) (by repeat (first | exact HSub.refl _ | refine HSub.cons (by repeat (first | exact Take.here _ | apply Take.next | apply Take.app)) ?_ | refine HSub.app (by repeat (first | exact TakeS.here _ | apply TakeS.next | apply TakeS.app)) ?_ | refine HSub.drop ?_ | refine HSub.dropS ?_ | exact HSub.nil _)) ?_
          obtain rfl : i = l.length := by omega
          exact ⟨by rw [chkR_right (by omega) (fun j hj k hk => by rcases (show j = 0 ∨ j = 1 ∨ j = 2 by omega) with rfl | rfl | rfl; exact hall0 k hk; exact hall1 k hk; exact hno k hk)], rfl⟩
end Go.Proofs.YtpfoecmianohjaaDoor
