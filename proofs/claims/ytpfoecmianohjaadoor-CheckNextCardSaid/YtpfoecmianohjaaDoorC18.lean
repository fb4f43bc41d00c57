/-
  Own work: contracts of functions that the statement reaches, and plain facts on what they compute; each theorem says its conditions.
-/
import Derived.Test.YtpfoecmianohjaaDoorC17
set_option linter.all false
set_option linter.unusedSimpArgs false
set_option linter.unusedVariables false
namespace Go.Proofs.YtpfoecmianohjaaDoor
open Go Go.Sl
attribute [local irreducible] W

/-! ## What comes behind, and is reached, and is named -/
theorem same_true {w0 : World} {H : Heap} {l r : List Int} {a1 a2 : Option Addr} {c1 c2 : Nat} (h : l = r) (hl : Holds w0 H a1 (i64s l)) (hr : Holds w0 H a2 (i64s r)) (hn : l.length ≤ 4611686018427387904) (hT : Tab w0) :
    PureAt Tryd.prog w0 H 27 [.slice a1 l.length c1, .slice a2 r.length c2] (.bool true) := by
  have := same_q (c1 := c1) (c2 := c2) l r hl hr hn hT
  rwa [decide_eq_true h] at this
def helpStep (o : List Bool) (x : Ins) : List Bool := bif decide (x.op = 72) && helpB x.imm then o.set x.imm.toNat true else o
def helpsL (l : List Ins) : List Bool := l.foldl helpStep (List.replicate 64 false)
theorem helpStep_len (o : List Bool) (x : Ins) : (helpStep o x).length = o.length := by unfold helpStep; cases decide (x.op = 72) && helpB x.imm <;> simp
theorem helps_len : ∀ (l : List Ins) (o : List Bool), (l.foldl helpStep o).length = o.length
  | [], _ => rfl
  | x :: l, o => by rw [List.foldl_cons, helps_len l, helpStep_len]
theorem helps_word : ∀ (l : List Ins) (o : List Bool) (m : Nat), o.length = 64 → (∀ i, m.testBit i = o.getD i false) → ∀ i, (l.foldl (fun m x => bif helpB x.imm && decide (x.op = 72) then m ||| bitN x.imm else m) m).testBit i = (l.foldl helpStep o).getD i false
  | [], _, _, _, h, i => h i
  | x :: l, o, m, ho, h, i => by
    rw [List.foldl_cons, List.foldl_cons]
    refine helps_word l _ _ (by rw [helpStep_len, ho]) (fun k => ?_) i
    unfold helpStep
    rw [Bool.and_comm (decide (x.op = 72))]
    cases hc : helpB x.imm && decide (x.op = 72) with
    | false => exact h k
    | true =>
      have hz : 0 ≤ x.imm ∧ x.imm < 64 := by
        simp only [Bool.and_eq_true] at hc
        have := hc.1; unfold helpB at this; simp at this; omega
      show (m ||| bitN x.imm).testBit k = (o.set x.imm.toNat true).getD k false
      rw [bit_or hz, getD_set, h k, ho, decide_eq_true (show x.imm.toNat < 64 by omega)]
      by_cases e : k = x.imm.toNat
      · rw [decide_eq_true e]; simp
      · rw [decide_eq_false e]; simp
theorem helps_eq (l : List Ins) : wordN (helpsL l) = callsN l := by
  refine Nat.eq_of_testBit_eq fun i => ?_
  rw [word_bit]
  exact (helps_word l (List.replicate 64 false) 0 (by simp) (fun i => by rw [repl_getD]; simp) i).symm
theorem word_q64 {w0 : World} {H : Heap} (l : List Bool) {ad : Option Addr} {cap : Nat} (hl : l.length = 64) (hrow : Holds w0 H ad (bools l)) (hT : Tab w0) : PureAt Tryd.prog w0 H 31 [.slice ad 64 cap] (.int .u64 ((wordN l : Nat) : Int)) := by
  have h := word_q (cap := cap) l hl hrow hT
  rwa [hl] at h
theorem bools_set' (o : List Bool) (t : Nat) : (bools o).set t (.bool true) = bools (o.set t true) := bools_set o t
set_option maxHeartbeats 4000000 in
theorem checkNext_pure {at_ : Int} (hat : I64 at_) {l : List Ins} {ad : Option Addr} {cap : Nat} (hl : InsOk l) (hcap : l.length ≤ cap) : Pure Tryd.prog (fun w => Tab w ∧ InRow w ad (insRow l)) 11 [.slice ad l.length cap, .int .i64 at_] (.bool true) := by
  intro w0 H hT
  have hTT := hT
  clear hT
  obtain ⟨hT, hrow0⟩ := hTT
  obtain ⟨c, hc⟩ : ∃ c, c = l.take 70 := ⟨_, rfl⟩
  have hce : c.take ((70 : Int)).toNat = c := List.take_of_length_le (by rw [hc, List.length_take]; omega)
  have hcl : c.length = min 70 l.length := by rw [hc, List.length_take]
  have hcok : InsOk c := by rw [hc]; exact fun x hx => hl x (List.mem_of_mem_take hx)
  have hrow : Holds w0 H ad (insRow c) := by rw [hc]; exact insRow_take (Holds.old hrow0) 70
  refine L_enter Tryd.func11 rfl Tryd.ntmps11 rfl rfl ?_
  refine W_sr ?_
  refine W_assign rfl rfl ?_
  refine W_nil ?_
  refine W_sr ?_
  refine W_move rfl rfl ?_
  refine W_move rfl rfl ?_
  refine W_len rfl ty43 rfl rfl ?_
  refine W_min2 rfl rfl (m := (c.length : Int)) (by rw [hcl]; split <;> omega) rfl ?_
  refine W_slice0 (hh := c.length) rfl ty43 ty59 rfl ⟨_, rfl⟩ (by omega) rfl ?_
  refine W_assign rfl rfl ?_
  refine W_nil ?_
  refine W_sr ?_
  refine W_move rfl rfl ?_
  refine W_call (.cons rfl (.cons rfl .nil)) Tryd.call26 rfl (code_L c 70 (by omega) (hrow.up (by repeat (first | exact HSub.refl _ | refine HSub.cons (by repeat (first | exact Take.here _ | apply Take.next | apply Take.app)) ?_ | refine HSub.app (by repeat (first | exact TakeS.here _ | apply TakeS.next | apply TakeS.app)) ?_ | refine HSub.drop ?_ | refine HSub.dropS ?_ | exact HSub.nil _))) hT) ?_
  rintro v H' ⟨HBc, hOc, rfl⟩
  rw [show c.take ((70 : Int)).toNat = c from hce] at hOc
  obtain ⟨adc, capc, rfl, hcc, hcm, _⟩ := Holds.of_own (w0 := w0) (H := HBc ++ H) hOc (fun p hp => List.mem_append_left _ hp)
  have hrc : ∀ {H'}, HSub H' (HBc ++ H) → Holds w0 H' adc (insRow c) := fun hs => by
    obtain ⟨ad', cap', he, _, _, hh⟩ := Holds.of_own (w0 := w0) (H := HBc ++ H) hOc (fun p hp => List.mem_append_left _ hp)
    cases he; exact hh.up hs
  refine W_assign rfl rfl ?_
  refine W_nil ?_
  refine W_seq ?_
  refine W_sr ?_
  refine W_assign rfl rfl ?_
  refine W_nil ?_
  refine W_block ?_
  refine W_loopD (X := Nat) (fun i => [(0, .slice ad c.length cap), (1, .int .i64 at_), (4, .bool false), (5, .slice adc c.length capc), (6, .int .i64 (i : Int))]) (fun _ => []) (fun _ => HBc ++ H) (fun i => i ≤ c.length) (fun i => c.length - i) 0 (by omega) (sub_cons rfl (sub_cons rfl (sub_cons rfl (sub_cons rfl (sub_cons rfl (sub_nil _)))))) rfl (by repeat (first | exact HSub.refl _ | refine HSub.cons (by repeat (first | exact Take.here _ | apply Take.next | apply Take.app)) ?_ | refine HSub.app (by repeat (first | exact TakeS.here _ | apply TakeS.next | apply TakeS.app)) ?_ | refine HSub.drop ?_ | refine HSub.dropS ?_ | exact HSub.nil _)) ?_
  intro i hi
  refine W_seq ?_
  refine W_sr ?_
  refine W_move rfl rfl ?_
  refine W_move rfl rfl ?_
  refine W_len rfl ty43 rfl rfl ?_
  refine W_bin rfl rfl b_lss rfl ?_
  refine W_nil ?_
  refine W_condPS (p := (i : Int) < (c.length : Int)) rfl (by simp) (fun c0 => ?_) (fun c0 => ?_)
  · skip
    refine W_skip ?_
    refine W_seq ?_
    refine W_block ?_
    refine W_sr ?_
    refine W_move rfl rfl ?_
    refine W_move rfl rfl ?_
    refine W_call (.cons rfl (.cons rfl .nil)) Tryd.call28 rfl (next_L c i ⟨by omega, by omega⟩ (hrc (by repeat (first | exact HSub.refl _ | refine HSub.cons (by repeat (first | exact Take.here _ | apply Take.next | apply Take.app)) ?_ | refine HSub.app (by repeat (first | exact TakeS.here _ | apply TakeS.next | apply TakeS.app)) ?_ | refine HSub.drop ?_ | refine HSub.dropS ?_ | exact HSub.nil _))) hT) ?_
    rintro v1 H' ⟨HB1, hO1, rfl⟩
    obtain ⟨ad1, cap1, rfl, _, hmx1, _⟩ := Holds.of_own (w0 := w0) (H := HB1 ++ H) hO1 (fun p hp => List.mem_append_left _ hp)
    refine W_move rfl rfl ?_
    refine W_move rfl rfl ?_
    refine W_call (.cons rfl (.cons rfl .nil)) Tryd.call29 rfl (rnext_L c i (by omega) (hrow.up (by repeat (first | exact HSub.refl _ | refine HSub.cons (by repeat (first | exact Take.here _ | apply Take.next | apply Take.app)) ?_ | refine HSub.app (by repeat (first | exact TakeS.here _ | apply TakeS.next | apply TakeS.app)) ?_ | refine HSub.drop ?_ | refine HSub.dropS ?_ | exact HSub.nil _))) hT) ?_
    rintro v2 H' ⟨HB2, hO2, rfl⟩
    obtain ⟨ad2, cap2, rfl, _, hmx2, _⟩ := Holds.of_own (w0 := w0) (H := HB2 ++ H) hO2 (fun p hp => List.mem_append_left _ hp)
    refine W_callq (.cons rfl (.cons rfl .nil)) Tryd.call27 rfl (same_true (next_eq hcok (by omega) i) (by obtain ⟨a, b, e, _, _, hh⟩ := Holds.of_own (w0 := w0) (H := HB1 ++ []) hO1 (fun p hp => List.mem_append_left _ hp); cases e; exact hh.up (by repeat (first | exact HSub.refl _ | refine HSub.cons (by repeat (first | exact Take.here _ | apply Take.next | apply Take.app)) ?_ | refine HSub.app (by repeat (first | exact TakeS.here _ | apply TakeS.next | apply TakeS.app)) ?_ | refine HSub.drop ?_ | refine HSub.dropS ?_ | exact HSub.nil _))) (by obtain ⟨a, b, e, _, _, hh⟩ := Holds.of_own (w0 := w0) (H := HB2 ++ []) hO2 (fun p hp => List.mem_append_left _ hp); cases e; exact hh.up (by repeat (first | exact HSub.refl _ | refine HSub.cons (by repeat (first | exact Take.here _ | apply Take.next | apply Take.app)) ?_ | refine HSub.app (by repeat (first | exact TakeS.here _ | apply TakeS.next | apply TakeS.app)) ?_ | refine HSub.drop ?_ | refine HSub.dropS ?_ | exact HSub.nil _))) (Nat.le_trans (nextL_len _ _) (by decide)) hT) ?_
    refine W_not rfl rfl ?_
    refine W_nil ?_
    refine W_condF rfl rfl ?_
    refine W_skip ?_
    refine W_blk ?_
    refine W_region ?_
    refine W_move rfl rfl ?_
    refine W_bin rfl rfl (b_add (m := ((i + 1 : Nat) : Int)) ((i64w (by omega)).trans (by omega))) rfl ?_
    refine W_assign rfl rfl ?_
    refine W_nil ?_
    refine W_again (i + 1) (by omega) (by omega) (sub_cons rfl (sub_cons rfl (sub_cons rfl (sub_cons rfl (sub_cons rfl (sub_nil _)))))) rfl (by repeat (first | exact HSub.refl _ | refine HSub.cons (by repeat (first | exact Take.here _ | apply Take.next | apply Take.app)) ?_ | refine HSub.app (by repeat (first | exact TakeS.here _ | apply TakeS.next | apply TakeS.app)) ?_ | refine HSub.drop ?_ | refine HSub.dropS ?_ | exact HSub.nil _))
  · skip
    refine W_exit rfl ?_
    refine W_sr ?_
    refine W_makeSlice (ln := 64) (cp := 64) (l := bools (List.replicate 64 false)) rfl rfl ty57 ty4 rfl rfl (by decide) (by decide) (by decide) (by simp [toList_madeCells_one, bools, Value.cells]) rfl (fun b33 => ?_)
    refine W_assign rfl rfl ?_
    refine W_nil ?_
    refine W_seq ?_
    refine W_sr ?_
    refine W_assign rfl rfl ?_
    refine W_nil ?_
    refine W_block ?_
    refine W_loopD (X := Nat) (fun i => [(0, .slice ad c.length cap), (1, .int .i64 at_), (4, .bool false), (5, .slice adc c.length capc), (7, .slice (some ⟨b33, 0, none⟩) 64 64), (8, .int .i64 (i : Int))]) (fun _ => []) (fun i => (b33, .cells 4 64 (bools (helpsL (c.take i)))) :: (HBc ++ H)) (fun i => i ≤ c.length) (fun i => c.length - i) 0 (by omega) (sub_cons rfl (sub_cons rfl (sub_cons rfl (sub_cons rfl (sub_cons rfl (sub_cons rfl (sub_nil _))))))) rfl (by repeat (first | exact HSub.refl _ | refine HSub.cons (by repeat (first | exact Take.here _ | apply Take.next | apply Take.app)) ?_ | refine HSub.app (by repeat (first | exact TakeS.here _ | apply TakeS.next | apply TakeS.app)) ?_ | refine HSub.drop ?_ | refine HSub.dropS ?_ | exact HSub.nil _)) ?_
    intro i hi
    obtain ⟨o, ho⟩ : ∃ o, o = helpsL (c.take i) := ⟨_, rfl⟩
    have hol : o.length = 64 := by rw [ho, helpsL, helps_len]; simp
    simp only [← ho]
    refine W_seq ?_
    refine W_sr ?_
    refine W_move rfl rfl ?_
    refine W_move rfl rfl ?_
    refine W_len rfl ty43 rfl rfl ?_
    refine W_bin rfl rfl b_lss rfl ?_
    refine W_nil ?_
    refine W_condPS (p := (i : Int) < (c.length : Int)) rfl (by simp) (fun c1 => ?_) (fun c1 => ?_)
    · skip
      refine W_skip ?_
      refine W_seq ?_
      refine W_block ?_
      refine W_sr ?_
      obtain ⟨x, hx⟩ : ∃ x, c[i]? = some x := ⟨_, List.getElem?_eq_getElem (by omega)⟩
      have hxo := hcok x (List.mem_of_getElem? hx)
      obtain ⟨b, o', rfl, hcx⟩ := hrow.row cells_len (by decide) hx
      refine W_move rfl rfl ?_
      refine W_move rfl rfl ?_
      refine W_indexAddr (j := i) rfl rfl ty43 ty59 rfl (by omega) rfl rfl ?_
      refine W_fieldAddr rfl fld59_4 (by decide) rfl ?_
      refine W_load rfl ty3 rfl (v := .int .i64 x.imm) ((hcx 4 _ rfl).up (by repeat (first | exact HSub.refl _ | refine HSub.cons (by repeat (first | exact Take.here _ | apply Take.next | apply Take.app)) ?_ | refine HSub.app (by repeat (first | exact TakeS.here _ | apply TakeS.next | apply TakeS.app)) ?_ | refine HSub.drop ?_ | refine HSub.dropS ?_ | exact HSub.nil _))) rfl ?_
      refine W_callp (.cons rfl .nil) Tryd.call22 rfl hT (refHelper_pure _ hxo.imm) ?_
      refine W_move rfl rfl ?_
      refine W_extract rfl rfl rfl ?_
      refine W_extract rfl rfl rfl ?_
      refine W_extract rfl rfl rfl ?_
      refine W_assign rfl rfl ?_
      refine W_assign rfl rfl ?_
      refine W_assign rfl rfl ?_
      refine W_nil ?_
      refine W_sr ?_
      refine W_move rfl rfl ?_
      refine W_move rfl rfl ?_
      refine W_indexAddr (j := i) rfl rfl ty43 ty59 rfl (by omega) rfl rfl ?_
      refine W_fieldAddr rfl fld59_0 (by decide) rfl ?_
      refine W_load rfl ty3 rfl (v := .int .i64 x.op) ((hcx 0 _ rfl).up (by repeat (first | exact HSub.refl _ | refine HSub.cons (by repeat (first | exact Take.here _ | apply Take.next | apply Take.app)) ?_ | refine HSub.app (by repeat (first | exact TakeS.here _ | apply TakeS.next | apply TakeS.app)) ?_ | refine HSub.drop ?_ | refine HSub.dropS ?_ | exact HSub.nil _))) rfl ?_
      refine W_bin rfl rfl b_eql rfl ?_
      refine W_move rfl rfl ?_
      apply W_and
      iterate 4 exact rfl
      case h1 =>
        intro hg6
        refine W_gyes rfl rfl ?_
        refine W_move rfl rfl ?_
        exact W_met rfl (by repeat (first | exact .refl | refine .cons rfl ?_))
      refine W_nil ?_
      refine W_condS rfl (fun c2 => ?_) (fun c2 => ?_)
      · skip
        refine W_region ?_
        refine W_move rfl rfl ?_
        refine W_move rfl rfl ?_
        refine W_move rfl rfl ?_
        refine W_indexAddr (j := i) rfl rfl ty43 ty59 rfl (by omega) rfl rfl ?_
        refine W_fieldAddr rfl fld59_4 (by decide) rfl ?_
        refine W_load rfl ty3 rfl (v := .int .i64 x.imm) ((hcx 4 _ rfl).up (by repeat (first | exact HSub.refl _ | refine HSub.cons (by repeat (first | exact Take.here _ | apply Take.next | apply Take.app)) ?_ | refine HSub.app (by repeat (first | exact TakeS.here _ | apply TakeS.next | apply TakeS.app)) ?_ | refine HSub.drop ?_ | refine HSub.dropS ?_ | exact HSub.nil _))) rfl ?_
        have hh : 0 ≤ x.imm ∧ x.imm < 64 := by
          have := c2; simp only [Bool.and_eq_true] at this
          have := this.2; unfold helpB at this; simp at this; omega
        refine W_indexAddr (j := x.imm.toNat) rfl rfl ty57 ty4 (by omega) (by omega) rfl rfl ?_
        refine W_store (l := bools o) (l' := bools (o.set x.imm.toNat true)) rfl rfl ty4 rfl rfl (by repeat (first | exact List.mem_cons_self | apply List.mem_cons_of_mem | apply List.mem_append_right)) (by rw [bools_len, Nat.blt_eq]; omega) (by rw [Nat.zero_add, Nat.mul_one]; exact bools_set o _) (by repeat (first | exact Upd.head _ | apply Upd.tail | apply Upd.app)) ?_
        refine W_nil ?_
        refine W_blk ?_
        refine W_region ?_
        refine W_move rfl rfl ?_
        refine W_bin rfl rfl (b_add (m := ((i + 1 : Nat) : Int)) ((i64w (by omega)).trans (by omega))) rfl ?_
        refine W_assign rfl rfl ?_
        refine W_nil ?_
        refine W_again (i + 1) (by omega) (by omega) (sub_cons rfl (sub_cons rfl (sub_cons rfl (sub_cons rfl (sub_cons rfl (sub_cons rfl (sub_nil _))))))) rfl (by rw [show helpsL (c.take (i + 1)) = helpStep o x by rw [ho]; exact foldl_at' hx]; unfold helpStep; rw [c2]; exact .refl _)
      · skip
        refine W_skip ?_
        refine W_blk ?_
        refine W_region ?_
        refine W_move rfl rfl ?_
        refine W_bin rfl rfl (b_add (m := ((i + 1 : Nat) : Int)) ((i64w (by omega)).trans (by omega))) rfl ?_
        refine W_assign rfl rfl ?_
        refine W_nil ?_
        refine W_again (i + 1) (by omega) (by omega) (sub_cons rfl (sub_cons rfl (sub_cons rfl (sub_cons rfl (sub_cons rfl (sub_cons rfl (sub_nil _))))))) rfl (by rw [show helpsL (c.take (i + 1)) = helpStep o x by rw [ho]; exact foldl_at' hx]; unfold helpStep; rw [c2]; exact .refl _)
    · skip
      refine W_exit rfl ?_
      refine W_sr ?_
      refine W_callp .nil Tryd.call23 rfl hT known17_pure ?_
      refine W_move rfl rfl ?_
      refine W_gyes rfl rfl ?_
      refine W_move rfl rfl ?_
      refine W_gyes rfl rfl ?_
      refine W_move rfl rfl ?_
      refine W_gyes rfl rfl ?_
      refine W_call (.cons rfl (.cons rfl .nil)) Tryd.call28 rfl (next_L c at_ hat (hrc (by repeat (first | exact HSub.refl _ | refine HSub.cons (by repeat (first | exact Take.here _ | apply Take.next | apply Take.app)) ?_ | refine HSub.app (by repeat (first | exact TakeS.here _ | apply TakeS.next | apply TakeS.app)) ?_ | refine HSub.drop ?_ | refine HSub.dropS ?_ | exact HSub.nil _))) hT) ?_
      rintro v3 H' ⟨HB3, hO3, rfl⟩
      obtain ⟨ad3, cap3, rfl, _, hmx3, _⟩ := Holds.of_own (w0 := w0) (H := HB3 ++ H) hO3 (fun p hp => List.mem_append_left _ hp)
      refine W_gyes rfl rfl ?_
      refine W_move rfl rfl ?_
      refine W_gyes rfl rfl ?_
      refine W_move rfl rfl ?_
      refine W_gyes rfl rfl ?_
      refine W_call (.cons rfl (.cons rfl .nil)) Tryd.call29 rfl (rnext_L c at_ (by omega) (hrow.up (by repeat (first | exact HSub.refl _ | refine HSub.cons (by repeat (first | exact Take.here _ | apply Take.next | apply Take.app)) ?_ | refine HSub.app (by repeat (first | exact TakeS.here _ | apply TakeS.next | apply TakeS.app)) ?_ | refine HSub.drop ?_ | refine HSub.dropS ?_ | exact HSub.nil _))) hT) ?_
      rintro v4 H' ⟨HB4, hO4, rfl⟩
      obtain ⟨ad4, cap4, rfl, _, hmx4, _⟩ := Holds.of_own (w0 := w0) (H := HB4 ++ H) hO4 (fun p hp => List.mem_append_left _ hp)
      refine W_gyes rfl rfl ?_
      refine W_callq (.cons rfl (.cons rfl .nil)) Tryd.call27 rfl (same_true (next_eq hcok (by omega) at_) (by obtain ⟨a, b, e, _, _, hh⟩ := Holds.of_own (w0 := w0) (H := HB3 ++ []) hO3 (fun p hp => List.mem_append_left _ hp); cases e; exact hh.up (by repeat (first | exact HSub.refl _ | refine HSub.cons (by repeat (first | exact Take.here _ | apply Take.next | apply Take.app)) ?_ | refine HSub.app (by repeat (first | exact TakeS.here _ | apply TakeS.next | apply TakeS.app)) ?_ | refine HSub.drop ?_ | refine HSub.dropS ?_ | exact HSub.nil _))) (by obtain ⟨a, b, e, _, _, hh⟩ := Holds.of_own (w0 := w0) (H := HB4 ++ []) hO4 (fun p hp => List.mem_append_left _ hp); cases e; exact hh.up (by repeat (first | exact HSub.refl _ | refine HSub.cons (by repeat (first | exact Take.here _ | apply Take.next | apply Take.app)) ?_ | refine HSub.app (by repeat (first | exact TakeS.here _ | apply TakeS.next | apply TakeS.app)) ?_ | refine HSub.drop ?_ | refine HSub.dropS ?_ | exact HSub.nil _))) (Nat.le_trans (nextL_len _ _) (by decide)) hT) ?_
      first | refine W_pickt rfl rfl rfl ?_ | refine W_pickf rfl rfl rfl ?_
      refine W_move rfl rfl ?_
      refine W_gyes rfl rfl ?_
      refine W_move rfl rfl ?_
      refine W_gyes rfl rfl ?_
      refine W_callq (.cons rfl .nil) Tryd.call30 rfl (reached_q c hcok (by omega) hcc (hrc (by repeat (first | exact HSub.refl _ | refine HSub.cons (by repeat (first | exact Take.here _ | apply Take.next | apply Take.app)) ?_ | refine HSub.app (by repeat (first | exact TakeS.here _ | apply TakeS.next | apply TakeS.app)) ?_ | refine HSub.drop ?_ | refine HSub.dropS ?_ | exact HSub.nil _))) hT) ?_
      refine W_gyes rfl rfl ?_
      refine W_move rfl rfl ?_
      refine W_gyes rfl rfl ?_
      refine W_call (.cons rfl .nil) Tryd.call32 rfl (rreach_L c (by omega) (hrow.up (by repeat (first | exact HSub.refl _ | refine HSub.cons (by repeat (first | exact Take.here _ | apply Take.next | apply Take.app)) ?_ | refine HSub.app (by repeat (first | exact TakeS.here _ | apply TakeS.next | apply TakeS.app)) ?_ | refine HSub.drop ?_ | refine HSub.dropS ?_ | exact HSub.nil _))) hT) ?_
      rintro v' H' ⟨br, rfl, rfl⟩
      refine W_gyes rfl rfl ?_
      refine W_callq (.cons rfl .nil) Tryd.call31 rfl (word_q64 (reachB c) (reachB_len c) (Holds.own (by repeat (first | exact List.mem_cons_self | apply List.mem_cons_of_mem | apply List.mem_append_right))) hT) ?_
      refine W_gyes rfl rfl ?_
      refine W_bin rfl rfl (r := .bool true) (fun P w => by have h := b_eql (q := .u64) (t := 22) (i := ((reachN c : Nat) : Int)) (j := ((reachN c : Nat) : Int)) P w; simp at h; exact h) rfl ?_
      first | refine W_pickt rfl rfl rfl ?_ | refine W_pickf rfl rfl rfl ?_
      refine W_move rfl rfl ?_
      refine W_gyes rfl rfl ?_
      refine W_move rfl rfl ?_
      refine W_gyes rfl rfl ?_
      refine W_callq (.cons rfl .nil) Tryd.call33 rfl (calls_q c hcok (by omega) (hrc (by repeat (first | exact HSub.refl _ | refine HSub.cons (by repeat (first | exact Take.here _ | apply Take.next | apply Take.app)) ?_ | refine HSub.app (by repeat (first | exact TakeS.here _ | apply TakeS.next | apply TakeS.app)) ?_ | refine HSub.drop ?_ | refine HSub.dropS ?_ | exact HSub.nil _))) hT) ?_
      refine W_gyes rfl rfl ?_
      refine W_move rfl rfl ?_
      refine W_gyes rfl rfl ?_
      refine W_callq (.cons rfl .nil) Tryd.call31 rfl (word_q64 o hol (Holds.own (by repeat (first | exact List.mem_cons_self | apply List.mem_cons_of_mem | apply List.mem_append_right))) hT) ?_
      refine W_gyes rfl rfl ?_
      have how : wordN o = callsN c := by rw [ho, List.take_of_length_le (by omega)]; exact helps_eq c
      rw [how]
      refine W_bin rfl rfl (b_eql) rfl ?_
      first | refine W_pickt rfl rfl rfl ?_ | refine W_pickf rfl rfl rfl ?_
      refine W_assign rfl rfl ?_
      refine W_nil ?_
      refine W_ret1m (H2 := H) Tryd.results11 rfl (.nil _) (by repeat (first | exact HSub.refl _ | refine HSub.cons (by repeat (first | exact Take.here _ | apply Take.next | apply Take.app)) ?_ | refine HSub.app (by repeat (first | exact TakeS.here _ | apply TakeS.next | apply TakeS.app)) ?_ | refine HSub.drop ?_ | refine HSub.dropS ?_ | exact HSub.nil _)) ?_
      exact ⟨by simp, rfl⟩
end Go.Proofs.YtpfoecmianohjaaDoor
