/-
  Own work: contracts of functions that the statement reaches, and plain facts on what they compute; each theorem says its conditions.
-/
import Derived.Test.YtkhkagjbeilbgaaDoorF19
import Derived.Test.YtkhkagjbeilbgaaDoorF15
set_option linter.all false
set_option linter.unusedSimpArgs false
set_option linter.unusedVariables false
namespace Go.Proofs.YtkhkagjbeilbgaaDoor
open Go Go.Sl
attribute [local irreducible] W
open Go.Script (lowL numL Bytes lowL_len lowL_bytes numL_nonneg numL_lt low_num)

theorem wrN_wd {V : List Va} {an : Nat} {b : List Int} (hB : Bytes b) (hV : ∀ v ∈ V, Wd v.n) : ∀ k, ∀ v ∈ wrN V an b k, Wd v.n
  | 0 => hV
  | k + 1 => set_good (p := fun v => Wd v.n) (wrN_wd hB hV k) (by
      have := numL_le (hB.chunk k) (k := 8) (by unfold chunk; rw [List.length_take]; omega)
      exact ⟨this.1, by have h2 := this.2; simp only [Int.reducePow] at h2; show numL (chunk b k) ≤ _; omega⟩)
theorem wrN_get {V : List Va} {an : Nat} {b : List Int} : ∀ (m k : Nat), k < m → 10 + an + m ≤ V.length → (wrN V an b m).getD (10 + an + k) zeroV = ⟨false, 0, 0, 0, numL (chunk b k)⟩
  | m + 1, k, hk, hl => by
    have hlen := wrN_len V an b m
    show (List.set _ _ _).getD _ _ = _
    rw [List.getD_eq_getElem?_getD]
    by_cases h : k = m
    · subst h
      rw [List.getElem?_set_self (by omega)]; rfl
    · rw [List.getElem?_set_ne (by omega), ← List.getD_eq_getElem?_getD]
      exact wrN_get m k (by omega) (by omega)
theorem rd_back {V : List Va} {an nn : Nat} {b : List Int} (hV : V.length = 18) (hb : an + nn ≤ 8) (hbl : b.length = 8 * nn) (hB : Bytes b) : rdB (wrN V an b nn) an nn = (b, 0) := by
  have hlen := wrN_len V an b nn
  have h : ∀ j, j ≤ nn → (((wrN V an b nn).drop (10 + an)).take j).any Va.ref = false ∧ wordsB (((wrN V an b nn).drop (10 + an)).take j) = b.take (8 * j) := by
    intro j
    induction j with
    | zero => intro _; exact ⟨by simp, by simp [wordsB]⟩
    | succ j ih =>
      intro hj
      obtain ⟨h1, h2⟩ := ih (by omega)
      have hg := wrN_get (b := b) nn j (by omega) (show 10 + an + nn ≤ V.length by omega)
      refine ⟨by rw [any_snoc (by omega), h1, hg]; rfl, ?_⟩
      rw [wordsB_snoc (by omega), h2, hg]
      have hc := low_num (hB.chunk j)
      rw [chunk_len hbl (by omega)] at hc
      show _ ++ lowL (numL (chunk b j)) 8 = _
      rw [hc, show 8 * (j + 1) = 8 * j + 8 by omega, List.take_add]
      rfl
  obtain ⟨h1, h2⟩ := h nn (Nat.le_refl _)
  unfold rdB
  rw [h1, h2, List.take_of_length_le (by omega)]
  rfl

theorem rdB_len (V : List Va) (a n : Nat) : (rdB V a n).1.length ≤ V.length * 8 := by
  unfold rdB
  split
  · exact Nat.zero_le _
  · show (wordsB _).length ≤ _
    rw [wordsB_len, List.length_take, List.length_drop]; omega

def WCase (az : Int) (c : List Int) : Prop := (∃ an nn : Nat, az = an ∧ an + nn ≤ 8 ∧ c.length = 8 * nn) ∨ badW az ((c.length / 8 : Nat) : Int) ∨ (∃ an : Nat, az = an ∧ an + c.length / 8 ≤ 8 ∧ c.length % 8 ≠ 0)
def RCase (fz nz : Int) : Prop := (∃ fn mm : Nat, fz = fn ∧ nz = mm ∧ fn + mm ≤ 8) ∨ badW fz nz
set_option maxHeartbeats 8000000 in
theorem frameBytes_pure {l : List Va} {b : List Int} {ad bd : Option Addr} {cap cap2 : Nat} {az fz nz : Int} (hw : ∀ v ∈ l, Wd v.n) (hbig : l.length ≤ maxLen) (hbc : b.length ≤ cap2) (hbm : cap2 ≤ maxLen) (hB0 : Bytes b) (hat : I64 az) (hfr : I64 fz) (hn : I64 nz) : Pure Tryd.prog (fun w => Tab w ∧ InRow w ad (vaRow l) ∧ InRow w bd (byV b)) 6 [.slice ad l.length cap, .int .i64 az, .slice bd b.length cap2, .int .i64 fz, .int .i64 nz] (.bool true) := by
  intro w0 H hT
  have hT0 := hT
  clear hT
  have hT := hT0.1
  have hbig' : l.length ≤ 9223372036854775807 := by simp only [maxLen] at hbig; omega
  have hrow : Holds w0 H ad (vaRow l) := Holds.old hT0.2.1
  obtain ⟨c, hc⟩ : ∃ c, c = b.take 100 := ⟨_, rfl⟩
  have hcl : c.length = min 100 b.length := by rw [hc, List.length_take]
  have hrowc : Holds w0 [] bd (byV c) := by
    have h : Holds w0 [] bd (byV b) := Holds.old hT0.2.2
    have e : byV c = (byV b).take 100 := by rw [hc]; simp [byV]
    rw [e]; exact h.take _
  have hB : Bytes c := by rw [hc]; exact hB0.take _
  have hcase : WCase az c := by
    unfold WCase
    by_cases h : badW az ((c.length / 8 : Nat) : Int)
    · exact .inr (.inl h)
    · obtain ⟨an, nn, e1, e2, e3⟩ := notBad h
      by_cases h8 : c.length % 8 = 0
      · exact .inl ⟨an, c.length / 8, e1, by omega, by omega⟩
      · exact .inr (.inr ⟨an, e1, by omega, h8⟩)
  have hcase2 : RCase fz nz := by
    unfold RCase
    by_cases h : badW fz nz
    · exact .inr h
    · exact .inl (notBad h)
  refine L_enter Tryd.func6 rfl Tryd.ntmps6 rfl rfl ?_
  refine W_sr ?_
  refine W_assign rfl rfl ?_
  refine W_nil ?_
  refine W_sr ?_
  refine W_call (.cons rfl .nil) Tryd.call19 rfl ((New_L (l := []) (by decide) Holds.nil).hsub (.refl _)) ?_
  rintro v H' ⟨bf, rfl, rfl⟩
  rw [show newV [] = List.replicate 18 zeroV from rfl]
  refine W_move rfl rfl ?_
  refine W_extract rfl rfl rfl ?_
  refine W_extract rfl rfl rfl ?_
  refine W_assign rfl rfl ?_
  refine W_assign rfl rfl ?_
  refine W_nil ?_
  refine W_seq ?_
  refine W_sr ?_
  refine W_move rfl rfl ?_
  refine W_bin rfl rfl b_neq rfl ?_
  refine W_nil ?_
  refine W_condF rfl rfl ?_
  refine W_skip ?_
  refine W_sr ?_
  refine W_alloc (l := vaRow (List.replicate 18 zeroV)) ty60 rfl rfl (fun b13 => ?_)
  refine W_nil ?_
  refine W_seq ?_
  refine W_sr ?_
  refine W_assign rfl rfl ?_
  refine W_nil ?_
  refine W_block ?_
  refine W_loopC (X := (Nat × List Va)) [(0, _), (1, _), (2, _), (3, _), (4, _), (11, _), (13, _)] (fun (x : (Nat × List Va)) => [(14, .int .i64 (x.1 : Int))]) (fun _ => _) (fun (x : (Nat × List Va)) => (b13, .cells 60 90 (vaRow x.2)) :: (bf, .cells 130 90 (vaRow x.2)) :: H) (fun (x : (Nat × List Va)) => x.1 ≤ l.length ∧ x.2.length = 18 ∧ ∀ v ∈ x.2, Wd v.n) (fun (x : (Nat × List Va)) => l.length - x.1) (0, List.replicate 18 zeroV) ⟨Nat.zero_le _, rfl, fun v hv => by obtain rfl := (List.mem_replicate.1 hv).2; exact wd_z⟩ (sub_cons rfl (sub_cons rfl (sub_cons rfl (sub_cons rfl (sub_cons rfl (sub_cons rfl (sub_cons rfl (sub_nil _)))))))) (sub_cons rfl (sub_nil _)) rfl (by repeat (first | with_reducible exact HSub.refl _ | refine HSub.cons (by repeat (first | exact Take.here _ | apply Take.next | apply Take.app)) ?_ | refine HSub.app (by repeat (first | with_reducible exact TakeS.here _ | apply TakeS.next | apply TakeS.app)) ?_ | exact HSub.nil _ | exact HSub.refl _ | refine HSub.drop ?_ | refine HSub.dropS ?_)) ?_
  rintro ⟨i, V⟩ ⟨hi, hl, hvw⟩
  dsimp only at hi hl hvw ⊢
  simp only [List.cons_append, List.nil_append]
  refine W_seq ?_
  refine W_sr ?_
  refine W_move rfl rfl ?_
  refine W_move rfl rfl ?_
  refine W_len rfl ty35 rfl rfl ?_
  refine W_bin rfl rfl b_lss rfl ?_
  refine W_move rfl rfl ?_
  apply W_and
  iterate 4 exact rfl
  case h1 =>
    intro hg4
    refine W_gyes rfl rfl ?_
    refine W_move rfl rfl ?_
    refine W_gyes rfl rfl ?_
    refine W_bin rfl rfl b_lss rfl ?_
    exact W_met rfl (by repeat (first | exact .refl | refine .cons rfl ?_))
  refine W_nil ?_
  refine W_condPS (p := (i : Int) < (l.length : Int) ∧ (i : Int) < 8) rfl (by simp) (fun c0 => ?_) (fun c0 => ?_)
  · skip
    refine W_skip ?_
    refine W_seq ?_
    refine W_block ?_
    refine W_seq ?_
    refine W_sr ?_
    obtain ⟨y, hy⟩ : ∃ y, l[i]? = some y := ⟨_, List.getElem?_eq_getElem (by omega)⟩
    obtain ⟨q0, p0, rfl, hcy⟩ := hrow.row va_len (by decide) hy
    have hyw := hw y (List.mem_of_getElem? hy)
    refine W_move rfl rfl ?_
    refine W_move rfl rfl ?_
    refine W_move rfl rfl ?_
    refine W_move rfl rfl ?_
    refine W_indexAddr (j := i) rfl rfl ty35 ty55 (by first | rfl | omega) (by first | decide | omega | simp) rfl rfl ?_
    refine W_loadA rfl ty55 rfl (vs := vaC y) rfl (hcy.up (by repeat (first | with_reducible exact HSub.refl _ | refine HSub.cons (by repeat (first | exact Take.here _ | apply Take.next | apply Take.app)) ?_ | refine HSub.app (by repeat (first | with_reducible exact TakeS.here _ | apply TakeS.next | apply TakeS.app)) ?_ | exact HSub.nil _ | exact HSub.refl _ | refine HSub.drop ?_ | refine HSub.dropS ?_))) rfl ?_
    refine W_callp (.cons rfl .nil) Tryd.call25 rfl (T := fun _ => True) trivial (To_pure y) ?_
    refine W_call (.cons rfl (.cons rfl (.cons rfl .nil))) Tryd.call28 rfl ((SetWord_L (V := V) (at_ := (i : Int)) (x := y) hl).hsub (.cons (by repeat (first | exact Take.here _ | apply Take.next | apply Take.app)) (.refl _))) ?_
    rintro v H' ⟨rfl, rfl⟩
    rw [wr_in (s := true) (by show _ ∧ _ < (8 : Int); omega)]
    rw [show baseS true + ((i : Nat) : Int).toNat = 10 + i by simp [baseS]]
    refine W_bin rfl rfl b_neq rfl ?_
    refine W_nil ?_
    refine W_condF rfl rfl ?_
    refine W_skip ?_
    refine W_region ?_
    refine W_move rfl rfl ?_
    refine W_bin rfl rfl (b_add (m := ((10 + i : Nat) : Int)) ((i64w (by omega)).trans (by omega))) rfl ?_
    refine W_move rfl rfl ?_
    refine W_move rfl rfl ?_
    refine W_indexAddr (j := i) rfl rfl ty35 ty55 (by first | rfl | omega) (by first | decide | omega | simp) rfl rfl ?_
    refine W_loadA rfl ty55 rfl (vs := vaC y) rfl (hcy.up (by repeat (first | with_reducible exact HSub.refl _ | refine HSub.cons (by repeat (first | exact Take.here _ | apply Take.next | apply Take.app)) ?_ | refine HSub.app (by repeat (first | with_reducible exact TakeS.here _ | apply TakeS.next | apply TakeS.app)) ?_ | exact HSub.nil _ | exact HSub.refl _ | refine HSub.drop ?_ | refine HSub.dropS ?_))) rfl ?_
    refine W_fieldAddr rfl fld60_0 (by decide) rfl ?_
    refine W_indexAddrA (j := (10 + i)) rfl rfl ty58 ty55 (by first | rfl | omega) (by first | decide | omega | simp) rfl rfl ?_
    refine W_storeA rfl rfl ty55 rfl rfl (b := b13) (by repeat (first | exact List.mem_cons_self | apply List.mem_cons_of_mem | apply List.mem_append_right)) (by rw [vaRow_len]; exact (by omega : 0 + 0 + (10 + i) * 5 + 5 ≤ V.length * 5)) ((congrArg (fun z => spliceL (vaRow V) z (vaC y)) (Nat.zero_add ((10 + i) * 5))).trans (va_set y (by omega))) (by repeat (first | exact Upd.head _ | apply Upd.tail | apply Upd.app)) ?_
    refine W_nil ?_
    refine W_blk ?_
    refine W_region ?_
    refine W_move rfl rfl ?_
    refine W_bin rfl rfl (b_add (m := ((i + 1 : Nat) : Int)) ((i64w (by omega)).trans (by omega))) rfl ?_
    refine W_assign rfl rfl ?_
    refine W_nil ?_
    refine W_again (i + 1, V.set (10 + i) y) ⟨by show i + 1 ≤ l.length; omega, by show (V.set _ _).length = 18; rw [List.length_set]; exact hl, set_good (p := fun v => Wd v.n) hvw hyw⟩ (by show l.length - (i + 1) < l.length - i; omega) (sub_cons rfl (sub_cons rfl (sub_cons rfl (sub_cons rfl (sub_cons rfl (sub_cons rfl (sub_cons rfl (sub_cons rfl (sub_nil _))))))))) rfl (by repeat (first | with_reducible exact HSub.refl _ | refine HSub.cons (by repeat (first | exact Take.here _ | apply Take.next | apply Take.app)) ?_ | refine HSub.app (by repeat (first | with_reducible exact TakeS.here _ | apply TakeS.next | apply TakeS.app)) ?_ | exact HSub.nil _ | exact HSub.refl _ | refine HSub.drop ?_ | refine HSub.dropS ?_))
  · skip
    refine W_exit rfl ?_
    refine W_sr ?_
    refine W_move rfl rfl ?_
    refine W_move rfl rfl ?_
    refine W_len rfl ty23 rfl rfl ?_
    refine W_min2 rfl rfl (m := ((c.length : Nat) : Int)) (by omega) rfl ?_
    refine W_slice0 (hh := c.length) rfl ty23 ty5 rfl ⟨_, rfl⟩ (by omega) rfl ?_
    refine W_assign rfl rfl ?_
    refine W_nil ?_
    refine W_sr ?_
    unfold WCase at hcase
    rcases hcase with ⟨an, nn, rfl, hb, hbl⟩ | hbad | ⟨an, rfl, hb, hodd⟩
    · skip
      have hnl : (wrN V an c nn).length = 18 := (wrN_len V an c nn).trans hl
      have hnw : ∀ v ∈ (wrN V an c nn), Wd v.n := wrN_wd hB hvw nn
      refine W_loadB (vs := vaRow V) rfl ty60 rfl (b := b13) (by repeat (first | exact List.mem_cons_self | apply List.mem_cons_of_mem | apply List.mem_append_right)) (by show Nat.ble _ (vaRow V).length = true; rw [vaRow_len, Nat.ble_eq]; omega) (by rw [List.drop_zero, List.take_of_length_le (by rw [vaRow_len]; omega)]) rfl ?_
      refine W_move rfl rfl ?_
      refine W_move rfl rfl ?_
      refine W_callq (.cons rfl (.cons rfl (.cons rfl .nil))) Tryd.call31 rfl (rwrite_q hl hb hbl hB (hrowc.up (by repeat (first | with_reducible exact HSub.refl _ | refine HSub.cons (by repeat (first | exact Take.here _ | apply Take.next | apply Take.app)) ?_ | refine HSub.app (by repeat (first | with_reducible exact TakeS.here _ | apply TakeS.next | apply TakeS.app)) ?_ | exact HSub.nil _ | exact HSub.refl _ | refine HSub.drop ?_ | refine HSub.dropS ?_)))) ?_
      refine W_move rfl rfl ?_
      refine W_extract rfl rfl rfl ?_
      refine W_extract rfl rfl rfl ?_
      refine W_alloc (l := vaRow (List.replicate 18 zeroV)) ty60 rfl rfl (fun b15 => ?_)
      refine W_storeA (l' := vaRow (wrN V an c nn)) rfl rfl ty60 (va_one _) (by show (vaRow (wrN V an c nn)).length = 90; rw [vaRow_len]; omega) (b := b15) (by repeat (first | exact List.mem_cons_self | apply List.mem_cons_of_mem | apply List.mem_append_right)) (by exact Nat.le_refl 90) (splice_all (by rw [vaRow_len, List.length_replicate, vaRow_len]; omega)) (by repeat (first | exact Upd.head _ | apply Upd.tail | apply Upd.app)) ?_
      refine W_assign rfl rfl ?_
      refine W_nil ?_
      refine W_seq ?_
      refine W_sr ?_
      refine W_move rfl rfl ?_
      refine W_move rfl rfl ?_
      refine W_move rfl rfl ?_
      refine W_call (.cons rfl (.cons rfl (.cons rfl .nil))) Tryd.call32 rfl ((write_L (H := (b13, .cells 60 90 (vaRow V)) :: (b15, .cells 60 90 (vaRow (wrN V an c nn))) :: H) hl hb hbl hB (hrowc.up (by repeat (first | with_reducible exact HSub.refl _ | refine HSub.cons (by repeat (first | exact Take.here _ | apply Take.next | apply Take.app)) ?_ | refine HSub.app (by repeat (first | with_reducible exact TakeS.here _ | apply TakeS.next | apply TakeS.app)) ?_ | exact HSub.nil _ | exact HSub.refl _ | refine HSub.drop ?_ | refine HSub.dropS ?_)))).hsub (by repeat (first | with_reducible exact HSub.refl _ | refine HSub.cons (by repeat (first | exact Take.here _ | apply Take.next | apply Take.app)) ?_ | refine HSub.app (by repeat (first | with_reducible exact TakeS.here _ | apply TakeS.next | apply TakeS.app)) ?_ | exact HSub.nil _ | exact HSub.refl _ | refine HSub.drop ?_ | refine HSub.dropS ?_))) ?_
      rintro v H' ⟨rfl, rfl⟩
      refine W_move rfl rfl ?_
      refine W_bin rfl rfl b_neq rfl ?_
      refine W_move rfl rfl ?_
      refine W_gyes rfl rfl ?_
      refine W_move rfl rfl ?_
      refine W_gyes rfl rfl ?_
      refine W_loadB (vs := vaRow (wrN V an c nn)) rfl ty60 rfl (b := b15) (by repeat (first | exact List.mem_cons_self | apply List.mem_cons_of_mem | apply List.mem_append_right)) (by show Nat.ble _ (vaRow (wrN V an c nn)).length = true; rw [vaRow_len, Nat.ble_eq]; omega) (by rw [List.drop_zero, List.take_of_length_le (by rw [vaRow_len]; omega)]) rfl ?_
      refine W_gyes rfl rfl ?_
      refine W_call (.cons rfl (.cons rfl .nil)) Tryd.call30 rfl ((same_L (V := (wrN V an c nn)) (U := (wrN V an c nn)) hnl hnl).hsub (.cons (by repeat (first | exact Take.here _ | apply Take.next | apply Take.app)) (.refl _))) ?_
      rintro v H' ⟨rfl, rfl⟩
      rw [decide_eq_true rfl]
      refine W_gyes rfl rfl ?_
      refine W_not rfl rfl ?_
      first | refine W_pickt rfl rfl rfl ?_ | refine W_pickf rfl rfl rfl ?_
      refine W_nil ?_
      refine W_condF rfl rfl ?_
      refine W_skip ?_
      refine W_sr ?_
      unfold RCase at hcase2
      rcases hcase2 with ⟨fn, mm, rfl, rfl, hb2⟩ | hbad2
      · skip
        refine W_loadB (vs := vaRow (wrN V an c nn)) rfl ty60 rfl (b := b15) (by repeat (first | exact List.mem_cons_self | apply List.mem_cons_of_mem | apply List.mem_append_right)) (by show Nat.ble _ (vaRow (wrN V an c nn)).length = true; rw [vaRow_len, Nat.ble_eq]; omega) (by rw [List.drop_zero, List.take_of_length_le (by rw [vaRow_len]; omega)]) rfl ?_
        refine W_move rfl rfl ?_
        refine W_move rfl rfl ?_
        refine W_call (.cons rfl (.cons rfl (.cons rfl .nil))) Tryd.call33 rfl ((rread_L (V := (wrN V an c nn)) hnl hnw hb2).hsub (.refl _)) ?_
        rintro v H' ⟨sx, HX, rfl, hX, rfl⟩
        obtain ⟨aX, cX, rfl, _, _, hhX⟩ := Holds.of_own (w0 := w0) (H := HX ++ []) hX (fun p hp => List.mem_append_left _ hp)
        refine W_move rfl rfl ?_
        refine W_extract rfl rfl rfl ?_
        refine W_extract rfl rfl rfl ?_
        refine W_assign rfl rfl ?_
        refine W_assign rfl rfl ?_
        refine W_nil ?_
        refine W_sr ?_
        refine W_move rfl rfl ?_
        refine W_move rfl rfl ?_
        refine W_move rfl rfl ?_
        refine W_call (.cons rfl (.cons rfl (.cons rfl .nil))) Tryd.call34 rfl ((read_L (V := (wrN V an c nn)) (bf := bf) (H := HX ++ ((b13, .cells 60 90 (vaRow V)) :: (b15, .cells 60 90 (vaRow (wrN V an c nn))) :: H)) hnl hb2).hsub (by repeat (first | with_reducible exact HSub.refl _ | refine HSub.cons (by repeat (first | exact Take.here _ | apply Take.next | apply Take.app)) ?_ | refine HSub.app (by repeat (first | with_reducible exact TakeS.here _ | apply TakeS.next | apply TakeS.app)) ?_ | exact HSub.nil _ | exact HSub.refl _ | refine HSub.drop ?_ | refine HSub.dropS ?_))) ?_
        rintro v H' ⟨sy, HY, rfl, hY, rfl⟩
        obtain ⟨aY, cY, rfl, _, _, hhY⟩ := Holds.of_own (w0 := w0) (H := HY ++ []) hY (fun p hp => List.mem_append_left _ hp)
        refine W_move rfl rfl ?_
        refine W_extract rfl rfl rfl ?_
        refine W_extract rfl rfl rfl ?_
        refine W_assign rfl rfl ?_
        refine W_assign rfl rfl ?_
        refine W_nil ?_
        refine W_seq ?_
        refine W_sr ?_
        refine W_move rfl rfl ?_
        refine W_move rfl rfl ?_
        refine W_bin rfl rfl b_neq rfl ?_
        rw [decide_eq_false (fun h => h rfl)]
        refine W_move rfl rfl ?_
        refine W_gyes rfl rfl ?_
        refine W_move rfl rfl ?_
        refine W_gyes rfl rfl ?_
        refine W_move rfl rfl ?_
        refine W_gyes rfl rfl ?_
        have hrl := rdB_len (wrN V an c nn) fn mm
        refine W_callq (.cons rfl (.cons rfl .nil)) Tryd.call35 rfl (same13_q (by omega) (hhX.up (by repeat (first | with_reducible exact HSub.refl _ | refine HSub.cons (by repeat (first | exact Take.here _ | apply Take.next | apply Take.app)) ?_ | refine HSub.app (by repeat (first | with_reducible exact TakeS.here _ | apply TakeS.next | apply TakeS.app)) ?_ | exact HSub.nil _ | exact HSub.refl _ | refine HSub.drop ?_ | refine HSub.dropS ?_))) (hhY.up (by repeat (first | with_reducible exact HSub.refl _ | refine HSub.cons (by repeat (first | exact Take.here _ | apply Take.next | apply Take.app)) ?_ | refine HSub.app (by repeat (first | with_reducible exact TakeS.here _ | apply TakeS.next | apply TakeS.app)) ?_ | exact HSub.nil _ | exact HSub.refl _ | refine HSub.drop ?_ | refine HSub.dropS ?_)))) ?_
        rw [decide_eq_true rfl]
        refine W_gyes rfl rfl ?_
        refine W_not rfl rfl ?_
        first | refine W_pickt rfl rfl rfl ?_ | refine W_pickf rfl rfl rfl ?_
        refine W_nil ?_
        refine W_condF rfl rfl ?_
        refine W_skip ?_
        refine W_seq ?_
        refine W_sr ?_
        refine W_move rfl rfl ?_
        refine W_bin rfl rfl b_neq rfl ?_
        refine W_nil ?_
        refine W_condF rfl rfl ?_
        refine W_skip ?_
        refine W_sr ?_
        refine W_move rfl rfl ?_
        refine W_move rfl rfl ?_
        refine W_move rfl rfl ?_
        refine W_len rfl ty23 rfl rfl ?_
        refine W_bin rfl rfl (b_quo (m := ((nn : Nat) : Int)) (by decide) (quo8 (by omega) (by omega))) rfl ?_
        refine W_call (.cons rfl (.cons rfl (.cons rfl .nil))) Tryd.call34 rfl ((read_L (V := (wrN V an c nn)) (bf := bf) (H := (b13, .cells 60 90 (vaRow V)) :: (b15, .cells 60 90 (vaRow (wrN V an c nn))) :: H) hnl hb).hsub (by repeat (first | with_reducible exact HSub.refl _ | refine HSub.cons (by repeat (first | exact Take.here _ | apply Take.next | apply Take.app)) ?_ | refine HSub.app (by repeat (first | with_reducible exact TakeS.here _ | apply TakeS.next | apply TakeS.app)) ?_ | exact HSub.nil _ | exact HSub.refl _ | refine HSub.drop ?_ | refine HSub.dropS ?_))) ?_
        rintro v H' ⟨sz, HZ, rfl, hZ, rfl⟩
        rw [rd_back hl hb hbl hB] at hZ ⊢
        obtain ⟨aZ, cZ, rfl, _, _, hhZ⟩ := Holds.of_own (w0 := w0) (H := HZ ++ []) hZ (fun p hp => List.mem_append_left _ hp)
        refine W_move rfl rfl ?_
        refine W_extract rfl rfl rfl ?_
        refine W_extract rfl rfl rfl ?_
        refine W_assign rfl rfl ?_
        refine W_assign rfl rfl ?_
        refine W_nil ?_
        refine W_sr ?_
        refine W_callp .nil Tryd.call26 rfl hT (known_pure ) ?_
        refine W_move rfl rfl ?_
        refine W_gyes rfl rfl ?_
        refine W_move rfl rfl ?_
        refine W_gyes rfl rfl ?_
        refine W_bin rfl rfl b_eql rfl ?_
        first | refine W_pickt rfl rfl rfl ?_ | refine W_pickf rfl rfl rfl ?_
        refine W_move rfl rfl ?_
        refine W_gyes rfl rfl ?_
        refine W_move rfl rfl ?_
        refine W_gyes rfl rfl ?_
        refine W_move rfl rfl ?_
        refine W_gyes rfl rfl ?_
        refine W_callq (.cons rfl (.cons rfl .nil)) Tryd.call35 rfl (same13_q (l := c) (m := c) (by omega) (hhZ.up (by repeat (first | with_reducible exact HSub.refl _ | refine HSub.cons (by repeat (first | exact Take.here _ | apply Take.next | apply Take.app)) ?_ | refine HSub.app (by repeat (first | with_reducible exact TakeS.here _ | apply TakeS.next | apply TakeS.app)) ?_ | exact HSub.nil _ | exact HSub.refl _ | refine HSub.drop ?_ | refine HSub.dropS ?_))) (hrowc.up (by repeat (first | with_reducible exact HSub.refl _ | refine HSub.cons (by repeat (first | exact Take.here _ | apply Take.next | apply Take.app)) ?_ | refine HSub.app (by repeat (first | with_reducible exact TakeS.here _ | apply TakeS.next | apply TakeS.app)) ?_ | exact HSub.nil _ | exact HSub.refl _ | refine HSub.drop ?_ | refine HSub.dropS ?_)))) ?_
        rw [decide_eq_true rfl]
        first | refine W_pickt rfl rfl rfl ?_ | refine W_pickf rfl rfl rfl ?_
        refine W_assign rfl rfl ?_
        refine W_nil ?_
        refine W_ret1m (H2 := H) Tryd.results6 rfl (.nil _) (by repeat (first | with_reducible exact HSub.refl _ | refine HSub.cons (by repeat (first | exact Take.here _ | apply Take.next | apply Take.app)) ?_ | refine HSub.app (by repeat (first | with_reducible exact TakeS.here _ | apply TakeS.next | apply TakeS.app)) ?_ | exact HSub.nil _ | exact HSub.refl _ | refine HSub.drop ?_ | refine HSub.dropS ?_)) ?_
        exact ⟨rfl, rfl⟩
      · skip
        refine W_loadB (vs := vaRow (wrN V an c nn)) rfl ty60 rfl (b := b15) (by repeat (first | exact List.mem_cons_self | apply List.mem_cons_of_mem | apply List.mem_append_right)) (by show Nat.ble _ (vaRow (wrN V an c nn)).length = true; rw [vaRow_len, Nat.ble_eq]; omega) (by rw [List.drop_zero, List.take_of_length_le (by rw [vaRow_len]; omega)]) rfl ?_
        refine W_move rfl rfl ?_
        refine W_move rfl rfl ?_
        refine W_callp (.cons rfl (.cons rfl (.cons rfl .nil))) Tryd.call33 rfl (T := fun _ => True) trivial (rread_bad (wrN V an c nn) hfr hn hbad2) ?_
        refine W_move rfl rfl ?_
        refine W_extract rfl rfl rfl ?_
        refine W_extract rfl rfl rfl ?_
        refine W_assign rfl rfl ?_
        refine W_assign rfl rfl ?_
        refine W_nil ?_
        refine W_sr ?_
        refine W_move rfl rfl ?_
        refine W_move rfl rfl ?_
        refine W_move rfl rfl ?_
        refine W_callp (.cons rfl (.cons rfl (.cons rfl .nil))) Tryd.call34 rfl (T := fun _ => True) trivial (read_bad bf hfr hn hbad2) ?_
        refine W_move rfl rfl ?_
        refine W_extract rfl rfl rfl ?_
        refine W_extract rfl rfl rfl ?_
        refine W_assign rfl rfl ?_
        refine W_assign rfl rfl ?_
        refine W_nil ?_
        refine W_seq ?_
        refine W_sr ?_
        refine W_move rfl rfl ?_
        refine W_move rfl rfl ?_
        refine W_bin rfl rfl b_neq rfl ?_
        refine W_move rfl rfl ?_
        refine W_gyes rfl rfl ?_
        refine W_move rfl rfl ?_
        refine W_gyes rfl rfl ?_
        refine W_move rfl rfl ?_
        refine W_gyes rfl rfl ?_
        refine W_callq (.cons rfl (.cons rfl .nil)) Tryd.call35 rfl (same13_q (l := []) (m := []) (by decide) Holds.nil Holds.nil) ?_
        rw [decide_eq_true rfl]
        refine W_gyes rfl rfl ?_
        refine W_not rfl rfl ?_
        first | refine W_pickt rfl rfl rfl ?_ | refine W_pickf rfl rfl rfl ?_
        refine W_nil ?_
        refine W_condF rfl rfl ?_
        refine W_skip ?_
        refine W_seq ?_
        refine W_sr ?_
        refine W_move rfl rfl ?_
        refine W_bin rfl rfl b_neq rfl ?_
        refine W_nil ?_
        refine W_condF rfl rfl ?_
        refine W_skip ?_
        refine W_sr ?_
        refine W_move rfl rfl ?_
        refine W_move rfl rfl ?_
        refine W_move rfl rfl ?_
        refine W_len rfl ty23 rfl rfl ?_
        refine W_bin rfl rfl (b_quo (m := ((nn : Nat) : Int)) (by decide) (quo8 (by omega) (by omega))) rfl ?_
        refine W_call (.cons rfl (.cons rfl (.cons rfl .nil))) Tryd.call34 rfl ((read_L (V := (wrN V an c nn)) (bf := bf) (H := (b13, .cells 60 90 (vaRow V)) :: (b15, .cells 60 90 (vaRow (wrN V an c nn))) :: H) hnl hb).hsub (by repeat (first | with_reducible exact HSub.refl _ | refine HSub.cons (by repeat (first | exact Take.here _ | apply Take.next | apply Take.app)) ?_ | refine HSub.app (by repeat (first | with_reducible exact TakeS.here _ | apply TakeS.next | apply TakeS.app)) ?_ | exact HSub.nil _ | exact HSub.refl _ | refine HSub.drop ?_ | refine HSub.dropS ?_))) ?_
        rintro v H' ⟨sz, HZ, rfl, hZ, rfl⟩
        rw [rd_back hl hb hbl hB] at hZ ⊢
        obtain ⟨aZ, cZ, rfl, _, _, hhZ⟩ := Holds.of_own (w0 := w0) (H := HZ ++ []) hZ (fun p hp => List.mem_append_left _ hp)
        refine W_move rfl rfl ?_
        refine W_extract rfl rfl rfl ?_
        refine W_extract rfl rfl rfl ?_
        refine W_assign rfl rfl ?_
        refine W_assign rfl rfl ?_
        refine W_nil ?_
        refine W_sr ?_
        refine W_callp .nil Tryd.call26 rfl hT (known_pure ) ?_
        refine W_move rfl rfl ?_
        refine W_gyes rfl rfl ?_
        refine W_move rfl rfl ?_
        refine W_gyes rfl rfl ?_
        refine W_bin rfl rfl b_eql rfl ?_
        first | refine W_pickt rfl rfl rfl ?_ | refine W_pickf rfl rfl rfl ?_
        refine W_move rfl rfl ?_
        refine W_gyes rfl rfl ?_
        refine W_move rfl rfl ?_
        refine W_gyes rfl rfl ?_
        refine W_move rfl rfl ?_
        refine W_gyes rfl rfl ?_
        refine W_callq (.cons rfl (.cons rfl .nil)) Tryd.call35 rfl (same13_q (l := c) (m := c) (by omega) (hhZ.up (by repeat (first | with_reducible exact HSub.refl _ | refine HSub.cons (by repeat (first | exact Take.here _ | apply Take.next | apply Take.app)) ?_ | refine HSub.app (by repeat (first | with_reducible exact TakeS.here _ | apply TakeS.next | apply TakeS.app)) ?_ | exact HSub.nil _ | exact HSub.refl _ | refine HSub.drop ?_ | refine HSub.dropS ?_))) (hrowc.up (by repeat (first | with_reducible exact HSub.refl _ | refine HSub.cons (by repeat (first | exact Take.here _ | apply Take.next | apply Take.app)) ?_ | refine HSub.app (by repeat (first | with_reducible exact TakeS.here _ | apply TakeS.next | apply TakeS.app)) ?_ | exact HSub.nil _ | exact HSub.refl _ | refine HSub.drop ?_ | refine HSub.dropS ?_)))) ?_
        rw [decide_eq_true rfl]
        first | refine W_pickt rfl rfl rfl ?_ | refine W_pickf rfl rfl rfl ?_
        refine W_assign rfl rfl ?_
        refine W_nil ?_
        refine W_ret1m (H2 := H) Tryd.results6 rfl (.nil _) (by repeat (first | with_reducible exact HSub.refl _ | refine HSub.cons (by repeat (first | exact Take.here _ | apply Take.next | apply Take.app)) ?_ | refine HSub.app (by repeat (first | with_reducible exact TakeS.here _ | apply TakeS.next | apply TakeS.app)) ?_ | exact HSub.nil _ | exact HSub.refl _ | refine HSub.drop ?_ | refine HSub.dropS ?_)) ?_
        exact ⟨rfl, rfl⟩
    · skip
      have hnl : V.length = 18 := hl
      have hnw : ∀ v ∈ V, Wd v.n := hvw
      refine W_loadB (vs := vaRow V) rfl ty60 rfl (b := b13) (by repeat (first | exact List.mem_cons_self | apply List.mem_cons_of_mem | apply List.mem_append_right)) (by show Nat.ble _ (vaRow V).length = true; rw [vaRow_len, Nat.ble_eq]; omega) (by rw [List.drop_zero, List.take_of_length_le (by rw [vaRow_len]; omega)]) rfl ?_
      refine W_move rfl rfl ?_
      refine W_move rfl rfl ?_
      refine W_callp (.cons rfl (.cons rfl (.cons rfl .nil))) Tryd.call31 rfl (T := fun _ => True) trivial (rwrite_bad hl hat (by omega) (.inr hbad)) ?_
      refine W_move rfl rfl ?_
      refine W_extract rfl rfl rfl ?_
      refine W_extract rfl rfl rfl ?_
      refine W_alloc (l := vaRow (List.replicate 18 zeroV)) ty60 rfl rfl (fun b15 => ?_)
      refine W_storeA (l' := vaRow V) rfl rfl ty60 (va_one _) (by show (vaRow V).length = 90; rw [vaRow_len]; omega) (b := b15) (by repeat (first | exact List.mem_cons_self | apply List.mem_cons_of_mem | apply List.mem_append_right)) (by exact Nat.le_refl 90) (splice_all (by rw [vaRow_len, List.length_replicate, vaRow_len]; omega)) (by repeat (first | exact Upd.head _ | apply Upd.tail | apply Upd.app)) ?_
      refine W_assign rfl rfl ?_
      refine W_nil ?_
      refine W_seq ?_
      refine W_sr ?_
      refine W_move rfl rfl ?_
      refine W_move rfl rfl ?_
      refine W_move rfl rfl ?_
      refine W_callp (.cons rfl (.cons rfl (.cons rfl .nil))) Tryd.call32 rfl (T := fun _ => True) trivial (write_bad bf hat (by omega) hbad) ?_
      refine W_move rfl rfl ?_
      refine W_bin rfl rfl b_neq rfl ?_
      refine W_move rfl rfl ?_
      refine W_gyes rfl rfl ?_
      refine W_move rfl rfl ?_
      refine W_gyes rfl rfl ?_
      refine W_loadB (vs := vaRow V) rfl ty60 rfl (b := b15) (by repeat (first | exact List.mem_cons_self | apply List.mem_cons_of_mem | apply List.mem_append_right)) (by show Nat.ble _ (vaRow V).length = true; rw [vaRow_len, Nat.ble_eq]; omega) (by rw [List.drop_zero, List.take_of_length_le (by rw [vaRow_len]; omega)]) rfl ?_
      refine W_gyes rfl rfl ?_
      refine W_call (.cons rfl (.cons rfl .nil)) Tryd.call30 rfl ((same_L (V := V) (U := V) hnl hnl).hsub (.cons (by repeat (first | exact Take.here _ | apply Take.next | apply Take.app)) (.refl _))) ?_
      rintro v H' ⟨rfl, rfl⟩
      rw [decide_eq_true rfl]
      refine W_gyes rfl rfl ?_
      refine W_not rfl rfl ?_
      first | refine W_pickt rfl rfl rfl ?_ | refine W_pickf rfl rfl rfl ?_
      refine W_nil ?_
      refine W_condF rfl rfl ?_
      refine W_skip ?_
      refine W_sr ?_
      unfold RCase at hcase2
      rcases hcase2 with ⟨fn, mm, rfl, rfl, hb2⟩ | hbad2
      · skip
        refine W_loadB (vs := vaRow V) rfl ty60 rfl (b := b15) (by repeat (first | exact List.mem_cons_self | apply List.mem_cons_of_mem | apply List.mem_append_right)) (by show Nat.ble _ (vaRow V).length = true; rw [vaRow_len, Nat.ble_eq]; omega) (by rw [List.drop_zero, List.take_of_length_le (by rw [vaRow_len]; omega)]) rfl ?_
        refine W_move rfl rfl ?_
        refine W_move rfl rfl ?_
        refine W_call (.cons rfl (.cons rfl (.cons rfl .nil))) Tryd.call33 rfl ((rread_L (V := V) hnl hnw hb2).hsub (.refl _)) ?_
        rintro v H' ⟨sx, HX, rfl, hX, rfl⟩
        obtain ⟨aX, cX, rfl, _, _, hhX⟩ := Holds.of_own (w0 := w0) (H := HX ++ []) hX (fun p hp => List.mem_append_left _ hp)
        refine W_move rfl rfl ?_
        refine W_extract rfl rfl rfl ?_
        refine W_extract rfl rfl rfl ?_
        refine W_assign rfl rfl ?_
        refine W_assign rfl rfl ?_
        refine W_nil ?_
        refine W_sr ?_
        refine W_move rfl rfl ?_
        refine W_move rfl rfl ?_
        refine W_move rfl rfl ?_
        refine W_call (.cons rfl (.cons rfl (.cons rfl .nil))) Tryd.call34 rfl ((read_L (V := V) (bf := bf) (H := HX ++ ((b13, .cells 60 90 (vaRow V)) :: (b15, .cells 60 90 (vaRow V)) :: H)) hnl hb2).hsub (by repeat (first | with_reducible exact HSub.refl _ | refine HSub.cons (by repeat (first | exact Take.here _ | apply Take.next | apply Take.app)) ?_ | refine HSub.app (by repeat (first | with_reducible exact TakeS.here _ | apply TakeS.next | apply TakeS.app)) ?_ | exact HSub.nil _ | exact HSub.refl _ | refine HSub.drop ?_ | refine HSub.dropS ?_))) ?_
        rintro v H' ⟨sy, HY, rfl, hY, rfl⟩
        obtain ⟨aY, cY, rfl, _, _, hhY⟩ := Holds.of_own (w0 := w0) (H := HY ++ []) hY (fun p hp => List.mem_append_left _ hp)
        refine W_move rfl rfl ?_
        refine W_extract rfl rfl rfl ?_
        refine W_extract rfl rfl rfl ?_
        refine W_assign rfl rfl ?_
        refine W_assign rfl rfl ?_
        refine W_nil ?_
        refine W_seq ?_
        refine W_sr ?_
        refine W_move rfl rfl ?_
        refine W_move rfl rfl ?_
        refine W_bin rfl rfl b_neq rfl ?_
        rw [decide_eq_false (fun h => h rfl)]
        refine W_move rfl rfl ?_
        refine W_gyes rfl rfl ?_
        refine W_move rfl rfl ?_
        refine W_gyes rfl rfl ?_
        refine W_move rfl rfl ?_
        refine W_gyes rfl rfl ?_
        have hrl := rdB_len V fn mm
        refine W_callq (.cons rfl (.cons rfl .nil)) Tryd.call35 rfl (same13_q (by omega) (hhX.up (by repeat (first | with_reducible exact HSub.refl _ | refine HSub.cons (by repeat (first | exact Take.here _ | apply Take.next | apply Take.app)) ?_ | refine HSub.app (by repeat (first | with_reducible exact TakeS.here _ | apply TakeS.next | apply TakeS.app)) ?_ | exact HSub.nil _ | exact HSub.refl _ | refine HSub.drop ?_ | refine HSub.dropS ?_))) (hhY.up (by repeat (first | with_reducible exact HSub.refl _ | refine HSub.cons (by repeat (first | exact Take.here _ | apply Take.next | apply Take.app)) ?_ | refine HSub.app (by repeat (first | with_reducible exact TakeS.here _ | apply TakeS.next | apply TakeS.app)) ?_ | exact HSub.nil _ | exact HSub.refl _ | refine HSub.drop ?_ | refine HSub.dropS ?_)))) ?_
        rw [decide_eq_true rfl]
        refine W_gyes rfl rfl ?_
        refine W_not rfl rfl ?_
        first | refine W_pickt rfl rfl rfl ?_ | refine W_pickf rfl rfl rfl ?_
        refine W_nil ?_
        refine W_condF rfl rfl ?_
        refine W_skip ?_
        refine W_seq ?_
        refine W_sr ?_
        refine W_move rfl rfl ?_
        refine W_bin rfl rfl b_neq rfl ?_
        refine W_nil ?_
        refine W_condT rfl rfl ?_
        refine W_sr ?_
        refine W_callp .nil Tryd.call26 rfl hT (known_pure ) ?_
        refine W_assign rfl rfl ?_
        refine W_nil ?_
        refine W_ret1m (H2 := H) Tryd.results6 rfl (.nil _) (by repeat (first | with_reducible exact HSub.refl _ | refine HSub.cons (by repeat (first | exact Take.here _ | apply Take.next | apply Take.app)) ?_ | refine HSub.app (by repeat (first | with_reducible exact TakeS.here _ | apply TakeS.next | apply TakeS.app)) ?_ | exact HSub.nil _ | exact HSub.refl _ | refine HSub.drop ?_ | refine HSub.dropS ?_)) ?_
        exact ⟨rfl, rfl⟩
      · skip
        refine W_loadB (vs := vaRow V) rfl ty60 rfl (b := b15) (by repeat (first | exact List.mem_cons_self | apply List.mem_cons_of_mem | apply List.mem_append_right)) (by show Nat.ble _ (vaRow V).length = true; rw [vaRow_len, Nat.ble_eq]; omega) (by rw [List.drop_zero, List.take_of_length_le (by rw [vaRow_len]; omega)]) rfl ?_
        refine W_move rfl rfl ?_
        refine W_move rfl rfl ?_
        refine W_callp (.cons rfl (.cons rfl (.cons rfl .nil))) Tryd.call33 rfl (T := fun _ => True) trivial (rread_bad V hfr hn hbad2) ?_
        refine W_move rfl rfl ?_
        refine W_extract rfl rfl rfl ?_
        refine W_extract rfl rfl rfl ?_
        refine W_assign rfl rfl ?_
        refine W_assign rfl rfl ?_
        refine W_nil ?_
        refine W_sr ?_
        refine W_move rfl rfl ?_
        refine W_move rfl rfl ?_
        refine W_move rfl rfl ?_
        refine W_callp (.cons rfl (.cons rfl (.cons rfl .nil))) Tryd.call34 rfl (T := fun _ => True) trivial (read_bad bf hfr hn hbad2) ?_
        refine W_move rfl rfl ?_
        refine W_extract rfl rfl rfl ?_
        refine W_extract rfl rfl rfl ?_
        refine W_assign rfl rfl ?_
        refine W_assign rfl rfl ?_
        refine W_nil ?_
        refine W_seq ?_
        refine W_sr ?_
        refine W_move rfl rfl ?_
        refine W_move rfl rfl ?_
        refine W_bin rfl rfl b_neq rfl ?_
        refine W_move rfl rfl ?_
        refine W_gyes rfl rfl ?_
        refine W_move rfl rfl ?_
        refine W_gyes rfl rfl ?_
        refine W_move rfl rfl ?_
        refine W_gyes rfl rfl ?_
        refine W_callq (.cons rfl (.cons rfl .nil)) Tryd.call35 rfl (same13_q (l := []) (m := []) (by decide) Holds.nil Holds.nil) ?_
        rw [decide_eq_true rfl]
        refine W_gyes rfl rfl ?_
        refine W_not rfl rfl ?_
        first | refine W_pickt rfl rfl rfl ?_ | refine W_pickf rfl rfl rfl ?_
        refine W_nil ?_
        refine W_condF rfl rfl ?_
        refine W_skip ?_
        refine W_seq ?_
        refine W_sr ?_
        refine W_move rfl rfl ?_
        refine W_bin rfl rfl b_neq rfl ?_
        refine W_nil ?_
        refine W_condT rfl rfl ?_
        refine W_sr ?_
        refine W_callp .nil Tryd.call26 rfl hT (known_pure ) ?_
        refine W_assign rfl rfl ?_
        refine W_nil ?_
        refine W_ret1m (H2 := H) Tryd.results6 rfl (.nil _) (by repeat (first | with_reducible exact HSub.refl _ | refine HSub.cons (by repeat (first | exact Take.here _ | apply Take.next | apply Take.app)) ?_ | refine HSub.app (by repeat (first | with_reducible exact TakeS.here _ | apply TakeS.next | apply TakeS.app)) ?_ | exact HSub.nil _ | exact HSub.refl _ | refine HSub.drop ?_ | refine HSub.dropS ?_)) ?_
        exact ⟨rfl, rfl⟩
    · skip
      have hnl : V.length = 18 := hl
      have hnw : ∀ v ∈ V, Wd v.n := hvw
      refine W_loadB (vs := vaRow V) rfl ty60 rfl (b := b13) (by repeat (first | exact List.mem_cons_self | apply List.mem_cons_of_mem | apply List.mem_append_right)) (by show Nat.ble _ (vaRow V).length = true; rw [vaRow_len, Nat.ble_eq]; omega) (by rw [List.drop_zero, List.take_of_length_le (by rw [vaRow_len]; omega)]) rfl ?_
      refine W_move rfl rfl ?_
      refine W_move rfl rfl ?_
      refine W_callp (.cons rfl (.cons rfl (.cons rfl .nil))) Tryd.call31 rfl (T := fun _ => True) trivial (rwrite_bad hl hat (by omega) (.inl hodd)) ?_
      refine W_move rfl rfl ?_
      refine W_extract rfl rfl rfl ?_
      refine W_extract rfl rfl rfl ?_
      refine W_alloc (l := vaRow (List.replicate 18 zeroV)) ty60 rfl rfl (fun b15 => ?_)
      refine W_storeA (l' := vaRow V) rfl rfl ty60 (va_one _) (by show (vaRow V).length = 90; rw [vaRow_len]; omega) (b := b15) (by repeat (first | exact List.mem_cons_self | apply List.mem_cons_of_mem | apply List.mem_append_right)) (by exact Nat.le_refl 90) (splice_all (by rw [vaRow_len, List.length_replicate, vaRow_len]; omega)) (by repeat (first | exact Upd.head _ | apply Upd.tail | apply Upd.app)) ?_
      refine W_assign rfl rfl ?_
      refine W_nil ?_
      refine W_seq ?_
      refine W_sr ?_
      refine W_move rfl rfl ?_
      refine W_move rfl rfl ?_
      refine W_move rfl rfl ?_
      refine W_callp (.cons rfl (.cons rfl (.cons rfl .nil))) Tryd.call32 rfl (T := fun _ => True) trivial (write_odd bf (by omega) hb hodd) ?_
      refine W_move rfl rfl ?_
      refine W_bin rfl rfl b_neq rfl ?_
      refine W_move rfl rfl ?_
      refine W_gyes rfl rfl ?_
      refine W_move rfl rfl ?_
      refine W_gyes rfl rfl ?_
      refine W_loadB (vs := vaRow V) rfl ty60 rfl (b := b15) (by repeat (first | exact List.mem_cons_self | apply List.mem_cons_of_mem | apply List.mem_append_right)) (by show Nat.ble _ (vaRow V).length = true; rw [vaRow_len, Nat.ble_eq]; omega) (by rw [List.drop_zero, List.take_of_length_le (by rw [vaRow_len]; omega)]) rfl ?_
      refine W_gyes rfl rfl ?_
      refine W_call (.cons rfl (.cons rfl .nil)) Tryd.call30 rfl ((same_L (V := V) (U := V) hnl hnl).hsub (.cons (by repeat (first | exact Take.here _ | apply Take.next | apply Take.app)) (.refl _))) ?_
      rintro v H' ⟨rfl, rfl⟩
      rw [decide_eq_true rfl]
      refine W_gyes rfl rfl ?_
      refine W_not rfl rfl ?_
      first | refine W_pickt rfl rfl rfl ?_ | refine W_pickf rfl rfl rfl ?_
      refine W_nil ?_
      refine W_condF rfl rfl ?_
      refine W_skip ?_
      refine W_sr ?_
      unfold RCase at hcase2
      rcases hcase2 with ⟨fn, mm, rfl, rfl, hb2⟩ | hbad2
      · skip
        refine W_loadB (vs := vaRow V) rfl ty60 rfl (b := b15) (by repeat (first | exact List.mem_cons_self | apply List.mem_cons_of_mem | apply List.mem_append_right)) (by show Nat.ble _ (vaRow V).length = true; rw [vaRow_len, Nat.ble_eq]; omega) (by rw [List.drop_zero, List.take_of_length_le (by rw [vaRow_len]; omega)]) rfl ?_
        refine W_move rfl rfl ?_
        refine W_move rfl rfl ?_
        refine W_call (.cons rfl (.cons rfl (.cons rfl .nil))) Tryd.call33 rfl ((rread_L (V := V) hnl hnw hb2).hsub (.refl _)) ?_
        rintro v H' ⟨sx, HX, rfl, hX, rfl⟩
        obtain ⟨aX, cX, rfl, _, _, hhX⟩ := Holds.of_own (w0 := w0) (H := HX ++ []) hX (fun p hp => List.mem_append_left _ hp)
        refine W_move rfl rfl ?_
        refine W_extract rfl rfl rfl ?_
        refine W_extract rfl rfl rfl ?_
        refine W_assign rfl rfl ?_
        refine W_assign rfl rfl ?_
        refine W_nil ?_
        refine W_sr ?_
        refine W_move rfl rfl ?_
        refine W_move rfl rfl ?_
        refine W_move rfl rfl ?_
        refine W_call (.cons rfl (.cons rfl (.cons rfl .nil))) Tryd.call34 rfl ((read_L (V := V) (bf := bf) (H := HX ++ ((b13, .cells 60 90 (vaRow V)) :: (b15, .cells 60 90 (vaRow V)) :: H)) hnl hb2).hsub (by repeat (first | with_reducible exact HSub.refl _ | refine HSub.cons (by repeat (first | exact Take.here _ | apply Take.next | apply Take.app)) ?_ | refine HSub.app (by repeat (first | with_reducible exact TakeS.here _ | apply TakeS.next | apply TakeS.app)) ?_ | exact HSub.nil _ | exact HSub.refl _ | refine HSub.drop ?_ | refine HSub.dropS ?_))) ?_
        rintro v H' ⟨sy, HY, rfl, hY, rfl⟩
        obtain ⟨aY, cY, rfl, _, _, hhY⟩ := Holds.of_own (w0 := w0) (H := HY ++ []) hY (fun p hp => List.mem_append_left _ hp)
        refine W_move rfl rfl ?_
        refine W_extract rfl rfl rfl ?_
        refine W_extract rfl rfl rfl ?_
        refine W_assign rfl rfl ?_
        refine W_assign rfl rfl ?_
        refine W_nil ?_
        refine W_seq ?_
        refine W_sr ?_
        refine W_move rfl rfl ?_
        refine W_move rfl rfl ?_
        refine W_bin rfl rfl b_neq rfl ?_
        rw [decide_eq_false (fun h => h rfl)]
        refine W_move rfl rfl ?_
        refine W_gyes rfl rfl ?_
        refine W_move rfl rfl ?_
        refine W_gyes rfl rfl ?_
        refine W_move rfl rfl ?_
        refine W_gyes rfl rfl ?_
        have hrl := rdB_len V fn mm
        refine W_callq (.cons rfl (.cons rfl .nil)) Tryd.call35 rfl (same13_q (by omega) (hhX.up (by repeat (first | with_reducible exact HSub.refl _ | refine HSub.cons (by repeat (first | exact Take.here _ | apply Take.next | apply Take.app)) ?_ | refine HSub.app (by repeat (first | with_reducible exact TakeS.here _ | apply TakeS.next | apply TakeS.app)) ?_ | exact HSub.nil _ | exact HSub.refl _ | refine HSub.drop ?_ | refine HSub.dropS ?_))) (hhY.up (by repeat (first | with_reducible exact HSub.refl _ | refine HSub.cons (by repeat (first | exact Take.here _ | apply Take.next | apply Take.app)) ?_ | refine HSub.app (by repeat (first | with_reducible exact TakeS.here _ | apply TakeS.next | apply TakeS.app)) ?_ | exact HSub.nil _ | exact HSub.refl _ | refine HSub.drop ?_ | refine HSub.dropS ?_)))) ?_
        rw [decide_eq_true rfl]
        refine W_gyes rfl rfl ?_
        refine W_not rfl rfl ?_
        first | refine W_pickt rfl rfl rfl ?_ | refine W_pickf rfl rfl rfl ?_
        refine W_nil ?_
        refine W_condF rfl rfl ?_
        refine W_skip ?_
        refine W_seq ?_
        refine W_sr ?_
        refine W_move rfl rfl ?_
        refine W_bin rfl rfl b_neq rfl ?_
        refine W_nil ?_
        refine W_condT rfl rfl ?_
        refine W_sr ?_
        refine W_callp .nil Tryd.call26 rfl hT (known_pure ) ?_
        refine W_assign rfl rfl ?_
        refine W_nil ?_
        refine W_ret1m (H2 := H) Tryd.results6 rfl (.nil _) (by repeat (first | with_reducible exact HSub.refl _ | refine HSub.cons (by repeat (first | exact Take.here _ | apply Take.next | apply Take.app)) ?_ | refine HSub.app (by repeat (first | with_reducible exact TakeS.here _ | apply TakeS.next | apply TakeS.app)) ?_ | exact HSub.nil _ | exact HSub.refl _ | refine HSub.drop ?_ | refine HSub.dropS ?_)) ?_
        exact ⟨rfl, rfl⟩
      · skip
        refine W_loadB (vs := vaRow V) rfl ty60 rfl (b := b15) (by repeat (first | exact List.mem_cons_self | apply List.mem_cons_of_mem | apply List.mem_append_right)) (by show Nat.ble _ (vaRow V).length = true; rw [vaRow_len, Nat.ble_eq]; omega) (by rw [List.drop_zero, List.take_of_length_le (by rw [vaRow_len]; omega)]) rfl ?_
        refine W_move rfl rfl ?_
        refine W_move rfl rfl ?_
        refine W_callp (.cons rfl (.cons rfl (.cons rfl .nil))) Tryd.call33 rfl (T := fun _ => True) trivial (rread_bad V hfr hn hbad2) ?_
        refine W_move rfl rfl ?_
        refine W_extract rfl rfl rfl ?_
        refine W_extract rfl rfl rfl ?_
        refine W_assign rfl rfl ?_
        refine W_assign rfl rfl ?_
        refine W_nil ?_
        refine W_sr ?_
        refine W_move rfl rfl ?_
        refine W_move rfl rfl ?_
        refine W_move rfl rfl ?_
        refine W_callp (.cons rfl (.cons rfl (.cons rfl .nil))) Tryd.call34 rfl (T := fun _ => True) trivial (read_bad bf hfr hn hbad2) ?_
        refine W_move rfl rfl ?_
        refine W_extract rfl rfl rfl ?_
        refine W_extract rfl rfl rfl ?_
        refine W_assign rfl rfl ?_
        refine W_assign rfl rfl ?_
        refine W_nil ?_
        refine W_seq ?_
        refine W_sr ?_
        refine W_move rfl rfl ?_
        refine W_move rfl rfl ?_
        refine W_bin rfl rfl b_neq rfl ?_
        refine W_move rfl rfl ?_
        refine W_gyes rfl rfl ?_
        refine W_move rfl rfl ?_
        refine W_gyes rfl rfl ?_
        refine W_move rfl rfl ?_
        refine W_gyes rfl rfl ?_
        refine W_callq (.cons rfl (.cons rfl .nil)) Tryd.call35 rfl (same13_q (l := []) (m := []) (by decide) Holds.nil Holds.nil) ?_
        rw [decide_eq_true rfl]
        refine W_gyes rfl rfl ?_
        refine W_not rfl rfl ?_
        first | refine W_pickt rfl rfl rfl ?_ | refine W_pickf rfl rfl rfl ?_
        refine W_nil ?_
        refine W_condF rfl rfl ?_
        refine W_skip ?_
        refine W_seq ?_
        refine W_sr ?_
        refine W_move rfl rfl ?_
        refine W_bin rfl rfl b_neq rfl ?_
        refine W_nil ?_
        refine W_condT rfl rfl ?_
        refine W_sr ?_
        refine W_callp .nil Tryd.call26 rfl hT (known_pure ) ?_
        refine W_assign rfl rfl ?_
        refine W_nil ?_
        refine W_ret1m (H2 := H) Tryd.results6 rfl (.nil _) (by repeat (first | with_reducible exact HSub.refl _ | refine HSub.cons (by repeat (first | exact Take.here _ | apply Take.next | apply Take.app)) ?_ | refine HSub.app (by repeat (first | with_reducible exact TakeS.here _ | apply TakeS.next | apply TakeS.app)) ?_ | exact HSub.nil _ | exact HSub.refl _ | refine HSub.drop ?_ | refine HSub.dropS ?_)) ?_
        exact ⟨rfl, rfl⟩
end Go.Proofs.YtkhkagjbeilbgaaDoor
