/-
  Own work: contracts of functions that the statement reaches, and plain facts on what they compute; each theorem says its conditions.
-/
import Derived.Test.YtkhkagjbeilbgaaDoorF12
import Derived.Test.YtkhkagjbeilbgaaDoorSlFlatEq
set_option linter.all false
set_option linter.unusedSimpArgs false
set_option linter.unusedVariables false
namespace Go.Proofs.YtkhkagjbeilbgaaDoor
open Go Go.Sl
attribute [local irreducible] W

def Ins.C (x : Ins) : List Value := [.int .i64 x.op, .int .i64 x.dst, .int .i64 x.src, .int .i64 x.off, .int .i64 x.imm]
theorem ins_len (x : Ins) : x.C.length = 5 := rfl
abbrev insRow (l : List Ins) : List Value := l.flatMap Ins.C
/-- a frame whose references are of some -/
structure Good (l : List Va) (V : List Va) : Prop where
  len : V.length = 18
  of : ∀ v ∈ V, Wd v.n ∧ (v.ref = true → v ∈ l)
theorem Good.pos {l V : List Va} (h : Good l V) : ∀ v ∈ V, 0 ≤ v.n := fun v hv => (h.of v hv).1.1
theorem wd_z : Wd 0 := ⟨by decide, by decide⟩
theorem getD_all {p : Va → Prop} {V : List Va} (i : Nat) (hz : p zeroV) (hV : ∀ v ∈ V, p v) : p (V.getD i zeroV) := getD_good i hz hV
/-- what an instruction leaves is a word, or was there -/
theorem doV_all {p : Va → Prop} {V : List Va} {x : Ins} (hn : ∀ n, Wd n → p ⟨false, 0, 0, 0, n⟩) (hw : ∀ v, p v → Wd v.n) (hV : ∀ v ∈ V, p v) : ∀ v ∈ (doV V x).1, p v := by
  have hz : p zeroV := hn 0 wd_z
  have ho : p (othr V x) := by unfold othr; split <;> first | exact getD_good _ hz hV | exact hn _ (wd_w _)
  have hr : ∀ s a, p (rdV V s a).1 := fun s a => by unfold rdV; split <;> first | exact hz | exact getD_good _ hz hV
  unfold doV
  split
  · exact hV
  split
  · unfold sumV
    split
    · exact set_good hV ho
    split
    · exact hV
    · exact set_good hV (hn _ (doS_wd _ (hw _ (getD_good _ hz hV)) (hw _ ho)))
  split
  · show ∀ v ∈ (if (rdV V true x.off).2 = 0 then V.set x.dst.toNat (rdV V true x.off).1 else V), p v
    split
    · exact set_good hV (hr _ _)
    · exact hV
  split
  · unfold wrV; split
    · exact hV
    · exact set_good hV (getD_good _ hz hV)
  · exact hV
theorem Good.do {l V : List Va} (h : Good l V) (x : Ins) : Good l (doV V x).1 :=
  ⟨doV_len.trans h.len, doV_all (p := fun v => Wd v.n ∧ (v.ref = true → v ∈ l)) (fun n hn => ⟨hn, fun h => by cases h⟩) (fun v h => h.1) h.of⟩
theorem Good.new {l : List Va} (hl : l.length ≤ 5) (hw : ∀ v ∈ l, Wd v.n) : Good l (newV l) := by
  refine ⟨newV_len hl, fun v hv => ?_⟩
  unfold newV at hv
  rcases List.mem_cons.1 hv with rfl | hv
  · exact ⟨wd_z, fun h => by cases h⟩
  rcases List.mem_append.1 hv with hv | hv
  · exact ⟨hw v hv, fun _ => hv⟩
  · obtain rfl := (List.mem_replicate.1 hv).2
    exact ⟨wd_z, fun h => by cases h⟩
theorem rd_reg {V : List Va} {k : Nat} (hk : k < 10) : rdV V false (k : Int) = (V.getD k zeroV, 0) := by
  unfold rdV
  rw [if_neg (by simp [lenS]; omega)]
  simp [baseS]
theorem rd_word {V : List Va} {k : Nat} (hk : 10 ≤ k) (h18 : k < 18) : rdV V true ((k : Int) - 10) = (V.getD k zeroV, 0) := by
  unfold rdV
  rw [if_neg (by simp [lenS]; omega)]
  simp only [baseS, if_true]
  rw [show 10 + ((k : Int) - 10).toNat = k by omega]
/-- is it a word, or one of the first? -/
def inB (l : List Va) (v : Va) (j : Nat) : Bool := !v.ref || (l.take j).any fun y => decide (v = y)
theorem inB0 (l : List Va) (v : Va) : inB l v 0 = !v.ref := by simp [inB]
theorem inB_t {l : List Va} {v : Va} {j : Nat} (h : inB l v j = true) : true = inB l v (j + 1) := by
  unfold inB at h ⊢
  rw [List.take_add_one, List.any_append, ← Bool.or_assoc, h]; rfl
theorem inB_f {l : List Va} {v y : Va} {j : Nat} (h : inB l v j = false) (hy : l[j]? = some y) : decide (v = y) = inB l v (j + 1) := by
  unfold inB at h ⊢
  rw [List.take_add_one, List.any_append, ← Bool.or_assoc, h, hy]; simp
theorem inB_all {l V : List Va} (h : Good l V) (k : Nat) : inB l (V.getD k zeroV) l.length = true := by
  have := getD_good (p := fun v => v.ref = true → v ∈ l) (V := V) k (fun h => by cases h) (fun v hv => (h.of v hv).2)
  unfold inB
  rw [List.take_length]
  cases hr : (V.getD k zeroV).ref with
  | false => rfl
  | true => simp only [Bool.not_true, Bool.false_or, List.any_eq_true, decide_eq_true_eq]; exact ⟨_, this hr, rfl⟩
set_option maxHeartbeats 4000000 in
theorem frameRefs_pure {l : List Va} {code : List Ins} {ad cd : Option Addr} {cap cap1 : Nat} (hc : l.length ≤ cap) (hw : ∀ v ∈ l, Wd v.n) (hop : ∀ x ∈ code, I64 x.op) (hbig : code.length ≤ maxLen) : Pure Tryd.prog (fun w => Tab w ∧ InRow w ad (vaRow l) ∧ InRow w cd (insRow code)) 4 [.slice ad l.length cap, .slice cd code.length cap1] (.bool true) := by
  intro w0 H hT
  have hT0 := hT
  clear hT
  have hT := hT0.1
  have hbig' : code.length ≤ 9223372036854775807 := by simp only [maxLen] at hbig; omega
  have h5 : (l.take 5).length ≤ 5 := by rw [List.length_take]; omega
  have hrow : Holds w0 H ad (vaRow l) := Holds.old hT0.2.1
  have hcode : Holds w0 H cd (insRow code) := Holds.old hT0.2.2
  have hrow5 : Holds w0 H ad (vaRow (l.take 5)) := by
    have e : vaRow (l.take 5) = (vaRow l).take (5 * 5) := (flat_take va_len l 5).symm
    rw [e]; exact hrow.take _
  refine L_enter Tryd.func4 rfl Tryd.ntmps4 rfl rfl ?_
  refine W_sr ?_
  refine W_assign rfl rfl ?_
  refine W_nil ?_
  refine W_sr ?_
  refine W_move rfl rfl ?_
  refine W_move rfl rfl ?_
  refine W_len rfl ty35 rfl rfl ?_
  refine W_min2 rfl rfl (m := (((l.take 5).length : Nat) : Int)) (by rw [List.length_take]; omega) rfl ?_
  refine W_slice0 (hh := (l.take 5).length) rfl ty35 ty55 rfl ⟨_, rfl⟩ (by rw [List.length_take]; omega) rfl ?_
  refine W_assign rfl rfl ?_
  refine W_nil ?_
  refine W_sr ?_
  refine W_move rfl rfl ?_
  refine W_call (.cons rfl .nil) Tryd.call20 rfl ((Tos_L (l := l.take 5) (by rw [List.length_take]; omega) hrow5).hsub (.refl _)) ?_
  rintro v H' ⟨HB, hO, rfl⟩
  obtain ⟨ad5, cap5, rfl, hc5, _, hrow5'⟩ := Holds.of_own (H := HB ++ H) hO (fun p hp => List.mem_append_left _ hp)
  refine W_call (.cons rfl .nil) Tryd.call19 rfl ((New_L (l := l.take 5) (by rw [List.length_take]; omega) hrow5').hsub (.refl _)) ?_
  rintro v H' ⟨bf, rfl, rfl⟩
  refine W_move rfl rfl ?_
  refine W_extract rfl rfl rfl ?_
  refine W_extract rfl rfl rfl ?_
  refine W_assign rfl rfl ?_
  refine W_assign rfl rfl ?_
  refine W_nil ?_
  refine W_seq ?_
  refine W_sr ?_
  refine W_move rfl rfl ?_
  refine W_bin rfl rfl b_neq rfl ?_
  refine W_nil ?_
  refine W_condF rfl rfl ?_
  refine W_skip ?_
  refine W_seq ?_
  refine W_sr ?_
  refine W_assign rfl rfl ?_
  refine W_nil ?_
  refine W_block ?_
  refine W_loopC (X := (Nat × List Va)) [(0, _), (1, _), (5, _)] (fun (x : (Nat × List Va)) => [(7, .int .i64 (x.1 : Int))]) (fun _ => _) (fun (x : (Nat × List Va)) => (bf, .cells 130 90 (vaRow x.2)) :: H) (fun (x : (Nat × List Va)) => x.1 ≤ code.length ∧ Good (l.take 5) x.2) (fun (x : (Nat × List Va)) => code.length - x.1) (0, newV (l.take 5)) ⟨Nat.zero_le _, Good.new (by rw [List.length_take]; omega) (fun v hv => hw v (List.mem_of_mem_take hv))⟩ (sub_cons rfl (sub_cons rfl (sub_cons rfl (sub_nil _)))) (sub_cons rfl (sub_nil _)) rfl (by repeat (first | with_reducible exact HSub.refl _ | refine HSub.cons (by repeat (first | exact Take.here _ | apply Take.next | apply Take.app)) ?_ | refine HSub.app (by repeat (first | with_reducible exact TakeS.here _ | apply TakeS.next | apply TakeS.app)) ?_ | exact HSub.nil _ | exact HSub.refl _ | refine HSub.drop ?_ | refine HSub.dropS ?_)) ?_
  rintro ⟨i, V⟩ ⟨hi, hG⟩
  dsimp only at hi hG ⊢
  have hl18 := hG.len
  simp only [List.cons_append, List.nil_append]
  refine W_seq ?_
  refine W_sr ?_
  refine W_move rfl rfl ?_
  refine W_move rfl rfl ?_
  refine W_len rfl ty36 rfl rfl ?_
  refine W_bin rfl rfl b_lss rfl ?_
  refine W_move rfl rfl ?_
  apply W_and
  iterate 4 exact rfl
  case h1 =>
    intro hg4
    refine W_gyes rfl rfl ?_
    refine W_move rfl rfl ?_
    refine W_gyes rfl rfl ?_
    refine W_bin rfl rfl b_lss rfl ?_
    exact W_met rfl (by repeat (first | exact .refl | refine .cons rfl ?_))
  refine W_nil ?_
  refine W_condPS (p := (i : Int) < (code.length : Int) ∧ (i : Int) < 80) rfl (by simp) (fun c0 => ?_) (fun c0 => ?_)
  · skip
    refine W_skip ?_
    refine W_seq ?_
    refine W_block ?_
    refine W_sr ?_
    obtain ⟨x, hx⟩ : ∃ x, code[i]? = some x := ⟨_, List.getElem?_eq_getElem (by omega)⟩
    obtain ⟨qx, px, rfl, hcx⟩ := hcode.row ins_len (by decide) hx
    refine W_move rfl rfl ?_
    refine W_move rfl rfl ?_
    refine W_move rfl rfl ?_
    refine W_indexAddr (j := i) rfl rfl ty36 ty46 (by first | rfl | omega) (by first | decide | omega | simp) rfl rfl ?_
    refine W_loadA rfl ty46 rfl (vs := x.C) rfl (hcx.up (by repeat (first | with_reducible exact HSub.refl _ | refine HSub.cons (by repeat (first | exact Take.here _ | apply Take.next | apply Take.app)) ?_ | refine HSub.app (by repeat (first | with_reducible exact TakeS.here _ | apply TakeS.next | apply TakeS.app)) ?_ | exact HSub.nil _ | exact HSub.refl _ | refine HSub.drop ?_ | refine HSub.dropS ?_))) rfl ?_
    refine W_callp (.cons rfl .nil) Tryd.call22 rfl (T := fun _ => True) trivial (to15_pure x) ?_
    refine W_call (.cons rfl (.cons rfl .nil)) Tryd.call21 rfl ((Do_L (V := V) (x := x) hl18 (hop x (List.mem_of_getElem? hx)) hG.pos hT).hsub (.cons (by repeat (first | exact Take.here _ | apply Take.next | apply Take.app)) (.refl _))) ?_
    rintro v H' ⟨rfl, rfl⟩
    refine W_nil ?_
    refine W_sr ?_
    refine W_assign rfl rfl ?_
    refine W_nil ?_
    refine W_block ?_
    refine W_loopC (X := Nat) [(0, _), (1, _), (5, _), (7, _)] (fun (k : Nat) => [(8, .int .i64 (k : Int))]) (fun _ => _) (fun _ => _) (fun (k : Nat) => k ≤ 18) (fun (k : Nat) => 18 - k) 0 (by decide) (sub_cons rfl (sub_cons rfl (sub_cons rfl (sub_cons rfl (sub_nil _))))) (sub_cons rfl (sub_nil _)) rfl (by repeat (first | with_reducible exact HSub.refl _ | refine HSub.cons (by repeat (first | exact Take.here _ | apply Take.next | apply Take.app)) ?_ | refine HSub.app (by repeat (first | with_reducible exact TakeS.here _ | apply TakeS.next | apply TakeS.app)) ?_ | exact HSub.nil _ | exact HSub.refl _ | refine HSub.drop ?_ | refine HSub.dropS ?_)) ?_
    intro k hk
    simp only [List.cons_append, List.nil_append]
    refine W_seq ?_
    refine W_sr ?_
    refine W_move rfl rfl ?_
    refine W_bin rfl rfl b_lss rfl ?_
    refine W_nil ?_
    refine W_condPS (p := (k : Int) < 18) rfl (by simp) (fun c1 => ?_) (fun c1 => ?_)
    · skip
      refine W_skip ?_
      refine W_seq ?_
      refine W_block ?_
      refine W_sr ?_
      refine W_move rfl rfl ?_
      refine W_move rfl rfl ?_
      refine W_call (.cons rfl (.cons rfl .nil)) Tryd.call23 rfl ((Reg_L (V := (doV V x).1) (at_ := (k : Int)) (doV_len.trans hl18)).hsub (.cons (by repeat (first | exact Take.here _ | apply Take.next | apply Take.app)) (.refl _))) ?_
      rintro v H' ⟨rfl, rfl⟩
      refine W_move rfl rfl ?_
      refine W_extract rfl rfl rfl ?_
      refine W_extract rfl rfl rfl ?_
      refine W_alloc ty50 rfl rfl (fun b9 => ?_)
      refine W_storeA (l' := vaC (rdV (doV V x).1 false (k : Int)).1) rfl rfl ty50 rfl rfl (b := b9) (by repeat (first | exact List.mem_cons_self | apply List.mem_cons_of_mem | apply List.mem_append_right)) (by decide) rfl (by repeat (first | exact Upd.head _ | apply Upd.tail | apply Upd.app)) ?_
      refine W_assign rfl rfl ?_
      refine W_nil ?_
      refine W_seq ?_
      refine W_sr ?_
      refine W_move rfl rfl ?_
      refine W_bin rfl rfl b_geq rfl ?_
      refine W_nil ?_
      refine W_condJ (p := 10 ≤ (k : Int)) [(10, .int .i64 0), (9, .pointer (some ⟨b9, 0, none⟩)), (8, .int .i64 (k : Int)), (7, .int .i64 (i : Int)), (0, .slice ad (l.take 5).length cap), (1, .slice (some ⟨qx, px, none⟩) code.length cap1), (5, .pointer (some ⟨bf, 0, none⟩))] ((b9, .cells 50 5 (vaC ((doV V x).1.getD k zeroV))) :: (bf, .cells 130 90 (vaRow (doV V x).1)) :: H) rfl (by simp) (fun c2 => ?_) (fun c2 => ?_) ?_
      · skip
        refine W_region ?_
        refine W_move rfl rfl ?_
        refine W_move rfl rfl ?_
        refine W_bin rfl rfl (b_sub (m := (k : Int) - 10) (i64w (by omega))) rfl ?_
        refine W_call (.cons rfl (.cons rfl .nil)) Tryd.call24 rfl ((Word_L (V := (doV V x).1) (at_ := (k : Int) - 10) (doV_len.trans hl18)).hsub (.cons (by repeat (first | exact Take.here _ | apply Take.next | apply Take.app)) (.refl _))) ?_
        rintro v H' ⟨rfl, rfl⟩
        rw [rd_word (by omega) (by omega)]
        refine W_move rfl rfl ?_
        refine W_extract rfl rfl rfl ?_
        refine W_extract rfl rfl rfl ?_
        refine W_storeA rfl rfl ty50 rfl rfl (b := b9) (by repeat (first | exact List.mem_cons_self | apply List.mem_cons_of_mem | apply List.mem_append_right)) (by exact Nat.le_refl 5) rfl (by repeat (first | exact Upd.head _ | apply Upd.tail | apply Upd.app)) ?_
        refine W_assign rfl rfl ?_
        refine W_nil ?_
        refine W_joined (sub_cons rfl (sub_cons rfl (sub_cons rfl (sub_cons rfl (sub_cons rfl (sub_cons rfl (sub_cons rfl (sub_nil _)))))))) (by repeat (first | with_reducible exact HSub.refl _ | refine HSub.cons (by repeat (first | exact Take.here _ | apply Take.next | apply Take.app)) ?_ | refine HSub.app (by repeat (first | with_reducible exact TakeS.here _ | apply TakeS.next | apply TakeS.app)) ?_ | exact HSub.nil _ | exact HSub.refl _ | refine HSub.drop ?_ | refine HSub.dropS ?_))
      · skip
        refine W_skip ?_
        refine W_joined (sub_cons (by rw [rd_reg (V := (doV V x).1) (k := k) (by omega)]; rfl) (sub_cons rfl (sub_cons rfl (sub_cons rfl (sub_cons rfl (sub_cons rfl (sub_cons rfl (sub_nil _)))))))) (by rw [rd_reg (V := (doV V x).1) (k := k) (by omega)]; repeat (first | with_reducible exact HSub.refl _ | refine HSub.cons (by repeat (first | exact Take.here _ | apply Take.next | apply Take.app)) ?_ | refine HSub.app (by repeat (first | with_reducible exact TakeS.here _ | apply TakeS.next | apply TakeS.app)) ?_ | exact HSub.nil _ | exact HSub.refl _ | refine HSub.drop ?_ | refine HSub.dropS ?_))
      skip
      refine W_sr ?_
      refine W_fieldAddr rfl fld50_0 (by decide) rfl ?_
      refine W_load rfl ty4 rfl (Cell.own (b := b9) (by repeat (first | exact List.mem_cons_self | apply List.mem_cons_of_mem | apply List.mem_append_right)) rfl) rfl ?_
      refine W_not rfl rfl ?_
      refine W_assign rfl rfl ?_
      refine W_nil ?_
      refine W_seq ?_
      refine W_sr ?_
      refine W_assign rfl rfl ?_
      refine W_nil ?_
      refine W_block ?_
      refine W_loopC (X := Nat) [(0, _), (1, _), (5, _), (7, _), (8, _), (9, _), (10, _)] (fun (j : Nat) => [(12, .int .i64 (j : Int)), (11, .bool (inB (l.take 5) ((doV V x).1.getD k zeroV) j))]) (fun _ => _) (fun _ => _) (fun (j : Nat) => j ≤ (l.take 5).length) (fun (j : Nat) => (l.take 5).length - j) 0 (Nat.zero_le _) (sub_cons rfl (sub_cons rfl (sub_cons rfl (sub_cons rfl (sub_cons rfl (sub_cons rfl (sub_cons rfl (sub_nil _)))))))) (sub_cons rfl (sub_cons (by rw [inB0]; rfl) (sub_nil _))) rfl (by repeat (first | with_reducible exact HSub.refl _ | refine HSub.cons (by repeat (first | exact Take.here _ | apply Take.next | apply Take.app)) ?_ | refine HSub.app (by repeat (first | with_reducible exact TakeS.here _ | apply TakeS.next | apply TakeS.app)) ?_ | exact HSub.nil _ | exact HSub.refl _ | refine HSub.drop ?_ | refine HSub.dropS ?_)) ?_
      intro j hj
      simp only [List.cons_append, List.nil_append]
      refine W_seq ?_
      refine W_sr ?_
      refine W_move rfl rfl ?_
      refine W_move rfl rfl ?_
      refine W_len rfl ty35 rfl rfl ?_
      refine W_bin rfl rfl b_lss rfl ?_
      refine W_nil ?_
      refine W_condPS (p := (j : Int) < ((l.take 5).length : Int)) rfl (by simp) (fun c3 => ?_) (fun c3 => ?_)
      · skip
        refine W_skip ?_
        refine W_seq ?_
        refine W_block ?_
        rcases hb : inB (l.take 5) ((doV V x).1.getD k zeroV) j with _ | _
        · skip
          refine W_quiet (by kernel_rfl) (by decide +kernel) ?_
          refine WQ_x (X_move rfl) rfl ?_
          refine WQ_x (X_move rfl) rfl ?_
          refine WQ_gyes rfl rfl ?_
          refine WQ_x (X_loadB (vs := vaC ((doV V x).1.getD k zeroV)) rfl ty50 rfl (by repeat (first | exact List.mem_cons_self | apply List.mem_cons_of_mem | apply List.mem_append_right)) rfl rfl) rfl ?_
          refine WQ_gyes rfl rfl ?_
          refine WQ_x (X_move rfl) rfl ?_
          refine WQ_gyes rfl rfl ?_
          obtain ⟨y, hy⟩ : ∃ y, (l.take 5)[j]? = some y := ⟨_, List.getElem?_eq_getElem (by omega)⟩
          obtain ⟨q0, p0, hq0, hcy⟩ := hrow5.row va_len (by decide) hy
          subst hq0
          refine WQ_x (X_move rfl) rfl ?_
          refine WQ_gyes rfl rfl ?_
          refine WQ_x (X_indexAddr (j := j) rfl rfl ty35 ty55 (by first | rfl | omega) (by first | decide | omega | simp) rfl) rfl ?_
          refine WQ_gyes rfl rfl ?_
          refine WQ_x (X_loadA rfl ty55 rfl (vs := vaC y) rfl (hcy.up (by repeat (first | with_reducible exact HSub.refl _ | refine HSub.cons (by repeat (first | exact Take.here _ | apply Take.next | apply Take.app)) ?_ | refine HSub.app (by repeat (first | with_reducible exact TakeS.here _ | apply TakeS.next | apply TakeS.app)) ?_ | exact HSub.nil _ | exact HSub.refl _ | refine HSub.drop ?_ | refine HSub.dropS ?_)))) rfl ?_
          refine WQ_gyes rfl rfl ?_
          refine WQ_callp (.cons rfl .nil) Tryd.call25 rfl (T := fun _ => True) trivial (To_pure y) ?_
          refine WQ_gyes rfl rfl ?_
          refine WQ_x (X_eqF (f := vaC) rfl rfl flat50 agg50 vaC_like vaC_inj gt50 (by decide)) rfl ?_
          first | refine WQ_x (X_pickt rfl rfl) rfl ?_ | refine WQ_x (X_pickf rfl rfl) rfl ?_
          refine WQ_x (X_assign rfl) rfl ?_
          refine WQ_nil ?_
          refine W_blk ?_
          refine W_region ?_
          refine W_move rfl rfl ?_
          refine W_bin rfl rfl (b_add (m := ((j + 1 : Nat) : Int)) ((i64w (by omega)).trans (by omega))) rfl ?_
          refine W_assign rfl rfl ?_
          refine W_nil ?_
          refine W_again (j + 1) (by omega) (by omega) (sub_cons rfl (sub_cons (congrArg (fun b => some (Value.bool b)) (inB_f hb hy)) (sub_cons rfl (sub_cons rfl (sub_cons rfl (sub_cons rfl (sub_cons rfl (sub_cons rfl (sub_cons rfl (sub_nil _)))))))))) rfl (by repeat (first | with_reducible exact HSub.refl _ | refine HSub.cons (by repeat (first | exact Take.here _ | apply Take.next | apply Take.app)) ?_ | refine HSub.app (by repeat (first | with_reducible exact TakeS.here _ | apply TakeS.next | apply TakeS.app)) ?_ | exact HSub.nil _ | exact HSub.refl _ | refine HSub.drop ?_ | refine HSub.dropS ?_))
        · skip
          refine W_quiet (by kernel_rfl) (by decide +kernel) ?_
          refine WQ_x (X_move rfl) rfl ?_
          refine WQ_x (X_move rfl) rfl ?_
          refine WQ_gno rfl rfl rfl rfl ?_
          refine WQ_gno rfl rfl rfl rfl ?_
          refine WQ_gno rfl rfl rfl rfl ?_
          refine WQ_gno rfl rfl rfl rfl ?_
          refine WQ_gno rfl rfl rfl rfl ?_
          refine WQ_gno rfl rfl rfl rfl ?_
          refine WQ_gno rfl rfl rfl rfl ?_
          first | refine WQ_x (X_pickt rfl rfl) rfl ?_ | refine WQ_x (X_pickf rfl rfl) rfl ?_
          refine WQ_x (X_assign rfl) rfl ?_
          refine WQ_nil ?_
          refine W_blk ?_
          refine W_region ?_
          refine W_move rfl rfl ?_
          refine W_bin rfl rfl (b_add (m := ((j + 1 : Nat) : Int)) ((i64w (by omega)).trans (by omega))) rfl ?_
          refine W_assign rfl rfl ?_
          refine W_nil ?_
          refine W_again (j + 1) (by omega) (by omega) (sub_cons rfl (sub_cons (congrArg (fun b => some (Value.bool b)) (inB_t hb)) (sub_cons rfl (sub_cons rfl (sub_cons rfl (sub_cons rfl (sub_cons rfl (sub_cons rfl (sub_cons rfl (sub_nil _)))))))))) rfl (by repeat (first | with_reducible exact HSub.refl _ | refine HSub.cons (by repeat (first | exact Take.here _ | apply Take.next | apply Take.app)) ?_ | refine HSub.app (by repeat (first | with_reducible exact TakeS.here _ | apply TakeS.next | apply TakeS.app)) ?_ | exact HSub.nil _ | exact HSub.refl _ | refine HSub.drop ?_ | refine HSub.dropS ?_))
      · skip
        refine W_exit rfl ?_
        refine W_sr ?_
        obtain rfl : j = (l.take 5).length := by omega
        rw [inB_all (hG.do x) k]
        refine W_move rfl rfl ?_
        refine W_bin rfl rfl b_neq rfl ?_
        refine W_move rfl rfl ?_
        refine W_gyes rfl rfl ?_
        refine W_move rfl rfl ?_
        refine W_gyes rfl rfl ?_
        refine W_not rfl rfl ?_
        first | refine W_pickt rfl rfl rfl ?_ | refine W_pickf rfl rfl rfl ?_
        refine W_nil ?_
        refine W_condF rfl rfl ?_
        refine W_skip ?_
        refine W_blk ?_
        refine W_region ?_
        refine W_move rfl rfl ?_
        refine W_bin rfl rfl (b_add (m := ((k + 1 : Nat) : Int)) ((i64w (by omega)).trans (by omega))) rfl ?_
        refine W_assign rfl rfl ?_
        refine W_nil ?_
        refine W_again (k + 1) (by omega) (by omega) (sub_cons rfl (sub_cons rfl (sub_cons rfl (sub_cons rfl (sub_cons rfl (sub_nil _)))))) rfl (by repeat (first | with_reducible exact HSub.refl _ | refine HSub.cons (by repeat (first | exact Take.here _ | apply Take.next | apply Take.app)) ?_ | refine HSub.app (by repeat (first | with_reducible exact TakeS.here _ | apply TakeS.next | apply TakeS.app)) ?_ | exact HSub.nil _ | exact HSub.refl _ | refine HSub.drop ?_ | refine HSub.dropS ?_))
    · skip
      refine W_exit rfl ?_
      refine W_blk ?_
      refine W_region ?_
      refine W_move rfl rfl ?_
      refine W_bin rfl rfl (b_add (m := ((i + 1 : Nat) : Int)) ((i64w (by omega)).trans (by omega))) rfl ?_
      refine W_assign rfl rfl ?_
      refine W_nil ?_
      refine W_again (i + 1, (doV V x).1) ⟨by show i + 1 ≤ code.length; omega, hG.do x⟩ (by show code.length - (i + 1) < code.length - i; omega) (sub_cons rfl (sub_cons rfl (sub_cons rfl (sub_cons rfl (sub_nil _))))) rfl (by repeat (first | with_reducible exact HSub.refl _ | refine HSub.cons (by repeat (first | exact Take.here _ | apply Take.next | apply Take.app)) ?_ | refine HSub.app (by repeat (first | with_reducible exact TakeS.here _ | apply TakeS.next | apply TakeS.app)) ?_ | exact HSub.nil _ | exact HSub.refl _ | refine HSub.drop ?_ | refine HSub.dropS ?_))
  · skip
    refine W_exit rfl ?_
    refine W_sr ?_
    refine W_callp .nil Tryd.call26 rfl hT (known_pure ) ?_
    refine W_assign rfl rfl ?_
    refine W_nil ?_
    refine W_ret1m (H2 := H) Tryd.results4 rfl (.nil _) (by repeat (first | with_reducible exact HSub.refl _ | refine HSub.cons (by repeat (first | exact Take.here _ | apply Take.next | apply Take.app)) ?_ | refine HSub.app (by repeat (first | with_reducible exact TakeS.here _ | apply TakeS.next | apply TakeS.app)) ?_ | exact HSub.nil _ | exact HSub.refl _ | refine HSub.drop ?_ | refine HSub.dropS ?_)) ?_
    exact ⟨rfl, rfl⟩
end Go.Proofs.YtkhkagjbeilbgaaDoor
