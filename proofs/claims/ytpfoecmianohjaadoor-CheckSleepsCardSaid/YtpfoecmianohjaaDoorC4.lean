/-
  Own work: contracts of functions that the statement reaches, and plain facts on what they compute; each theorem says its conditions.
-/
import Derived.Test.YtpfoecmianohjaaDoorC3
import Derived.Test.YtpfoecmianohjaaDoorSlRow
set_option linter.all false
set_option linter.unusedSimpArgs false
set_option linter.unusedVariables false
namespace Go.Proofs.YtpfoecmianohjaaDoor
open Go Go.Sl
attribute [local irreducible] W

/-- a number's own bit -/
def bitN (i : Int) : Nat := if 0 ≤ i ∧ i < 64 then 2 ^ i.toNat else 0
def goodB (i : Int) : Bool := decide (0 ≤ i) && decide (i < 64)
theorem pow64 {i : Nat} (h : i < 64) : 2 ^ i ≤ 9223372036854775808 := by
  have : 2 ^ i ≤ 2 ^ 63 := Nat.pow_le_pow_right (by omega) (by omega)
  simpa using this
theorem shl_one {i : Int} (hi : 0 ≤ i ∧ i < 64) : IntKind.u64.wrap (1 * 2 ^ (min i.toNat IntKind.u64.bits)) = ((2 ^ i.toNat : Nat) : Int) := by
  have h := pow64 (i := i.toNat) (by omega)
  have e : min i.toNat IntKind.u64.bits = i.toNat := by
    have : IntKind.u64.bits = 64 := rfl
    omega
  have e2 : (2 : Int) ^ i.toNat = ((2 ^ i.toNat : Nat) : Int) := (Int.natCast_pow 2 _).symm
  rw [Int.one_mul, e, e2]
  generalize 2 ^ i.toNat = k at *
  exact u64w ⟨by omega, by omega⟩
theorem bitN_lt (i : Int) : bitN i < 18446744073709551616 := by
  unfold bitN; split
  · have := pow64 (i := i.toNat) (by omega); omega
  · omega
/-- a set of numbers from 0 to 63 -/
def MaskOk (m : Nat) : Prop := m < 18446744073709551616
def hasN (m : Nat) (i : Int) : Bool := goodB i && m.testBit i.toNat
theorem and_pow_ne (m k : Nat) : (m &&& 2 ^ k ≠ 0) ↔ m.testBit k = true := by
  constructor
  · intro h
    obtain ⟨i, hi⟩ := Nat.exists_testBit_of_ne_zero h
    rw [Nat.testBit_and, Nat.testBit_two_pow] at hi
    simp at hi
    rw [hi.2]; exact hi.1
  · intro h e
    have : (m &&& 2 ^ k).testBit k = true := by rw [Nat.testBit_and, Nat.testBit_two_pow, h]; simp
    rw [e] at this
    simp at this
theorem and_has {m : Nat} (hm : MaskOk m) (i : Int) : decide (bitsOf .and .u64 (m : Int) (bitN i : Int) ≠ 0) = hasN m i := by
  have e : bitsOf .and .u64 (m : Int) (bitN i : Int) = ((m &&& bitN i : Nat) : Int) := by
    refine bitsOf_nat .and m (bitN i) _ (Nat.lt_of_le_of_lt Nat.and_le_left hm) ?_
    simp only [BitVec.toNat_and, BitVec.toNat_ofNat]
    rw [Nat.mod_eq_of_lt (show m < 2 ^ 64 from hm), Nat.mod_eq_of_lt (show bitN i < 2 ^ 64 from bitN_lt i)]
  rw [e]
  unfold hasN goodB bitN
  by_cases h : 0 ≤ i ∧ i < 64
  · rw [if_pos h, decide_eq_true h.1, decide_eq_true h.2]
    have h2 := and_pow_ne m i.toNat
    cases hb : m.testBit i.toNat
    · rw [hb] at h2; simp at h2; simp [h2]
    · rw [hb] at h2; simp at h2; simp; omega
  · rw [if_neg h]
    have : (decide (0 ≤ i) && decide (i < 64)) = false := by simpa using h
    rw [this]
    simp
theorem or_mask {m : Nat} (hm : MaskOk m) (i : Int) : bitsOf .or .u64 (m : Int) (bitN i : Int) = ((m ||| bitN i : Nat) : Int) := by
  refine bitsOf_nat .or m (bitN i) _ (Nat.or_lt_two_pow (n := 64) hm (bitN_lt i)) ?_
  simp only [BitVec.toNat_or, BitVec.toNat_ofNat]
  rw [Nat.mod_eq_of_lt (show m < 2 ^ 64 from hm), Nat.mod_eq_of_lt (show bitN i < 2 ^ 64 from bitN_lt i)]
theorem or_ok {m : Nat} (hm : MaskOk m) (i : Int) : MaskOk (m ||| bitN i) := Nat.or_lt_two_pow (n := 64) hm (bitN_lt i)
def withL (m : Nat) (l : List Int) : Nat := l.foldl (fun m i => m ||| bitN i) m
theorem withL_ok : ∀ (l : List Int) {m : Nat}, MaskOk m → MaskOk (withL m l)
  | [], _, h => h
  | i :: l, _, h => withL_ok l (or_ok h i)
def fullN (n : Int) : Nat := if n < 1 then 0 else if 64 ≤ n then 18446744073709551615 else 2 ^ n.toNat - 1
def i64s (l : List Int) : List Value := l.map fun x => .int .i64 x
theorem i64s_at {l : List Int} {i : Nat} {x : Int} (h : l[i]? = some x) : (i64s l)[i]? = some (.int .i64 x) := by simp [i64s, h]
theorem takeAt {α : Type} {l : List α} {i : Nat} {x : α} (h : l[i]? = some x) : l.take (i + 1) = l.take i ++ [x] := by
  rw [List.take_add_one, h]; rfl
theorem foldl_at {β : Type} {f : β → Int → β} {b : β} {l : List Int} {i : Nat} {x : Int} (h : l[i]? = some x) : (l.take (i + 1)).foldl f b = f ((l.take i).foldl f b) x := by
  rw [takeAt h, List.foldl_append]; rfl
set_option maxHeartbeats 1000000 in
theorem good_pure (i : Int) : Pure Tryd.prog Tab 71 [.int .i64 i] (.bool (goodB i)) := by
  intro w0 H hT
  refine L_enter Tryd.func71 rfl Tryd.ntmps71 rfl rfl ?_
  refine W_sr ?_
  refine W_assign rfl rfl ?_
  refine W_nil ?_
  refine W_sr ?_
  refine W_move rfl rfl ?_
  refine W_bin rfl rfl b_geq rfl ?_
  refine W_move rfl rfl ?_
  apply W_and
  iterate 4 exact rfl
  case h1 =>
    intro hg2
    refine W_gyes rfl rfl ?_
    refine W_move rfl rfl ?_
    refine W_gyes rfl rfl ?_
    refine W_bin rfl rfl b_lss rfl ?_
    exact W_met rfl (by repeat (first | exact .refl | refine .cons rfl ?_))
  refine W_assign rfl rfl ?_
  refine W_nil ?_
  refine W_ret1m Tryd.results71 rfl (.nil _) (.refl _) ?_
  exact ⟨rfl, rfl⟩
set_option maxHeartbeats 1000000 in
theorem bit_pure (i : Int) : Pure Tryd.prog Tab 58 [.int .i64 i] (.int .u64 (bitN i : Nat)) := by
  intro w0 H hT
  refine L_enter Tryd.func58 rfl Tryd.ntmps58 rfl rfl ?_
  refine W_sr ?_
  refine W_assign rfl rfl ?_
  refine W_nil ?_
  refine W_seq ?_
  refine W_sr ?_
  refine W_move rfl rfl ?_
  refine W_callp (.cons rfl .nil) Tryd.call71 rfl hT (good_pure _) ?_
  refine W_not rfl rfl ?_
  refine W_nil ?_
  refine W_condS rfl (fun c0 => ?_) (fun c0 => ?_)
  · skip
    refine W_sr ?_
    refine W_assign rfl rfl ?_
    refine W_nil ?_
    refine W_ret1m Tryd.results58 rfl (.nil _) (.refl _) ?_
    exact ⟨by unfold bitN; rw [if_neg (by intro h; have : goodB i = true := (by unfold goodB; simp [h.1, h.2]); simp [this] at c0)]; rfl, rfl⟩
  · skip
    refine W_skip ?_
    refine W_sr ?_
    refine W_move rfl rfl ?_
    have hi : 0 ≤ i ∧ i < 64 := by
      have : goodB i = true := by cases h : goodB i <;> simp_all
      unfold goodB at this
      simpa using this
    refine W_conv rfl ty3 ty70 (u64w (by omega)) rfl ?_
    refine W_bin rfl rfl (b_shl (by omega) (shl_one hi)) rfl ?_
    refine W_assign rfl rfl ?_
    refine W_nil ?_
    refine W_ret1m Tryd.results58 rfl (.nil _) (.refl _) ?_
    exact ⟨by unfold bitN; rw [if_pos hi], rfl⟩
set_option maxHeartbeats 1000000 in
theorem full_pure (n : Int) : Pure Tryd.prog Tab 56 [.int .i64 n] (.int .u64 (fullN n : Nat)) := by
  intro w0 H hT
  refine L_enter Tryd.func56 rfl Tryd.ntmps56 rfl rfl ?_
  refine W_sr ?_
  refine W_assign rfl rfl ?_
  refine W_nil ?_
  refine W_seq ?_
  refine W_block ?_
  refine W_sr ?_
  refine W_move rfl rfl ?_
  refine W_bin rfl rfl b_lss rfl ?_
  refine W_assign rfl rfl ?_
  refine W_nil ?_
  refine W_condPS (p := n < 1) rfl (by simp) (fun c0 => ?_) (fun c0 => ?_)
  · skip
    refine W_sr ?_
    refine W_assign rfl rfl ?_
    refine W_nil ?_
    refine W_ret1m Tryd.results56 rfl (.nil _) (.refl _) ?_
    exact ⟨by unfold fullN; rw [if_pos c0]; rfl, rfl⟩
  · skip
    refine W_sr ?_
    refine W_move rfl rfl ?_
    refine W_bin rfl rfl b_geq rfl ?_
    refine W_assign rfl rfl ?_
    refine W_nil ?_
    refine W_condPS (p := 64 ≤ n) rfl (by simp) (fun c1 => ?_) (fun c1 => ?_)
    · skip
      refine W_sr ?_
      refine W_assign rfl rfl ?_
      refine W_nil ?_
      refine W_ret1m Tryd.results56 rfl (.nil _) (.refl _) ?_
      exact ⟨by unfold fullN; rw [if_neg c0, if_pos c1]; rfl, rfl⟩
    · skip
      refine W_skip ?_
      refine W_blk ?_
      refine W_sr ?_
      refine W_move rfl rfl ?_
      refine W_callp (.cons rfl .nil) Tryd.call58 rfl hT (bit_pure _) ?_
      refine W_bin rfl rfl (b_sub (m := ((2 ^ n.toNat - 1 : Nat) : Int)) (by unfold bitN; rw [if_pos (by omega)]; have := Nat.two_pow_pos n.toNat; have := pow64 (i := n.toNat) (by omega); rw [u64w (by omega)]; omega)) rfl ?_
      refine W_assign rfl rfl ?_
      refine W_nil ?_
      refine W_ret1m Tryd.results56 rfl (.nil _) (.refl _) ?_
      exact ⟨by unfold fullN; rw [if_neg c0, if_neg c1], rfl⟩
set_option maxHeartbeats 1000000 in
theorem has_m (m : Nat) (i : Int) (hm : MaskOk m) : Pure Tryd.prog Tab 34 [.int .u64 (m : Int), .int .i64 i] (.bool (hasN m i)) := by
  intro w0 H hT
  refine L_enter Tryd.func34 rfl Tryd.ntmps34 rfl rfl ?_
  refine W_sr ?_
  refine W_assign rfl rfl ?_
  refine W_nil ?_
  refine W_sr ?_
  refine W_move rfl rfl ?_
  refine W_move rfl rfl ?_
  refine W_callp (.cons rfl .nil) Tryd.call58 rfl hT (bit_pure _) ?_
  refine W_bin rfl rfl (b_and rfl) rfl ?_
  refine W_bin rfl rfl b_neq rfl ?_
  refine W_assign rfl rfl ?_
  refine W_nil ?_
  refine W_ret1m Tryd.results34 rfl (.nil _) (.refl _) ?_
  exact ⟨by rw [← and_has hm i], rfl⟩
set_option maxHeartbeats 1000000 in
theorem with_q {w0 : World} {H : Heap} (m : Nat) (l : List Int) {ad : Option Addr} {cap : Nat} (hm : MaskOk m) (hn : l.length ≤ 4611686018427387904) (hrow : Holds w0 H ad (i64s l)) (hT : Tab w0) : PureAt Tryd.prog w0 H 57 [.int .u64 (m : Int), .slice ad l.length cap] (.int .u64 ((withL m l : Nat) : Int)) := by
  refine L_enter Tryd.func57 rfl Tryd.ntmps57 rfl rfl ?_
  refine W_sr ?_
  refine W_assign rfl rfl ?_
  refine W_nil ?_
  refine W_seq ?_
  refine W_sr ?_
  refine W_move rfl rfl ?_
  refine W_len rfl ty54 rfl rfl ?_
  refine W_move rfl rfl ?_
  refine W_nil ?_
  refine W_block ?_
  refine W_loopD (X := Nat) (fun i => [(0, .int .u64 ((withL m (l.take i) : Nat) : Int)), (7, .slice ad l.length cap), (8, .int .i64 (l.length : Int)), (9, .int .i64 (i : Int))]) (fun _ => []) (fun _ => H) (fun i => i ≤ l.length) (fun i => l.length - i) 0 (by omega) (sub_cons rfl (sub_cons rfl (sub_cons rfl (sub_cons rfl (sub_nil _))))) rfl (by repeat (first | exact HSub.refl _ | refine HSub.cons (by repeat (first | exact Take.here _ | apply Take.next | apply Take.app)) ?_ | refine HSub.app (by repeat (first | exact TakeS.here _ | apply TakeS.next | apply TakeS.app)) ?_ | refine HSub.drop ?_ | refine HSub.dropS ?_ | exact HSub.nil _)) ?_
  intro i hi
  have hok := withL_ok (l.take i) hm
  refine W_sr ?_
  refine W_bin rfl rfl b_lss rfl ?_
  refine W_nil ?_
  refine W_seq ?_
  refine W_condPS (p := (i : Int) < (l.length : Int)) rfl (by simp) (fun c0 => ?_) (fun c0 => ?_)
  · skip
    refine W_skip ?_
    refine W_seq ?_
    refine W_block ?_
    refine W_sr ?_
    obtain ⟨x, hx⟩ : ∃ x, l[i]? = some x := ⟨_, List.getElem?_eq_getElem (by omega)⟩
    obtain ⟨b, o, rfl, hc⟩ := hrow i _ (i64s_at hx)
    refine W_indexAddr (j := i) rfl rfl ty54 ty3 rfl (by omega) rfl rfl ?_
    refine W_load rfl ty3 rfl (by rw [Nat.mul_one]; exact hc) rfl ?_
    refine W_assign rfl rfl ?_
    refine W_nil ?_
    refine W_region ?_
    refine W_move rfl rfl ?_
    refine W_move rfl rfl ?_
    refine W_callp (.cons rfl .nil) Tryd.call58 rfl hT (bit_pure _) ?_
    refine W_bin rfl rfl (b_or rfl) rfl ?_
    refine W_assign rfl rfl ?_
    refine W_nil ?_
    refine W_blk ?_
    refine W_region ?_
    refine W_bin rfl rfl (b_add (m := ((i + 1 : Nat) : Int)) ((i64w (by omega)).trans (by omega))) rfl ?_
    refine W_move rfl rfl ?_
    refine W_nil ?_
    refine W_again (i + 1) (by omega) (by omega) (sub_cons (by rw [show withL m (l.take (i + 1)) = withL m (l.take i) ||| bitN x from foldl_at hx]; exact congrArg (fun z => some (Value.int .u64 z)) (or_mask hok x)) (sub_cons rfl (sub_cons rfl (sub_cons rfl (sub_nil _))))) rfl (by repeat (first | exact HSub.refl _ | refine HSub.cons (by repeat (first | exact Take.here _ | apply Take.next | apply Take.app)) ?_ | refine HSub.app (by repeat (first | exact TakeS.here _ | apply TakeS.next | apply TakeS.app)) ?_ | refine HSub.drop ?_ | refine HSub.dropS ?_ | exact HSub.nil _))
  · skip
    refine W_exit rfl ?_
    refine W_sr ?_
    refine W_move rfl rfl ?_
    refine W_assign rfl rfl ?_
    refine W_nil ?_
    refine W_ret1m (H2 := H) Tryd.results57 rfl (.nil _) (by repeat (first | exact HSub.refl _ | refine HSub.cons (by repeat (first | exact Take.here _ | apply Take.next | apply Take.app)) ?_ | refine HSub.app (by repeat (first | exact TakeS.here _ | apply TakeS.next | apply TakeS.app)) ?_ | refine HSub.drop ?_ | refine HSub.dropS ?_ | exact HSub.nil _)) ?_
    obtain rfl : i = l.length := by omega
    exact ⟨by rw [List.take_length], rfl⟩
set_option maxHeartbeats 1000000 in
theorem target_pure (x : Ins) (at_ : Int) : Pure Tryd.prog Tab 69 [.agg #[.int .i64 x.op, .int .i64 x.dst, .int .i64 x.src, .int .i64 x.off, .int .i64 x.imm], .int .i64 at_] (.int .i64 (IntKind.i64.wrap (IntKind.i64.wrap (at_ + 1) + x.off))) := by
  intro w0 H hT
  refine L_enter Tryd.func69 rfl Tryd.ntmps69 rfl rfl ?_
  refine W_sr ?_
  refine W_box rfl rfl rfl (fun b2 => ?_)
  refine W_assign rfl rfl ?_
  refine W_nil ?_
  refine W_sr ?_
  refine W_move rfl rfl ?_
  refine W_bin rfl rfl (b_add rfl) rfl ?_
  refine W_fieldAddr rfl fld67_3 (by decide) rfl ?_
  refine W_load rfl ty3 rfl (Cell.own (by repeat (first | exact List.mem_cons_self | apply List.mem_cons_of_mem | apply List.mem_append_right)) rfl) rfl ?_
  refine W_bin rfl rfl (b_add rfl) rfl ?_
  refine W_assign rfl rfl ?_
  refine W_nil ?_
  refine W_ret1m (H2 := H) Tryd.results69 rfl (.nil _) (by repeat (first | exact HSub.refl _ | refine HSub.cons (by repeat (first | exact Take.here _ | apply Take.next | apply Take.app)) ?_ | refine HSub.app (by repeat (first | exact TakeS.here _ | apply TakeS.next | apply TakeS.app)) ?_ | refine HSub.drop ?_ | refine HSub.dropS ?_ | exact HSub.nil _)) ?_
  exact ⟨rfl, rfl⟩
set_option maxHeartbeats 1000000 in
theorem to_pure (x : Ins) : Pure Tryd.prog Tab 53 [.agg #[.int .i64 x.op, .int .i64 x.dst, .int .i64 x.src, .int .i64 x.off, .int .i64 x.imm]] (.agg #[.int .i64 x.op, .int .i64 x.dst, .int .i64 x.src, .int .i64 x.off, .int .i64 x.imm]) := by
  intro w0 H hT
  refine L_enter Tryd.func53 rfl Tryd.ntmps53 rfl rfl ?_
  refine W_sr ?_
  refine W_box rfl rfl rfl (fun b1 => ?_)
  refine W_alloc ty67 rfl rfl (fun b2 => ?_)
  refine W_nil ?_
  refine W_sr ?_
  refine W_fieldAddr rfl fld59_0 (by decide) rfl ?_
  refine W_load rfl ty3 rfl (Cell.own (by repeat (first | exact List.mem_cons_self | apply List.mem_cons_of_mem | apply List.mem_append_right)) rfl) rfl ?_
  refine W_fieldAddr rfl fld59_1 (by decide) rfl ?_
  refine W_load rfl ty3 rfl (Cell.own (by repeat (first | exact List.mem_cons_self | apply List.mem_cons_of_mem | apply List.mem_append_right)) rfl) rfl ?_
  refine W_fieldAddr rfl fld59_2 (by decide) rfl ?_
  refine W_load rfl ty3 rfl (Cell.own (by repeat (first | exact List.mem_cons_self | apply List.mem_cons_of_mem | apply List.mem_append_right)) rfl) rfl ?_
  refine W_fieldAddr rfl fld59_3 (by decide) rfl ?_
  refine W_load rfl ty3 rfl (Cell.own (by repeat (first | exact List.mem_cons_self | apply List.mem_cons_of_mem | apply List.mem_append_right)) rfl) rfl ?_
  refine W_fieldAddr rfl fld59_4 (by decide) rfl ?_
  refine W_load rfl ty3 rfl (Cell.own (by repeat (first | exact List.mem_cons_self | apply List.mem_cons_of_mem | apply List.mem_append_right)) rfl) rfl ?_
  refine W_build ty67 pl67 (.cons rfl rfl rfl rfl rfl (.cons rfl rfl rfl rfl rfl (.cons rfl rfl rfl rfl rfl (.cons rfl rfl rfl rfl rfl (.cons rfl rfl rfl rfl rfl .nil))))) rfl (by simp only [fillL, spliceL, Value.cells, List.take_zero, List.take_succ_cons, List.take_nil, List.drop_zero, List.drop_succ_cons, List.drop_nil, List.nil_append, List.cons_append, List.append_nil, List.length_cons, List.length_nil, Nat.zero_add, Nat.reduceAdd, List.toList_toArray]; rfl) rfl ?_
  refine W_storeA rfl rfl ty67 rfl rfl (by repeat (first | exact List.mem_cons_self | apply List.mem_cons_of_mem | apply List.mem_append_right)) (Nat.le_of_ble_eq_true rfl) (by simp only [fillL, spliceL, Value.cells, List.take_zero, List.take_succ_cons, List.take_nil, List.drop_zero, List.drop_succ_cons, List.drop_nil, List.nil_append, List.cons_append, List.append_nil, List.length_cons, List.length_nil, Nat.zero_add, Nat.reduceAdd, List.toList_toArray]; rfl) (by repeat (first | exact Upd.head _ | apply Upd.tail | apply Upd.app)) ?_
  refine W_nil ?_
  refine W_ret1cO (H2 := H) Tryd.results53 rfl (.nil _) ty67 rfl (by repeat (first | exact List.mem_cons_self | apply List.mem_cons_of_mem | apply List.mem_append_right)) rfl (by repeat (first | exact HSub.refl _ | refine HSub.cons (by repeat (first | exact Take.here _ | apply Take.next | apply Take.app)) ?_ | refine HSub.app (by repeat (first | exact TakeS.here _ | apply TakeS.next | apply TakeS.app)) ?_ | refine HSub.drop ?_ | refine HSub.dropS ?_ | exact HSub.nil _)) ?_
  exact ⟨rfl, rfl⟩
set_option maxHeartbeats 1000000 in
theorem same_q {w0 : World} {H : Heap} (l r : List Int) {a1 a2 : Option Addr} {c1 c2 : Nat} (hl : Holds w0 H a1 (i64s l)) (hr : Holds w0 H a2 (i64s r)) (hn : l.length ≤ 4611686018427387904) (hT : Tab w0) : PureAt Tryd.prog w0 H 27 [.slice a1 l.length c1, .slice a2 r.length c2] (.bool (decide (l = r))) := by
  refine L_enter Tryd.func27 rfl Tryd.ntmps27 rfl rfl ?_
  refine W_sr ?_
  refine W_assign rfl rfl ?_
  refine W_nil ?_
  refine W_seq ?_
  refine W_sr ?_
  refine W_move rfl rfl ?_
  refine W_len rfl ty54 rfl rfl ?_
  refine W_move rfl rfl ?_
  refine W_len rfl ty54 rfl rfl ?_
  refine W_bin rfl rfl b_neq rfl ?_
  refine W_nil ?_
  refine W_condPS (p := (l.length : Int) ≠ (r.length : Int)) rfl (by simp) (fun q0 => ?_) (fun q0 => ?_)
  · skip
    refine W_sr ?_
    refine W_assign rfl rfl ?_
    refine W_nil ?_
    refine W_ret1m (H2 := H) Tryd.results27 rfl (.nil _) (by repeat (first | exact HSub.refl _ | refine HSub.cons (by repeat (first | exact Take.here _ | apply Take.next | apply Take.app)) ?_ | refine HSub.app (by repeat (first | exact TakeS.here _ | apply TakeS.next | apply TakeS.app)) ?_ | refine HSub.drop ?_ | refine HSub.dropS ?_ | exact HSub.nil _)) ?_
    exact ⟨by rw [decide_eq_false (fun e => q0 (by rw [e]))], rfl⟩
  · skip
    refine W_skip ?_
    refine W_seq ?_
    refine W_sr ?_
    refine W_assign rfl rfl ?_
    refine W_nil ?_
    refine W_block ?_
    have hlen : l.length = r.length := by omega
    rw [← hlen]
    refine W_loopD (X := Nat) (fun i => [(0, .slice a1 l.length c1), (1, .slice a2 l.length c2), (5, .int .i64 (i : Int))]) (fun _ => []) (fun _ => H) (fun i => i ≤ l.length ∧ l.take i = r.take i) (fun i => l.length - i) 0 ⟨by omega, rfl⟩ (sub_cons rfl (sub_cons rfl (sub_cons rfl (sub_nil _)))) rfl (by repeat (first | exact HSub.refl _ | refine HSub.cons (by repeat (first | exact Take.here _ | apply Take.next | apply Take.app)) ?_ | refine HSub.app (by repeat (first | exact TakeS.here _ | apply TakeS.next | apply TakeS.app)) ?_ | refine HSub.drop ?_ | refine HSub.dropS ?_ | exact HSub.nil _)) ?_
    rintro i ⟨hi, heq⟩
    refine W_seq ?_
    refine W_sr ?_
    refine W_move rfl rfl ?_
    refine W_move rfl rfl ?_
    refine W_len rfl ty54 rfl rfl ?_
    refine W_bin rfl rfl b_lss rfl ?_
    refine W_nil ?_
    refine W_condPS (p := (i : Int) < (l.length : Int)) rfl (by simp) (fun q1 => ?_) (fun q1 => ?_)
    · skip
      refine W_skip ?_
      refine W_seq ?_
      refine W_block ?_
      refine W_quietsr (by kernel_rfl) (by decide +kernel) ?_
      obtain ⟨x, hx⟩ : ∃ x, l[i]? = some x := ⟨_, List.getElem?_eq_getElem (by omega)⟩
      obtain ⟨y, hy⟩ : ∃ y, r[i]? = some y := ⟨_, List.getElem?_eq_getElem (by omega)⟩
      obtain ⟨b, o, rfl, hc⟩ := hl i _ (i64s_at hx)
      obtain ⟨b', o', rfl, hc'⟩ := hr i _ (i64s_at hy)
      refine WQ_x (X_move rfl) rfl ?_
      refine WQ_x (X_move rfl) rfl ?_
      refine WQ_x (X_indexAddr (j := i) rfl rfl ty54 ty3 rfl (by omega) rfl) rfl ?_
      refine WQ_x (X_load rfl ty3 rfl (by rw [Nat.mul_one]; exact hc)) rfl ?_
      refine WQ_x (X_move rfl) rfl ?_
      refine WQ_x (X_move rfl) rfl ?_
      refine WQ_x (X_indexAddr (j := i) rfl rfl ty54 ty3 rfl (by omega) rfl) rfl ?_
      refine WQ_x (X_load rfl ty3 rfl (by rw [Nat.mul_one]; exact hc')) rfl ?_
      refine WQ_x (X_bin rfl rfl b_neq) rfl ?_
      refine WQ_nil ?_
      refine W_condPS (p := x ≠ y) rfl (by simp) (fun q2 => ?_) (fun q2 => ?_)
      · skip
        refine W_sr ?_
        refine W_assign rfl rfl ?_
        refine W_nil ?_
        refine W_ret1m (H2 := H) Tryd.results27 rfl (.nil _) (by repeat (first | exact HSub.refl _ | refine HSub.cons (by repeat (first | exact Take.here _ | apply Take.next | apply Take.app)) ?_ | refine HSub.app (by repeat (first | exact TakeS.here _ | apply TakeS.next | apply TakeS.app)) ?_ | refine HSub.drop ?_ | refine HSub.dropS ?_ | exact HSub.nil _)) ?_
        exact ⟨by rw [decide_eq_false (fun e => q2 (by rw [e, hy] at hx; exact (Option.some.inj hx).symm))], rfl⟩
      · skip
        refine W_skip ?_
        refine W_blk ?_
        refine W_region ?_
        refine W_move rfl rfl ?_
        refine W_bin rfl rfl (b_add (m := ((i + 1 : Nat) : Int)) ((i64w (by omega)).trans (by omega))) rfl ?_
        refine W_assign rfl rfl ?_
        refine W_nil ?_
        refine W_again (i + 1) ⟨by omega, by rw [takeAt hx, takeAt hy, heq, Decidable.not_not.1 q2]⟩ (by omega) (sub_cons rfl (sub_cons rfl (sub_cons rfl (sub_nil _)))) rfl (by repeat (first | exact HSub.refl _ | refine HSub.cons (by repeat (first | exact Take.here _ | apply Take.next | apply Take.app)) ?_ | refine HSub.app (by repeat (first | exact TakeS.here _ | apply TakeS.next | apply TakeS.app)) ?_ | refine HSub.drop ?_ | refine HSub.dropS ?_ | exact HSub.nil _))
    · skip
      refine W_exit rfl ?_
      refine W_sr ?_
      refine W_assign rfl rfl ?_
      refine W_nil ?_
      refine W_ret1m (H2 := H) Tryd.results27 rfl (.nil _) (by repeat (first | exact HSub.refl _ | refine HSub.cons (by repeat (first | exact Take.here _ | apply Take.next | apply Take.app)) ?_ | refine HSub.app (by repeat (first | exact TakeS.here _ | apply TakeS.next | apply TakeS.app)) ?_ | refine HSub.drop ?_ | refine HSub.dropS ?_ | exact HSub.nil _)) ?_
      obtain rfl : i = l.length := by omega
      exact ⟨by rw [decide_eq_true (by rwa [List.take_length, hlen, List.take_length] at heq)], rfl⟩
end Go.Proofs.YtpfoecmianohjaaDoor
