/-
  Own work: contracts of functions that the statement reaches, and plain facts on what they compute; each theorem says its conditions.
-/
import Derived.Test.YtkhkagjbeilbgaaDoorF14
import Derived.Test.YtkhkagjbeilbgaaDoorSPlain
set_option linter.all false
set_option linter.unusedSimpArgs false
set_option linter.unusedVariables false
namespace Go.Proofs.YtkhkagjbeilbgaaDoor
open Go Go.Sl
attribute [local irreducible] W
open Go.Script (lowL numL Bytes lowL_len lowL_bytes numL_nonneg numL_lt low_num)

def byV (l : List Int) : List Value := l.map (.int .u8)
theorem byV_get {l : List Int} {i : Nat} (h : i < l.length) : (byV l)[i]? = some (.int .u8 (l.getD i 0)) := by simp [byV, List.getD, h]
theorem byV_append (a b : List Int) : byV (a ++ b) = byV a ++ byV b := by simp [byV]
theorem byV_len (a : List Int) : (byV a).length = a.length := by simp [byV]
theorem byV_one (a : List Int) : (byV a).all Value.oneCell' = true := by simp [byV, Value.oneCell']
theorem u8_wrap (z : Int) : IntKind.u8.wrap z = z % 256 := by simp [IntKind.wrap, IntKind.signed, IntKind.bits, IntKind.max]
theorem u64_wrap (z : Int) : IntKind.u64.wrap z = z % 18446744073709551616 := by simp [IntKind.wrap, IntKind.signed, IntKind.bits]
theorem u64_id {z : Int} (h : 0 ≤ z ∧ z ≤ 18446744073709551615) : IntKind.u64.wrap z = z := by rw [u64_wrap]; omega
theorem lowL_snoc : ∀ (i : Nat) (n : Int), lowL n (i + 1) = lowL n i ++ [(n / 256 ^ i) % 256]
  | 0, n => by simp [lowL]
  | i + 1, n => by
    show n % 256 :: lowL (n / 256) (i + 1) = (n % 256 :: lowL (n / 256) i) ++ _
    rw [lowL_snoc i (n / 256), List.cons_append]
    congr 3
    rw [Int.pow_succ, Int.mul_comm, ← Int.ediv_ediv_of_nonneg (by decide)]
theorem div_pow (n : Int) (i : Nat) : n / 256 ^ i / 256 = n / 256 ^ (i + 1) := by rw [Int.ediv_ediv_of_nonneg (Int.le_of_lt (Int.pow_pos (by decide))), Int.pow_succ]
theorem pow_bound {n : Int} (h : Wd n) (i : Nat) : Wd (n / 256 ^ i) := by
  have hp : (0 : Int) < 256 ^ i := Int.pow_pos (by decide)
  exact ⟨Int.ediv_nonneg h.1 (Int.le_of_lt hp), Int.le_trans (Int.ediv_le_self _ h.1) h.2⟩
theorem pow8 (i : Nat) : (2 : Int) ^ (8 * i) = 256 ^ i := by rw [Int.pow_mul]; rfl
theorem shr_n {n : Int} {i : Nat} (hi : i < 8) : n.fdiv (2 ^ (min (8 * (i : Int)).toNat IntKind.u64.bits)) = n / 256 ^ i := by
  rw [show min (8 * (i : Int)).toNat IntKind.u64.bits = 8 * i by simp only [IntKind.bits]; omega, pow8, Int.fdiv_eq_ediv_of_nonneg _ (Int.le_of_lt (Int.pow_pos (by decide)))]
theorem _root_.Go.Script.Bytes.drop {l : List Int} (h : Bytes l) (m : Nat) : Bytes (l.drop m) := fun b hb => h b (List.mem_of_mem_drop hb)
theorem _root_.Go.Script.Bytes.take {l : List Int} (h : Bytes l) (m : Nat) : Bytes (l.take m) := fun b hb => h b (List.mem_of_mem_take hb)
theorem _root_.Go.Script.Bytes.getD {l : List Int} (h : Bytes l) (m : Nat) : 0 ≤ l.getD m 0 ∧ l.getD m 0 < 256 := by
  by_cases hm : m < l.length
  · rw [List.getD, List.getElem?_eq_getElem hm]; exact h _ (List.getElem_mem hm)
  · rw [List.getD, List.getElem?_eq_none (by omega)]; decide
theorem numL_snoc : ∀ (l : List Int) (b : Int), numL (l ++ [b]) = numL l + 256 ^ l.length * b
  | [], b => by simp [numL]
  | a :: l, b => by
    show a + 256 * numL (l ++ [b]) = a + 256 * numL l + 256 ^ (l.length + 1) * b
    rw [numL_snoc l b, Int.pow_succ, Int.mul_add, ← Int.mul_assoc, Int.mul_comm 256 (256 ^ l.length), Int.add_assoc]
theorem take_at {l : List Int} {i : Nat} (h : i < l.length) : l.take (i + 1) = l.take i ++ [l.getD i 0] := by
  rw [List.take_add_one]; simp [List.getD, h]
theorem numL_at {l : List Int} {m : Nat} (h : m < l.length) : numL (l.drop m) = l.getD m 0 + 256 * numL (l.drop (m + 1)) := by
  rw [List.drop_eq_getElem_cons h]
  simp [numL, List.getD, h]
theorem pow_mono {a b : Nat} (h : a ≤ b) : (256 : Int) ^ a ≤ 256 ^ b := by
  have : 256 ^ a ≤ 256 ^ b := Nat.pow_le_pow_right (by decide) h
  have h2 : ((256 ^ a : Nat) : Int) ≤ ((256 ^ b : Nat) : Int) := Int.ofNat_le.2 this
  rwa [Int.natCast_pow, Int.natCast_pow] at h2
theorem numL_le {l : List Int} (h : Bytes l) {k : Nat} (hk : l.length ≤ k) : 0 ≤ numL l ∧ numL l < 256 ^ k := ⟨numL_nonneg h, Int.lt_of_lt_of_le (numL_lt h) (pow_mono hk)⟩
/-- a byte is set above what is there -/
theorem or_high {n b : Int} {i : Nat} (hi : i < 8) (hn : 0 ≤ n ∧ n < 256 ^ i) (hb : 0 ≤ b ∧ b < 256) : bitsOf .or .u64 n (256 ^ i * b) = n + 256 ^ i * b := by
  obtain ⟨N, rfl⟩ := Int.eq_ofNat_of_zero_le hn.1
  obtain ⟨B, rfl⟩ := Int.eq_ofNat_of_zero_le hb.1
  have hN : N < 2 ^ (8 * i) := by
    have := hn.2
    rw [← pow8] at this
    have e : ((2 : Int) ^ (8 * i)) = ((2 ^ (8 * i) : Nat) : Int) := by rw [Int.natCast_pow]; rfl
    rw [e] at this; exact Int.ofNat_lt.1 this
  have hBl : B < 256 := by omega
  have hlt : 2 ^ (8 * i) * B + N < 2 ^ 64 := by
    have h1 : 2 ^ (8 * i) * B + N < 2 ^ (8 * i) * (B + 1) := by rw [Nat.mul_add]; omega
    have h2 : 2 ^ (8 * i) * (B + 1) ≤ 2 ^ (8 * i) * 256 := Nat.mul_le_mul_left _ (by omega)
    have h3 : 2 ^ (8 * i) * 256 ≤ 2 ^ 56 * 256 := Nat.mul_le_mul_right _ (Nat.pow_le_pow_right (by decide) (by omega))
    omega
  have e0 : (256 : Int) ^ i * (B : Int) = ((2 ^ (8 * i) * B : Nat) : Int) := by rw [← pow8, Int.natCast_mul, Int.natCast_pow]; rfl
  rw [e0]
  unfold bitsOf
  have e1 : (BitVec.ofInt IntKind.u64.bits (N : Int)) = BitVec.ofNat 64 N := BitVec.ofInt_natCast _ _
  have e2 : (BitVec.ofInt IntKind.u64.bits ((2 ^ (8 * i) * B : Nat) : Int)) = BitVec.ofNat 64 (2 ^ (8 * i) * B) := BitVec.ofInt_natCast _ _
  simp only [e1, e2]
  have e3 : (BitVec.ofNat 64 N ||| BitVec.ofNat 64 (2 ^ (8 * i) * B)).toNat = 2 ^ (8 * i) * B + N := by
    rw [BitVec.toNat_or, BitVec.toNat_ofNat, BitVec.toNat_ofNat, Nat.mod_eq_of_lt (by omega), Nat.mod_eq_of_lt (by omega), Nat.or_comm]
    have := Nat.shiftLeft_add_eq_or_of_lt (i := 8 * i) (b := N) hN B
    rw [Nat.shiftLeft_eq, Nat.mul_comm] at this
    exact this.symm
  show IntKind.u64.wrap (((BitVec.ofNat 64 N ||| BitVec.ofNat 64 (2 ^ (8 * i) * B)).toNat : Nat) : Int) = _
  rw [e3, u64_id ⟨by omega, by omega⟩]; omega
theorem shl_n {b : Int} {i : Nat} (hi : i < 8) (hb : 0 ≤ b ∧ b < 256) : IntKind.u64.wrap (b * 2 ^ (min (8 * (i : Int)).toNat IntKind.u64.bits)) = 256 ^ i * b := by
  rw [show min (8 * (i : Int)).toNat IntKind.u64.bits = 8 * i by simp only [IntKind.bits]; omega, pow8, Int.mul_comm]
  have h1 : (256 : Int) ^ i ≤ 256 ^ 7 := pow_mono (by omega)
  have h0 : (0 : Int) < 256 ^ i := Int.pow_pos (by decide)
  have h2 : 256 ^ i * b ≤ 256 ^ 7 * 255 := Int.mul_le_mul h1 (by omega) hb.1 (by decide)
  exact u64_id ⟨Int.mul_nonneg (Int.le_of_lt h0) hb.1, by omega⟩
/-! words of the stack -/
def badW (a n : Int) : Prop := a < 0 ∨ n < 0 ∨ 8 < a ∨ 8 - a < n
instance (a n : Int) : Decidable (badW a n) := by unfold badW; infer_instance
theorem notBad {a n : Int} (h : ¬ badW a n) : ∃ an nn : Nat, a = an ∧ n = nn ∧ an + nn ≤ 8 := by
  unfold badW at h
  exact ⟨a.toNat, n.toNat, by omega, by omega, by omega⟩
def wOff (a : Nat) : Nat := if a = 8 then 50 else 50 + a * 5
theorem wOff_at {a n i : Nat} (h : a + n ≤ 8) (hi : i < n) : wOff a + i * 5 = (10 + a + i) * 5 := by
  unfold wOff; rw [if_neg (by omega)]; omega
theorem X_sliceArrE {P : Program} {n : Nat} {env : Env} {x : Operand} {t ty : TypeId} {b o o' len l hh s es by_ eb : Nat} {lo hi : Option Operand} {e : TypeId} {z ez : Value} {ed : TypeDesc} {C : World → Prop} (hx : opv env x = some (.pointer (some ⟨b, o, none⟩))) (ht : Ty P t (.array len e) s z by_) (he : Ty P e ed es ez eb)
    (hlo : optIdx env 0 lo l) (hhi : optIdx env len hi hh) (h1 : l ≤ hh) (h2 : hh ≤ len) (ho : o' = if l = len then o else o + l * es) : Ex P n env C (.slice t x lo hi none) ty (.slice (some ⟨b, o', none⟩) (hh - l) (len - l)) := by
  by_cases h3 : l = len
  · subst h3
    rw [if_pos rfl] at ho
    subst ho
    intro a w d pos aft g ha _
    have hb : (Instr.sliceBounds false l l (lo.map a.eval) (hi.map a.eval) none).run P w = .ok (l, hh, l) w := by
      cases lo with
      | none =>
        have hl : l = 0 := hlo
        cases hi with
        | none => have : hh = l := hhi; subst this; subst hl; simp [Instr.sliceBounds, Result.andThen]
        | some o => obtain ⟨q, hq⟩ := hhi; have : hh = l := by omega
                    subst this; subst hl; simp [Instr.sliceBounds, ha.opv hq, Instr.sliceBound, asIntOf, Result.andThen]
      | some o' =>
        obtain ⟨q', hq'⟩ := hlo
        cases hi with
        | none => have : hh = l := hhi; subst this; simp [Instr.sliceBounds, ha.opv hq', Instr.sliceBound, asIntOf, Result.andThen]
        | some o => obtain ⟨q, hq⟩ := hhi; simp [Instr.sliceBounds, ha.opv hq, ha.opv hq', Instr.sliceBound, asIntOf, h1, h2, Result.andThen]
    simp [execOp, Instr.sliceAt, ha.opv hx, ht.run, Instr.sureAddr, hb, he.size, Result.andThen]
  · rw [if_neg h3] at ho
    subst ho
    exact X_sliceArr hx ht he hlo hhi h1 h2 (by omega)
set_option maxHeartbeats 1000000 in
theorem words_bad (bf : Nat) {a n : Int} (ha : I64 a) (hn : I64 n) (hb : badW a n) : Pure Tryd.prog (fun _ => True) 73 [.pointer (some ⟨bf, 0, none⟩), .int .i64 a, .int .i64 n] (.tuple #[.slice none 0 0, .int .i64 1]) := by
  intro w0 H hT
  unfold badW at hb
  refine L_enter Tryd.func73 rfl Tryd.ntmps73 rfl rfl ?_
  refine W_sr ?_
  refine W_assign rfl rfl ?_
  refine W_assign rfl rfl ?_
  refine W_nil ?_
  refine W_seq ?_
  refine W_block ?_
  refine W_sr ?_
  refine W_move rfl rfl ?_
  refine W_x (X_ptrNil rfl rfl ty37) (fun _ h => by cases h) rfl ?_
  refine W_assign rfl rfl ?_
  refine W_nil ?_
  refine W_condF rfl rfl ?_
  refine W_sr ?_
  refine W_move rfl rfl ?_
  refine W_bin rfl rfl b_lss rfl ?_
  refine W_move rfl rfl ?_
  apply W_or
  iterate 4 exact rfl
  case h1 =>
    intro hg2
    refine W_gyes rfl rfl ?_
    refine W_move rfl rfl ?_
    refine W_gyes rfl rfl ?_
    refine W_bin rfl rfl b_lss rfl ?_
    exact W_met rfl (by repeat (first | exact .refl | refine .cons rfl ?_))
  refine W_move rfl rfl ?_
  apply W_or
  iterate 4 exact rfl
  case h1 =>
    intro hg6
    refine W_gyes rfl rfl ?_
    refine W_move rfl rfl ?_
    refine W_gyes rfl rfl ?_
    refine W_bin rfl rfl b_gtr rfl ?_
    exact W_met rfl (by repeat (first | exact .refl | refine .cons rfl ?_))
  refine W_move rfl rfl ?_
  apply W_or
  iterate 4 exact rfl
  case h1 =>
    intro hg10
    have hg := hg10
    simp only [Bool.or_eq_false_iff, decide_eq_false_iff_not] at hg
    refine W_gyes rfl rfl ?_
    refine W_move rfl rfl ?_
    refine W_gyes rfl rfl ?_
    refine W_move rfl rfl ?_
    refine W_gyes rfl rfl ?_
    refine W_bin rfl rfl (b_sub (m := 8 - a) (i64w (by omega))) rfl ?_
    refine W_gyes rfl rfl ?_
    refine W_bin rfl rfl b_gtr rfl ?_
    exact W_met rfl (by repeat (first | exact .refl | refine .cons rfl ?_))
  refine W_assign rfl rfl ?_
  refine W_nil ?_
  refine W_condT rfl (by simp; omega) ?_
  refine W_sr ?_
  refine W_assign rfl rfl ?_
  refine W_assign rfl rfl ?_
  refine W_nil ?_
  refine W_ret2m (H2 := H) Tryd.results73 rfl rfl (.nil _) (by repeat (first | with_reducible exact HSub.refl _ | refine HSub.cons (by repeat (first | exact Take.here _ | apply Take.next | apply Take.app)) ?_ | refine HSub.app (by repeat (first | with_reducible exact TakeS.here _ | apply TakeS.next | apply TakeS.app)) ?_ | exact HSub.nil _ | exact HSub.refl _ | refine HSub.drop ?_ | refine HSub.dropS ?_)) ?_
  exact ⟨rfl, rfl⟩
set_option maxHeartbeats 1000000 in
theorem words_ok (bf : Nat) {an nn : Nat} (hb : an + nn ≤ 8) : Pure Tryd.prog (fun _ => True) 73 [.pointer (some ⟨bf, 0, none⟩), .int .i64 (an : Int), .int .i64 (nn : Int)] (.tuple #[.slice (some ⟨bf, wOff an, none⟩) nn (8 - an), .int .i64 0]) := by
  intro w0 H hT
  refine L_enter Tryd.func73 rfl Tryd.ntmps73 rfl rfl ?_
  refine W_sr ?_
  refine W_assign rfl rfl ?_
  refine W_assign rfl rfl ?_
  refine W_nil ?_
  refine W_seq ?_
  refine W_block ?_
  refine W_sr ?_
  refine W_move rfl rfl ?_
  refine W_x (X_ptrNil rfl rfl ty37) (fun _ h => by cases h) rfl ?_
  refine W_assign rfl rfl ?_
  refine W_nil ?_
  refine W_condF rfl rfl ?_
  refine W_sr ?_
  refine W_move rfl rfl ?_
  refine W_bin rfl rfl b_lss rfl ?_
  refine W_move rfl rfl ?_
  apply W_or
  iterate 4 exact rfl
  case h1 =>
    intro hg2
    refine W_gyes rfl rfl ?_
    refine W_move rfl rfl ?_
    refine W_gyes rfl rfl ?_
    refine W_bin rfl rfl b_lss rfl ?_
    exact W_met rfl (by repeat (first | exact .refl | refine .cons rfl ?_))
  refine W_move rfl rfl ?_
  apply W_or
  iterate 4 exact rfl
  case h1 =>
    intro hg6
    refine W_gyes rfl rfl ?_
    refine W_move rfl rfl ?_
    refine W_gyes rfl rfl ?_
    refine W_bin rfl rfl b_gtr rfl ?_
    exact W_met rfl (by repeat (first | exact .refl | refine .cons rfl ?_))
  refine W_move rfl rfl ?_
  apply W_or
  iterate 4 exact rfl
  case h1 =>
    intro hg10
    refine W_gyes rfl rfl ?_
    refine W_move rfl rfl ?_
    refine W_gyes rfl rfl ?_
    refine W_move rfl rfl ?_
    refine W_gyes rfl rfl ?_
    refine W_bin rfl rfl (b_sub (m := 8 - (an : Int)) (i64w (by omega))) rfl ?_
    refine W_gyes rfl rfl ?_
    refine W_bin rfl rfl b_gtr rfl ?_
    exact W_met rfl (by repeat (first | exact .refl | refine .cons rfl ?_))
  refine W_assign rfl rfl ?_
  refine W_nil ?_
  refine W_condF rfl (by simp; omega) ?_
  refine W_skip ?_
  refine W_blk ?_
  refine W_sr ?_
  refine W_move rfl rfl ?_
  refine W_nilCheck rfl rfl ?_
  refine W_fieldAddr rfl fld130_1 (by decide) rfl ?_
  refine W_move rfl rfl ?_
  refine W_move rfl rfl ?_
  refine W_move rfl rfl ?_
  refine W_bin rfl rfl (b_add (m := ((an + nn : Nat) : Int)) ((i64w (by omega)).trans (by omega))) rfl ?_
  refine W_x (X_sliceArrE (l := an) (hh := an + nn) (o' := wOff an) rfl ty128 ty50 ⟨_, rfl⟩ ⟨_, rfl⟩ (by omega) (by omega) rfl) (fun _ h => by cases h) rfl ?_
  refine W_assign rfl rfl ?_
  refine W_assign rfl rfl ?_
  refine W_nil ?_
  refine W_ret2m (H2 := H) Tryd.results73 rfl rfl (.nil _) (by repeat (first | with_reducible exact HSub.refl _ | refine HSub.cons (by repeat (first | exact Take.here _ | apply Take.next | apply Take.app)) ?_ | refine HSub.app (by repeat (first | with_reducible exact TakeS.here _ | apply TakeS.next | apply TakeS.app)) ?_ | exact HSub.nil _ | exact HSub.refl _ | refine HSub.drop ?_ | refine HSub.dropS ?_)) ?_
  exact ⟨by rw [show an + nn - an = nn by omega], rfl⟩

theorem prefix_ne {l m : List Int} (h : l.length = m.length) {i : Nat} (hi : i < l.length) (hne : ¬ l.getD i 0 = m.getD i 0) : ¬ l = m := fun e => hne (by rw [e])
theorem prefix_eq {l m : List Int} (h : l.length = m.length) (hall : ∀ j, j < l.length → l.getD j 0 = m.getD j 0) : l = m := by
  refine List.ext_getElem h fun i h1 h2 => ?_
  have := hall i h1
  simpa [List.getD, h1, h2] using this
set_option maxHeartbeats 1000000 in
theorem same13_q {w0 : World} {H : Heap} {l m : List Int} {ad ad2 : Option Addr} {cap cap2 : Nat} (hl : l.length ≤ 1000000000) (hrow : Holds w0 H ad (byV l)) (hrow2 : Holds w0 H ad2 (byV m))  : PureAt Tryd.prog w0 H 35 [.slice ad l.length cap, .slice ad2 m.length cap2] (.bool (decide (l = m))) := by
  refine L_enter Tryd.func35 rfl Tryd.ntmps35 rfl rfl ?_
  refine W_sr ?_
  refine W_assign rfl rfl ?_
  refine W_nil ?_
  refine W_seq ?_
  refine W_sr ?_
  refine W_move rfl rfl ?_
  refine W_len rfl ty23 rfl rfl ?_
  refine W_move rfl rfl ?_
  refine W_len rfl ty23 rfl rfl ?_
  refine W_bin rfl rfl b_neq rfl ?_
  refine W_nil ?_
  refine W_condPS (p := ¬ l.length = m.length) rfl (by simp; omega) (fun c0 => ?_) (fun c0 => ?_)
  · skip
    refine W_sr ?_
    refine W_assign rfl rfl ?_
    refine W_nil ?_
    refine W_ret1m (H2 := H) Tryd.results35 rfl (.nil _) (by repeat (first | with_reducible exact HSub.refl _ | refine HSub.cons (by repeat (first | exact Take.here _ | apply Take.next | apply Take.app)) ?_ | refine HSub.app (by repeat (first | with_reducible exact TakeS.here _ | apply TakeS.next | apply TakeS.app)) ?_ | exact HSub.nil _ | exact HSub.refl _ | refine HSub.drop ?_ | refine HSub.dropS ?_)) ?_
    exact ⟨congrArg Value.bool (Eq.symm (decide_eq_false (fun e => c0 (by rw [e])))), rfl⟩
  · skip
    refine W_skip ?_
    refine W_seq ?_
    refine W_sr ?_
    refine W_assign rfl rfl ?_
    refine W_nil ?_
    refine W_block ?_
    have hlm : l.length = m.length := by simpa using c0
    refine W_loopC (X := Nat) [(0, _), (1, _)] (fun (i : Nat) => [(5, .int .i64 (i : Int))]) (fun _ => _) (fun (i : Nat) => H) (fun (i : Nat) => i ≤ l.length ∧ ∀ j, j < i → l.getD j 0 = m.getD j 0) (fun (i : Nat) => l.length - i) 0 ⟨Nat.zero_le _, fun j hj => by omega⟩ (sub_cons rfl (sub_cons rfl (sub_nil _))) (sub_cons rfl (sub_nil _)) rfl (by repeat (first | with_reducible exact HSub.refl _ | refine HSub.cons (by repeat (first | exact Take.here _ | apply Take.next | apply Take.app)) ?_ | refine HSub.app (by repeat (first | with_reducible exact TakeS.here _ | apply TakeS.next | apply TakeS.app)) ?_ | exact HSub.nil _ | exact HSub.refl _ | refine HSub.drop ?_ | refine HSub.dropS ?_)) ?_
    rintro i ⟨hi, hall⟩
    simp only [List.cons_append, List.nil_append]
    refine W_seq ?_
    refine W_sr ?_
    refine W_move rfl rfl ?_
    refine W_move rfl rfl ?_
    refine W_len rfl ty23 rfl rfl ?_
    refine W_bin rfl rfl b_lss rfl ?_
    refine W_nil ?_
    refine W_condPS (p := (i : Int) < (l.length : Int)) rfl (by simp) (fun c1 => ?_) (fun c1 => ?_)
    · skip
      refine W_skip ?_
      refine W_seq ?_
      refine W_block ?_
      refine W_quietsr (by kernel_rfl) (by decide +kernel) ?_
      obtain ⟨b0, o0, rfl, hc0⟩ := hrow.at (i := i) (v := .int .u8 (l.getD i 0)) (byV_get (by omega))
      obtain ⟨b2, o2, rfl, hc2⟩ := hrow2.at (i := i) (v := .int .u8 (m.getD i 0)) (byV_get (by omega))
      refine WQ_x (X_move rfl) rfl ?_
      refine WQ_x (X_move rfl) rfl ?_
      refine WQ_x (X_indexAddr (j := i) rfl rfl ty23 ty5 (by first | rfl | omega) (by first | decide | omega | simp) rfl) rfl ?_
      refine WQ_x (X_load rfl ty5 rfl (v := .int .u8 (l.getD i 0)) (by rw [Nat.mul_one]; exact hc0.up (by repeat (first | with_reducible exact HSub.refl _ | refine HSub.cons (by repeat (first | exact Take.here _ | apply Take.next | apply Take.app)) ?_ | refine HSub.app (by repeat (first | with_reducible exact TakeS.here _ | apply TakeS.next | apply TakeS.app)) ?_ | exact HSub.nil _ | exact HSub.refl _ | refine HSub.drop ?_ | refine HSub.dropS ?_)))) rfl ?_
      refine WQ_x (X_move rfl) rfl ?_
      refine WQ_x (X_move rfl) rfl ?_
      refine WQ_x (X_indexAddr (j := i) rfl rfl ty23 ty5 (by first | rfl | omega) (by first | decide | omega | simp) rfl) rfl ?_
      refine WQ_x (X_load rfl ty5 rfl (v := .int .u8 (m.getD i 0)) (by rw [Nat.mul_one]; exact hc2.up (by repeat (first | with_reducible exact HSub.refl _ | refine HSub.cons (by repeat (first | exact Take.here _ | apply Take.next | apply Take.app)) ?_ | refine HSub.app (by repeat (first | with_reducible exact TakeS.here _ | apply TakeS.next | apply TakeS.app)) ?_ | exact HSub.nil _ | exact HSub.refl _ | refine HSub.drop ?_ | refine HSub.dropS ?_)))) rfl ?_
      refine WQ_x (X_bin rfl rfl b_neq) rfl ?_
      refine WQ_nil ?_
      refine W_condPS (p := ¬ l.getD i 0 = m.getD i 0) rfl (by simp) (fun c2 => ?_) (fun c2 => ?_)
      · skip
        refine W_sr ?_
        refine W_assign rfl rfl ?_
        refine W_nil ?_
        refine W_ret1m (H2 := H) Tryd.results35 rfl (.nil _) (by repeat (first | with_reducible exact HSub.refl _ | refine HSub.cons (by repeat (first | exact Take.here _ | apply Take.next | apply Take.app)) ?_ | refine HSub.app (by repeat (first | with_reducible exact TakeS.here _ | apply TakeS.next | apply TakeS.app)) ?_ | exact HSub.nil _ | exact HSub.refl _ | refine HSub.drop ?_ | refine HSub.dropS ?_)) ?_
        exact ⟨congrArg Value.bool (Eq.symm (decide_eq_false (prefix_ne hlm (by omega) c2))), rfl⟩
      · skip
        refine W_skip ?_
        refine W_blk ?_
        refine W_region ?_
        refine W_move rfl rfl ?_
        refine W_bin rfl rfl (b_add (m := ((i + 1 : Nat) : Int)) ((i64w (by omega)).trans (by omega))) rfl ?_
        refine W_assign rfl rfl ?_
        refine W_nil ?_
        refine W_again (i + 1) ⟨by omega, fun j hj => by
          rcases (show j < i ∨ j = i by omega) with h | rfl
          · exact hall j h
          · exact Decidable.not_not.1 c2⟩ (by omega) (sub_cons rfl (sub_cons rfl (sub_cons rfl (sub_nil _)))) rfl (by repeat (first | with_reducible exact HSub.refl _ | refine HSub.cons (by repeat (first | exact Take.here _ | apply Take.next | apply Take.app)) ?_ | refine HSub.app (by repeat (first | with_reducible exact TakeS.here _ | apply TakeS.next | apply TakeS.app)) ?_ | exact HSub.nil _ | exact HSub.refl _ | refine HSub.drop ?_ | refine HSub.dropS ?_))
    · skip
      refine W_exit rfl ?_
      refine W_sr ?_
      refine W_assign rfl rfl ?_
      refine W_nil ?_
      refine W_ret1m (H2 := H) Tryd.results35 rfl (.nil _) (by repeat (first | with_reducible exact HSub.refl _ | refine HSub.cons (by repeat (first | exact Take.here _ | apply Take.next | apply Take.app)) ?_ | refine HSub.app (by repeat (first | with_reducible exact TakeS.here _ | apply TakeS.next | apply TakeS.app)) ?_ | exact HSub.nil _ | exact HSub.refl _ | refine HSub.drop ?_ | refine HSub.dropS ?_)) ?_
      exact ⟨congrArg Value.bool (Eq.symm (decide_eq_true (prefix_eq hlm (fun j hj => hall j (by omega))))), rfl⟩
end Go.Proofs.YtkhkagjbeilbgaaDoor
