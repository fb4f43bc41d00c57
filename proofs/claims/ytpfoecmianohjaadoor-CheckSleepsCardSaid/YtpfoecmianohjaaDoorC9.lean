/-
  Own work: contracts of functions that the statement reaches, and plain facts on what they compute; each theorem says its conditions.
-/
import Derived.Test.YtpfoecmianohjaaDoorC8
set_option linter.all false
set_option linter.unusedSimpArgs false
set_option linter.unusedVariables false
namespace Go.Proofs.YtpfoecmianohjaaDoor
open Go Go.Sl
attribute [local irreducible] W

def callsN (l : List Ins) : Nat := l.foldl (fun m x => bif helpB x.imm && decide (x.op = 72) then m ||| bitN x.imm else m) 0
theorem foldl_at' {α β : Type} {f : β → α → β} {b : β} {l : List α} {i : Nat} {x : α} (h : l[i]? = some x) : (l.take (i + 1)).foldl f b = f ((l.take i).foldl f b) x := by
  rw [takeAt h, List.foldl_append]; rfl
theorem callsN_ok : ∀ (l : List Ins) (m : Nat), MaskOk m → MaskOk (l.foldl (fun m x => bif helpB x.imm && decide (x.op = 72) then m ||| bitN x.imm else m) m)
  | [], _, h => h
  | x :: l, m, h => callsN_ok l _ (by
    show MaskOk (bif helpB x.imm && decide (x.op = 72) then m ||| bitN x.imm else m)
    cases (helpB x.imm && decide (x.op = 72)) <;> first | exact h | exact or_ok h _)
/-- all are instructions of the machine's numbers -/
def InsOk (l : List Ins) : Prop := ∀ x ∈ l, x.Ok
set_option maxHeartbeats 1000000 in
theorem calls_q {w0 : World} {H : Heap} (l : List Ins) {ad : Option Addr} {cap : Nat} (hl : InsOk l) (hn : l.length ≤ 4611686018427387904) (hrow : Holds w0 H ad (insRow l)) (hT : Tab w0) : PureAt Tryd.prog w0 H 33 [.slice ad l.length cap] (.int .u64 ((callsN l : Nat) : Int)) := by
  refine L_enter Tryd.func33 rfl Tryd.ntmps33 rfl rfl ?_
  refine W_sr ?_
  refine W_assign rfl rfl ?_
  refine W_nil ?_
  refine W_sr ?_
  refine W_assign rfl rfl ?_
  refine W_nil ?_
  refine W_seq ?_
  refine W_sr ?_
  refine W_move rfl rfl ?_
  refine W_len rfl ty48 rfl rfl ?_
  refine W_move rfl rfl ?_
  refine W_nil ?_
  refine W_block ?_
  refine W_loopD (X := Nat) (fun i => [(3, .int .u64 ((callsN (l.take i) : Nat) : Int)), (9, .slice ad l.length cap), (10, .int .i64 (l.length : Int)), (11, .int .i64 (i : Int))]) (fun _ => []) (fun _ => H) (fun i => i ≤ l.length) (fun i => l.length - i) 0 (by omega) (sub_cons rfl (sub_cons rfl (sub_cons rfl (sub_cons rfl (sub_nil _))))) rfl (by repeat (first | exact HSub.refl _ | refine HSub.cons (by repeat (first | exact Take.here _ | apply Take.next | apply Take.app)) ?_ | refine HSub.app (by repeat (first | exact TakeS.here _ | apply TakeS.next | apply TakeS.app)) ?_ | refine HSub.drop ?_ | refine HSub.dropS ?_ | exact HSub.nil _)) ?_
  intro i hi
  have hok : MaskOk (callsN (l.take i)) := callsN_ok _ _ (by unfold MaskOk; decide)
  refine W_sr ?_
  refine W_bin rfl rfl b_lss rfl ?_
  refine W_nil ?_
  refine W_seq ?_
  refine W_condPS (p := (i : Int) < (l.length : Int)) rfl (by simp) (fun c0 => ?_) (fun c0 => ?_)
  · skip
    refine W_skip ?_
    refine W_seq ?_
    refine W_block ?_
    refine W_sr ?_
    obtain ⟨x, hx⟩ : ∃ x, l[i]? = some x := ⟨_, List.getElem?_eq_getElem (by omega)⟩
    have hxo := hl x (List.mem_of_getElem? hx)
    obtain ⟨b, o, rfl, hc⟩ := hrow.row cells_len (by decide) hx
    refine W_indexAddr (j := i) rfl rfl ty48 ty67 rfl (by omega) rfl rfl ?_
    refine W_loadA rfl ty67 rfl (vs := [.int .i64 x.op, .int .i64 x.dst, .int .i64 x.src, .int .i64 x.off, .int .i64 x.imm]) rfl hc rfl ?_
    refine W_alloc ty67 rfl rfl (fun b5 => ?_)
    refine W_storeA rfl rfl ty67 rfl rfl (by repeat (first | exact List.mem_cons_self | apply List.mem_cons_of_mem | apply List.mem_append_right)) (Nat.le_of_ble_eq_true rfl) (by simp only [fillL, spliceL, Value.cells, List.take_zero, List.take_succ_cons, List.take_nil, List.drop_zero, List.drop_succ_cons, List.drop_nil, List.nil_append, List.cons_append, List.append_nil, List.length_cons, List.length_nil, Nat.zero_add, Nat.reduceAdd, List.toList_toArray]; rfl) (by repeat (first | exact Upd.head _ | apply Upd.tail | apply Upd.app)) ?_
    refine W_nil ?_
    refine W_sr ?_
    refine W_fieldAddr rfl fld67_4 (by decide) rfl ?_
    refine W_load rfl ty3 rfl (Cell.own (by repeat (first | exact List.mem_cons_self | apply List.mem_cons_of_mem | apply List.mem_append_right)) rfl) rfl ?_
    refine W_callp (.cons rfl .nil) Tryd.call21 rfl hT (helper_pure _ hxo.imm) ?_
    refine W_move rfl rfl ?_
    refine W_extract rfl rfl rfl ?_
    refine W_extract rfl rfl rfl ?_
    refine W_extract rfl rfl rfl ?_
    refine W_assign rfl rfl ?_
    refine W_assign rfl rfl ?_
    refine W_assign rfl rfl ?_
    refine W_nil ?_
    refine W_sr ?_
    refine W_move rfl rfl ?_
    refine W_move rfl rfl ?_
    apply W_and
    iterate 4 exact rfl
    case h1 =>
      intro hg1
      refine W_gyes rfl rfl ?_
      refine W_fieldAddr rfl fld67_0 (by decide) rfl ?_
      refine W_gyes rfl rfl ?_
      refine W_load rfl ty3 rfl (Cell.own (by repeat (first | exact List.mem_cons_self | apply List.mem_cons_of_mem | apply List.mem_append_right)) rfl) rfl ?_
      refine W_gyes rfl rfl ?_
      refine W_bin rfl rfl b_eql rfl ?_
      exact W_met rfl (by repeat (first | exact .refl | refine .cons rfl ?_))
    refine W_nil ?_
    refine W_condS rfl (fun c1 => ?_) (fun c1 => ?_)
    · skip
      refine W_region ?_
      refine W_move rfl rfl ?_
      refine W_fieldAddr rfl fld67_4 (by decide) rfl ?_
      refine W_load rfl ty3 rfl (Cell.own (by repeat (first | exact List.mem_cons_self | apply List.mem_cons_of_mem | apply List.mem_append_right)) rfl) rfl ?_
      refine W_buildSlice ty54 ty3 (.cons rfl rfl rfl rfl rfl .nil) rfl rfl rfl rfl rfl rfl rfl (fun b31 => ?_)
      refine W_callq (.cons rfl (.cons rfl .nil)) Tryd.call57 rfl (with_q _ [x.imm] hok (by simp) (Holds.own (by repeat (first | exact List.mem_cons_self | apply List.mem_cons_of_mem | apply List.mem_append_right))) hT) ?_
      refine W_assign rfl rfl ?_
      refine W_nil ?_
      refine W_blk ?_
      refine W_region ?_
      refine W_bin rfl rfl (b_add (m := ((i + 1 : Nat) : Int)) ((i64w (by omega)).trans (by omega))) rfl ?_
      refine W_move rfl rfl ?_
      refine W_nil ?_
      refine W_again (i + 1) (by omega) (by omega) (sub_cons (by rw [show callsN (l.take (i + 1)) = _ from foldl_at' hx, c1]; rfl) (sub_cons rfl (sub_cons rfl (sub_cons rfl (sub_nil _))))) rfl (by repeat (first | exact HSub.refl _ | refine HSub.cons (by repeat (first | exact Take.here _ | apply Take.next | apply Take.app)) ?_ | refine HSub.app (by repeat (first | exact TakeS.here _ | apply TakeS.next | apply TakeS.app)) ?_ | refine HSub.drop ?_ | refine HSub.dropS ?_ | exact HSub.nil _))
    · skip
      refine W_skip ?_
      refine W_blk ?_
      refine W_region ?_
      refine W_bin rfl rfl (b_add (m := ((i + 1 : Nat) : Int)) ((i64w (by omega)).trans (by omega))) rfl ?_
      refine W_move rfl rfl ?_
      refine W_nil ?_
      refine W_again (i + 1) (by omega) (by omega) (sub_cons (by rw [show callsN (l.take (i + 1)) = _ from foldl_at' hx, c1]; rfl) (sub_cons rfl (sub_cons rfl (sub_cons rfl (sub_nil _))))) rfl (by repeat (first | exact HSub.refl _ | refine HSub.cons (by repeat (first | exact Take.here _ | apply Take.next | apply Take.app)) ?_ | refine HSub.app (by repeat (first | exact TakeS.here _ | apply TakeS.next | apply TakeS.app)) ?_ | refine HSub.drop ?_ | refine HSub.dropS ?_ | exact HSub.nil _))
  · skip
    refine W_exit rfl ?_
    refine W_sr ?_
    refine W_move rfl rfl ?_
    refine W_assign rfl rfl ?_
    refine W_nil ?_
    refine W_ret1m (H2 := H) Tryd.results33 rfl (.nil _) (by repeat (first | exact HSub.refl _ | refine HSub.cons (by repeat (first | exact Take.here _ | apply Take.next | apply Take.app)) ?_ | refine HSub.app (by repeat (first | exact TakeS.here _ | apply TakeS.next | apply TakeS.app)) ?_ | refine HSub.drop ?_ | refine HSub.dropS ?_ | exact HSub.nil _)) ?_
    obtain rfl : i = l.length := by omega
    exact ⟨by rw [List.take_length], rfl⟩

def rbehB (x : Ins) (at_ tt : Int) : Bool :=
  if x.op = 73 then false else if (decide (cls x.op = 2) && decide (IntKind.i64.wrap (IntKind.i64.wrap (tt - at_) - 1) = x.off)) = true then true else decide (x.op ≠ 32) && decide (tt = IntKind.i64.wrap (at_ + 1))
set_option maxHeartbeats 1000000 in
theorem rbeh_pure (x : Ins) (at_ tt : Int) : Pure Tryd.prog Tab 55 [.agg #[.int .i64 x.op, .int .i64 x.dst, .int .i64 x.src, .int .i64 x.off, .int .i64 x.imm], .int .i64 at_, .int .i64 tt] (.bool (rbehB x at_ tt)) := by
  intro w0 H hT
  refine L_enter Tryd.func55 rfl Tryd.ntmps55 rfl rfl ?_
  refine W_sr ?_
  refine W_box rfl rfl rfl (fun b3 => ?_)
  refine W_assign rfl rfl ?_
  refine W_nil ?_
  refine W_seq ?_
  refine W_sr ?_
  refine W_fieldAddr rfl fld59_0 (by decide) rfl ?_
  refine W_load rfl ty3 rfl (Cell.own (by repeat (first | exact List.mem_cons_self | apply List.mem_cons_of_mem | apply List.mem_append_right)) rfl) rfl ?_
  refine W_bin rfl rfl b_eql rfl ?_
  refine W_nil ?_
  refine W_condPS (p := x.op = 73) rfl (by simp) (fun c0 => ?_) (fun c0 => ?_)
  · skip
    refine W_sr ?_
    refine W_assign rfl rfl ?_
    refine W_nil ?_
    refine W_ret1m (H2 := H) Tryd.results55 rfl (.nil _) (by repeat (first | exact HSub.refl _ | refine HSub.cons (by repeat (first | exact Take.here _ | apply Take.next | apply Take.app)) ?_ | refine HSub.app (by repeat (first | exact TakeS.here _ | apply TakeS.next | apply TakeS.app)) ?_ | refine HSub.drop ?_ | refine HSub.dropS ?_ | exact HSub.nil _)) ?_
    exact ⟨by unfold rbehB; rw [if_pos c0], rfl⟩
  · skip
    refine W_skip ?_
    refine W_sr ?_
    refine W_fieldAddr rfl fld59_0 (by decide) rfl ?_
    refine W_load rfl ty3 rfl (Cell.own (by repeat (first | exact List.mem_cons_self | apply List.mem_cons_of_mem | apply List.mem_append_right)) rfl) rfl ?_
    refine W_callp (.cons rfl .nil) Tryd.call41 rfl hT (kindp _) ?_
    refine W_move rfl rfl ?_
    refine W_extract rfl rfl rfl ?_
    refine W_extract rfl rfl rfl ?_
    refine W_extract rfl rfl rfl ?_
    refine W_assign rfl rfl ?_
    refine W_assign rfl rfl ?_
    refine W_assign rfl rfl ?_
    refine W_nil ?_
    refine W_seq ?_
    refine W_sr ?_
    refine W_move rfl rfl ?_
    refine W_bin rfl rfl b_eql rfl ?_
    refine W_move rfl rfl ?_
    apply W_and
    iterate 4 exact rfl
    case h1 =>
      intro hg2
      refine W_gyes rfl rfl ?_
      refine W_move rfl rfl ?_
      refine W_gyes rfl rfl ?_
      refine W_move rfl rfl ?_
      refine W_gyes rfl rfl ?_
      refine W_bin rfl rfl (b_sub rfl) rfl ?_
      refine W_gyes rfl rfl ?_
      refine W_bin rfl rfl (b_sub rfl) rfl ?_
      refine W_gyes rfl rfl ?_
      refine W_fieldAddr rfl fld59_3 (by decide) rfl ?_
      refine W_gyes rfl rfl ?_
      refine W_load rfl ty3 rfl (Cell.own (by repeat (first | exact List.mem_cons_self | apply List.mem_cons_of_mem | apply List.mem_append_right)) rfl) rfl ?_
      refine W_gyes rfl rfl ?_
      refine W_bin rfl rfl b_eql rfl ?_
      exact W_met rfl (by repeat (first | exact .refl | refine .cons rfl ?_))
    refine W_nil ?_
    refine W_condS rfl (fun c1 => ?_) (fun c1 => ?_)
    · skip
      refine W_sr ?_
      refine W_assign rfl rfl ?_
      refine W_nil ?_
      refine W_ret1m (H2 := H) Tryd.results55 rfl (.nil _) (by repeat (first | exact HSub.refl _ | refine HSub.cons (by repeat (first | exact Take.here _ | apply Take.next | apply Take.app)) ?_ | refine HSub.app (by repeat (first | exact TakeS.here _ | apply TakeS.next | apply TakeS.app)) ?_ | refine HSub.drop ?_ | refine HSub.dropS ?_ | exact HSub.nil _)) ?_
      exact ⟨by unfold rbehB; rw [if_neg c0, if_pos c1], rfl⟩
    · skip
      refine W_skip ?_
      refine W_sr ?_
      refine W_fieldAddr rfl fld59_0 (by decide) rfl ?_
      refine W_load rfl ty3 rfl (Cell.own (by repeat (first | exact List.mem_cons_self | apply List.mem_cons_of_mem | apply List.mem_append_right)) rfl) rfl ?_
      refine W_bin rfl rfl b_neq rfl ?_
      refine W_move rfl rfl ?_
      apply W_and
      iterate 4 exact rfl
      case h1 =>
        intro hg3
        refine W_gyes rfl rfl ?_
        refine W_move rfl rfl ?_
        refine W_gyes rfl rfl ?_
        refine W_move rfl rfl ?_
        refine W_gyes rfl rfl ?_
        refine W_bin rfl rfl (b_add rfl) rfl ?_
        refine W_gyes rfl rfl ?_
        refine W_bin rfl rfl b_eql rfl ?_
        exact W_met rfl (by repeat (first | exact .refl | refine .cons rfl ?_))
      refine W_assign rfl rfl ?_
      refine W_nil ?_
      refine W_ret1m (H2 := H) Tryd.results55 rfl (.nil _) (by repeat (first | exact HSub.refl _ | refine HSub.cons (by repeat (first | exact Take.here _ | apply Take.next | apply Take.app)) ?_ | refine HSub.app (by repeat (first | exact TakeS.here _ | apply TakeS.next | apply TakeS.app)) ?_ | refine HSub.drop ?_ | refine HSub.dropS ?_ | exact HSub.nil _)) ?_
      exact ⟨by unfold rbehB; rw [if_neg c0, if_neg (by rw [c1]; simp)], rfl⟩

def idx (n : Nat) : List Int := (List.range n).map fun i : Nat => (i : Int)
theorem idx_succ (n : Nat) : idx (n + 1) = idx n ++ [(n : Int)] := by simp [idx, List.range_succ]
theorem idx_len (n : Nat) : (idx n).length = n := by simp [idx]
def rnextL (l : List Ins) (at_ : Int) : List Int :=
  if at_ < 0 ∨ (l.length : Int) ≤ at_ then [] else match l[at_.toNat]? with
    | some x => (idx l.length).filter (rbehB x at_)
    | none => []
theorem rnextL_at {l : List Ins} {k : Nat} {x : Ins} (hi : k < l.length) (hx : l[k]? = some x) : rnextL l k = (idx l.length).filter (rbehB x k) := by
  unfold rnextL
  rw [if_neg (by omega), Int.toNat_natCast, hx]
theorem idx_filter {p : Int → Bool} (i : Nat) : (idx (i + 1)).filter p = (idx i).filter p ++ (bif p i then [(i : Int)] else []) := by
  rw [idx_succ, List.filter_append]; cases hp : p i <;> simp [hp]
set_option maxHeartbeats 1000000 in
theorem rnext_L {w0 : World} {H : Heap} (l : List Ins) (at_ : Int) {ad : Option Addr} {cap : Nat} (hn : l.length ≤ 1000000) (hrow : Holds w0 H ad (insRow l)) (hT : Tab w0) : LCalls Tryd.prog w0 29 #[.slice ad l.length cap, .int .i64 at_] H (fun v H' => ∃ HB, OwnS 3 1 v (rnextL l at_).length (i64s (rnextL l at_)) HB ∧ H' = HB ++ H) := by
  refine L_enter (l := [.slice ad l.length cap, .int .i64 at_]) Tryd.func29 rfl Tryd.ntmps29 rfl rfl ?_
  refine W_sr ?_
  refine W_assign rfl rfl ?_
  refine W_nil ?_
  refine W_sr ?_
  refine W_assign rfl rfl ?_
  refine W_nil ?_
  refine W_seq ?_
  refine W_sr ?_
  refine W_move rfl rfl ?_
  refine W_bin rfl rfl b_lss rfl ?_
  refine W_move rfl rfl ?_
  apply W_or
  iterate 4 exact rfl
  case h1 =>
    intro hg2
    refine W_gyes rfl rfl ?_
    refine W_move rfl rfl ?_
    refine W_gyes rfl rfl ?_
    refine W_move rfl rfl ?_
    refine W_gyes rfl rfl ?_
    refine W_len rfl ty43 rfl rfl ?_
    refine W_gyes rfl rfl ?_
    refine W_bin rfl rfl b_geq rfl ?_
    exact W_met rfl (by repeat (first | exact .refl | refine .cons rfl ?_))
  refine W_nil ?_
  refine W_condPS (p := at_ < 0 ∨ (l.length : Int) ≤ at_) rfl (by simp) (fun c0 => ?_) (fun c0 => ?_)
  · skip
    refine W_sr ?_
    refine W_move rfl rfl ?_
    refine W_assign rfl rfl ?_
    refine W_nil ?_
    refine W_ret1m Tryd.results29 rfl (.nil _) (.refl _) ?_
    have e : rnextL l at_ = [] := if_pos c0
    exact ⟨[], by rw [e]; exact .nil, rfl⟩
  · skip
    refine W_skip ?_
    refine W_seq ?_
    refine W_sr ?_
    refine W_assign rfl rfl ?_
    refine W_nil ?_
    refine W_block ?_
    obtain ⟨k, rfl, hk⟩ : ∃ k : Nat, at_ = (k : Int) ∧ k < l.length := ⟨at_.toNat, by omega, by omega⟩
    obtain ⟨x, hx⟩ : ∃ x, l[k]? = some x := ⟨_, List.getElem?_eq_getElem hk⟩
    obtain ⟨b, o, rfl, hc⟩ := hrow.row cells_len (by decide) hx
    refine W_loopD (X := Nat × Value × Heap) (fun | (i, v, _) => [(0, .slice (some ⟨b, o, none⟩) l.length cap), (1, .int .i64 (k : Int)), (5, v), (6, .int .i64 (i : Int))]) (fun _ => []) (fun | (_, _, HB) => HB ++ H) (fun | (i, v, HB) => i ≤ l.length ∧ OwnS 3 1 v ((idx i).filter (rbehB x k)).length (i64s ((idx i).filter (rbehB x k))) HB) (fun | (i, _, _) => l.length - i) (0, .slice none 0 0, []) ⟨by omega, .nil⟩ (sub_cons rfl (sub_cons rfl (sub_cons rfl (sub_cons rfl (sub_nil _))))) rfl (by repeat (first | exact HSub.refl _ | refine HSub.cons (by repeat (first | exact Take.here _ | apply Take.next | apply Take.app)) ?_ | refine HSub.app (by repeat (first | exact TakeS.here _ | apply TakeS.next | apply TakeS.app)) ?_ | refine HSub.drop ?_ | refine HSub.dropS ?_ | exact HSub.nil _)) ?_
    rintro ⟨i, v, HB⟩ ⟨hi, hO⟩
    simp only
    have hlen : ((idx i).filter (rbehB x k)).length ≤ i := Nat.le_trans (List.length_filter_le _ _) (by rw [idx_len]; omega)
    refine W_seq ?_
    refine W_sr ?_
    refine W_move rfl rfl ?_
    refine W_move rfl rfl ?_
    refine W_len rfl ty43 rfl rfl ?_
    refine W_bin rfl rfl b_lss rfl ?_
    refine W_nil ?_
    refine W_condPS (p := (i : Int) < (l.length : Int)) rfl (by simp) (fun c1 => ?_) (fun c1 => ?_)
    · skip
      refine W_skip ?_
      refine W_seq ?_
      refine W_block ?_
      refine W_sr ?_
      refine W_move rfl rfl ?_
      refine W_move rfl rfl ?_
      refine W_indexAddr (j := k) rfl rfl ty43 ty59 rfl hk rfl rfl ?_
      refine W_loadA rfl ty59 rfl (vs := [.int .i64 x.op, .int .i64 x.dst, .int .i64 x.src, .int .i64 x.off, .int .i64 x.imm]) rfl (hc.up (by repeat (first | exact HSub.refl _ | refine HSub.cons (by repeat (first | exact Take.here _ | apply Take.next | apply Take.app)) ?_ | refine HSub.app (by repeat (first | exact TakeS.here _ | apply TakeS.next | apply TakeS.app)) ?_ | refine HSub.drop ?_ | refine HSub.dropS ?_ | exact HSub.nil _))) rfl ?_
      refine W_move rfl rfl ?_
      refine W_move rfl rfl ?_
      refine W_callp (.cons rfl (.cons rfl (.cons rfl .nil))) Tryd.call55 rfl hT (rbeh_pure _ _ _) ?_
      refine W_nil ?_
      refine W_condS rfl (fun c2 => ?_) (fun c2 => ?_)
      · skip
        refine W_region ?_
        refine W_move rfl rfl ?_
        refine W_move rfl rfl ?_
        refine W_buildSlice ty54 ty3 (.cons rfl rfl rfl rfl rfl .nil) rfl rfl rfl rfl rfl rfl rfl (fun b31 => ?_)
        refine W_append (news := [.int .i64 (i : Int)]) (m := 1) (HB := HB) (H0 := H) rfl rfl ty54 ty3 rfl (by decide) hO rfl (Holds.own List.mem_cons_self) rfl (by simp only [maxLen]; omega) (by omega) (by repeat (first | exact HSub.refl _ | refine HSub.cons (by repeat (first | exact Take.here _ | apply Take.next | apply Take.app)) ?_ | refine HSub.app (by repeat (first | exact TakeS.here _ | apply TakeS.next | apply TakeS.app)) ?_ | refine HSub.drop ?_ | refine HSub.dropS ?_ | exact HSub.nil _)) rfl (fun v' HB' hO' => ?_)
        refine W_assign rfl rfl ?_
        refine W_nil ?_
        refine W_blk ?_
        refine W_region ?_
        refine W_move rfl rfl ?_
        refine W_bin rfl rfl (b_add (m := ((i + 1 : Nat) : Int)) ((i64w (by omega)).trans (by omega))) rfl ?_
        refine W_assign rfl rfl ?_
        refine W_nil ?_
        refine W_again (i + 1, v', HB') ⟨by omega, by rw [idx_filter, c2]; simpa [i64s_append, i64s] using hO'⟩ (by dsimp only; omega) (sub_cons rfl (sub_cons rfl (sub_cons rfl (sub_cons rfl (sub_nil _))))) rfl (by repeat (first | exact HSub.refl _ | refine HSub.cons (by repeat (first | exact Take.here _ | apply Take.next | apply Take.app)) ?_ | refine HSub.app (by repeat (first | exact TakeS.here _ | apply TakeS.next | apply TakeS.app)) ?_ | refine HSub.drop ?_ | refine HSub.dropS ?_ | exact HSub.nil _))
      · skip
        refine W_skip ?_
        refine W_blk ?_
        refine W_region ?_
        refine W_move rfl rfl ?_
        refine W_bin rfl rfl (b_add (m := ((i + 1 : Nat) : Int)) ((i64w (by omega)).trans (by omega))) rfl ?_
        refine W_assign rfl rfl ?_
        refine W_nil ?_
        refine W_again (i + 1, v, HB) ⟨by omega, by rw [idx_filter, c2]; simpa using hO⟩ (by dsimp only; omega) (sub_cons rfl (sub_cons rfl (sub_cons rfl (sub_cons rfl (sub_nil _))))) rfl (by repeat (first | exact HSub.refl _ | refine HSub.cons (by repeat (first | exact Take.here _ | apply Take.next | apply Take.app)) ?_ | refine HSub.app (by repeat (first | exact TakeS.here _ | apply TakeS.next | apply TakeS.app)) ?_ | refine HSub.drop ?_ | refine HSub.dropS ?_ | exact HSub.nil _))
    · skip
      refine W_exit rfl ?_
      refine W_sr ?_
      refine W_move rfl rfl ?_
      refine W_assign rfl rfl ?_
      refine W_nil ?_
      refine W_ret1m Tryd.results29 rfl (.nil _) (.refl _) ?_
      obtain rfl : i = l.length := by omega
      exact ⟨HB, by rw [rnextL_at hk hx]; exact hO, rfl⟩
end Go.Proofs.YtpfoecmianohjaaDoor
