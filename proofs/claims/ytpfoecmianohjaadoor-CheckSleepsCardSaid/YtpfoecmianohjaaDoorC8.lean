/-
  Own work: contracts of functions that the statement reaches, and plain facts on what they compute; each theorem says its conditions.
-/
import Derived.Test.YtpfoecmianohjaaDoorC7
set_option linter.all false
set_option linter.unusedSimpArgs false
set_option linter.unusedVariables false
namespace Go.Proofs.YtpfoecmianohjaaDoor
open Go Go.Sl
attribute [local irreducible] W

def inB (n : Nat) (z : Int) : Bool := decide (0 ≤ z) && decide (z < (n : Int))
/-- which come behind an instruction -/
def nextL (l : List Ins) (at_ : Int) : List Int :=
  if at_ < 0 ∨ (l.length : Int) ≤ at_ then [] else match l[at_.toNat]? with
    | some x => (seqB x at_).filter (inB l.length)
    | none => []
theorem nextL_at {l : List Ins} {i : Nat} {x : Ins} (hi : i < l.length) (hx : l[i]? = some x) : nextL l i = (seqB x i).filter (inB l.length) := by
  unfold nextL
  rw [if_neg (by omega), Int.toNat_natCast, hx]
theorem filter_at {p : Int → Bool} {l : List Int} {i : Nat} {z : Int} (h : l[i]? = some z) : (l.take (i + 1)).filter p = (l.take i).filter p ++ (bif p z then [z] else []) := by
  rw [takeAt h, List.filter_append]; cases hp : p z <;> simp [hp]
theorem i64s_append (l r : List Int) : i64s (l ++ r) = i64s l ++ i64s r := by simp [i64s]
theorem seqOf_len (j n : Bool) (t a : Int) (le gt : Bool) : (seqOf j n t a le gt).length ≤ 3 := by cases j <;> cases n <;> cases le <;> cases gt <;> simp [seqOf]
set_option maxHeartbeats 4000000 in
theorem next_L {w0 : World} {H : Heap} (l : List Ins) (at_ : Int) {ad : Option Addr} {cap : Nat} (hat : I64 at_) (hrow : Holds w0 H ad (insRow l)) (hT : Tab w0) : LCalls Tryd.prog w0 28 #[.slice ad l.length cap, .int .i64 at_] H (fun v H' => ∃ HB, OwnS 3 1 v (nextL l at_).length (i64s (nextL l at_)) HB ∧ H' = HB ++ H) := by
  refine L_enter (l := [.slice ad l.length cap, .int .i64 at_]) Tryd.func28 rfl Tryd.ntmps28 rfl rfl ?_
  refine W_sr ?_
  refine W_box rfl rfl rfl (fun b2 => ?_)
  refine W_assign rfl rfl ?_
  refine W_nil ?_
  refine W_seq ?_
  refine W_sr ?_
  refine W_move rfl rfl ?_
  refine W_bin rfl rfl b_lss rfl ?_
  refine W_move rfl rfl ?_
  apply W_or
  iterate 4 exact rfl
  case h1 =>
    intro hg2
    refine W_gyes rfl rfl ?_
    refine W_move rfl rfl ?_
    refine W_gyes rfl rfl ?_
    refine W_load rfl ty48 rfl (Cell.own (by repeat (first | exact List.mem_cons_self | apply List.mem_cons_of_mem | apply List.mem_append_right)) rfl) rfl ?_
    refine W_gyes rfl rfl ?_
    refine W_len rfl ty48 rfl rfl ?_
    refine W_gyes rfl rfl ?_
    refine W_bin rfl rfl b_geq rfl ?_
    exact W_met rfl (by repeat (first | exact .refl | refine .cons rfl ?_))
  refine W_nil ?_
  refine W_condPS (p := at_ < 0 ∨ (l.length : Int) ≤ at_) rfl (by simp) (fun c0 => ?_) (fun c0 => ?_)
  · skip
    refine W_sr ?_
    refine W_assign rfl rfl ?_
    refine W_nil ?_
    refine W_ret1m (H2 := H) Tryd.results28 rfl (.nil _) (by repeat (first | exact HSub.refl _ | refine HSub.cons (by repeat (first | exact Take.here _ | apply Take.next | apply Take.app)) ?_ | refine HSub.app (by repeat (first | exact TakeS.here _ | apply TakeS.next | apply TakeS.app)) ?_ | refine HSub.drop ?_ | refine HSub.dropS ?_ | exact HSub.nil _)) ?_
    have e : nextL l at_ = [] := if_pos c0
    exact ⟨[], by rw [e]; exact .nil, rfl⟩
  · skip
    refine W_skip ?_
    refine W_sr ?_
    obtain ⟨i, rfl, hi⟩ : ∃ i : Nat, at_ = (i : Int) ∧ i < l.length := ⟨at_.toNat, by omega, by omega⟩
    obtain ⟨x, hx⟩ : ∃ x, l[i]? = some x := ⟨_, List.getElem?_eq_getElem hi⟩
    obtain ⟨b, o, rfl, hc⟩ := hrow.row cells_len (by decide) hx
    refine W_alloc ty54 rfl rfl (fun b5 => ?_)
    refine W_nil ?_
    refine W_seq ?_
    refine W_sr ?_
    refine W_load rfl ty48 rfl (Cell.own (by repeat (first | exact List.mem_cons_self | apply List.mem_cons_of_mem | apply List.mem_append_right)) rfl) rfl ?_
    refine W_move rfl rfl ?_
    refine W_indexAddr (j := i) rfl rfl ty48 ty67 rfl hi rfl rfl ?_
    refine W_loadA rfl ty67 rfl (vs := x.cells) rfl (hc.up (by repeat (first | exact HSub.refl _ | refine HSub.cons (by repeat (first | exact Take.here _ | apply Take.next | apply Take.app)) ?_ | refine HSub.app (by repeat (first | exact TakeS.here _ | apply TakeS.next | apply TakeS.app)) ?_ | refine HSub.drop ?_ | refine HSub.dropS ?_ | exact HSub.nil _))) rfl ?_
    refine W_move rfl rfl ?_
    refine W_call (.cons rfl (.cons rfl .nil)) Tryd.call54 rfl (behind_L x i hT) ?_
    rintro v' H' ⟨bj, bt, ba, bn, rfl, rfl⟩
    refine W_nil ?_
    refine W_block ?_
    refine W_rangeFunc rfl Tryd.call70 ?_
    intro lp D r hst hpd hps hasg hbody hA
    have hr := loop_ready hst hpd
    show LCalls _ _ _ #[_, _, _, _, _] _ _
    refine ((behind_iter (H := (lp, .obj (.loop r)) :: (D, .obj (.deferred (some []))) :: (b5, .cells 54 1 [.slice none 0 0]) :: (b2, .cells 48 1 [.slice (some ⟨b, o, none⟩) l.length cap]) :: H) rfl rfl
      (fun j Hi => ∃ v HB, OwnS 3 1 v (((seqB x i).take j).filter (inB l.length)).length (i64s (((seqB x i).take j).filter (inB l.length))) HB ∧ Hi = (lp, .obj (.loop r)) :: (D, .obj (.deferred (some []))) :: (b5, .cells 54 1 [v]) :: (b2, .cells 48 1 [.slice (some ⟨b, o, none⟩) l.length cap]) :: (HB ++ H)) (fun _ => False) ?_ ⟨_, [], .nil, rfl⟩ hT).hsub (by repeat (first | exact HSub.refl _ | refine HSub.cons (by repeat (first | exact Take.here _ | apply Take.next | apply Take.app)) ?_ | refine HSub.app (by repeat (first | exact TakeS.here _ | apply TakeS.next | apply TakeS.app)) ?_ | refine HSub.drop ?_ | refine HSub.dropS ?_ | exact HSub.nil _))).mono ?_
    · intro j z Hi hz hJ
      obtain ⟨v, HB, hO, rfl⟩ := hJ
      have hz : (seqB x i)[j]? = some z := hz
      have hlen : (((seqB x i).take j).filter (inB l.length)).length ≤ 3 := Nat.le_trans (List.length_filter_le _ _) (Nat.le_trans (List.length_take_le' _ _) (seqOf_len _ _ _ _ _ _))
      refine round_intro hst hpd hA hps rfl hasg rfl rfl rfl (by repeat (first | exact Take.here _ | apply Take.next | apply Take.app)) ?_
      refine W_region ?_
      refine W_assign rfl rfl ?_
      refine W_nil ?_
      refine W_begin hst hpd (by repeat (first | exact Take.here _ | apply Take.next | apply Take.app)) hbody ?_
      refine W_block ?_
      refine W_sr ?_
      refine W_move rfl rfl ?_
      refine W_bin rfl rfl b_geq rfl ?_
      refine W_move rfl rfl ?_
      apply W_and
      iterate 4 exact rfl
      case h1 =>
        intro hg2
        refine W_gyes rfl rfl ?_
        refine W_move rfl rfl ?_
        refine W_gyes rfl rfl ?_
        refine W_load rfl ty48 rfl (Cell.own (by repeat (first | exact List.mem_cons_self | apply List.mem_cons_of_mem | apply List.mem_append_right)) rfl) rfl ?_
        refine W_gyes rfl rfl ?_
        refine W_len rfl ty48 rfl rfl ?_
        refine W_gyes rfl rfl ?_
        refine W_bin rfl rfl b_lss rfl ?_
        exact W_met rfl (by repeat (first | exact .refl | refine .cons rfl ?_))
      refine W_nil ?_
      refine W_condPS (p := 0 ≤ z ∧ z < (l.length : Int)) rfl (by simp) (fun c1 => ?_) (fun c1 => ?_)
      · skip
        refine W_region ?_
        refine W_load rfl ty54 rfl (Cell.own (by repeat (first | exact List.mem_cons_self | apply List.mem_cons_of_mem | apply List.mem_append_right)) rfl) rfl ?_
        refine W_move rfl rfl ?_
        refine W_buildSlice ty54 ty3 (.cons rfl rfl rfl rfl rfl .nil) rfl rfl rfl rfl rfl rfl rfl (fun b32 => ?_)
        refine W_append (news := [.int .i64 z]) (m := 1) (HB := HB) (H0 := ?H0) rfl rfl ty54 ty3 rfl (by decide) hO rfl (Holds.own List.mem_cons_self) rfl (by simp only [maxLen]; omega) (by omega) ?hs rfl (fun v' HB' hO' => ?_)
        case H0 => exact (behC bj bt ba bn (jumpB x) (nextB x) (toV x i) i ++ (lp, .obj (.loop (Loop.at r .busy none))) :: (D, .obj (.deferred (some []))) :: (b5, .cells 54 1 [v]) :: (b2, .cells 48 1 [.slice (some ⟨b, o, none⟩) l.length cap]) :: H)
        case hs => exact (by repeat (first | exact HSub.refl _ | refine HSub.cons (by repeat (first | exact Take.here _ | apply Take.next | apply Take.app)) ?_ | refine HSub.app (by repeat (first | exact TakeS.here _ | apply TakeS.next | apply TakeS.app)) ?_ | refine HSub.drop ?_ | refine HSub.dropS ?_ | exact HSub.nil _))
        obtain ⟨adv, capv, rfl, _, _⟩ := hO'.shape
        refine W_store rfl rfl ty54 rfl rfl (by repeat (first | exact List.mem_cons_self | apply List.mem_cons_of_mem | apply List.mem_append_right)) rfl rfl (by repeat (first | exact Upd.head _ | apply Upd.tail | apply Upd.app)) ?_
        refine W_nil ?_
        refine W_blk ?_
        refine W_endround (by repeat (first | exact Take.here _ | apply Take.next | apply Take.app)) ?_
        rw [hr]
        have hin : inB l.length z = true := by simpa [inB] using c1
        exact ⟨_, (by repeat (first | exact HSub.refl _ | refine HSub.cons (by repeat (first | exact Take.here _ | apply Take.next | apply Take.app)) ?_ | refine HSub.app (by repeat (first | exact TakeS.here _ | apply TakeS.next | apply TakeS.app)) ?_ | refine HSub.drop ?_ | refine HSub.dropS ?_ | exact HSub.nil _)), .inl ⟨rfl, _, HB', by rw [filter_at hz, hin]; simpa [i64s_append, i64s] using hO', rfl⟩⟩
      · skip
        refine W_skip ?_
        refine W_blk ?_
        refine W_endround (by repeat (first | exact Take.here _ | apply Take.next | apply Take.app)) ?_
        rw [hr]
        have hin : inB l.length z = false := by rw [← Bool.not_eq_true]; simpa [inB] using c1
        exact ⟨_, (by repeat (first | exact HSub.refl _ | refine HSub.cons (by repeat (first | exact Take.here _ | apply Take.next | apply Take.app)) ?_ | refine HSub.app (by repeat (first | exact TakeS.here _ | apply TakeS.next | apply TakeS.app)) ?_ | refine HSub.drop ?_ | refine HSub.dropS ?_ | exact HSub.nil _)), .inl ⟨rfl, v, HB, by rw [filter_at hz, hin]; simpa using hO, rfl⟩⟩
    · intro _ H' hp
      obtain ⟨Hi', hs, hJS⟩ := hp
      obtain ⟨v, HB, hO, rfl⟩ := hJS.resolve_right id
      refine ⟨.ready, none, (D, .obj (.deferred (some []))) :: (b5, .cells 54 1 [v]) :: (b2, .cells 48 1 [.slice (some ⟨b, o, none⟩) l.length cap]) :: (HB ++ H), by rw [hr]; exact hs.trans (by repeat (first | exact HSub.refl _ | refine HSub.cons (by repeat (first | exact Take.here _ | apply Take.next | apply Take.app)) ?_ | refine HSub.app (by repeat (first | exact TakeS.here _ | apply TakeS.next | apply TakeS.app)) ?_ | refine HSub.drop ?_ | refine HSub.dropS ?_ | exact HSub.nil _)), by decide, ?_⟩
      show W _ _ _ _ _ _ _ _ _
      refine W_blk ?_
      refine W_sr ?_
      refine W_load rfl ty54 rfl (Cell.own (by repeat (first | exact List.mem_cons_self | apply List.mem_cons_of_mem | apply List.mem_append_right)) rfl) rfl ?_
      refine W_assign rfl rfl ?_
      refine W_nil ?_
      refine W_ret1m (H2 := HB ++ H) Tryd.results28 rfl (.cons (by repeat (first | exact Take.here _ | apply Take.next | apply Take.app)) (.nil _)) (by repeat (first | exact HSub.refl _ | refine HSub.cons (by repeat (first | exact Take.here _ | apply Take.next | apply Take.app)) ?_ | refine HSub.app (by repeat (first | exact TakeS.here _ | apply TakeS.next | apply TakeS.app)) ?_ | refine HSub.drop ?_ | refine HSub.dropS ?_ | exact HSub.nil _)) ?_
      exact ⟨HB, by rw [nextL_at hi hx]; have h2 := hO; rw [show (seqOf (jumpB x) (nextB x) (toV x i) (IntKind.i64.wrap ((i : Int) + 1)) _ _) = seqB x i from rfl, List.take_length] at h2; exact h2, rfl⟩
end Go.Proofs.YtpfoecmianohjaaDoor
