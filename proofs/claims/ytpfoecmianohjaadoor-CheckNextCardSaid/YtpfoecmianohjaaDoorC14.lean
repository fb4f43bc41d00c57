/-
  Own work: contracts of functions that the statement reaches, and plain facts on what they compute; each theorem says its conditions.
-/
import Derived.Test.YtpfoecmianohjaaDoorC13
set_option linter.all false
set_option linter.unusedSimpArgs false
set_option linter.unusedVariables false
namespace Go.Proofs.YtpfoecmianohjaaDoor
open Go Go.Sl
attribute [local irreducible] W

def ins0 : Ins := ⟨0, 0, 0, 0, 0⟩
/-- what the three looks say of a place -/
def lookE (l : List Ins) (s : Bool) (j k : Nat) : Int :=
  if j = 0 then isaChk (l.getD k ins0) else if j = 1 then wrongE (l.getD k ins0) l.length k s else bif hasN (reachN l) k then 0 else 19
def firstE (f : Nat → Int) (n : Nat) : Option Nat := (List.range n).find? fun k => decide (f k ≠ 0)
def chkR (l : List Ins) (s : Bool) : Int × Int :=
  if l.length = 0 ∨ 64 < l.length then (0, 8) else match firstE (lookE l s 0) l.length with
    | some k => (k, lookE l s 0 k)
    | none => match firstE (lookE l s 1) l.length with
      | some k => (k, lookE l s 1 k)
      | none => match firstE (lookE l s 2) l.length with
        | some k => (k, lookE l s 2 k)
        | none => (0, 0)
theorem find_range {p : Nat → Bool} {n k : Nat} (hk : k < n) (hp : p k = true) (hb : ∀ i, i < k → p i = false) : (List.range n).find? p = some k := by
  rw [List.find?_range_eq_some]
  exact ⟨hp, List.mem_range.2 hk, fun i hi => by simp [hb i hi]⟩
theorem first_some {f : Nat → Int} {n k : Nat} (hk : k < n) (hp : f k ≠ 0) (hb : ∀ i, i < k → f i = 0) : firstE f n = some k := find_range hk (by simpa using hp) (fun i hi => by simp [hb i hi])
theorem first_none {f : Nat → Int} {n : Nat} (hb : ∀ i, i < n → f i = 0) : firstE f n = none := by
  unfold firstE
  rw [List.find?_eq_none]
  intro i hi
  simp [hb i (List.mem_range.1 hi)]
theorem chkR_long {l : List Ins} {s : Bool} (h : l.length = 0 ∨ 64 < l.length) : chkR l s = (0, 8) := if_pos h
theorem chkR_found {l : List Ins} {s : Bool} (h : ¬ (l.length = 0 ∨ 64 < l.length)) {j k : Nat} (hj : j < 3) (hall : ∀ j', j' < j → ∀ i, i < l.length → lookE l s j' i = 0) (hk : k < l.length) (hp : lookE l s j k ≠ 0) (hb : ∀ i, i < k → lookE l s j i = 0) : chkR l s = ((k : Int), lookE l s j k) := by
  unfold chkR
  rw [if_neg h]
  match j, hj with
  | 0, _ => rw [first_some hk hp hb]
  | 1, _ => rw [first_none (hall 0 (by omega)), first_some hk hp hb]
  | 2, _ => rw [first_none (hall 0 (by omega)), first_none (hall 1 (by omega)), first_some hk hp hb]
theorem chkR_right {l : List Ins} {s : Bool} (h : ¬ (l.length = 0 ∨ 64 < l.length)) (hall : ∀ j', j' < 3 → ∀ i, i < l.length → lookE l s j' i = 0) : chkR l s = (0, 0) := by
  unfold chkR
  rw [if_neg h, first_none (hall 0 (by omega)), first_none (hall 1 (by omega)), first_none (hall 2 (by omega))]
theorem getD_at {l : List Ins} {k : Nat} {x : Ins} (h : l[k]? = some x) : l.getD k ins0 = x := by simp [List.getD, h]
theorem look0 {l : List Ins} {s : Bool} {k : Nat} {x : Ins} (h : l[k]? = some x) : lookE l s 0 k = isaChk x := by unfold lookE; rw [if_pos rfl, getD_at h]
theorem look1 {l : List Ins} {s : Bool} {k : Nat} {x : Ins} (h : l[k]? = some x) : lookE l s 1 k = wrongE x l.length k s := by unfold lookE; rw [if_neg (by decide), if_pos rfl, getD_at h]
theorem look2 {l : List Ins} {s : Bool} {k : Nat} : lookE l s 2 k = bif hasN (reachN l) k then 0 else 19 := by unfold lookE; rw [if_neg (by decide), if_neg (by decide)]
theorem call_look (j : Nat) (args : Array Value) (w : World) : (callFunc (if j = 0 then 48 else if j = 1 then 50 else 52) args).run Tryd.prog w = .ok (.enter (if j = 0 then 48 else if j = 1 then 50 else 52) args) w := by
  by_cases h : j = 0
  · rw [if_pos h]; exact Tryd.call48 _ _
  · rw [if_neg h]
    by_cases h1 : j = 1
    · rw [if_pos h1]; exact Tryd.call50 _ _
    · rw [if_neg h1]; exact Tryd.call52 _ _
set_option maxHeartbeats 1000000 in
theorem look0_q {w0 : World} {H : Heap} {l : List Ins} {s : Bool} {ad : Option Addr} {cap b1 k : Nat} (hl : InsOk l) (hn : l.length ≤ 1000000) (hk : k < l.length) (hrow : Holds w0 H ad (insRow l)) (hcl : Cells w0 H b1 0 [.slice ad l.length cap, .bool s]) (hT : Tab w0) : PureAt Tryd.prog w0 H 48 [.int .i64 (k : Int), .pointer (some ⟨b1, 0, none⟩)] (.int .i64 (lookE l s 0 k)) := by
  obtain ⟨x, hx⟩ : ∃ x, l[k]? = some x := ⟨_, List.getElem?_eq_getElem hk⟩
  obtain ⟨b, o, rfl, hc⟩ := hrow.row cells_len (by decide) hx
  refine L_enter Tryd.func48 rfl Tryd.ntmps48 rfl rfl ?_
  refine W_sr ?_
  refine W_assign rfl rfl ?_
  refine W_nil ?_
  refine W_sr ?_
  refine W_fieldAddr rfl fld51_0 (by decide) rfl ?_
  refine W_load rfl ty48 rfl (hcl 0 _ rfl) rfl ?_
  refine W_move rfl rfl ?_
  refine W_indexAddr (j := k) rfl rfl ty48 ty67 rfl hk rfl rfl ?_
  refine W_loadA rfl ty67 rfl (vs := [.int .i64 x.op, .int .i64 x.dst, .int .i64 x.src, .int .i64 x.off, .int .i64 x.imm]) rfl hc rfl ?_
  refine W_callp (.cons rfl .nil) Tryd.call49 rfl hT (isaChk_pure _) ?_
  refine W_assign rfl rfl ?_
  refine W_nil ?_
  refine W_ret1m (H2 := H) Tryd.results48 rfl (.nil _) (by repeat (first | exact HSub.refl _ | refine HSub.cons (by repeat (first | exact Take.here _ | apply Take.next | apply Take.app)) ?_ | refine HSub.app (by repeat (first | exact TakeS.here _ | apply TakeS.next | apply TakeS.app)) ?_ | refine HSub.drop ?_ | refine HSub.dropS ?_ | exact HSub.nil _)) ?_
  exact ⟨by rw [look0 hx], rfl⟩
set_option maxHeartbeats 1000000 in
theorem look1_q {w0 : World} {H : Heap} {l : List Ins} {s : Bool} {ad : Option Addr} {cap b1 k : Nat} (hl : InsOk l) (hn : l.length ≤ 1000000) (hk : k < l.length) (hrow : Holds w0 H ad (insRow l)) (hcl : Cells w0 H b1 0 [.slice ad l.length cap, .bool s]) (hT : Tab w0) : PureAt Tryd.prog w0 H 50 [.int .i64 (k : Int), .pointer (some ⟨b1, 0, none⟩)] (.int .i64 (lookE l s 1 k)) := by
  obtain ⟨x, hx⟩ : ∃ x, l[k]? = some x := ⟨_, List.getElem?_eq_getElem hk⟩
  refine L_enter Tryd.func50 rfl Tryd.ntmps50 rfl rfl ?_
  refine W_sr ?_
  refine W_assign rfl rfl ?_
  refine W_nil ?_
  refine W_sr ?_
  refine W_loadA rfl ty51 rfl (vs := [.slice ad l.length cap, .bool s]) rfl hcl rfl ?_
  refine W_move rfl rfl ?_
  refine W_callq (.cons rfl (.cons rfl .nil)) Tryd.call51 rfl (wrong_q rfl hn hk hx (hl x (List.mem_of_getElem? hx)) hrow hT) ?_
  refine W_assign rfl rfl ?_
  refine W_nil ?_
  refine W_ret1m (H2 := H) Tryd.results50 rfl (.nil _) (by repeat (first | exact HSub.refl _ | refine HSub.cons (by repeat (first | exact Take.here _ | apply Take.next | apply Take.app)) ?_ | refine HSub.app (by repeat (first | exact TakeS.here _ | apply TakeS.next | apply TakeS.app)) ?_ | refine HSub.drop ?_ | refine HSub.dropS ?_ | exact HSub.nil _)) ?_
  exact ⟨by rw [look1 hx], rfl⟩
set_option maxHeartbeats 1000000 in
theorem look2_q {w0 : World} {H : Heap} {l : List Ins} {s : Bool} {b4 k : Nat} (hcm : Cell w0 H b4 0 (.int .u64 ((reachN l : Nat) : Int))) (hT : Tab w0) : PureAt Tryd.prog w0 H 52 [.int .i64 (k : Int), .pointer (some ⟨b4, 0, none⟩)] (.int .i64 (lookE l s 2 k)) := by
  refine L_enter Tryd.func52 rfl Tryd.ntmps52 rfl rfl ?_
  refine W_sr ?_
  refine W_assign rfl rfl ?_
  refine W_nil ?_
  refine W_seq ?_
  refine W_sr ?_
  refine W_load rfl ty60 rfl hcm rfl ?_
  refine W_move rfl rfl ?_
  refine W_callp (.cons rfl (.cons rfl .nil)) Tryd.call34 rfl hT (has_m _ _ (reachN_ok l)) ?_
  refine W_not rfl rfl ?_
  refine W_nil ?_
  refine W_condS rfl (fun c0 => ?_) (fun c0 => ?_)
  · skip
    refine W_sr ?_
    refine W_assign rfl rfl ?_
    refine W_nil ?_
    refine W_ret1m (H2 := H) Tryd.results52 rfl (.nil _) (by repeat (first | exact HSub.refl _ | refine HSub.cons (by repeat (first | exact Take.here _ | apply Take.next | apply Take.app)) ?_ | refine HSub.app (by repeat (first | exact TakeS.here _ | apply TakeS.next | apply TakeS.app)) ?_ | refine HSub.drop ?_ | refine HSub.dropS ?_ | exact HSub.nil _)) ?_
    exact ⟨by rw [look2, show hasN (reachN l) k = false by simpa using c0]; rfl, rfl⟩
  · skip
    refine W_skip ?_
    refine W_sr ?_
    refine W_assign rfl rfl ?_
    refine W_nil ?_
    refine W_ret1m (H2 := H) Tryd.results52 rfl (.nil _) (by repeat (first | exact HSub.refl _ | refine HSub.cons (by repeat (first | exact Take.here _ | apply Take.next | apply Take.app)) ?_ | refine HSub.app (by repeat (first | exact TakeS.here _ | apply TakeS.next | apply TakeS.app)) ?_ | refine HSub.drop ?_ | refine HSub.dropS ?_ | exact HSub.nil _)) ?_
    exact ⟨by rw [look2, show hasN (reachN l) k = true by simpa using c0]; rfl, rfl⟩
set_option maxHeartbeats 4000000 in
theorem check_q {w0 : World} {H : Heap} {l : List Ins} {s : Bool} {ad : Option Addr} {cap : Nat} (hl : InsOk l) (hn : l.length ≤ 1000000) (hcap : l.length ≤ cap) (hrow : Holds w0 H ad (insRow l)) (hT : Tab w0) : PureAt Tryd.prog w0 H 25 [.agg #[.slice ad l.length cap, .bool s]] (.tuple #[.int .i64 (chkR l s).1, .int .i64 (chkR l s).2]) := by
  refine L_enter Tryd.func25 rfl Tryd.ntmps25 rfl rfl ?_
  refine W_sr ?_
  refine W_box rfl rfl rfl (fun b1 => ?_)
  refine W_assign rfl rfl ?_
  refine W_assign rfl rfl ?_
  refine W_nil ?_
  refine W_scope (fun _ _ _ h => h) ?_
  refine W_seq ?_
  refine W_sr ?_
  refine W_fieldAddr rfl fld51_0 (by decide) rfl ?_
  refine W_load rfl ty48 rfl (Cell.own (by repeat (first | exact List.mem_cons_self | apply List.mem_cons_of_mem | apply List.mem_append_right)) rfl) rfl ?_
  refine W_len rfl ty48 rfl rfl ?_
  refine W_bin rfl rfl b_eql rfl ?_
  refine W_move rfl rfl ?_
  apply W_or
  iterate 4 exact rfl
  case h1 =>
    intro hg4
    refine W_gyes rfl rfl ?_
    refine W_fieldAddr rfl fld51_0 (by decide) rfl ?_
    refine W_gyes rfl rfl ?_
    refine W_load rfl ty48 rfl (Cell.own (by repeat (first | exact List.mem_cons_self | apply List.mem_cons_of_mem | apply List.mem_append_right)) rfl) rfl ?_
    refine W_gyes rfl rfl ?_
    refine W_len rfl ty48 rfl rfl ?_
    refine W_gyes rfl rfl ?_
    refine W_bin rfl rfl b_gtr rfl ?_
    exact W_met rfl (by repeat (first | exact .refl | refine .cons rfl ?_))
  refine W_nil ?_
  refine W_condPS (p := (l.length : Int) = 0 ∨ 64 < (l.length : Int)) rfl (by simp only [Bool.or_eq_true, decide_eq_true_eq]) (fun c0 => ?_) (fun c0 => ?_)
  · skip
    refine W_sr ?_
    refine W_assign rfl rfl ?_
    refine W_assign rfl rfl ?_
    refine W_nil ?_
    refine W_ret2m (H2 := H) Tryd.results25 rfl rfl (.nil _) (by repeat (first | exact HSub.refl _ | refine HSub.cons (by repeat (first | exact Take.here _ | apply Take.next | apply Take.app)) ?_ | refine HSub.app (by repeat (first | exact TakeS.here _ | apply TakeS.next | apply TakeS.app)) ?_ | refine HSub.drop ?_ | refine HSub.dropS ?_ | exact HSub.nil _)) ?_
    exact ⟨by rw [chkR_long (by omega)], rfl⟩
  · skip
    refine W_skip ?_
    refine W_sr ?_
    refine W_alloc ty60 rfl rfl (fun b4 => ?_)
    refine W_store rfl rfl ty60 rfl rfl (by repeat (first | exact List.mem_cons_self | apply List.mem_cons_of_mem | apply List.mem_append_right)) rfl rfl (by repeat (first | exact Upd.head _ | apply Upd.tail | apply Upd.app)) ?_
    refine W_nil ?_
    refine W_sr ?_
    refine W_makeFunc .nil (.cons rfl .nil) rfl ?_
    refine W_makeFunc .nil (.cons rfl .nil) rfl ?_
    refine W_makeFunc .nil (.cons rfl .nil) rfl ?_
    refine W_buildSlice (l := [.func (.func 48) #[] #[.pointer (some ⟨b1, 0, none⟩)], .func (.func 50) #[] #[.pointer (some ⟨b1, 0, none⟩)], .func (.func 52) #[] #[.pointer (some ⟨b4, 0, none⟩)]]) ty84 ty82 (.cons rfl rfl rfl rfl rfl (.cons rfl rfl rfl rfl rfl (.cons rfl rfl rfl rfl rfl .nil))) rfl rfl rfl rfl rfl rfl rfl (fun b25 => ?_)
    refine W_assign rfl rfl ?_
    refine W_nil ?_
    refine W_sr ?_
    refine W_assign rfl rfl ?_
    refine W_assign rfl rfl ?_
    refine W_nil ?_
    refine W_seq ?_
    refine W_label ?_
    refine W_seq ?_
    refine W_sr ?_
    refine W_move rfl rfl ?_
    refine W_len rfl ty84 rfl rfl ?_
    refine W_move rfl rfl ?_
    refine W_nil ?_
    refine W_block ?_
    refine W_loopD (X := Nat × Nat) (fun | (j, _) => [(1, .pointer (some ⟨b1, 0, none⟩)), (4, .pointer (some ⟨b4, 0, none⟩)), (5, .slice (some ⟨b25, 0, none⟩) 3 3), (6, .int .i64 0), (7, .int .i64 0), (26, .slice (some ⟨b25, 0, none⟩) 3 3), (27, .int .i64 3), (28, .int .i64 (j : Int))]) (fun _ => []) (fun | (_, m) => (b25, .cells 82 3 [.func (.func 48) #[] #[.pointer (some ⟨b1, 0, none⟩)], .func (.func 50) #[] #[.pointer (some ⟨b1, 0, none⟩)], .func (.func 52) #[] #[.pointer (some ⟨b4, 0, none⟩)]]) :: (b4, .cells 60 1 [.int .u64 ((m : Nat) : Int)]) :: (b1, .cells 51 2 [.slice ad l.length cap, .bool s]) :: H) (fun | (j, m) => j ≤ 3 ∧ (j ≤ 2 → m = 0) ∧ ∀ j', j' < j → ∀ i, i < l.length → lookE l s j' i = 0) (fun | (j, _) => 3 - j) (0, 0) ⟨by omega, fun _ => rfl, fun j' hj => absurd hj (by omega)⟩ (sub_cons rfl (sub_cons rfl (sub_cons rfl (sub_cons rfl (sub_cons rfl (sub_cons rfl (sub_cons rfl (sub_cons rfl (sub_nil _))))))))) rfl (by repeat (first | exact HSub.refl _ | refine HSub.cons (by repeat (first | exact Take.here _ | apply Take.next | apply Take.app)) ?_ | refine HSub.app (by repeat (first | exact TakeS.here _ | apply TakeS.next | apply TakeS.app)) ?_ | refine HSub.drop ?_ | refine HSub.dropS ?_ | exact HSub.nil _)) ?_
    rintro ⟨j, m⟩ ⟨hj, hm, hall⟩
    simp only
    refine W_sr ?_
    refine W_bin rfl rfl b_lss rfl ?_
    refine W_nil ?_
    refine W_seq ?_
    refine W_condPS (p := (j : Int) < 3) rfl (by simp) (fun c1 => ?_) (fun c1 => ?_)
    · skip
      refine W_skip ?_
      refine W_seq ?_
      refine W_block ?_
      refine W_sr ?_
      obtain ⟨fv, hfv, hlook⟩ : ∃ fv, ([.func (.func 48) #[] #[.pointer (some ⟨b1, 0, none⟩)], .func (.func 50) #[] #[.pointer (some ⟨b1, 0, none⟩)], .func (.func 52) #[] #[.pointer (some ⟨b4, 0, none⟩)]] : List Value)[j]? = some fv ∧ True := ⟨_, List.getElem?_eq_getElem (by show j < 3; omega), trivial⟩
      refine W_move rfl rfl ?_
      refine W_indexAddr (j := j) rfl rfl ty84 ty82 rfl (by omega) rfl rfl ?_
      refine W_load rfl ty82 rfl (Cell.own (by repeat (first | exact List.mem_cons_self | apply List.mem_cons_of_mem | apply List.mem_append_right)) (by rw [Nat.zero_add, Nat.mul_one]; exact hfv)) rfl ?_
      refine W_assign rfl rfl ?_
      refine W_assign rfl rfl ?_
      refine W_nil ?_
      refine W_seq ?_
      refine W_sr ?_
      refine W_move rfl rfl ?_
      refine W_move rfl rfl ?_
      refine W_len rfl ty84 rfl rfl ?_
      refine W_bin rfl rfl (b_sub (m := 2) (i64w (by omega))) rfl ?_
      refine W_bin rfl rfl b_eql rfl ?_
      refine W_nil ?_
      refine W_condJ (p := (j : Int) = 2) [(1, .pointer (some ⟨b1, 0, none⟩)), (4, .pointer (some ⟨b4, 0, none⟩)), (5, .slice (some ⟨b25, 0, none⟩) 3 3), (6, .int .i64 0), (7, .int .i64 0), (26, .slice (some ⟨b25, 0, none⟩) 3 3), (27, .int .i64 3), (28, .int .i64 (j : Int)), (8, .int .i64 (j : Int)), (9, fv)] ((b25, .cells 82 3 [.func (.func 48) #[] #[.pointer (some ⟨b1, 0, none⟩)], .func (.func 50) #[] #[.pointer (some ⟨b1, 0, none⟩)], .func (.func 52) #[] #[.pointer (some ⟨b4, 0, none⟩)]]) :: (b4, .cells 60 1 [.int .u64 (((bif decide (j = 2) then reachN l else 0) : Nat) : Int)]) :: (b1, .cells 51 2 [.slice ad l.length cap, .bool s]) :: H) rfl (by simp) (fun c2 => ?_) (fun c2 => ?_) ?_
      · skip
        refine W_region ?_
        refine W_fieldAddr rfl fld51_0 (by decide) rfl ?_
        refine W_load rfl ty48 rfl (Cell.own (by repeat (first | exact List.mem_cons_self | apply List.mem_cons_of_mem | apply List.mem_append_right)) rfl) rfl ?_
        refine W_callq (.cons rfl .nil) Tryd.call30 rfl (reached_q l hl (by omega) hcap (hrow.up (by repeat (first | exact HSub.refl _ | refine HSub.cons (by repeat (first | exact Take.here _ | apply Take.next | apply Take.app)) ?_ | refine HSub.app (by repeat (first | exact TakeS.here _ | apply TakeS.next | apply TakeS.app)) ?_ | refine HSub.drop ?_ | refine HSub.dropS ?_ | exact HSub.nil _))) hT) ?_
        refine W_store rfl rfl ty60 rfl rfl (by repeat (first | exact List.mem_cons_self | apply List.mem_cons_of_mem | apply List.mem_append_right)) rfl rfl (by repeat (first | exact Upd.head _ | apply Upd.tail | apply Upd.app)) ?_
        refine W_nil ?_
        refine W_joined (sub_cons rfl (sub_cons rfl (sub_cons rfl (sub_cons rfl (sub_cons rfl (sub_cons rfl (sub_cons rfl (sub_cons rfl (sub_cons rfl (sub_cons rfl (sub_nil _))))))))))) (by rw [show decide (j = 2) = true from decide_eq_true (by omega)]; exact .refl _)
      · skip
        refine W_skip ?_
        refine W_joined (sub_cons rfl (sub_cons rfl (sub_cons rfl (sub_cons rfl (sub_cons rfl (sub_cons rfl (sub_cons rfl (sub_cons rfl (sub_cons rfl (sub_cons rfl (sub_nil _))))))))))) (by rw [show decide (j = 2) = false from decide_eq_false (by omega), hm (by omega)]; exact .refl _)
      obtain ⟨m2, hm2e⟩ : ∃ m2, m2 = (bif decide (j = 2) then reachN l else 0) := ⟨_, rfl⟩
      rw [← hm2e]
      have hm2 : j + 1 ≤ 2 → m2 = 0 := fun h => by rw [hm2e, decide_eq_false (by omega)]; rfl
      have hm3 : j = 2 → m2 = reachN l := fun h => by rw [hm2e, decide_eq_true h]; rfl
      refine W_sr ?_
      refine W_fieldAddr rfl fld51_0 (by decide) rfl ?_
      refine W_load rfl ty48 rfl (Cell.own (by repeat (first | exact List.mem_cons_self | apply List.mem_cons_of_mem | apply List.mem_append_right)) rfl) rfl ?_
      refine W_len rfl ty48 rfl rfl ?_
      refine W_move rfl rfl ?_
      refine W_nil ?_
      refine W_block ?_
      refine W_loopD (X := Nat) (fun k => [(1, .pointer (some ⟨b1, 0, none⟩)), (4, .pointer (some ⟨b4, 0, none⟩)), (5, .slice (some ⟨b25, 0, none⟩) 3 3), (6, .int .i64 0), (7, .int .i64 0), (26, .slice (some ⟨b25, 0, none⟩) 3 3), (27, .int .i64 3), (8, .int .i64 (j : Int)), (9, fv), (28, .int .i64 (j : Int)), (43, .int .i64 (l.length : Int)), (44, .int .i64 (k : Int))]) (fun _ => []) (fun _ => (b25, .cells 82 3 [.func (.func 48) #[] #[.pointer (some ⟨b1, 0, none⟩)], .func (.func 50) #[] #[.pointer (some ⟨b1, 0, none⟩)], .func (.func 52) #[] #[.pointer (some ⟨b4, 0, none⟩)]]) :: (b4, .cells 60 1 [.int .u64 ((m2 : Nat) : Int)]) :: (b1, .cells 51 2 [.slice ad l.length cap, .bool s]) :: H) (fun k => k ≤ l.length ∧ ∀ i, i < k → lookE l s j i = 0) (fun k => l.length - k) 0 ⟨by omega, fun i hi => absurd hi (by omega)⟩ (sub_cons rfl (sub_cons rfl (sub_cons rfl (sub_cons rfl (sub_cons rfl (sub_cons rfl (sub_cons rfl (sub_cons rfl (sub_cons rfl (sub_cons rfl (sub_cons rfl (sub_cons rfl (sub_nil _))))))))))))) rfl (by repeat (first | exact HSub.refl _ | refine HSub.cons (by repeat (first | exact Take.here _ | apply Take.next | apply Take.app)) ?_ | refine HSub.app (by repeat (first | exact TakeS.here _ | apply TakeS.next | apply TakeS.app)) ?_ | refine HSub.drop ?_ | refine HSub.dropS ?_ | exact HSub.nil _)) ?_
      rintro k ⟨hk, hno⟩
      refine W_sr ?_
      refine W_bin rfl rfl b_lss rfl ?_
      refine W_nil ?_
      refine W_seq ?_
      refine W_condPS (p := (k : Int) < (l.length : Int)) rfl (by simp) (fun c3 => ?_) (fun c3 => ?_)
      · skip
        refine W_skip ?_
        refine W_seq ?_
        refine W_block ?_
        refine W_sr ?_
        refine W_move rfl rfl ?_
        refine W_assign rfl rfl ?_
        refine W_nil ?_
        refine W_sr ?_
        refine W_move rfl rfl ?_
        refine W_move rfl rfl ?_
        have hkl : k < l.length := by omega
        have hlk : PureAt Tryd.prog w0 ((b25, .cells 82 3 [.func (.func 48) #[] #[.pointer (some ⟨b1, 0, none⟩)], .func (.func 50) #[] #[.pointer (some ⟨b1, 0, none⟩)], .func (.func 52) #[] #[.pointer (some ⟨b4, 0, none⟩)]]) :: (b4, .cells 60 1 [.int .u64 ((m2 : Nat) : Int)]) :: (b1, .cells 51 2 [.slice ad l.length cap, .bool s]) :: H) (if j = 0 then 48 else if j = 1 then 50 else 52) [.int .i64 (k : Int), .pointer (some ⟨(if j = 2 then b4 else b1), 0, none⟩)] (.int .i64 (lookE l s j k)) ∧ fv = .func (.func (if j = 0 then 48 else if j = 1 then 50 else 52)) #[] #[.pointer (some ⟨(if j = 2 then b4 else b1), 0, none⟩)] := by
          have hcp : Cells w0 ((b25, .cells 82 3 [.func (.func 48) #[] #[.pointer (some ⟨b1, 0, none⟩)], .func (.func 50) #[] #[.pointer (some ⟨b1, 0, none⟩)], .func (.func 52) #[] #[.pointer (some ⟨b4, 0, none⟩)]]) :: (b4, .cells 60 1 [.int .u64 ((m2 : Nat) : Int)]) :: (b1, .cells 51 2 [.slice ad l.length cap, .bool s]) :: H) b1 0 [.slice ad l.length cap, .bool s] := Cells.own (e := 51) (tot := 2) (by repeat (first | exact List.mem_cons_self | apply List.mem_cons_of_mem | apply List.mem_append_right)) rfl
          match j, (show j < 3 by omega) with
          | 0, _ => exact ⟨look0_q hl (by omega) hkl (hrow.up (by repeat (first | exact HSub.refl _ | refine HSub.cons (by repeat (first | exact Take.here _ | apply Take.next | apply Take.app)) ?_ | refine HSub.app (by repeat (first | exact TakeS.here _ | apply TakeS.next | apply TakeS.app)) ?_ | refine HSub.drop ?_ | refine HSub.dropS ?_ | exact HSub.nil _))) hcp hT, (Option.some.inj hfv).symm⟩
          | 1, _ => exact ⟨look1_q hl (by omega) hkl (hrow.up (by repeat (first | exact HSub.refl _ | refine HSub.cons (by repeat (first | exact Take.here _ | apply Take.next | apply Take.app)) ?_ | refine HSub.app (by repeat (first | exact TakeS.here _ | apply TakeS.next | apply TakeS.app)) ?_ | refine HSub.drop ?_ | refine HSub.dropS ?_ | exact HSub.nil _))) hcp hT, (Option.some.inj hfv).symm⟩
          | 2, _ => exact ⟨look2_q (by rw [← hm3 rfl]; exact Cell.own (e := 60) (tot := 1) (by repeat (first | exact List.mem_cons_self | apply List.mem_cons_of_mem | apply List.mem_append_right)) rfl) hT, (Option.some.inj hfv).symm⟩
        obtain ⟨hlk, rfl⟩ := hlk
        refine W_callqv (fa := []) (ca := [.pointer (some ⟨(if j = 2 then b4 else b1), 0, none⟩)]) rfl (.cons rfl .nil) rfl (call_look j) rfl hlk ?_
        refine W_assign rfl rfl ?_
        refine W_nil ?_
        refine W_sr ?_
        refine W_move rfl rfl ?_
        refine W_bin rfl rfl b_neq rfl ?_
        refine W_nil ?_
        refine W_condPS (p := lookE l s j k ≠ 0) rfl (by simp) (fun c4 => ?_) (fun c4 => ?_)
        · skip
          refine W_sr ?_
          refine W_move rfl rfl ?_
          refine W_move rfl rfl ?_
          refine W_assign rfl rfl ?_
          refine W_assign rfl rfl ?_
          refine W_nil ?_
          refine W_exit rfl ?_
          refine W_sr ?_
          refine W_move rfl rfl ?_
          refine W_move rfl rfl ?_
          refine W_assign rfl rfl ?_
          refine W_assign rfl rfl ?_
          refine W_nil ?_
          refine W_ret2m (H2 := H) Tryd.results25 rfl rfl (.nil _) (by repeat (first | exact HSub.refl _ | refine HSub.cons (by repeat (first | exact Take.here _ | apply Take.next | apply Take.app)) ?_ | refine HSub.app (by repeat (first | exact TakeS.here _ | apply TakeS.next | apply TakeS.app)) ?_ | refine HSub.drop ?_ | refine HSub.dropS ?_ | exact HSub.nil _)) ?_
          exact ⟨by rw [chkR_found (by omega) (by omega) hall hkl c4 hno], rfl⟩
        · skip
          refine W_skip ?_
          refine W_blk ?_
          refine W_region ?_
          refine W_bin rfl rfl (b_add (m := ((k + 1 : Nat) : Int)) ((i64w (by omega)).trans (by omega))) rfl ?_
          refine W_move rfl rfl ?_
          refine W_nil ?_
          refine W_again (k + 1) ⟨by omega, fun i hi => by rcases Nat.lt_or_ge i k with h | h; exact hno i h; obtain rfl : i = k := (by omega); exact Decidable.not_not.1 c4⟩ (by omega) (sub_cons rfl (sub_cons rfl (sub_cons rfl (sub_cons rfl (sub_cons rfl (sub_cons rfl (sub_cons rfl (sub_cons rfl (sub_cons rfl (sub_cons rfl (sub_cons rfl (sub_cons rfl (sub_nil _))))))))))))) rfl (by repeat (first | exact HSub.refl _ | refine HSub.cons (by repeat (first | exact Take.here _ | apply Take.next | apply Take.app)) ?_ | refine HSub.app (by repeat (first | exact TakeS.here _ | apply TakeS.next | apply TakeS.app)) ?_ | refine HSub.drop ?_ | refine HSub.dropS ?_ | exact HSub.nil _))
      · skip
        refine W_exit rfl ?_
        refine W_blk ?_
        refine W_region ?_
        refine W_bin rfl rfl (b_add (m := ((j + 1 : Nat) : Int)) ((i64w (by omega)).trans (by omega))) rfl ?_
        refine W_move rfl rfl ?_
        refine W_nil ?_
        refine W_again (j + 1, m2) ⟨by omega, fun h => hm2 (by omega), fun j' hj' i hi => by rcases Nat.lt_or_ge j' j with h | h; exact hall j' h i hi; obtain rfl : j' = j := (by omega); exact hno i (by omega)⟩ (by dsimp only; omega) (sub_cons rfl (sub_cons rfl (sub_cons rfl (sub_cons rfl (sub_cons rfl (sub_cons rfl (sub_cons rfl (sub_cons rfl (sub_nil _))))))))) rfl (by repeat (first | exact HSub.refl _ | refine HSub.cons (by repeat (first | exact Take.here _ | apply Take.next | apply Take.app)) ?_ | refine HSub.app (by repeat (first | exact TakeS.here _ | apply TakeS.next | apply TakeS.app)) ?_ | refine HSub.drop ?_ | refine HSub.dropS ?_ | exact HSub.nil _))
    · skip
      refine W_exit rfl ?_
      refine W_sr ?_
      refine W_move rfl rfl ?_
      refine W_move rfl rfl ?_
      refine W_assign rfl rfl ?_
      refine W_assign rfl rfl ?_
      refine W_nil ?_
      refine W_ret2m (H2 := H) Tryd.results25 rfl rfl (.nil _) (by repeat (first | exact HSub.refl _ | refine HSub.cons (by repeat (first | exact Take.here _ | apply Take.next | apply Take.app)) ?_ | refine HSub.app (by repeat (first | exact TakeS.here _ | apply TakeS.next | apply TakeS.app)) ?_ | refine HSub.drop ?_ | refine HSub.dropS ?_ | exact HSub.nil _)) ?_
      obtain rfl : j = 3 := by omega
      exact ⟨by rw [chkR_right (by omega) hall], rfl⟩
end Go.Proofs.YtpfoecmianohjaaDoor
