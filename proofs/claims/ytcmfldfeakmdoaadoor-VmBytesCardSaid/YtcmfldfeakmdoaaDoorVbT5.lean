/-
  Own work: contracts of functions that the statement reaches, and plain facts on what they compute; each theorem says its conditions.
-/
import Derived.Test.YtcmfldfeakmdoaaDoorVbT4
import Derived.Test.YtcmfldfeakmdoaaDoorVbS2
import Derived.Test.YtcmfldfeakmdoaaDoorVbT3
import Derived.Test.YtcmfldfeakmdoaaDoorVbT2
import Derived.Test.YtcmfldfeakmdoaaDoorVbS1
import Derived.Lib.LaidIn
import Derived.Stop.LaidErr
import Derived.Test.YtcmfldfeakmdoaaDoorCards
import Derived.Test.YtcmfldfeakmdoaaDoorTie
import Derived.ChangeKeysEq
import Derived.Test.YtcmfldfeakmdoaaDoorVbA
set_option linter.all false
set_option linter.unusedSimpArgs false
set_option linter.unusedVariables false
namespace Go.Proofs.YtcmfldfeakmdoaaDoor
open Go Go.Sl
attribute [local irreducible] W
def ins0 : Ins := ⟨0, 0, 0, 0, 0⟩
def lookE (l : List Ins) (s : Bool) (j k : Nat) : Int :=
  if j = 0 then isaChk (l.getD k ins0) else if j = 1 then wrongE (l.getD k ins0) l.length k s else bif hasN (reachN l) k then 0 else 19
def firstE (f : Nat → Int) (n : Nat) : Option Nat := (List.range n).find? fun k => decide (f k ≠ 0)
def chkR (l : List Ins) (s : Bool) : Int × Int :=
  if l.length = 0 ∨ 64 < l.length then (0, 8) else match firstE (lookE l s 0) l.length with
    | some k => (k, lookE l s 0 k)
    | none => match firstE (lookE l s 1) l.length with
      | some k => (k, lookE l s 1 k)
      | none => match firstE (lookE l s 2) l.length with
        | some k => (k, lookE l s 2 k)
        | none => (0, 0)
theorem find_range {p : Nat → Bool} {n k : Nat} (hk : k < n) (hp : p k = true) (hb : ∀ i, i < k → p i = false) : (List.range n).find? p = some k := by
  rw [List.find?_range_eq_some]
  exact ⟨hp, List.mem_range.2 hk, fun i hi => by simp [hb i hi]⟩
theorem first_some {f : Nat → Int} {n k : Nat} (hk : k < n) (hp : f k ≠ 0) (hb : ∀ i, i < k → f i = 0) : firstE f n = some k := find_range hk (by simpa using hp) (fun i hi => by simp [hb i hi])
theorem first_none {f : Nat → Int} {n : Nat} (hb : ∀ i, i < n → f i = 0) : firstE f n = none := by
  unfold firstE
  rw [List.find?_eq_none]
  intro i hi
  simp [hb i (List.mem_range.1 hi)]
theorem chkR_long {l : List Ins} {s : Bool} (h : l.length = 0 ∨ 64 < l.length) : chkR l s = (0, 8) := if_pos h
theorem chkR_found {l : List Ins} {s : Bool} (h : ¬ (l.length = 0 ∨ 64 < l.length)) {j k : Nat} (hj : j < 3) (hall : ∀ j', j' < j → ∀ i, i < l.length → lookE l s j' i = 0) (hk : k < l.length) (hp : lookE l s j k ≠ 0) (hb : ∀ i, i < k → lookE l s j i = 0) : chkR l s = ((k : Int), lookE l s j k) := by
  unfold chkR
  rw [if_neg h]
  match j, hj with
  | 0, _ => rw [first_some hk hp hb]
  | 1, _ => rw [first_none (hall 0 (by omega)), first_some hk hp hb]
  | 2, _ => rw [first_none (hall 0 (by omega)), first_none (hall 1 (by omega)), first_some hk hp hb]
theorem chkR_right {l : List Ins} {s : Bool} (h : ¬ (l.length = 0 ∨ 64 < l.length)) (hall : ∀ j', j' < 3 → ∀ i, i < l.length → lookE l s j' i = 0) : chkR l s = (0, 0) := by
  unfold chkR
  rw [if_neg h, first_none (hall 0 (by omega)), first_none (hall 1 (by omega)), first_none (hall 2 (by omega))]
theorem getD_at {l : List Ins} {k : Nat} {x : Ins} (h : l[k]? = some x) : l.getD k ins0 = x := by simp [List.getD, h]
theorem look0 {l : List Ins} {s : Bool} {k : Nat} {x : Ins} (h : l[k]? = some x) : lookE l s 0 k = isaChk x := by unfold lookE; rw [if_pos rfl, getD_at h]
theorem look1 {l : List Ins} {s : Bool} {k : Nat} {x : Ins} (h : l[k]? = some x) : lookE l s 1 k = wrongE x l.length k s := by unfold lookE; rw [if_neg (by decide), if_pos rfl, getD_at h]
theorem look2 {l : List Ins} {s : Bool} {k : Nat} : lookE l s 2 k = bif hasN (reachN l) k then 0 else 19 := by unfold lookE; rw [if_neg (by decide), if_neg (by decide)]
theorem call_look (j : Nat) (args : Array Value) (w : World) : (callFunc (if j = 0 then 31 else if j = 1 then 33 else 35) args).run Tryd.prog w = .ok (.enter (if j = 0 then 31 else if j = 1 then 33 else 35) args) w := by
  by_cases h : j = 0
  · rw [if_pos h]; exact Tryd.call31 _ _
  · rw [if_neg h]
    by_cases h1 : j = 1
    · rw [if_pos h1]; exact Tryd.call33 _ _
    · rw [if_neg h1]; exact Tryd.call35 _ _
set_option maxHeartbeats 1000000 in
theorem look0_q {w0 : World} {H : Heap} {l : List Ins} {s : Bool} {ad : Option Addr} {cap b1 k : Nat} (hl : InsOk l) (hn : l.length ≤ 1000000) (hk : k < l.length) (hrow : Holds w0 H ad (insRow l)) (hcl : Cells w0 H b1 0 [.slice ad l.length cap, .bool s]) (hT : Tab w0) : PureAt Tryd.prog w0 H 31 [.int .i64 (k : Int), .pointer (some ⟨b1, 0, none⟩)] (.int .i64 (lookE l s 0 k)) := by
  obtain ⟨x, hx⟩ : ∃ x, l[k]? = some x := ⟨_, List.getElem?_eq_getElem hk⟩
  obtain ⟨b, o, rfl, hc⟩ := hrow.row cells_len (by decide) hx
  refine L_enter Tryd.func31 rfl Tryd.ntmps31 rfl rfl ?_
  refine W_sr ?_
  refine W_assign rfl rfl ?_
  refine W_nil ?_
  refine W_sr ?_
  refine W_fieldAddr rfl fld27_0 (by decide) rfl ?_
  refine W_load rfl ty24 rfl (hcl 0 _ rfl) rfl ?_
  refine W_move rfl rfl ?_
  refine W_indexAddr (j := k) rfl rfl ty24 ty59 rfl hk rfl rfl ?_
  refine W_loadA rfl ty59 rfl (vs := [.int .i64 x.op, .int .i64 x.dst, .int .i64 x.src, .int .i64 x.off, .int .i64 x.imm]) rfl hc rfl ?_
  refine W_callp (.cons rfl .nil) Tryd.call32 rfl hT (isaChk_pure _) ?_
  refine W_assign rfl rfl ?_
  refine W_nil ?_
  refine W_ret1m (H2 := H) Tryd.results31 rfl (.nil _) (by first | exact hsubI | (repeat (first | exact HSub.refl _ | refine HSub.cons zT ?_ | refine HSub.app (by repeat (first | exact TakeS.here _ | apply TakeS.next | apply TakeS.app)) ?_ | refine HSub.drop ?_ | refine HSub.dropS ?_ | exact HSub.nil _))) ?_
  exact ⟨by rw [look0 hx], rfl⟩
set_option maxHeartbeats 1000000 in
theorem look1_q {w0 : World} {H : Heap} {l : List Ins} {s : Bool} {ad : Option Addr} {cap b1 k : Nat} (hl : InsOk l) (hn : l.length ≤ 1000000) (hk : k < l.length) (hrow : Holds w0 H ad (insRow l)) (hcl : Cells w0 H b1 0 [.slice ad l.length cap, .bool s]) (hT : Tab w0) : PureAt Tryd.prog w0 H 33 [.int .i64 (k : Int), .pointer (some ⟨b1, 0, none⟩)] (.int .i64 (lookE l s 1 k)) := by
  obtain ⟨x, hx⟩ : ∃ x, l[k]? = some x := ⟨_, List.getElem?_eq_getElem hk⟩
  refine L_enter Tryd.func33 rfl Tryd.ntmps33 rfl rfl ?_
  refine W_sr ?_
  refine W_assign rfl rfl ?_
  refine W_nil ?_
  refine W_sr ?_
  refine W_loadA rfl ty27 rfl (vs := [.slice ad l.length cap, .bool s]) rfl hcl rfl ?_
  refine W_move rfl rfl ?_
  refine W_callq (.cons rfl (.cons rfl .nil)) Tryd.call34 rfl (wrong_q rfl hn hk hx (hl x (List.mem_of_getElem? hx)) hrow hT) ?_
  refine W_assign rfl rfl ?_
  refine W_nil ?_
  refine W_ret1m (H2 := H) Tryd.results33 rfl (.nil _) (by first | exact hsubI | (repeat (first | exact HSub.refl _ | refine HSub.cons zT ?_ | refine HSub.app (by repeat (first | exact TakeS.here _ | apply TakeS.next | apply TakeS.app)) ?_ | refine HSub.drop ?_ | refine HSub.dropS ?_ | exact HSub.nil _))) ?_
  exact ⟨by rw [look1 hx], rfl⟩
set_option maxHeartbeats 1000000 in
theorem look2_q {w0 : World} {H : Heap} {l : List Ins} {s : Bool} {b4 k : Nat} (hcm : Cell w0 H b4 0 (.int .u64 ((reachN l : Nat) : Int))) (hT : Tab w0) : PureAt Tryd.prog w0 H 35 [.int .i64 (k : Int), .pointer (some ⟨b4, 0, none⟩)] (.int .i64 (lookE l s 2 k)) := by
  refine L_enter Tryd.func35 rfl Tryd.ntmps35 rfl rfl ?_
  refine W_sr ?_
  refine W_assign rfl rfl ?_
  refine W_nil ?_
  refine W_seq ?_
  refine W_sr ?_
  refine W_load rfl ty87 rfl hcm rfl ?_
  refine W_move rfl rfl ?_
  refine W_callp (.cons rfl (.cons rfl .nil)) Tryd.call36 rfl hT (has_m _ _ (reachN_ok l)) ?_
  refine W_not rfl rfl ?_
  refine W_nil ?_
  refine W_condS rfl (fun c0 => ?_) (fun c0 => ?_)
  · skip
    refine W_sr ?_
    refine W_assign rfl rfl ?_
    refine W_nil ?_
    refine W_ret1m (H2 := H) Tryd.results35 rfl (.nil _) (by first | exact hsubI | (repeat (first | exact HSub.refl _ | refine HSub.cons zT ?_ | refine HSub.app (by repeat (first | exact TakeS.here _ | apply TakeS.next | apply TakeS.app)) ?_ | refine HSub.drop ?_ | refine HSub.dropS ?_ | exact HSub.nil _))) ?_
    exact ⟨by rw [look2, show hasN (reachN l) k = false by simpa using c0]; rfl, rfl⟩
  · skip
    refine W_skip ?_
    refine W_sr ?_
    refine W_assign rfl rfl ?_
    refine W_nil ?_
    refine W_ret1m (H2 := H) Tryd.results35 rfl (.nil _) (by first | exact hsubI | (repeat (first | exact HSub.refl _ | refine HSub.cons zT ?_ | refine HSub.app (by repeat (first | exact TakeS.here _ | apply TakeS.next | apply TakeS.app)) ?_ | refine HSub.drop ?_ | refine HSub.dropS ?_ | exact HSub.nil _))) ?_
    exact ⟨by rw [look2, show hasN (reachN l) k = true by simpa using c0]; rfl, rfl⟩
set_option maxHeartbeats 4000000 in
theorem check_q {w0 : World} {H : Heap} {l : List Ins} {s : Bool} {ad : Option Addr} {cap : Nat} (hl : InsOk l) (hn : l.length ≤ 1000000) (hcap : l.length ≤ cap) (hrow : Holds w0 H ad (insRow l)) (hT : Tab w0) : PureAt Tryd.prog w0 H 10 [.agg #[.slice ad l.length cap, .bool s]] (.tuple #[.int .i64 (chkR l s).1, .int .i64 (chkR l s).2]) := by
  refine L_enter Tryd.func10 rfl Tryd.ntmps10 rfl rfl ?_
  refine W_sr ?_
  refine W_box rfl rfl rfl (fun b1 => ?_)
  refine W_assign rfl rfl ?_
  refine W_assign rfl rfl ?_
  refine W_nil ?_
  refine W_scope (fun _ _ _ h => h) ?_
  refine W_seq ?_
  refine W_sr ?_
  refine W_fieldAddr rfl fld27_0 (by decide) rfl ?_
  refine W_load rfl ty24 rfl (Cell.own zM rfl) rfl ?_
  refine W_len rfl ty24 rfl rfl ?_
  refine W_bin rfl rfl b_eql rfl ?_
  refine W_move rfl rfl ?_
  apply W_or
  iterate 4 exact rfl
  case h1 =>
    intro hg4
    refine W_gyes rfl rfl ?_
    refine W_fieldAddr rfl fld27_0 (by decide) rfl ?_
    refine W_gyes rfl rfl ?_
    refine W_load rfl ty24 rfl (Cell.own zM rfl) rfl ?_
    refine W_gyes rfl rfl ?_
    refine W_len rfl ty24 rfl rfl ?_
    refine W_gyes rfl rfl ?_
    refine W_bin rfl rfl b_gtr rfl ?_
    exact W_met rfl zR
  refine W_nil ?_
  refine W_condPS (p := (l.length : Int) = 0 ∨ 64 < (l.length : Int)) rfl (by simp only [Bool.or_eq_true, decide_eq_true_eq]) (fun c0 => ?_) (fun c0 => ?_)
  · skip
    refine W_sr ?_
    refine W_assign rfl rfl ?_
    refine W_assign rfl rfl ?_
    refine W_nil ?_
    refine W_ret2m (H2 := H) Tryd.results10 rfl rfl (.nil _) (by first | exact hsubI | (repeat (first | exact HSub.refl _ | refine HSub.cons zT ?_ | refine HSub.app (by repeat (first | exact TakeS.here _ | apply TakeS.next | apply TakeS.app)) ?_ | refine HSub.drop ?_ | refine HSub.dropS ?_ | exact HSub.nil _))) ?_
    exact ⟨by rw [chkR_long (by omega)], rfl⟩
  · skip
    refine W_skip ?_
    refine W_sr ?_
    refine W_alloc ty87 rfl rfl (fun b4 => ?_)
    refine W_store rfl rfl ty87 rfl rfl zM rfl rfl zU ?_
    refine W_nil ?_
    refine W_sr ?_
    refine W_makeFunc .nil (.cons rfl .nil) rfl ?_
    refine W_makeFunc .nil (.cons rfl .nil) rfl ?_
    refine W_makeFunc .nil (.cons rfl .nil) rfl ?_
    refine W_buildSlice (l := [.func (.func 31) #[] #[.pointer (some ⟨b1, 0, none⟩)], .func (.func 33) #[] #[.pointer (some ⟨b1, 0, none⟩)], .func (.func 35) #[] #[.pointer (some ⟨b4, 0, none⟩)]]) ty92 ty89 (.cons rfl rfl rfl rfl rfl (.cons rfl rfl rfl rfl rfl (.cons rfl rfl rfl rfl rfl .nil))) rfl rfl rfl rfl rfl rfl rfl (fun b25 => ?_)
    refine W_assign rfl rfl ?_
    refine W_nil ?_
    refine W_sr ?_
    refine W_assign rfl rfl ?_
    refine W_assign rfl rfl ?_
    refine W_nil ?_
    refine W_seq ?_
    refine W_label ?_
    refine W_seq ?_
    refine W_sr ?_
    refine W_move rfl rfl ?_
    refine W_len rfl ty92 rfl rfl ?_
    refine W_move rfl rfl ?_
    refine W_nil ?_
    refine W_block ?_
    refine W_loopD (X := Nat × Nat) (fun | (j, _) => [(1, .pointer (some ⟨b1, 0, none⟩)), (4, .pointer (some ⟨b4, 0, none⟩)), (5, .slice (some ⟨b25, 0, none⟩) 3 3), (6, .int .i64 0), (7, .int .i64 0), (26, .slice (some ⟨b25, 0, none⟩) 3 3), (27, .int .i64 3), (28, .int .i64 (j : Int))]) (fun _ => []) (fun | (_, m) => (b25, .cells 89 3 [.func (.func 31) #[] #[.pointer (some ⟨b1, 0, none⟩)], .func (.func 33) #[] #[.pointer (some ⟨b1, 0, none⟩)], .func (.func 35) #[] #[.pointer (some ⟨b4, 0, none⟩)]]) :: (b4, .cells 87 1 [.int .u64 ((m : Nat) : Int)]) :: (b1, .cells 27 2 [.slice ad l.length cap, .bool s]) :: H) (fun | (j, m) => j ≤ 3 ∧ (j ≤ 2 → m = 0) ∧ ∀ j', j' < j → ∀ i, i < l.length → lookE l s j' i = 0) (fun | (j, _) => 3 - j) (0, 0) ⟨by omega, fun _ => rfl, fun j' hj => absurd hj (by omega)⟩ (sub_cons rfl (sub_cons rfl (sub_cons rfl (sub_cons rfl (sub_cons rfl (sub_cons rfl (sub_cons rfl (sub_cons rfl (sub_nil _))))))))) rfl (by first | exact hsubI | (repeat (first | exact HSub.refl _ | refine HSub.cons zT ?_ | refine HSub.app (by repeat (first | exact TakeS.here _ | apply TakeS.next | apply TakeS.app)) ?_ | refine HSub.drop ?_ | refine HSub.dropS ?_ | exact HSub.nil _))) ?_
    rintro ⟨j, m⟩ ⟨hj, hm, hall⟩
    simp only
    refine W_sr ?_
    refine W_bin rfl rfl b_lss rfl ?_
    refine W_nil ?_
    refine W_seq ?_
    refine W_condPS (p := (j : Int) < 3) rfl (by simp) (fun c1 => ?_) (fun c1 => ?_)
    · skip
      refine W_skip ?_
      refine W_seq ?_
      refine W_block ?_
      refine W_sr ?_
      obtain ⟨fv, hfv, hlook⟩ : ∃ fv, ([.func (.func 31) #[] #[.pointer (some ⟨b1, 0, none⟩)], .func (.func 33) #[] #[.pointer (some ⟨b1, 0, none⟩)], .func (.func 35) #[] #[.pointer (some ⟨b4, 0, none⟩)]] : List Value)[j]? = some fv ∧ True := ⟨_, List.getElem?_eq_getElem (by show j < 3; omega), trivial⟩
      refine W_move rfl rfl ?_
      refine W_indexAddr (j := j) rfl rfl ty92 ty89 rfl (by omega) rfl rfl ?_
      refine W_load rfl ty89 rfl (Cell.own zM (by rw [Nat.zero_add, Nat.mul_one]; exact hfv)) rfl ?_
      refine W_assign rfl rfl ?_
      refine W_assign rfl rfl ?_
      refine W_nil ?_
      refine W_seq ?_
      refine W_sr ?_
      refine W_move rfl rfl ?_
      refine W_move rfl rfl ?_
      refine W_len rfl ty92 rfl rfl ?_
      refine W_bin rfl rfl (b_sub (m := 2) (i64w (by omega))) rfl ?_
      refine W_bin rfl rfl b_eql rfl ?_
      refine W_nil ?_
      refine W_condJ (p := (j : Int) = 2) [(1, .pointer (some ⟨b1, 0, none⟩)), (4, .pointer (some ⟨b4, 0, none⟩)), (5, .slice (some ⟨b25, 0, none⟩) 3 3), (6, .int .i64 0), (7, .int .i64 0), (26, .slice (some ⟨b25, 0, none⟩) 3 3), (27, .int .i64 3), (28, .int .i64 (j : Int)), (8, .int .i64 (j : Int)), (9, fv)] ((b25, .cells 89 3 [.func (.func 31) #[] #[.pointer (some ⟨b1, 0, none⟩)], .func (.func 33) #[] #[.pointer (some ⟨b1, 0, none⟩)], .func (.func 35) #[] #[.pointer (some ⟨b4, 0, none⟩)]]) :: (b4, .cells 87 1 [.int .u64 (((bif decide (j = 2) then reachN l else 0) : Nat) : Int)]) :: (b1, .cells 27 2 [.slice ad l.length cap, .bool s]) :: H) rfl (by simp) (fun c2 => ?_) (fun c2 => ?_) ?_
      · skip
        refine W_region ?_
        refine W_fieldAddr rfl fld27_0 (by decide) rfl ?_
        refine W_load rfl ty24 rfl (Cell.own zM rfl) rfl ?_
        refine W_callq (.cons rfl .nil) Tryd.call37 rfl (reached_q l hl (by omega) hcap (hrow.up (by first | exact hsubI | (repeat (first | exact HSub.refl _ | refine HSub.cons zT ?_ | refine HSub.app (by repeat (first | exact TakeS.here _ | apply TakeS.next | apply TakeS.app)) ?_ | refine HSub.drop ?_ | refine HSub.dropS ?_ | exact HSub.nil _)))) hT) ?_
        refine W_store rfl rfl ty87 rfl rfl zM rfl rfl zU ?_
        refine W_nil ?_
        refine W_joined (sub_cons rfl (sub_cons rfl (sub_cons rfl (sub_cons rfl (sub_cons rfl (sub_cons rfl (sub_cons rfl (sub_cons rfl (sub_cons rfl (sub_cons rfl (sub_nil _))))))))))) (by rw [show decide (j = 2) = true from decide_eq_true (by omega)]; exact .refl _)
      · skip
        refine W_skip ?_
        refine W_joined (sub_cons rfl (sub_cons rfl (sub_cons rfl (sub_cons rfl (sub_cons rfl (sub_cons rfl (sub_cons rfl (sub_cons rfl (sub_cons rfl (sub_cons rfl (sub_nil _))))))))))) (by rw [show decide (j = 2) = false from decide_eq_false (by omega), hm (by omega)]; exact .refl _)
      obtain ⟨m2, hm2e⟩ : ∃ m2, m2 = (bif decide (j = 2) then reachN l else 0) := ⟨_, rfl⟩
      rw [← hm2e]
      have hm2 : j + 1 ≤ 2 → m2 = 0 := fun h => by rw [hm2e, decide_eq_false (by omega)]; rfl
      have hm3 : j = 2 → m2 = reachN l := fun h => by rw [hm2e, decide_eq_true h]; rfl
      refine W_sr ?_
      refine W_fieldAddr rfl fld27_0 (by decide) rfl ?_
      refine W_load rfl ty24 rfl (Cell.own zM rfl) rfl ?_
      refine W_len rfl ty24 rfl rfl ?_
      refine W_move rfl rfl ?_
      refine W_nil ?_
      refine W_block ?_
      refine W_loopD (X := Nat) (fun k => [(1, .pointer (some ⟨b1, 0, none⟩)), (4, .pointer (some ⟨b4, 0, none⟩)), (5, .slice (some ⟨b25, 0, none⟩) 3 3), (6, .int .i64 0), (7, .int .i64 0), (26, .slice (some ⟨b25, 0, none⟩) 3 3), (27, .int .i64 3), (8, .int .i64 (j : Int)), (9, fv), (28, .int .i64 (j : Int)), (43, .int .i64 (l.length : Int)), (44, .int .i64 (k : Int))]) (fun _ => []) (fun _ => (b25, .cells 89 3 [.func (.func 31) #[] #[.pointer (some ⟨b1, 0, none⟩)], .func (.func 33) #[] #[.pointer (some ⟨b1, 0, none⟩)], .func (.func 35) #[] #[.pointer (some ⟨b4, 0, none⟩)]]) :: (b4, .cells 87 1 [.int .u64 ((m2 : Nat) : Int)]) :: (b1, .cells 27 2 [.slice ad l.length cap, .bool s]) :: H) (fun k => k ≤ l.length ∧ ∀ i, i < k → lookE l s j i = 0) (fun k => l.length - k) 0 ⟨by omega, fun i hi => absurd hi (by omega)⟩ (sub_cons rfl (sub_cons rfl (sub_cons rfl (sub_cons rfl (sub_cons rfl (sub_cons rfl (sub_cons rfl (sub_cons rfl (sub_cons rfl (sub_cons rfl (sub_cons rfl (sub_cons rfl (sub_nil _))))))))))))) rfl (by first | exact hsubI | (repeat (first | exact HSub.refl _ | refine HSub.cons zT ?_ | refine HSub.app (by repeat (first | exact TakeS.here _ | apply TakeS.next | apply TakeS.app)) ?_ | refine HSub.drop ?_ | refine HSub.dropS ?_ | exact HSub.nil _))) ?_
      rintro k ⟨hk, hno⟩
      refine W_sr ?_
      refine W_bin rfl rfl b_lss rfl ?_
      refine W_nil ?_
      refine W_seq ?_
      refine W_condPS (p := (k : Int) < (l.length : Int)) rfl (by simp) (fun c3 => ?_) (fun c3 => ?_)
      · skip
        refine W_skip ?_
        refine W_seq ?_
        refine W_block ?_
        refine W_sr ?_
        refine W_move rfl rfl ?_
        refine W_assign rfl rfl ?_
        refine W_nil ?_
        refine W_sr ?_
        refine W_move rfl rfl ?_
        refine W_move rfl rfl ?_
        have hkl : k < l.length := by omega
        have hlk : PureAt Tryd.prog w0 ((b25, .cells 89 3 [.func (.func 31) #[] #[.pointer (some ⟨b1, 0, none⟩)], .func (.func 33) #[] #[.pointer (some ⟨b1, 0, none⟩)], .func (.func 35) #[] #[.pointer (some ⟨b4, 0, none⟩)]]) :: (b4, .cells 87 1 [.int .u64 ((m2 : Nat) : Int)]) :: (b1, .cells 27 2 [.slice ad l.length cap, .bool s]) :: H) (if j = 0 then 31 else if j = 1 then 33 else 35) [.int .i64 (k : Int), .pointer (some ⟨(if j = 2 then b4 else b1), 0, none⟩)] (.int .i64 (lookE l s j k)) ∧ fv = .func (.func (if j = 0 then 31 else if j = 1 then 33 else 35)) #[] #[.pointer (some ⟨(if j = 2 then b4 else b1), 0, none⟩)] := by
          have hcp : Cells w0 ((b25, .cells 89 3 [.func (.func 31) #[] #[.pointer (some ⟨b1, 0, none⟩)], .func (.func 33) #[] #[.pointer (some ⟨b1, 0, none⟩)], .func (.func 35) #[] #[.pointer (some ⟨b4, 0, none⟩)]]) :: (b4, .cells 87 1 [.int .u64 ((m2 : Nat) : Int)]) :: (b1, .cells 27 2 [.slice ad l.length cap, .bool s]) :: H) b1 0 [.slice ad l.length cap, .bool s] := Cells.own (e := 27) (tot := 2) zM rfl
          match j, (show j < 3 by omega) with
          | 0, _ => exact ⟨look0_q hl (by omega) hkl (hrow.up (by first | exact hsubI | (repeat (first | exact HSub.refl _ | refine HSub.cons zT ?_ | refine HSub.app (by repeat (first | exact TakeS.here _ | apply TakeS.next | apply TakeS.app)) ?_ | refine HSub.drop ?_ | refine HSub.dropS ?_ | exact HSub.nil _)))) hcp hT, (Option.some.inj hfv).symm⟩
          | 1, _ => exact ⟨look1_q hl (by omega) hkl (hrow.up (by first | exact hsubI | (repeat (first | exact HSub.refl _ | refine HSub.cons zT ?_ | refine HSub.app (by repeat (first | exact TakeS.here _ | apply TakeS.next | apply TakeS.app)) ?_ | refine HSub.drop ?_ | refine HSub.dropS ?_ | exact HSub.nil _)))) hcp hT, (Option.some.inj hfv).symm⟩
          | 2, _ => exact ⟨look2_q (by rw [← hm3 rfl]; exact Cell.own (e := 87) (tot := 1) zM rfl) hT, (Option.some.inj hfv).symm⟩
        obtain ⟨hlk, rfl⟩ := hlk
        refine W_callqv (fa := []) (ca := [.pointer (some ⟨(if j = 2 then b4 else b1), 0, none⟩)]) rfl (.cons rfl .nil) rfl (call_look j) rfl hlk ?_
        refine W_assign rfl rfl ?_
        refine W_nil ?_
        refine W_sr ?_
        refine W_move rfl rfl ?_
        refine W_bin rfl rfl b_neq rfl ?_
        refine W_nil ?_
        refine W_condPS (p := lookE l s j k ≠ 0) rfl (by simp) (fun c4 => ?_) (fun c4 => ?_)
        · skip
          refine W_sr ?_
          refine W_move rfl rfl ?_
          refine W_move rfl rfl ?_
          refine W_assign rfl rfl ?_
          refine W_assign rfl rfl ?_
          refine W_nil ?_
          refine W_exit rfl ?_
          refine W_sr ?_
          refine W_move rfl rfl ?_
          refine W_move rfl rfl ?_
          refine W_assign rfl rfl ?_
          refine W_assign rfl rfl ?_
          refine W_nil ?_
          refine W_ret2m (H2 := H) Tryd.results10 rfl rfl (.nil _) (by first | exact hsubI | (repeat (first | exact HSub.refl _ | refine HSub.cons zT ?_ | refine HSub.app (by repeat (first | exact TakeS.here _ | apply TakeS.next | apply TakeS.app)) ?_ | refine HSub.drop ?_ | refine HSub.dropS ?_ | exact HSub.nil _))) ?_
          exact ⟨by rw [chkR_found (by omega) (by omega) hall hkl c4 hno], rfl⟩
        · skip
          refine W_skip ?_
          refine W_blk ?_
          refine W_region ?_
          refine W_bin rfl rfl (b_add (m := ((k + 1 : Nat) : Int)) ((i64w (by omega)).trans (by omega))) rfl ?_
          refine W_move rfl rfl ?_
          refine W_nil ?_
          refine W_again (k + 1) ⟨by omega, fun i hi => by rcases Nat.lt_or_ge i k with h | h; exact hno i h; obtain rfl : i = k := (by omega); exact Decidable.not_not.1 c4⟩ (by omega) (sub_cons rfl (sub_cons rfl (sub_cons rfl (sub_cons rfl (sub_cons rfl (sub_cons rfl (sub_cons rfl (sub_cons rfl (sub_cons rfl (sub_cons rfl (sub_cons rfl (sub_cons rfl (sub_nil _))))))))))))) rfl (by first | exact hsubI | (repeat (first | exact HSub.refl _ | refine HSub.cons zT ?_ | refine HSub.app (by repeat (first | exact TakeS.here _ | apply TakeS.next | apply TakeS.app)) ?_ | refine HSub.drop ?_ | refine HSub.dropS ?_ | exact HSub.nil _)))
      · skip
        refine W_exit rfl ?_
        refine W_blk ?_
        refine W_region ?_
        refine W_bin rfl rfl (b_add (m := ((j + 1 : Nat) : Int)) ((i64w (by omega)).trans (by omega))) rfl ?_
        refine W_move rfl rfl ?_
        refine W_nil ?_
        refine W_again (j + 1, m2) ⟨by omega, fun h => hm2 (by omega), fun j' hj' i hi => by rcases Nat.lt_or_ge j' j with h | h; exact hall j' h i hi; obtain rfl : j' = j := (by omega); exact hno i (by omega)⟩ (by dsimp only; omega) (sub_cons rfl (sub_cons rfl (sub_cons rfl (sub_cons rfl (sub_cons rfl (sub_cons rfl (sub_cons rfl (sub_cons rfl (sub_nil _))))))))) rfl (by first | exact hsubI | (repeat (first | exact HSub.refl _ | refine HSub.cons zT ?_ | refine HSub.app (by repeat (first | exact TakeS.here _ | apply TakeS.next | apply TakeS.app)) ?_ | refine HSub.drop ?_ | refine HSub.dropS ?_ | exact HSub.nil _)))
    · skip
      refine W_exit rfl ?_
      refine W_sr ?_
      refine W_move rfl rfl ?_
      refine W_move rfl rfl ?_
      refine W_assign rfl rfl ?_
      refine W_assign rfl rfl ?_
      refine W_nil ?_
      refine W_ret2m (H2 := H) Tryd.results10 rfl rfl (.nil _) (by first | exact hsubI | (repeat (first | exact HSub.refl _ | refine HSub.cons zT ?_ | refine HSub.app (by repeat (first | exact TakeS.here _ | apply TakeS.next | apply TakeS.app)) ?_ | refine HSub.drop ?_ | refine HSub.dropS ?_ | exact HSub.nil _))) ?_
      obtain rfl : j = 3 := by omega
      exact ⟨by rw [chkR_right (by omega) hall], rfl⟩
end Go.Proofs.YtcmfldfeakmdoaaDoor
namespace Go.Proofs.YtcmfldfeakmdoaaDoor
open Go Go.Sl
attribute [local irreducible] W
def oneX (r : Vs) (x : Ins) : Vs :=
  if r.fuel = 0 then endF r 16
  else if x.op = 73 then { endF { r with fuel := r.fuel - 1 } 0 with res := (rdV r.V false 0).1.n }
  else if x.op = 72 then askF { r with fuel := r.fuel - 1 } { argsT r.V with kind := 2, helper := x.imm }
  else if x.op = 66 ∨ x.op = 67 then valueF { r with fuel := r.fuel - 1 } x
  else if cls x.op = 2 then jumpF { r with fuel := r.fuel - 1 } x
  else nextF { r with V := (doV r.V x).1, fuel := r.fuel - 1 } (doV r.V x).2
theorem valueF_V (r : Vs) (x : Ins) : (valueF r x).V = r.V := by
  unfold valueF askF endF; repeat' split
  all_goals rfl
theorem nextF_V (r : Vs) (e : Int) : (nextF r e).V = r.V := by
  unfold nextF endF; repeat' split
  all_goals rfl
set_option maxHeartbeats 4000000 in
theorem rone_L {w0 : World} {H : Heap} {br bf n cap : Nat} {ad : Option Addr} {r : Vs} {l : List Ins} {k : Nat} {x : Ins} (hn : n = l.length) (hV : r.V.length = 18) (hk : r.at_ = (k : Int)) (hx : l[k]? = some x) (hkb : k ≤ 100000) (hop : -9223372036854775808 ≤ x.op ∧ x.op ≤ 9223372036854775807) (hW : ∀ v ∈ r.V, 0 ≤ v.n) (hf : 0 ≤ r.fuel ∧ r.fuel ≤ 1000) (hto : cls x.op = 2 → -1 ≤ r.at_ + x.off ∧ r.at_ + x.off ≤ 1000000) (hrow : Holds w0 H ad (insRow l)) (hT : Tab w0) : LCalls Tryd.prog w0 38 #[.pointer (some ⟨br, 0, none⟩)] ((br, .cells 86 42 (runC bf ad n cap r)) :: (bf, .cells 101 90 (vaRow (r).V)) :: H) (fun _ H' => H' = (br, .cells 86 42 (runC bf ad n cap (oneX r x))) :: (bf, .cells 101 90 (vaRow (oneX r x).V)) :: H) := by
  have hlt : k < l.length := (List.getElem?_eq_some_iff.1 hx).1
  obtain ⟨b, o, hAd, hc⟩ := hrow.row cells_len (by decide) hx
  refine L_enter (l := [.pointer (some ⟨br, 0, none⟩)]) Tryd.func38 rfl Tryd.ntmps38 rfl rfl ?_
  refine W_seq ?_
  refine W_sr ?_
  refine W_move rfl rfl ?_
  refine W_nilCheck rfl rfl ?_
  refine W_fieldAddr rfl fld86_3 (by decide) rfl ?_
  refine W_load (v := .int .i64 r.fuel) rfl ty3 rfl (Cell.own (b := br) zM rfl) rfl ?_
  refine W_bin rfl rfl b_eql rfl ?_
  refine W_nil ?_
  refine W_condPS (p := r.fuel = 0) rfl (by simp) (fun c0 => ?_) (fun c0 => ?_)
  · skip
    refine W_sr ?_
    refine W_move rfl rfl ?_
    refine W_call (.cons rfl (.cons rfl .nil)) Tryd.call41 rfl ((rend_L (H := (bf, .cells 101 90 (vaRow r.V)) :: H) (r := r) (e := 16)).hsub zH) ?_
    rintro v H' rfl
    refine W_nil ?_
    refine W_ret0m (H2 := (br, .cells 86 42 (runC bf ad n cap (endF r 16))) :: (bf, .cells 101 90 (vaRow r.V)) :: H) Tryd.results38 (.nil _) zH ?_
    unfold oneX
    rw [if_pos c0]
    all_goals rfl
  · skip
    refine W_skip ?_
    refine W_sr ?_
    refine W_move rfl rfl ?_
    refine W_nilCheck rfl rfl ?_
    refine W_fieldAddr rfl fld86_3 (by decide) rfl ?_
    refine W_load (v := .int .i64 r.fuel) rfl ty3 rfl (Cell.own (b := br) zM rfl) rfl ?_
    refine W_bin rfl rfl (b_sub (m := r.fuel - 1) (by rw [i64w (by omega)])) rfl ?_
    refine W_nilCheck rfl rfl ?_
    refine W_fieldAddr rfl fld86_3 (by decide) rfl ?_
    refine W_store (l' := runC bf ad n cap { r with fuel := r.fuel - 1 }) rfl rfl ty3 rfl rfl (b := br) zM rfl rfl zU ?_
    refine W_nil ?_
    refine W_seq ?_
    refine W_anyC ((br, .cells 86 42 (runC bf ad n cap { r with fuel := r.fuel - 1 })) :: (bf, .cells 101 90 (vaRow r.V)) :: H) (by kernel_rfl) ?_
    refine WC_take 0 (l' := #[true, false, false, false, false, false, false, false, false, false, false, false]) rfl (by decide +kernel) (by decide +kernel) (by decide +kernel) rfl (by decide +kernel) (X_move rfl) rfl ?_
    refine WC_take 1 (l' := #[true, true, false, false, false, false, false, false, false, false, false, false]) rfl (by decide +kernel) (by decide +kernel) (by decide +kernel) rfl (by decide +kernel) (X_nilCheck rfl) rfl ?_
    refine WC_take 2 (l' := #[true, true, true, false, false, false, false, false, false, false, false, false]) rfl (by decide +kernel) (by decide +kernel) (by decide +kernel) rfl (by decide +kernel) (X_fieldAddr rfl fld86_1 (by decide)) rfl ?_
    refine WC_take 3 (l' := #[true, true, true, true, false, false, false, false, false, false, false, false]) rfl (by decide +kernel) (by decide +kernel) (by decide +kernel) rfl (by decide +kernel) (X_load (v := .slice (some ⟨b, o, none⟩) n cap) rfl ty24 rfl (Cell.own (b := br) zM (by rw [← hAd]; rfl))) rfl ?_
    refine WC_take 4 (l' := #[true, true, true, true, true, false, false, false, false, false, false, false]) rfl (by decide +kernel) (by decide +kernel) (by decide +kernel) rfl (by decide +kernel) (X_move rfl) rfl ?_
    refine WC_take 5 (l' := #[true, true, true, true, true, true, false, false, false, false, false, false]) rfl (by decide +kernel) (by decide +kernel) (by decide +kernel) rfl (by decide +kernel) (X_nilCheck rfl) rfl ?_
    refine WC_take 6 (l' := #[true, true, true, true, true, true, true, false, false, false, false, false]) rfl (by decide +kernel) (by decide +kernel) (by decide +kernel) rfl (by decide +kernel) (X_fieldAddr rfl fld86_2 (by decide)) rfl ?_
    refine WC_take 7 (l' := #[true, true, true, true, true, true, true, true, false, false, false, false]) rfl (by decide +kernel) (by decide +kernel) (by decide +kernel) rfl (by decide +kernel) (X_load (v := .int .i64 (k : Int)) rfl ty3 rfl (Cell.own (b := br) zM (by rw [← hk]; rfl))) rfl ?_
    refine WC_take 8 (l' := #[true, true, true, true, true, true, true, true, true, false, false, false]) rfl (by decide +kernel) (by decide +kernel) (by decide +kernel) rfl (by decide +kernel) (X_indexAddr (j := k) rfl rfl ty24 ty59 rfl (by omega) rfl) rfl ?_
    refine WC_take 9 (l' := #[true, true, true, true, true, true, true, true, true, true, false, false]) rfl (by decide +kernel) (by decide +kernel) (by decide +kernel) rfl (by decide +kernel) (X_loadA rfl ty59 rfl (vs := [.int .i64 x.op, .int .i64 x.dst, .int .i64 x.src, .int .i64 x.off, .int .i64 x.imm]) rfl (hc.up zH)) rfl ?_
    refine WC_one 10 (l' := #[true, true, true, true, true, true, true, true, true, true, true, false]) zH (by decide +kernel) rfl (by decide +kernel) ?_
    refine W_alloc (l := [.int .i64 0, .int .i64 0, .int .i64 0, .int .i64 0, .int .i64 0]) ty59 rfl rfl (fun b2 => ?_)
    refine W_nil ?_
    refine WC_goal ?_
    refine WC_one 11 (l' := #[true, true, true, true, true, true, true, true, true, true, true, true]) zH (by decide +kernel) rfl (by decide +kernel) ?_
    refine W_storeA (l' := [.int .i64 x.op, .int .i64 x.dst, .int .i64 x.src, .int .i64 x.off, .int .i64 x.imm]) rfl rfl ty59 rfl rfl (b := b2) zM (Nat.le_of_ble_eq_true rfl) rfl zU ?_
    refine W_nil ?_
    refine WC_goal ?_
    refine WC_done zH (by decide +kernel) ?_
    refine W_block ?_
    refine W_sr ?_
    refine W_fieldAddr rfl fld59_0 (by decide) rfl ?_
    refine W_load rfl ty3 rfl (Cell.own zM rfl) rfl ?_
    refine W_bin rfl rfl b_eql rfl ?_
    refine W_assign rfl rfl ?_
    refine W_nil ?_
    refine W_condPS (p := x.op = 73) rfl (by simp) (fun c1 => ?_) (fun c1 => ?_)
    · skip
      refine W_sr ?_
      refine W_move rfl rfl ?_
      refine W_call (.cons rfl (.cons rfl .nil)) Tryd.call27 rfl ((RReg_L (H := (b2, .cells 59 5 [.int .i64 x.op, .int .i64 x.dst, .int .i64 x.src, .int .i64 x.off, .int .i64 x.imm]) :: H) (r := { r with fuel := r.fuel - 1 }) (at_ := 0) hV).hsub zH) ?_
      rintro v H' ⟨rfl, rfl⟩
      refine W_move rfl rfl ?_
      refine W_extract rfl rfl rfl ?_
      refine W_extract rfl rfl rfl ?_
      refine W_alloc (l := vaC zeroV) ty41 rfl rfl (fun b3 => ?_)
      refine W_storeA rfl rfl ty41 rfl rfl (b := b3) zM (by decide) rfl zU ?_
      refine W_assign rfl rfl ?_
      refine W_nil ?_
      refine W_sr ?_
      refine W_move rfl rfl ?_
      refine W_call (.cons rfl (.cons rfl .nil)) Tryd.call41 rfl ((rend_L (H := (b3, .cells 41 5 (vaC (rdV r.V false 0).1)) :: (b2, .cells 59 5 [.int .i64 x.op, .int .i64 x.dst, .int .i64 x.src, .int .i64 x.off, .int .i64 x.imm]) :: (bf, .cells 101 90 (vaRow r.V)) :: H) (r := { r with fuel := r.fuel - 1 }) (e := 0)).hsub zH) ?_
      rintro v H' rfl
      refine W_nil ?_
      refine W_region ?_
      refine W_move rfl rfl ?_
      refine W_fieldAddr rfl fld41_3 (by decide) rfl ?_
      refine W_load rfl ty28 rfl (Cell.own zM rfl) rfl ?_
      refine W_nilCheck rfl rfl ?_
      refine W_fieldAddr rfl fld86_8 (by decide) rfl ?_
      refine W_store (l' := runC bf ad n cap { endF { r with fuel := r.fuel - 1 } 0 with res := (rdV r.V false 0).1.n }) rfl rfl ty28 rfl rfl (b := br) zM rfl rfl zU ?_
      refine W_nil ?_
      refine W_blk ?_
      refine W_end0m (H2 := (br, .cells 86 42 (runC bf ad n cap { endF { r with fuel := r.fuel - 1 } 0 with res := (rdV r.V false 0).1.n })) :: (bf, .cells 101 90 (vaRow r.V)) :: H) Tryd.results38 (.nil _) zH ?_
      unfold oneX
      rw [if_neg c0, if_pos c1]
      all_goals rfl
    · skip
      refine W_sr ?_
      refine W_fieldAddr rfl fld59_0 (by decide) rfl ?_
      refine W_load rfl ty3 rfl (Cell.own zM rfl) rfl ?_
      refine W_bin rfl rfl b_eql rfl ?_
      refine W_assign rfl rfl ?_
      refine W_nil ?_
      refine W_condPS (p := x.op = 72) rfl (by simp) (fun c2 => ?_) (fun c2 => ?_)
      · skip
        refine W_cut [(0, .pointer (some ⟨br, 0, none⟩))] ((br, .cells 86 42 (runC bf ad n cap (askF { r with fuel := r.fuel - 1 } { argsT r.V with kind := 2, helper := x.imm }))) :: (bf, .cells 101 90 (vaRow r.V)) :: H) ?_ ?_
        · skip
          refine W_any (by kernel_rfl) ?_
          refine WA_take 0 (l' := #[true, false, false, false, false, false, false, false, false, false]) rfl (by decide +kernel) (by decide +kernel) (by decide +kernel) (fun _ h => by cases h) (fun _ h => by cases h) (by decide +kernel) (X_move rfl) rfl ?_
          refine WA_take 1 (l' := #[true, true, false, false, false, false, false, false, false, false]) rfl (by decide +kernel) (by decide +kernel) (by decide +kernel) (fun _ h => by cases h) (fun _ h => by cases h) (by decide +kernel) (X_fieldAddr rfl fld59_4 (by decide)) rfl ?_
          refine WA_take 3 (l' := #[true, true, false, true, false, false, false, false, false, false]) rfl (by decide +kernel) (by decide +kernel) (by decide +kernel) (fun _ h => by cases h) (fun _ h => by cases h) (by decide +kernel) (X_move rfl) rfl ?_
          refine WA_take 4 (l' := #[true, true, false, true, true, false, false, false, false, false]) rfl (by decide +kernel) (by decide +kernel) (by decide +kernel) (fun _ h => by cases h) (fun _ h => by cases h) (by decide +kernel) (X_nilCheck rfl) rfl ?_
          refine WA_take 5 (l' := #[true, true, false, true, true, true, false, false, false, false]) rfl (by decide +kernel) (by decide +kernel) (by decide +kernel) (fun _ h => by cases h) (fun _ h => by cases h) (by decide +kernel) (X_fieldAddr rfl fld86_0 (by decide)) rfl ?_
          refine WA_two 2 6 (l' := #[true, true, true, true, true, true, false, false, false, false]) (l'' := #[true, true, false, true, true, true, true, false, false, false]) (by decide +kernel) rfl rfl (by decide +kernel) (by decide +kernel) ?_ ?_
          · skip
            refine W_load rfl ty3 rfl (Cell.own zM rfl) rfl ?_
            refine W_nil ?_
            refine WA_goal ?_
            refine WA_one 6 (l' := #[true, true, true, true, true, true, true, false, false, false]) (by decide +kernel) rfl (by decide +kernel) (fun _ h => by cases h) ?_
            refine W_load (v := .pointer (some ⟨bf, 0, none⟩)) rfl ty81 rfl (Cell.own (b := br) zM rfl) rfl ?_
            refine W_nil ?_
            refine WA_goal ?_
            refine WA_one 7 (l' := #[true, true, true, true, true, true, true, true, false, false]) (by decide +kernel) rfl (by decide +kernel) (fun _ h => by cases h) ?_
            refine W_call (.cons rfl .nil) Tryd.call59 rfl ((args_L (H := (b2, .cells 59 5 [.int .i64 x.op, .int .i64 x.dst, .int .i64 x.src, .int .i64 x.off, .int .i64 x.imm]) :: (br, .cells 86 42 (runC bf ad n cap { r with fuel := r.fuel - 1 })) :: H) (V := r.V) hV).hsub zH) ?_
            rintro v H' ⟨rfl, rfl⟩
            refine W_nil ?_
            refine WA_goal ?_
            refine WA_take 8 (l' := #[true, true, true, true, true, true, true, true, true, false]) rfl (by decide +kernel) (by decide +kernel) (by decide +kernel) (fun _ h => by cases h) (fun _ h => by cases h) (by decide +kernel) (X_build (l := trC { argsT r.V with kind := 2, helper := x.imm }) ty44 pl44 (.cons rfl rfl rfl rfl rfl (.cons rfl rfl rfl rfl rfl (.cons rfl rfl rfl rfl rfl .nil))) rfl rfl) rfl ?_
            refine WA_one 9 (l' := #[true, true, true, true, true, true, true, true, true, true]) (by decide +kernel) rfl (by decide +kernel) (fun _ h => by cases h) ?_
            refine W_call (.cons rfl (.cons rfl .nil)) Tryd.call58 rfl ((rask_L (H := (b2, .cells 59 5 [.int .i64 x.op, .int .i64 x.dst, .int .i64 x.src, .int .i64 x.off, .int .i64 x.imm]) :: (bf, .cells 101 90 (vaRow r.V)) :: H) (r := { r with fuel := r.fuel - 1 }) (t := { argsT r.V with kind := 2, helper := x.imm })).hsub zH) ?_
            rintro v H' rfl
            refine W_nil ?_
            refine WA_goal ?_
            refine WA_done (by decide +kernel) ?_
            refine W_joined (sub_cons rfl (sub_nil _)) zH
          · skip
            refine W_load (v := .pointer (some ⟨bf, 0, none⟩)) rfl ty81 rfl (Cell.own (b := br) zM rfl) rfl ?_
            refine W_nil ?_
            refine WA_goal ?_
            refine WA_two 2 7 (l' := #[true, true, true, true, true, true, true, false, false, false]) (l'' := #[true, true, false, true, true, true, true, true, false, false]) (by decide +kernel) rfl rfl (by decide +kernel) (by decide +kernel) ?_ ?_
            · skip
              refine W_load rfl ty3 rfl (Cell.own zM rfl) rfl ?_
              refine W_nil ?_
              refine WA_goal ?_
              refine WA_one 7 (l' := #[true, true, true, true, true, true, true, true, false, false]) (by decide +kernel) rfl (by decide +kernel) (fun _ h => by cases h) ?_
              refine W_call (.cons rfl .nil) Tryd.call59 rfl ((args_L (H := (b2, .cells 59 5 [.int .i64 x.op, .int .i64 x.dst, .int .i64 x.src, .int .i64 x.off, .int .i64 x.imm]) :: (br, .cells 86 42 (runC bf ad n cap { r with fuel := r.fuel - 1 })) :: H) (V := r.V) hV).hsub zH) ?_
              rintro v H' ⟨rfl, rfl⟩
              refine W_nil ?_
              refine WA_goal ?_
              refine WA_take 8 (l' := #[true, true, true, true, true, true, true, true, true, false]) rfl (by decide +kernel) (by decide +kernel) (by decide +kernel) (fun _ h => by cases h) (fun _ h => by cases h) (by decide +kernel) (X_build (l := trC { argsT r.V with kind := 2, helper := x.imm }) ty44 pl44 (.cons rfl rfl rfl rfl rfl (.cons rfl rfl rfl rfl rfl (.cons rfl rfl rfl rfl rfl .nil))) rfl rfl) rfl ?_
              refine WA_one 9 (l' := #[true, true, true, true, true, true, true, true, true, true]) (by decide +kernel) rfl (by decide +kernel) (fun _ h => by cases h) ?_
              refine W_call (.cons rfl (.cons rfl .nil)) Tryd.call58 rfl ((rask_L (H := (b2, .cells 59 5 [.int .i64 x.op, .int .i64 x.dst, .int .i64 x.src, .int .i64 x.off, .int .i64 x.imm]) :: (bf, .cells 101 90 (vaRow r.V)) :: H) (r := { r with fuel := r.fuel - 1 }) (t := { argsT r.V with kind := 2, helper := x.imm })).hsub zH) ?_
              rintro v H' rfl
              refine W_nil ?_
              refine WA_goal ?_
              refine WA_done (by decide +kernel) ?_
              refine W_joined (sub_cons rfl (sub_nil _)) zH
            · skip
              refine W_call (.cons rfl .nil) Tryd.call59 rfl ((args_L (H := (b2, .cells 59 5 [.int .i64 x.op, .int .i64 x.dst, .int .i64 x.src, .int .i64 x.off, .int .i64 x.imm]) :: (br, .cells 86 42 (runC bf ad n cap { r with fuel := r.fuel - 1 })) :: H) (V := r.V) hV).hsub zH) ?_
              rintro v H' ⟨rfl, rfl⟩
              refine W_nil ?_
              refine WA_goal ?_
              refine WA_one 2 (l' := #[true, true, true, true, true, true, true, true, false, false]) (by decide +kernel) rfl (by decide +kernel) (fun _ h => by cases h) ?_
              refine W_load rfl ty3 rfl (Cell.own zM rfl) rfl ?_
              refine W_nil ?_
              refine WA_goal ?_
              refine WA_take 8 (l' := #[true, true, true, true, true, true, true, true, true, false]) rfl (by decide +kernel) (by decide +kernel) (by decide +kernel) (fun _ h => by cases h) (fun _ h => by cases h) (by decide +kernel) (X_build (l := trC { argsT r.V with kind := 2, helper := x.imm }) ty44 pl44 (.cons rfl rfl rfl rfl rfl (.cons rfl rfl rfl rfl rfl (.cons rfl rfl rfl rfl rfl .nil))) rfl rfl) rfl ?_
              refine WA_one 9 (l' := #[true, true, true, true, true, true, true, true, true, true]) (by decide +kernel) rfl (by decide +kernel) (fun _ h => by cases h) ?_
              refine W_call (.cons rfl (.cons rfl .nil)) Tryd.call58 rfl ((rask_L (H := (b2, .cells 59 5 [.int .i64 x.op, .int .i64 x.dst, .int .i64 x.src, .int .i64 x.off, .int .i64 x.imm]) :: (bf, .cells 101 90 (vaRow r.V)) :: H) (r := { r with fuel := r.fuel - 1 }) (t := { argsT r.V with kind := 2, helper := x.imm })).hsub zH) ?_
              rintro v H' rfl
              refine W_nil ?_
              refine WA_goal ?_
              refine WA_done (by decide +kernel) ?_
              refine W_joined (sub_cons rfl (sub_nil _)) zH
        refine W_blk ?_
        refine W_end0m (H2 := (br, .cells 86 42 (runC bf ad n cap (askF { r with fuel := r.fuel - 1 } { argsT r.V with kind := 2, helper := x.imm }))) :: (bf, .cells 101 90 (vaRow r.V)) :: H) Tryd.results38 (.nil _) zH ?_
        unfold oneX
        rw [if_neg c0, if_neg c1, if_pos c2]
        all_goals rfl
      · skip
        refine W_sr ?_
        refine W_fieldAddr rfl fld59_0 (by decide) rfl ?_
        refine W_load rfl ty3 rfl (Cell.own zM rfl) rfl ?_
        refine W_bin rfl rfl b_eql rfl ?_
        refine W_move rfl rfl ?_
        apply W_or
        iterate 4 exact rfl
        case h1 =>
          intro hg3
          refine W_gyes rfl rfl ?_
          refine W_fieldAddr rfl fld59_0 (by decide) rfl ?_
          refine W_gyes rfl rfl ?_
          refine W_load rfl ty3 rfl (Cell.own zM rfl) rfl ?_
          refine W_gyes rfl rfl ?_
          refine W_bin rfl rfl b_eql rfl ?_
          exact W_met rfl zR
        refine W_assign rfl rfl ?_
        refine W_nil ?_
        refine W_condPS (p := x.op = 66 ∨ x.op = 67) rfl (by simp) (fun c3 => ?_) (fun c3 => ?_)
        · skip
          refine W_region ?_
          refine W_move rfl rfl ?_
          refine W_loadB (vs := [.int .i64 x.op, .int .i64 x.dst, .int .i64 x.src, .int .i64 x.off, .int .i64 x.imm]) rfl ty59 rfl (b := b2) zM rfl rfl rfl ?_
          refine W_call (.cons rfl (.cons rfl .nil)) Tryd.call60 rfl ((rvalue_L (H := (b2, .cells 59 5 [.int .i64 x.op, .int .i64 x.dst, .int .i64 x.src, .int .i64 x.off, .int .i64 x.imm]) :: H) (r := { r with fuel := r.fuel - 1 }) (x := x) hV).hsub zH) ?_
          rintro v H' rfl
          refine W_nil ?_
          refine W_blk ?_
          refine W_end0m (H2 := (br, .cells 86 42 (runC bf ad n cap (valueF { r with fuel := r.fuel - 1 } x))) :: (bf, .cells 101 90 (vaRow r.V)) :: H) Tryd.results38 (.nil _) zH ?_
          unfold oneX
          rw [if_neg c0, if_neg c1, if_neg c2, if_pos c3]
          rw [valueF_V]
          all_goals rfl
        · skip
          refine W_sr ?_
          refine W_fieldAddr rfl fld59_0 (by decide) rfl ?_
          refine W_load rfl ty3 rfl (Cell.own zM rfl) rfl ?_
          refine W_callp (.cons rfl .nil) Tryd.call49 rfl hT (class_pure _) ?_
          refine W_bin rfl rfl b_eql rfl ?_
          refine W_assign rfl rfl ?_
          refine W_nil ?_
          refine W_condPS (p := cls x.op = 2) rfl (by simp) (fun c4 => ?_) (fun c4 => ?_)
          · skip
            refine W_region ?_
            refine W_move rfl rfl ?_
            refine W_loadB (vs := [.int .i64 x.op, .int .i64 x.dst, .int .i64 x.src, .int .i64 x.off, .int .i64 x.imm]) rfl ty59 rfl (b := b2) zM rfl rfl rfl ?_
            refine W_call (.cons rfl (.cons rfl .nil)) Tryd.call61 rfl ((rjump_L (H := (b2, .cells 59 5 [.int .i64 x.op, .int .i64 x.dst, .int .i64 x.src, .int .i64 x.off, .int .i64 x.imm]) :: H) (r := { r with fuel := r.fuel - 1 }) (x := x) hV hop hW (by dsimp only; omega) (hto c4) hT).hsub zH) ?_
            rintro v H' rfl
            refine W_nil ?_
            refine W_blk ?_
            refine W_end0m (H2 := (br, .cells 86 42 (runC bf ad n cap (jumpF { r with fuel := r.fuel - 1 } x))) :: (bf, .cells 101 90 (vaRow r.V)) :: H) Tryd.results38 (.nil _) zH ?_
            unfold oneX
            rw [if_neg c0, if_neg c1, if_neg c2, if_neg c3, if_pos c4]
            rw [jumpF_V]
            all_goals rfl
          · skip
            refine W_cut [(0, .pointer (some ⟨br, 0, none⟩))] ((br, .cells 86 42 (runC bf ad n cap (nextF { r with V := (doV r.V x).1, fuel := r.fuel - 1 } (doV r.V x).2))) :: (bf, .cells 101 90 (vaRow (doV r.V x).1)) :: H) ?_ ?_
            · skip
              refine W_any (by kernel_rfl) ?_
              refine WA_take 0 (l' := #[true, false, false, false, false, false, false, false]) rfl (by decide +kernel) (by decide +kernel) (by decide +kernel) (fun _ h => by cases h) (fun _ h => by cases h) (by decide +kernel) (X_move rfl) rfl ?_
              refine WA_take 1 (l' := #[true, true, false, false, false, false, false, false]) rfl (by decide +kernel) (by decide +kernel) (by decide +kernel) (fun _ h => by cases h) (fun _ h => by cases h) (by decide +kernel) (X_move rfl) rfl ?_
              refine WA_take 2 (l' := #[true, true, true, false, false, false, false, false]) rfl (by decide +kernel) (by decide +kernel) (by decide +kernel) (fun _ h => by cases h) (fun _ h => by cases h) (by decide +kernel) (X_nilCheck rfl) rfl ?_
              refine WA_take 3 (l' := #[true, true, true, true, false, false, false, false]) rfl (by decide +kernel) (by decide +kernel) (by decide +kernel) (fun _ h => by cases h) (fun _ h => by cases h) (by decide +kernel) (X_fieldAddr rfl fld86_0 (by decide)) rfl ?_
              refine WA_two 4 5 (l' := #[true, true, true, true, true, false, false, false]) (l'' := #[true, true, true, true, false, true, false, false]) (by decide +kernel) rfl rfl (by decide +kernel) (by decide +kernel) ?_ ?_
              · skip
                refine W_load (v := .pointer (some ⟨bf, 0, none⟩)) rfl ty81 rfl (Cell.own (b := br) zM rfl) rfl ?_
                refine W_nil ?_
                refine WA_goal ?_
                refine WA_one 5 (l' := #[true, true, true, true, true, true, false, false]) (by decide +kernel) rfl (by decide +kernel) (fun _ h => by cases h) ?_
                refine W_loadB (vs := [.int .i64 x.op, .int .i64 x.dst, .int .i64 x.src, .int .i64 x.off, .int .i64 x.imm]) rfl ty59 rfl (b := b2) zM rfl rfl rfl ?_
                refine W_nil ?_
                refine WA_goal ?_
                refine WA_one 6 (l' := #[true, true, true, true, true, true, true, false]) (by decide +kernel) rfl (by decide +kernel) (fun _ h => by cases h) ?_
                refine W_call (.cons rfl (.cons rfl .nil)) Tryd.call62 rfl ((Do_L (H := (b2, .cells 59 5 [.int .i64 x.op, .int .i64 x.dst, .int .i64 x.src, .int .i64 x.off, .int .i64 x.imm]) :: (br, .cells 86 42 (runC bf ad n cap { r with fuel := r.fuel - 1 })) :: H) (V := r.V) (x := x) hV hop hW hT).hsub zH) ?_
                rintro v H' ⟨rfl, rfl⟩
                refine W_nil ?_
                refine WA_goal ?_
                refine WA_one 7 (l' := #[true, true, true, true, true, true, true, true]) (by decide +kernel) rfl (by decide +kernel) (fun _ h => by cases h) ?_
                refine W_call (.cons rfl (.cons rfl .nil)) Tryd.call40 rfl ((rnext_L (H := (b2, .cells 59 5 [.int .i64 x.op, .int .i64 x.dst, .int .i64 x.src, .int .i64 x.off, .int .i64 x.imm]) :: (bf, .cells 101 90 (vaRow (doV r.V x).1)) :: H) (r := { r with V := (doV r.V x).1, fuel := r.fuel - 1 }) (e := (doV r.V x).2) (by dsimp only; omega)).hsub zH) ?_
                rintro v H' rfl
                refine W_nil ?_
                refine WA_goal ?_
                refine WA_done (by decide +kernel) ?_
                refine W_joined (sub_cons rfl (sub_nil _)) zH
              · skip
                refine W_loadB (vs := [.int .i64 x.op, .int .i64 x.dst, .int .i64 x.src, .int .i64 x.off, .int .i64 x.imm]) rfl ty59 rfl (b := b2) zM rfl rfl rfl ?_
                refine W_nil ?_
                refine WA_goal ?_
                refine WA_one 4 (l' := #[true, true, true, true, true, true, false, false]) (by decide +kernel) rfl (by decide +kernel) (fun _ h => by cases h) ?_
                refine W_load (v := .pointer (some ⟨bf, 0, none⟩)) rfl ty81 rfl (Cell.own (b := br) zM rfl) rfl ?_
                refine W_nil ?_
                refine WA_goal ?_
                refine WA_one 6 (l' := #[true, true, true, true, true, true, true, false]) (by decide +kernel) rfl (by decide +kernel) (fun _ h => by cases h) ?_
                refine W_call (.cons rfl (.cons rfl .nil)) Tryd.call62 rfl ((Do_L (H := (b2, .cells 59 5 [.int .i64 x.op, .int .i64 x.dst, .int .i64 x.src, .int .i64 x.off, .int .i64 x.imm]) :: (br, .cells 86 42 (runC bf ad n cap { r with fuel := r.fuel - 1 })) :: H) (V := r.V) (x := x) hV hop hW hT).hsub zH) ?_
                rintro v H' ⟨rfl, rfl⟩
                refine W_nil ?_
                refine WA_goal ?_
                refine WA_one 7 (l' := #[true, true, true, true, true, true, true, true]) (by decide +kernel) rfl (by decide +kernel) (fun _ h => by cases h) ?_
                refine W_call (.cons rfl (.cons rfl .nil)) Tryd.call40 rfl ((rnext_L (H := (b2, .cells 59 5 [.int .i64 x.op, .int .i64 x.dst, .int .i64 x.src, .int .i64 x.off, .int .i64 x.imm]) :: (bf, .cells 101 90 (vaRow (doV r.V x).1)) :: H) (r := { r with V := (doV r.V x).1, fuel := r.fuel - 1 }) (e := (doV r.V x).2) (by dsimp only; omega)).hsub zH) ?_
                rintro v H' rfl
                refine W_nil ?_
                refine WA_goal ?_
                refine WA_done (by decide +kernel) ?_
                refine W_joined (sub_cons rfl (sub_nil _)) zH
            refine W_blk ?_
            refine W_end0m (H2 := (br, .cells 86 42 (runC bf ad n cap (nextF { r with V := (doV r.V x).1, fuel := r.fuel - 1 } (doV r.V x).2))) :: (bf, .cells 101 90 (vaRow (doV r.V x).1)) :: H) Tryd.results38 (.nil _) zH ?_
            unfold oneX
            rw [if_neg c0, if_neg c1, if_neg c2, if_neg c3, if_neg c4]
            rw [nextF_V]
            all_goals rfl
end Go.Proofs.YtcmfldfeakmdoaaDoor
namespace Go.Proofs.YtcmfldfeakmdoaaDoor
open Go Go.Sl
attribute [local irreducible] W
structure CodeOk (l : List Ins) : Prop where
  len : l.length ≤ 64
  pos : 0 < l.length
  chk : ∀ {i : Nat} {x : Ins}, l[i]? = some x → isaChk x = 0
  within : ∀ {i : Nat} {x : Ins}, l[i]? = some x → withinB x l.length i = true
  last : ∀ {i : Nat} {x : Ins}, l[i]? = some x → i + 1 = l.length → x.op = 73 ∨ x.op = 32
theorem first_zero {f : Nat → Int} {n : Nat} (h : firstE f n = none) : ∀ i, i < n → f i = 0 := by
  unfold firstE at h
  rw [List.find?_eq_none] at h
  intro i hi
  simpa using h i (List.mem_range.2 hi)
theorem first_nz {f : Nat → Int} {n k : Nat} (h : firstE f n = some k) : f k ≠ 0 := by
  unfold firstE at h
  simpa using List.find?_some h
theorem chk_code {l : List Ins} {s : Bool} (h : (chkR l s).2 = 0) : CodeOk l := by
  unfold chkR at h
  by_cases hb : l.length = 0 ∨ 64 < l.length
  · rw [if_pos hb] at h; exact absurd h (by decide)
  rw [if_neg hb] at h
  cases e0 : firstE (lookE l s 0) l.length with
  | some k => rw [e0] at h; exact absurd h (first_nz e0)
  | none =>
    rw [e0] at h
    cases e1 : firstE (lookE l s 1) l.length with
    | some k => rw [e1] at h; exact absurd h (first_nz e1)
    | none =>
      have h0 := first_zero e0
      have h1 := first_zero e1
      have hw : ∀ {i : Nat} {x : Ins}, l[i]? = some x → wrongE x l.length i s = 0 := fun {i x} hx => by rw [← look1 hx]; exact h1 i (List.getElem?_eq_some_iff.1 hx).1
      refine ⟨by omega, by omega, fun {i x} hx => ?_, fun {i x} hx => ?_, fun {i x} hx hi => ?_⟩
      · rw [← look0 (s := s) hx]; exact h0 i (List.getElem?_eq_some_iff.1 hx).1
      · have h2 := hw hx
        unfold wrongE at h2
        by_cases c : (!withinB x l.length i) = true
        · rw [if_pos c] at h2; exact absurd h2 (by decide)
        · simpa using c
      · have h2 := hw hx
        unfold wrongE at h2
        by_cases c : (!withinB x l.length i) = true
        · rw [if_pos c] at h2; exact absurd h2 (by decide)
        rw [if_neg c] at h2
        split at h2
        · exact absurd h2 (by decide)
        split at h2
        · exact absurd h2 (by decide)
        split at h2
        · exact absurd h2 (by decide)
        · rename_i h3
          simp only [Bool.and_eq_true, decide_eq_true_eq, ne_eq, not_and, Decidable.not_not] at h3
          by_cases hx3 : x.op = 73
          · exact .inl hx3
          · exact .inr (h3 ⟨by omega, hx3⟩)
theorem toV_is {x : Ins} {k : Nat} (h : isaChk x = 0) (hk : k ≤ 1000000) : toV x k = (k : Int) + 1 + x.off ∧ -32768 ≤ x.off ∧ x.off ≤ 32768 := by
  have ho : -32768 ≤ x.off ∧ x.off ≤ 32768 := by
    unfold isaChk at h
    by_cases h0 : cls x.op = 0
    · rw [if_pos h0] at h; omega
    rw [if_neg h0] at h
    by_cases h1 : (outB x.dst 0 10 || outB x.src 0 10 || outB x.off (-32768) 32768 || outB x.imm (-2147483648) 2147483648) = true
    · rw [if_pos h1] at h; omega
    simp only [outB, Bool.or_eq_true, decide_eq_true_eq] at h1
    omega
  refine ⟨?_, ho⟩
  unfold toV
  rw [i64w (m := (k : Int) + 1) (by omega), i64w (by omega)]
structure RunOk (l : List Ins) (r : Vs) : Prop where
  len : r.V.length = 18
  wd : ∀ v ∈ r.V, Wd v.n
  at_ : ∃ k : Nat, r.at_ = k ∧ k < l.length
  fuel : 0 ≤ r.fuel ∧ r.fuel ≤ 256
  asks : r.asks = true → r.over = false ∧ (r.opn.kind = 2 ∨ r.opn.kind = 3 ∨ r.opn.kind = 4) ∧ r.at_ + 1 < l.length
theorem RunOk.pos {l : List Ins} {r : Vs} (h : RunOk l r) : ∀ v ∈ r.V, 0 ≤ v.n := fun v hv => (h.wd v hv).1
theorem RunOk.end_ {l : List Ins} {r : Vs} (h : RunOk l r) (e : Int) : RunOk l (endF r e) := ⟨h.len, h.wd, h.at_, h.fuel, fun hh => by cases hh⟩
theorem RunOk.next {l : List Ins} {r : Vs} (h : RunOk l r) (ha : r.asks = false) {e : Int} (hb : e = 0 → ∃ k : Nat, r.at_ + 1 = k ∧ k < l.length) : RunOk l (nextF r e) := by
  unfold nextF
  split
  · rename_i h0
    exact ⟨h.len, h.wd, hb h0, h.fuel, fun hh => by rw [show (_ : Vs).asks = r.asks from rfl, ha] at hh; cases hh⟩
  · exact h.end_ e
theorem plain32 : plainOf 32 = 32 := by decide +kernel
theorem step_ok {l : List Ins} {r : Vs} {x : Ins} {k : Nat} (hc : CodeOk l) (h : RunOk l r) (ho : r.over = false) (ha : r.asks = false) (hk : r.at_ = (k : Int)) (hx : l[k]? = some x) : RunOk l (oneX r x) := by
  have hkl : k < l.length := (List.getElem?_eq_some_iff.1 hx).1
  have hl64 := hc.len
  have hchk := hc.chk hx
  have hlast := hc.last hx
  have hwi := hc.within hx
  have hf := h.fuel
  obtain ⟨htv, ho1, ho2⟩ := toV_is (k := k) hchk (by omega)
  unfold oneX
  by_cases h0 : r.fuel = 0
  · rw [if_pos h0]; exact h.end_ 16
  rw [if_neg h0]
  have h1 : RunOk l { r with fuel := r.fuel - 1 } := ⟨h.len, h.wd, h.at_, ⟨by show 0 ≤ r.fuel - 1; omega, by show r.fuel - 1 ≤ 256; omega⟩, h.asks⟩
  by_cases h2 : x.op = 73
  · rw [if_pos h2]; exact ⟨h.len, h.wd, h.at_, h1.fuel, fun hh => by cases hh⟩
  rw [if_neg h2]
  have hask : ∀ t : Tr, (t.kind = 2 ∨ t.kind = 3 ∨ t.kind = 4) → x.op ≠ 32 → RunOk l (askF { r with fuel := r.fuel - 1 } t) := fun t ht hn =>
    ⟨h.len, h.wd, h.at_, h1.fuel, fun _ => ⟨ho, ht, by show r.at_ + 1 < l.length; have : ¬ k + 1 = l.length := fun e => by rcases hlast e with e | e <;> contradiction
                                                       omega⟩⟩
  by_cases h3 : x.op = 72
  · rw [if_pos h3]; exact hask _ (.inl rfl) (by omega)
  rw [if_neg h3]
  by_cases h4 : x.op = 66 ∨ x.op = 67
  · rw [if_pos h4]
    unfold valueF
    split
    · exact hask _ (.inr (.inl rfl)) (by omega)
    split
    · exact hask _ (.inr (.inr rfl)) (by omega)
    · exact h1.end_ 17
  rw [if_neg h4]
  by_cases h5 : cls x.op = 2
  · rw [if_pos h5]
    unfold jumpF
    have hto : 0 ≤ toV x k ∧ toV x k < (l.length : Int) := by
      have hn : ¬ (x.op = 64 ∨ x.op = 65) := by have := cls2.1 h5; omega
      unfold withinB at hwi
      rw [if_neg hn, if_neg h4, decide_eq_false (p := cls x.op ≠ 2) (by simpa using h5), Bool.false_or, Bool.and_eq_true, decide_eq_true_eq, decide_eq_true_eq] at hwi
      exact hwi
    have hj : jumpV r.V x = (jumpS (plainOf x.op) (r.V.getD x.dst.toNat zeroV).n (othr r.V x).n, 0) := by
      unfold jumpV; rw [if_neg (fun e => e hchk), if_pos h5]
    rw [show (jumpV ({ r with fuel := r.fuel - 1 } : Vs).V x) = jumpV r.V x from rfl, hj]
    dsimp only
    cases hg : jumpS (plainOf x.op) (r.V.getD x.dst.toNat zeroV).n (othr r.V x).n with
    | true =>
      unfold nextF
      rw [if_pos rfl, if_pos rfl]
      exact ⟨h.len, h.wd, ⟨(toV x k).toNat, by show r.at_ + x.off + 1 = _; omega, by omega⟩, h1.fuel, fun hh => by rw [show (_ : Vs).asks = r.asks from rfl, ha] at hh; cases hh⟩
    | false =>
      unfold nextF
      rw [if_pos rfl, if_neg (by decide)]
      have hn32 : x.op ≠ 32 := fun e => by
        rw [e, plain32] at hg
        exact absurd hg (by unfold jumpS; simp)
      have : ¬ k + 1 = l.length := fun e => by rcases hlast e with e | e <;> contradiction
      exact ⟨h.len, h.wd, ⟨k + 1, by show r.at_ + 1 = _; omega, by omega⟩, h1.fuel, fun hh => by rw [show (_ : Vs).asks = r.asks from rfl, ha] at hh; cases hh⟩
  rw [if_neg h5]
  have h32 : x.op ≠ 32 := fun e => h5 (cls2.2 (by omega))
  have : ¬ k + 1 = l.length := fun e => by rcases hlast e with e | e <;> contradiction
  refine RunOk.next (r := { r with V := (doV r.V x).1, fuel := r.fuel - 1 }) ⟨doV_len.trans h.len, doV_all (p := fun v => Wd v.n) (fun n hn => hn) (fun v hv => hv) h.wd, h.at_, h1.fuel, h.asks⟩ ha (fun _ => ⟨k + 1, by show r.at_ + 1 = _; omega, by omega⟩)
def stepX (l : List Ins) (r : Vs) : Vs := oneX r (l.getD r.at_.toNat ins0)
def goF (l : List Ins) : Nat → Vs → Vs
  | 0, r => r
  | n + 1, r => if r.over || r.asks then r else goF l n (stepX l r)
def trapOf (r : Vs) : Tr := if r.over then { trZ with kind := 1 } else if r.asks then r.opn else trZ
theorem getD_some {l : List Ins} {k : Nat} (h : k < l.length) : l[k]? = some (l.getD k ins0) := by simp [List.getD, h]
theorem step_ok' {l : List Ins} {r : Vs} (hc : CodeOk l) (h : RunOk l r) (ho : r.over = false) (ha : r.asks = false) : RunOk l (stepX l r) := by
  obtain ⟨k, hk, hkl⟩ := h.at_
  unfold stepX
  rw [hk]
  exact step_ok hc h ho ha hk (getD_some hkl)
theorem goF_done {l : List Ins} {r : Vs} (h : (r.over || r.asks) = true) : ∀ n, goF l n r = r
  | 0 => rfl
  | n + 1 => if_pos h
theorem goF_ok {l : List Ins} (hc : CodeOk l) : ∀ (n : Nat) {r : Vs}, RunOk l r → RunOk l (goF l n r)
  | 0, _, h => h
  | n + 1, r, h => by
    unfold goF
    split
    · exact h
    · rename_i hd
      simp only [Bool.or_eq_true, not_or, Bool.not_eq_true] at hd
      exact goF_ok hc n (step_ok' hc h hd.1 hd.2)
theorem goF_add {l : List Ins} : ∀ (m n : Nat) (r : Vs), goF l n (goF l m r) = goF l (m + n) r
  | 0, n, r => by rw [Nat.zero_add]; rfl
  | m + 1, n, r => by
    rw [show m + 1 + n = m + n + 1 by omega]
    by_cases hd : (r.over || r.asks) = true
    · rw [goF_done hd, goF_done hd, goF_done hd]
    · rw [show goF l (m + 1) r = goF l m (stepX l r) from if_neg hd, show goF l (m + n + 1) r = goF l (m + n) (stepX l r) from if_neg hd]
      exact goF_add m n _
theorem goF_snoc {l : List Ins} {n : Nat} {r : Vs} (h : ((goF l n r).over || (goF l n r).asks) = false) : goF l (n + 1) r = stepX l (goF l n r) := by
  rw [← goF_add n 1 r]
  exact if_neg (by rw [h]; decide)
def toF (l : List Ins) (r : Vs) : Int := if r.opn.kind = 2 then 0 else if r.opn.kind = 3 then (l.getD r.at_.toNat ins0).dst else -1
def giveV (l : List Ins) (r : Vs) (v : Va) (e : Int) : List Va := if e = 0 ∧ 0 ≤ toF l r then (wrV r.V false (toF l r) v).1 else r.V
def giveF (l : List Ins) (r : Vs) (v : Va) (e : Int) : Vs × Int := if r.asks = false then (r, 6) else (nextF { r with V := giveV l r v e, asks := false, opn := trZ } e, 0)
theorem giveF_ok {l : List Ins} {r : Vs} {v : Va} {e : Int} (h : RunOk l r) (hv : Wd v.n) : RunOk l (giveF l r v e).1 := by
  unfold giveF
  split
  · exact h
  rename_i ha
  have ha' : r.asks = true := by simpa using ha
  obtain ⟨_, _, h3⟩ := h.asks ha'
  obtain ⟨k, hk, hkl⟩ := h.at_
  refine RunOk.next (r := { r with V := _, asks := false, opn := trZ }) ⟨?_, ?_, h.at_, h.fuel, fun hh => by cases hh⟩ rfl (fun _ => ⟨k + 1, by show r.at_ + 1 = _; omega, by omega⟩)
  · show (giveV l r v e).length = 18
    unfold giveV
    split
    · rw [wrV_len]; exact h.len
    · exact h.len
  · show ∀ w ∈ giveV l r v e, Wd w.n
    unfold giveV
    split
    · unfold wrV
      split
      · exact h.wd
      · exact set_good (p := fun v => Wd v.n) h.wd hv
    · exact h.wd
end Go.Proofs.YtcmfldfeakmdoaaDoor
namespace Go.Proofs.YtcmfldfeakmdoaaDoor
open Go Go.Sl
attribute [local irreducible] W
set_option maxHeartbeats 1000000 in
theorem RAt_L {w0 : World} {H : Heap} {br bf n cap : Nat} {ad : Option Addr} {r : Vs}   : LCalls Tryd.prog w0 14 #[.pointer (some ⟨br, 0, none⟩)] ((br, .cells 86 42 (runC bf ad n cap r)) :: H) (fun v H' => v = .int .i64 r.at_ ∧ H' = (br, .cells 86 42 (runC bf ad n cap r)) :: H) := by
  refine L_enter (l := [.pointer (some ⟨br, 0, none⟩)]) Tryd.func14 rfl Tryd.ntmps14 rfl rfl ?_
  refine W_sr ?_
  refine W_assign rfl rfl ?_
  refine W_nil ?_
  refine W_seq ?_
  refine W_sr ?_
  refine W_move rfl rfl ?_
  refine W_x (X_ptrNil rfl rfl ty29) (fun _ h => by cases h) rfl ?_
  refine W_nil ?_
  refine W_condF rfl rfl ?_
  refine W_skip ?_
  refine W_sr ?_
  refine W_move rfl rfl ?_
  refine W_nilCheck rfl rfl ?_
  refine W_fieldAddr rfl fld86_2 (by decide) rfl ?_
  refine W_load (v := .int .i64 r.at_) rfl ty3 rfl (Cell.own (b := br) zM rfl) rfl ?_
  refine W_assign rfl rfl ?_
  refine W_nil ?_
  refine W_ret1m (H2 := (br, .cells 86 42 (runC bf ad n cap r)) :: H) Tryd.results14 rfl (.nil _) zH ?_
  exact ⟨rfl, rfl⟩
set_option maxHeartbeats 1000000 in
theorem RCode_L {w0 : World} {H : Heap} {br bf n cap : Nat} {ad : Option Addr} {r : Vs}   : LCalls Tryd.prog w0 15 #[.pointer (some ⟨br, 0, none⟩)] ((br, .cells 86 42 (runC bf ad n cap r)) :: H) (fun v H' => v = .int .i64 r.why ∧ H' = (br, .cells 86 42 (runC bf ad n cap r)) :: H) := by
  refine L_enter (l := [.pointer (some ⟨br, 0, none⟩)]) Tryd.func15 rfl Tryd.ntmps15 rfl rfl ?_
  refine W_sr ?_
  refine W_assign rfl rfl ?_
  refine W_nil ?_
  refine W_seq ?_
  refine W_sr ?_
  refine W_move rfl rfl ?_
  refine W_x (X_ptrNil rfl rfl ty29) (fun _ h => by cases h) rfl ?_
  refine W_nil ?_
  refine W_condF rfl rfl ?_
  refine W_skip ?_
  refine W_sr ?_
  refine W_move rfl rfl ?_
  refine W_nilCheck rfl rfl ?_
  refine W_fieldAddr rfl fld86_7 (by decide) rfl ?_
  refine W_load (v := .int .i64 r.why) rfl ty30 rfl (Cell.own (b := br) zM rfl) rfl ?_
  refine W_assign rfl rfl ?_
  refine W_nil ?_
  refine W_ret1m (H2 := (br, .cells 86 42 (runC bf ad n cap r)) :: H) Tryd.results15 rfl (.nil _) zH ?_
  exact ⟨rfl, rfl⟩
set_option maxHeartbeats 1000000 in
theorem RResult_L {w0 : World} {H : Heap} {br bf n cap : Nat} {ad : Option Addr} {r : Vs}   : LCalls Tryd.prog w0 16 #[.pointer (some ⟨br, 0, none⟩)] ((br, .cells 86 42 (runC bf ad n cap r)) :: H) (fun v H' => v = .int .u64 r.res ∧ H' = (br, .cells 86 42 (runC bf ad n cap r)) :: H) := by
  refine L_enter (l := [.pointer (some ⟨br, 0, none⟩)]) Tryd.func16 rfl Tryd.ntmps16 rfl rfl ?_
  refine W_sr ?_
  refine W_assign rfl rfl ?_
  refine W_nil ?_
  refine W_seq ?_
  refine W_sr ?_
  refine W_move rfl rfl ?_
  refine W_x (X_ptrNil rfl rfl ty29) (fun _ h => by cases h) rfl ?_
  refine W_nil ?_
  refine W_condF rfl rfl ?_
  refine W_skip ?_
  refine W_sr ?_
  refine W_move rfl rfl ?_
  refine W_nilCheck rfl rfl ?_
  refine W_fieldAddr rfl fld86_8 (by decide) rfl ?_
  refine W_load (v := .int .u64 r.res) rfl ty28 rfl (Cell.own (b := br) zM rfl) rfl ?_
  refine W_assign rfl rfl ?_
  refine W_nil ?_
  refine W_ret1m (H2 := (br, .cells 86 42 (runC bf ad n cap r)) :: H) Tryd.results16 rfl (.nil _) zH ?_
  exact ⟨rfl, rfl⟩
end Go.Proofs.YtcmfldfeakmdoaaDoor
namespace Go.Proofs.YtcmfldfeakmdoaaDoor
open Go Go.Sl
attribute [local irreducible] W
theorem rstep_L {w0 : World} {H : Heap} {br bf n cap : Nat} {ad : Option Addr} {r : Vs}  {l : List Ins} (hn : n = l.length) (hc : CodeOk l) (hi : InsOk l) (hr : RunOk l r) (hrow : Holds w0 H ad (insRow l)) (ho : r.over = false) (ha : r.asks = false) (hT : Tab w0) : LCalls Tryd.prog w0 38 #[.pointer (some ⟨br, 0, none⟩)] ((br, .cells 86 42 (runC bf ad n cap r)) :: (bf, .cells 101 90 (vaRow (r).V)) :: H) (fun _ H' => H' = (br, .cells 86 42 (runC bf ad n cap (stepX l r))) :: (bf, .cells 101 90 (vaRow (stepX l r).V)) :: H) := by
  obtain ⟨k, hk, hkl⟩ := hr.at_
  have hl64 := hc.len
  have hx := getD_some hkl
  have e : stepX l r = oneX r (l.getD k ins0) := by unfold stepX; rw [hk]; rfl
  rw [e]
  have hf := hr.fuel
  have hop := (hi _ (List.mem_of_getElem? hx)).op
  refine rone_L hn hr.len hk hx (by omega) hop hr.pos ⟨hf.1, by omega⟩ (fun h2 => ?_) hrow hT
  obtain ⟨htv, ho1, ho2⟩ := toV_is (k := k) (hc.chk hx) (by omega)
  have hwi := hc.within hx
  have hb := cls2.1 h2
  unfold withinB at hwi
  rw [if_neg (by omega), if_neg (by omega), decide_eq_false (p := cls (l.getD k ins0).op ≠ 2) (by simpa using h2), Bool.false_or, Bool.and_eq_true, decide_eq_true_eq, decide_eq_true_eq] at hwi
  omega
set_option maxHeartbeats 1000000 in
theorem RGo_L {w0 : World} {H : Heap} {br bf n cap : Nat} {ad : Option Addr} {r : Vs} {nn : Int} {l : List Ins} (hn : n = l.length) (hc : CodeOk l) (hi : InsOk l) (hr : RunOk l r) (hrow : Holds w0 H ad (insRow l)) (hnn : nn ≤ 9223372036854775807) (hT : Tab w0) : LCalls Tryd.prog w0 12 #[.pointer (some ⟨br, 0, none⟩), .int .i64 nn] ((br, .cells 86 42 (runC bf ad n cap r)) :: (bf, .cells 101 90 (vaRow (r).V)) :: H) (fun v H' => v = .agg (trC (trapOf (goF l nn.toNat r))).toArray ∧ H' = (br, .cells 86 42 (runC bf ad n cap (goF l nn.toNat r))) :: (bf, .cells 101 90 (vaRow (goF l nn.toNat r).V)) :: H) := by
  refine L_enter (l := [.pointer (some ⟨br, 0, none⟩), .int .i64 nn]) Tryd.func12 rfl Tryd.ntmps12 rfl rfl ?_
  refine W_sr ?_
  refine W_alloc (l := trC trZ) ty44 rfl rfl (fun b4 => ?_)
  refine W_nil ?_
  refine W_scope (fun _ _ _ h => h) ?_
  refine W_seq ?_
  refine W_sr ?_
  refine W_move rfl rfl ?_
  refine W_x (X_ptrNil rfl rfl ty29) (fun _ h => by cases h) rfl ?_
  refine W_nil ?_
  refine W_condF rfl rfl ?_
  refine W_skip ?_
  refine W_seq ?_
  refine W_label ?_
  refine W_seq ?_
  refine W_sr ?_
  refine W_assign rfl rfl ?_
  refine W_nil ?_
  refine W_cutX (X := Unit) (fun _ => [(0, .pointer (some ⟨br, 0, none⟩)), (4, .pointer (some ⟨b4, 0, none⟩))]) (fun _ => (b4, .cells 44 34 (trC trZ)) :: (br, .cells 86 42 (runC bf ad n cap (goF l nn.toNat r))) :: (bf, .cells 101 90 (vaRow (goF l nn.toNat r).V)) :: H) (fun _ => True) ?_ ?_
  · skip
    refine W_block ?_
    refine W_loopD (X := Nat) (fun k => [(0, .pointer (some ⟨br, 0, none⟩)), (1, .int .i64 nn), (4, .pointer (some ⟨b4, 0, none⟩)), (5, .int .i64 (k : Int))]) (fun _ => []) (fun k => (b4, .cells 44 34 (trC trZ)) :: (br, .cells 86 42 (runC bf ad n cap (goF l k r))) :: (bf, .cells 101 90 (vaRow (goF l k r).V)) :: H) (fun k => k ≤ nn.toNat) (fun k => nn.toNat - k) 0 (Nat.zero_le _) (sub_cons rfl (sub_cons rfl (sub_cons rfl (sub_cons rfl (sub_nil _))))) rfl zH ?_
    intro k hk
    have hrk := goF_ok hc k hr
    refine W_seq ?_
    refine W_sr ?_
    refine W_move rfl rfl ?_
    refine W_move rfl rfl ?_
    refine W_bin rfl rfl b_lss rfl ?_
    refine W_nil ?_
    refine W_condPS (p := (k : Int) < nn) rfl (by simp) (fun c0 => ?_) (fun c0 => ?_)
    · skip
      refine W_skip ?_
      refine W_seq ?_
      refine W_block ?_
      refine W_seq ?_
      refine W_sr ?_
      refine W_move rfl rfl ?_
      refine W_nilCheck rfl rfl ?_
      refine W_fieldAddr rfl fld86_5 (by decide) rfl ?_
      refine W_load (v := .bool (goF l k r).over) rfl ty4 rfl (Cell.own (b := br) zM rfl) rfl ?_
      refine W_move rfl rfl ?_
      apply W_or
      iterate 4 exact rfl
      case h1 =>
        intro hg4
        refine W_gyes rfl rfl ?_
        refine W_move rfl rfl ?_
        refine W_gyes rfl rfl ?_
        refine W_nilCheck rfl rfl ?_
        refine W_gyes rfl rfl ?_
        refine W_fieldAddr rfl fld86_4 (by decide) rfl ?_
        refine W_gyes rfl rfl ?_
        refine W_load (v := .bool (goF l k r).asks) rfl ty4 rfl (Cell.own (b := br) zM rfl) rfl ?_
        exact W_met rfl zR
      refine W_nil ?_
      refine W_condPS (p := ((goF l k r).over || (goF l k r).asks) = true) rfl (by simp) (fun c1 => ?_) (fun c1 => ?_)
      · skip
        refine W_exit rfl ?_
        have eg : goF l nn.toNat r = goF l k r := by
          obtain ⟨d, hd⟩ := Nat.exists_eq_add_of_le hk
          rw [hd, ← goF_add, goF_done (by simpa using c1)]
        refine W_joinX () trivial (sub_cons rfl (sub_cons rfl (sub_nil _))) (by first | exact hsubI | (rw [eg]; exact hsubI))
      · skip
        refine W_skip ?_
        refine W_region ?_
        refine W_move rfl rfl ?_
        have hd : ((goF l k r).over || (goF l k r).asks) = false := by simpa using c1
        refine W_call (.cons rfl .nil) Tryd.call38 rfl ((rstep_L (H := (b4, .cells 44 34 (trC trZ)) :: H) (r := (goF l k r)) hn hc hi hrk (hrow.up zH) (by simp at hd; exact hd.1) (by simp at hd; exact hd.2) hT).hsub zH) ?_
        rintro v H' rfl
        refine W_nil ?_
        refine W_blk ?_
        refine W_region ?_
        refine W_move rfl rfl ?_
        refine W_bin rfl rfl (b_add (m := ((k + 1 : Nat) : Int)) ((i64w (by omega)).trans (by omega))) rfl ?_
        refine W_assign rfl rfl ?_
        refine W_nil ?_
        refine W_again (k + 1) (by omega) (by omega) (sub_cons rfl (sub_cons rfl (sub_cons rfl (sub_cons rfl (sub_nil _))))) rfl (by rw [goF_snoc hd]; exact hsubI)
    · skip
      refine W_exit rfl ?_
      obtain rfl : k = nn.toNat := by omega
      refine W_joinX () trivial (sub_cons rfl (sub_cons rfl (sub_nil _))) (by first | exact hsubI | (rw [eg]; exact hsubI))
  rintro _ _
  refine W_seq ?_
  refine W_block ?_
  refine W_sr ?_
  refine W_move rfl rfl ?_
  refine W_nilCheck rfl rfl ?_
  refine W_fieldAddr rfl fld86_5 (by decide) rfl ?_
  refine W_load (v := .bool (goF l nn.toNat r).over) rfl ty4 rfl (Cell.own (b := br) zM rfl) rfl ?_
  refine W_assign rfl rfl ?_
  refine W_nil ?_
  refine W_condPS (p := (goF l nn.toNat r).over = true) rfl (by simp) (fun c0 => ?_) (fun c0 => ?_)
  · skip
    refine W_sr ?_
    refine W_build (l := trC { trZ with kind := 1 }) ty44 pl44 (.cons rfl rfl rfl rfl rfl .nil) rfl rfl rfl ?_
    refine W_storeA (l' := trC { trZ with kind := 1 }) rfl rfl ty44 rfl rfl (b := b4) zM (Nat.le_of_ble_eq_true rfl) rfl zU ?_
    refine W_nil ?_
    refine W_ret1cO (H2 := (br, .cells 86 42 (runC bf ad n cap (goF l nn.toNat r))) :: (bf, .cells 101 90 (vaRow (goF l nn.toNat r).V)) :: H) Tryd.results12 rfl (.nil _) ty44 rfl zM rfl zH ?_
    unfold trapOf
    rw [if_pos c0]
    exact ⟨rfl, rfl⟩
  · skip
    refine W_sr ?_
    refine W_move rfl rfl ?_
    refine W_nilCheck rfl rfl ?_
    refine W_fieldAddr rfl fld86_4 (by decide) rfl ?_
    refine W_load (v := .bool (goF l nn.toNat r).asks) rfl ty4 rfl (Cell.own (b := br) zM rfl) rfl ?_
    refine W_assign rfl rfl ?_
    refine W_nil ?_
    refine W_condPS (p := (goF l nn.toNat r).asks = true) rfl (by simp) (fun c1 => ?_) (fun c1 => ?_)
    · skip
      refine W_sr ?_
      refine W_move rfl rfl ?_
      refine W_nilCheck rfl rfl ?_
      refine W_fieldAddr rfl fld86_6 (by decide) rfl ?_
      refine W_loadB (vs := trC (goF l nn.toNat r).opn) rfl ty44 rfl (b := br) zM rfl rfl rfl ?_
      refine W_storeA (l' := trC (goF l nn.toNat r).opn) rfl rfl ty44 rfl rfl (b := b4) zM (Nat.le_of_ble_eq_true rfl) rfl zU ?_
      refine W_nil ?_
      refine W_ret1cO (H2 := (br, .cells 86 42 (runC bf ad n cap (goF l nn.toNat r))) :: (bf, .cells 101 90 (vaRow (goF l nn.toNat r).V)) :: H) Tryd.results12 rfl (.nil _) ty44 rfl zM rfl zH ?_
      unfold trapOf
      rw [if_neg c0, if_pos c1]
      exact ⟨rfl, rfl⟩
    · skip
      refine W_skip ?_
      refine W_blk ?_
      refine W_sr ?_
      refine W_build (l := trC trZ) ty44 pl44 .nil rfl rfl rfl ?_
      refine W_storeA (l' := trC trZ) rfl rfl ty44 rfl rfl (b := b4) zM (Nat.le_of_ble_eq_true rfl) rfl zU ?_
      refine W_nil ?_
      refine W_ret1cO (H2 := (br, .cells 86 42 (runC bf ad n cap (goF l nn.toNat r))) :: (bf, .cells 101 90 (vaRow (goF l nn.toNat r).V)) :: H) Tryd.results12 rfl (.nil _) ty44 rfl zM rfl zH ?_
      unfold trapOf
      rw [if_neg c0, if_neg c1]
      exact ⟨rfl, rfl⟩
end Go.Proofs.YtcmfldfeakmdoaaDoor
namespace Go.Proofs.YtcmfldfeakmdoaaDoor
open Go Go.Sl
attribute [local irreducible] W
set_option maxHeartbeats 1000000 in
theorem RGive_L {w0 : World} {H : Heap} {br bf n cap : Nat} {ad : Option Addr} {r : Vs} {v : Va} {e : Int} {l : List Ins} (hn : n = l.length) (hc : CodeOk l) (hi : InsOk l) (hr : RunOk l r) (hrow : Holds w0 H ad (insRow l))  : LCalls Tryd.prog w0 17 #[.pointer (some ⟨br, 0, none⟩), .agg (vaC v).toArray, .int .i64 e] ((br, .cells 86 42 (runC bf ad n cap r)) :: (bf, .cells 101 90 (vaRow (r).V)) :: H) (fun u H' => u = .int .i64 (giveF l r v e).2 ∧ H' = (br, .cells 86 42 (runC bf ad n cap (giveF l r v e).1)) :: (bf, .cells 101 90 (vaRow (giveF l r v e).1.V)) :: H) := by
  refine L_enter (l := [.pointer (some ⟨br, 0, none⟩), .agg (vaC v).toArray, .int .i64 e]) Tryd.func17 rfl Tryd.ntmps17 rfl rfl ?_
  refine W_sr ?_
  refine W_box rfl rfl rfl (fun b4 => ?_)
  refine W_assign rfl rfl ?_
  refine W_nil ?_
  refine W_seq ?_
  refine W_sr ?_
  refine W_move rfl rfl ?_
  refine W_x (X_ptrNil rfl rfl ty29) (fun _ h => by cases h) rfl ?_
  refine W_move rfl rfl ?_
  refine W_gyes rfl rfl ?_
  refine W_move rfl rfl ?_
  refine W_gyes rfl rfl ?_
  refine W_nilCheck rfl rfl ?_
  refine W_gyes rfl rfl ?_
  refine W_fieldAddr rfl fld86_4 (by decide) rfl ?_
  refine W_gyes rfl rfl ?_
  refine W_load (v := .bool r.asks) rfl ty4 rfl (Cell.own (b := br) zM rfl) rfl ?_
  refine W_gyes rfl rfl ?_
  refine W_not rfl rfl ?_
  first | refine W_pickt rfl rfl rfl ?_ | refine W_pickf rfl rfl rfl ?_
  refine W_nil ?_
  refine W_condPS (p := r.asks = false) rfl (by simp) (fun c0 => ?_) (fun c0 => ?_)
  · skip
    refine W_sr ?_
    refine W_assign rfl rfl ?_
    refine W_nil ?_
    refine W_ret1m (H2 := (br, .cells 86 42 (runC bf ad n cap r)) :: (bf, .cells 101 90 (vaRow (r).V)) :: H) Tryd.results17 rfl (.nil _) zH ?_
    unfold giveF
    rw [if_pos c0]
    exact ⟨rfl, rfl⟩
  · skip
    refine W_skip ?_
    refine W_sr ?_
    refine W_assign rfl rfl ?_
    refine W_nil ?_
    refine W_seq ?_
    refine W_sr ?_
    refine W_move rfl rfl ?_
    refine W_nilCheck rfl rfl ?_
    refine W_fieldAddr rfl fld86_6 (by decide) rfl ?_
    refine W_fieldAddr rfl fld44_0 (by decide) rfl ?_
    refine W_load (v := .int .i64 r.opn.kind) rfl ty3 rfl (Cell.own (b := br) zM rfl) rfl ?_
    refine W_nil ?_
    refine W_cutX (X := Unit) (fun _ => [(0, .pointer (some ⟨br, 0, none⟩)), (2, .int .i64 e), (4, .pointer (some ⟨b4, 0, none⟩)), (7, .int .i64 (toF l r))]) (fun _ => (b4, .cells 41 5 (vaC v)) :: (br, .cells 86 42 (runC bf ad n cap r)) :: (bf, .cells 101 90 (vaRow (r).V)) :: H) (fun _ => True) ?_ ?_
    · skip
      refine W_block ?_
      refine W_sr ?_
      refine W_bin rfl rfl b_eql rfl ?_
      refine W_assign rfl rfl ?_
      refine W_nil ?_
      refine W_condPS (p := r.opn.kind = 2) rfl (by simp) (fun c1 => ?_) (fun c1 => ?_)
      · skip
        refine W_region ?_
        refine W_assign rfl rfl ?_
        refine W_nil ?_
        refine W_blk ?_
        refine W_joinX () trivial (sub_cons rfl (sub_cons rfl (sub_cons rfl (sub_cons (by unfold toF; rw [if_pos c1]; rfl) (sub_nil _))))) zH
      · skip
        refine W_sr ?_
        refine W_bin rfl rfl b_eql rfl ?_
        refine W_assign rfl rfl ?_
        refine W_nil ?_
        refine W_condPS (p := r.opn.kind = 3) rfl (by simp) (fun c2 => ?_) (fun c2 => ?_)
        · skip
          obtain ⟨k, hk, hkl⟩ := hr.at_
          have hl64 := hc.len
          have hx := getD_some hkl
          obtain ⟨b, o, hAd, hcx⟩ := hrow.row cells_len (by decide) hx
          refine W_anyC ((b4, .cells 41 5 (vaC v)) :: (br, .cells 86 42 (runC bf ad n cap r)) :: (bf, .cells 101 90 (vaRow (r).V)) :: H) (by kernel_rfl) ?_
          refine WC_take 0 (l' := #[true, false, false, false, false, false, false, false, false, false, false, false]) rfl (by decide +kernel) (by decide +kernel) (by decide +kernel) rfl (by decide +kernel) (X_move rfl) rfl ?_
          refine WC_take 1 (l' := #[true, true, false, false, false, false, false, false, false, false, false, false]) rfl (by decide +kernel) (by decide +kernel) (by decide +kernel) rfl (by decide +kernel) (X_nilCheck rfl) rfl ?_
          refine WC_take 2 (l' := #[true, true, true, false, false, false, false, false, false, false, false, false]) rfl (by decide +kernel) (by decide +kernel) (by decide +kernel) rfl (by decide +kernel) (X_fieldAddr rfl fld86_1 (by decide)) rfl ?_
          refine WC_take 3 (l' := #[true, true, true, true, false, false, false, false, false, false, false, false]) rfl (by decide +kernel) (by decide +kernel) (by decide +kernel) rfl (by decide +kernel) (X_load (v := .slice (some ⟨b, o, none⟩) n cap) rfl ty24 rfl (Cell.own (b := br) zM (by rw [← hAd]; rfl))) rfl ?_
          refine WC_take 4 (l' := #[true, true, true, true, true, false, false, false, false, false, false, false]) rfl (by decide +kernel) (by decide +kernel) (by decide +kernel) rfl (by decide +kernel) (X_move rfl) rfl ?_
          refine WC_take 5 (l' := #[true, true, true, true, true, true, false, false, false, false, false, false]) rfl (by decide +kernel) (by decide +kernel) (by decide +kernel) rfl (by decide +kernel) (X_nilCheck rfl) rfl ?_
          refine WC_take 6 (l' := #[true, true, true, true, true, true, true, false, false, false, false, false]) rfl (by decide +kernel) (by decide +kernel) (by decide +kernel) rfl (by decide +kernel) (X_fieldAddr rfl fld86_2 (by decide)) rfl ?_
          refine WC_take 7 (l' := #[true, true, true, true, true, true, true, true, false, false, false, false]) rfl (by decide +kernel) (by decide +kernel) (by decide +kernel) rfl (by decide +kernel) (X_load (v := .int .i64 (k : Int)) rfl ty3 rfl (Cell.own (b := br) zM (by rw [← hk]; rfl))) rfl ?_
          refine WC_take 8 (l' := #[true, true, true, true, true, true, true, true, true, false, false, false]) rfl (by decide +kernel) (by decide +kernel) (by decide +kernel) rfl (by decide +kernel) (X_indexAddr (j := k) rfl rfl ty24 ty59 rfl (by omega) rfl) rfl ?_
          refine WC_take 9 (l' := #[true, true, true, true, true, true, true, true, true, true, false, false]) rfl (by decide +kernel) (by decide +kernel) (by decide +kernel) rfl (by decide +kernel) (X_fieldAddr rfl fld59_1 (by decide)) rfl ?_
          refine WC_take 10 (l' := #[true, true, true, true, true, true, true, true, true, true, true, false]) rfl (by decide +kernel) (by decide +kernel) (by decide +kernel) rfl (by decide +kernel) (X_load (v := .int .i64 (l.getD k ins0).dst) rfl ty3 rfl ((hcx.up zH) 1 _ rfl)) rfl ?_
          refine WC_take 11 (l' := #[true, true, true, true, true, true, true, true, true, true, true, true]) rfl (by decide +kernel) (by decide +kernel) (by decide +kernel) rfl (by decide +kernel) (X_assign rfl) rfl ?_
          refine WC_done zH (by decide +kernel) ?_
          refine W_blk ?_
          refine W_joinX () trivial (sub_cons rfl (sub_cons rfl (sub_cons rfl (sub_cons (by unfold toF; rw [if_neg c1, if_pos c2, hk]; rfl) (sub_nil _))))) zH
        · skip
          refine W_skip ?_
          refine W_blk ?_
          refine W_joinX () trivial (sub_cons rfl (sub_cons rfl (sub_cons rfl (sub_cons (by unfold toF; rw [if_neg c1, if_neg c2]; rfl) (sub_nil _))))) zH
    rintro _ _
    refine W_seq ?_
    refine W_sr ?_
    refine W_move rfl rfl ?_
    refine W_bin rfl rfl b_eql rfl ?_
    refine W_move rfl rfl ?_
    apply W_and
    iterate 4 exact rfl
    case h1 =>
      intro hg2
      refine W_gyes rfl rfl ?_
      refine W_move rfl rfl ?_
      refine W_gyes rfl rfl ?_
      refine W_bin rfl rfl b_geq rfl ?_
      exact W_met rfl zR
    refine W_nil ?_
    refine W_condJ (p := e = 0 ∧ 0 ≤ toF l r) [(0, .pointer (some ⟨br, 0, none⟩)), (2, .int .i64 e)] ((b4, .cells 41 5 (vaC v)) :: (br, .cells 86 42 (runC bf ad n cap r)) :: (bf, .cells 101 90 (vaRow (giveV l r v e))) :: H) rfl (by simp) (fun c1 => ?_) (fun c1 => ?_) ?_
    · skip
      refine W_anyC [(b4, .cells 41 5 (vaC v)), (br, .cells 86 42 (runC bf ad n cap r))] (by kernel_rfl) ?_
      refine WC_take 0 (l' := #[true, false, false, false, false, false, false]) rfl (by decide +kernel) (by decide +kernel) (by decide +kernel) rfl (by decide +kernel) (X_move rfl) rfl ?_
      refine WC_take 1 (l' := #[true, true, false, false, false, false, false]) rfl (by decide +kernel) (by decide +kernel) (by decide +kernel) rfl (by decide +kernel) (X_nilCheck rfl) rfl ?_
      refine WC_take 2 (l' := #[true, true, true, false, false, false, false]) rfl (by decide +kernel) (by decide +kernel) (by decide +kernel) rfl (by decide +kernel) (X_fieldAddr rfl fld86_0 (by decide)) rfl ?_
      refine WC_take 3 (l' := #[true, true, true, true, false, false, false]) rfl (by decide +kernel) (by decide +kernel) (by decide +kernel) rfl (by decide +kernel) (X_load (v := .pointer (some ⟨bf, 0, none⟩)) rfl ty81 rfl (Cell.own (b := br) zM rfl)) rfl ?_
      refine WC_take 4 (l' := #[true, true, true, true, true, false, false]) rfl (by decide +kernel) (by decide +kernel) (by decide +kernel) rfl (by decide +kernel) (X_move rfl) rfl ?_
      refine WC_take 5 (l' := #[true, true, true, true, true, true, false]) rfl (by decide +kernel) (by decide +kernel) (by decide +kernel) rfl (by decide +kernel) (X_loadB (vs := vaC v) rfl ty41 rfl (b := b4) zM rfl rfl) rfl ?_
      refine WC_one 6 (l' := #[true, true, true, true, true, true, true]) zH (by decide +kernel) rfl (by decide +kernel) ?_
      refine W_call (.cons rfl (.cons rfl (.cons rfl .nil))) Tryd.call39 rfl ((SetReg_L (H := (b4, .cells 41 5 (vaC v)) :: (br, .cells 86 42 (runC bf ad n cap r)) :: H) (V := r.V) (at_ := toF l r) (x := v) hr.len).hsub zH) ?_
      rintro u H' ⟨rfl, rfl⟩
      refine W_nil ?_
      refine WC_goal ?_
      refine WC_done zH (by decide +kernel) ?_
      refine W_joined (sub_cons rfl (sub_cons rfl (sub_nil _))) (by rw [show giveV l r v e = _ from if_pos c1]; exact hsubI)
    · skip
      refine W_skip ?_
      refine W_joined (sub_cons rfl (sub_cons rfl (sub_nil _))) (by rw [show giveV l r v e = _ from if_neg c1]; exact hsubI)
    skip
    refine W_sr ?_
    refine W_move rfl rfl ?_
    refine W_move rfl rfl ?_
    refine W_build (l := trC trZ) ty44 pl44 .nil rfl rfl rfl ?_
    refine W_nilCheck rfl rfl ?_
    refine W_fieldAddr rfl fld86_4 (by decide) rfl ?_
    refine W_store (l' := runC bf ad n cap { r with asks := false }) rfl rfl ty4 rfl rfl (b := br) zM rfl rfl zU ?_
    refine W_nilCheck rfl rfl ?_
    refine W_fieldAddr rfl fld86_6 (by decide) rfl ?_
    refine W_storeA (l' := runC bf ad n cap { r with asks := false, opn := trZ }) rfl rfl ty44 rfl rfl (b := br) zM (Nat.le_of_ble_eq_true rfl) rfl zU ?_
    refine W_nil ?_
    refine W_sr ?_
    refine W_move rfl rfl ?_
    refine W_move rfl rfl ?_
    refine W_call (.cons rfl (.cons rfl .nil)) Tryd.call40 rfl ((rnext_L (H := (b4, .cells 41 5 (vaC v)) :: (bf, .cells 101 90 (vaRow (giveV l r v e))) :: H) (r := { r with V := giveV l r v e, asks := false, opn := trZ }) (e := e) (by obtain ⟨k, hk, hkl⟩ := hr.at_; have := hc.len; dsimp only; omega)).hsub zH) ?_
    rintro u H' rfl
    refine W_nil ?_
    refine W_sr ?_
    refine W_assign rfl rfl ?_
    refine W_nil ?_
    refine W_ret1m (H2 := (br, .cells 86 42 (runC bf ad n cap (nextF { r with V := giveV l r v e, asks := false, opn := trZ } e))) :: (bf, .cells 101 90 (vaRow (giveV l r v e))) :: H) Tryd.results17 rfl (.nil _) zH ?_
    unfold giveF
    rw [if_neg c0, nextF_V]
    exact ⟨rfl, rfl⟩
theorem insRow_len (l : List Ins) : (insRow l).length = l.length * 5 := flat_length cells_len l
theorem insRow_one : ∀ l : List Ins, (insRow l).all Value.oneCell' = true
  | [] => rfl
  | a :: l => by
    have e : insRow (a :: l) = a.cells ++ insRow l := rfl
    rw [e, List.all_append, insRow_one l]; rfl
set_option maxHeartbeats 1000000 in
theorem RClone_L {w0 : World} {H : Heap} {l : List Ins} {ad : Option Addr} {cap : Nat} (hl : l.length ≤ 1000) (hrow : Holds w0 H ad (insRow l))  : LCalls Tryd.prog w0 30 #[.slice ad l.length cap] (H) (fun v H' => ∃ HB, OwnS 59 5 v l.length (insRow l) HB ∧ H' = HB ++ H) := by
  refine L_enter (l := [.slice ad l.length cap]) Tryd.func30 rfl Tryd.ntmps30 rfl rfl ?_
  refine W_sr ?_
  refine W_assign rfl rfl ?_
  refine W_nil ?_
  refine W_seq ?_
  refine W_sr ?_
  refine W_move rfl rfl ?_
  refine W_x (X_sliceNil rfl rfl ty24) (fun _ h => by cases h) rfl ?_
  refine W_nil ?_
  refine W_condPS (p := ad = none) rfl (by cases ad <;> simp) (fun c0 => ?_) (fun c0 => ?_)
  · skip
    refine W_sr ?_
    refine W_assign rfl rfl ?_
    refine W_nil ?_
    refine W_ret1m (H2 := H) Tryd.results30 rfl (.nil _) zH ?_
    subst c0
    have hl0 : l = [] := by
      cases l with
      | nil => rfl
      | cons x l => obtain ⟨b, o, e, _⟩ := hrow 0 (.int .i64 x.op) rfl; cases e
    subst hl0
    exact ⟨[], .nil, rfl⟩
  · skip
    refine W_skip ?_
    refine W_sr ?_
    refine W_buildSlice (l := []) ty24 ty59 .nil rfl rfl rfl rfl rfl rfl rfl (fun b5 => ?_)
    refine W_move rfl rfl ?_
    refine W_append (news := insRow l) (m := l.length) (HB := [(b5, .cells 59 0 [])]) (H0 := H) rfl rfl ty24 ty59 rfl (by decide) (OwnS.own (n := 0) (cap := 0) rfl (Nat.le_refl _) (Nat.zero_le _)) (by rw [insRow_len]) (hrow.up zH) (insRow_one l) (by simp only [maxLen]; omega) (by omega) zH rfl (fun v' HB' hO' => ?_)
    refine W_assign rfl rfl ?_
    refine W_nil ?_
    refine W_ret1m (H2 := HB' ++ H) Tryd.results30 rfl (.nil _) zH ?_
    exact ⟨HB', by simpa using hO', rfl⟩
def newR (la : List Va) (fuel : Int) : Vs := ⟨newV la, 0, fuel, false, false, trZ, 0, 0⟩
theorem newR_ok {l : List Ins} (hc : CodeOk l) {la : List Va} (hl : la.length ≤ 5) (hw : ∀ v ∈ la, Wd v.n) {fuel : Int} (hf : 1 ≤ fuel ∧ fuel ≤ 256) : RunOk l (newR la fuel) :=
  ⟨newV_len hl, fun v hv => ((Good.new hl hw).of v hv).1, ⟨0, rfl, hc.pos⟩, ⟨by show 0 ≤ fuel; omega, hf.2⟩, fun h => by cases h⟩
set_option maxHeartbeats 1000000 in
theorem RNew_L {w0 : World} {H : Heap} {l : List Ins} {s : Bool} {ad adl : Option Addr} {cap capl : Nat} {fuel : Int} {la : List Va} (hi : InsOk l) (hlen : l.length ≤ 1000) (hcap : l.length ≤ cap) (hrow : Holds w0 H ad (insRow l)) (hla : la.length ≤ 5) (hrl : Holds w0 H adl (vaRow la)) (hf : 1 ≤ fuel ∧ fuel ≤ 256) (hT : Tab w0) : LCalls Tryd.prog w0 8 #[.agg #[.slice ad l.length cap, .bool s], .int .i64 fuel, .slice adl la.length capl] (H) (fun v H' => ((chkR l s).2 ≠ 0 ∧ v = .tuple #[.pointer none, .int .i64 (chkR l s).2] ∧ H' = H) ∨ ((chkR l s).2 = 0 ∧ ∃ br bf adc capc HB, v = .tuple #[.pointer (some ⟨br, 0, none⟩), .int .i64 0] ∧ Holds w0 (HB ++ []) adc (insRow l) ∧ H' = (br, .cells 86 42 (runC bf adc l.length capc (newR la fuel))) :: (HB ++ ((bf, .cells 101 90 (vaRow (newV la))) :: H)))) := by
  refine L_enter (l := [.agg #[.slice ad l.length cap, .bool s], .int .i64 fuel, .slice adl la.length capl]) Tryd.func8 rfl Tryd.ntmps8 rfl rfl ?_
  refine W_sr ?_
  refine W_box (l := [.slice ad l.length cap, .bool s]) rfl rfl rfl (fun b3 => ?_)
  refine W_assign rfl rfl ?_
  refine W_assign rfl rfl ?_
  refine W_nil ?_
  refine W_seq ?_
  refine W_sr ?_
  refine W_loadB (vs := [.slice ad l.length cap, .bool s]) rfl ty27 rfl (b := b3) zM rfl rfl rfl ?_
  refine W_callq (.cons rfl .nil) Tryd.call10 rfl (check_q hi (by omega) hcap (hrow.up zH) hT) ?_
  refine W_move rfl rfl ?_
  refine W_extract rfl rfl rfl ?_
  refine W_extract rfl rfl rfl ?_
  refine W_assign rfl rfl ?_
  refine W_assign rfl rfl ?_
  refine W_nil ?_
  refine W_sr ?_
  refine W_move rfl rfl ?_
  refine W_bin rfl rfl b_neq rfl ?_
  refine W_nil ?_
  refine W_condPS (p := (chkR l s).2 ≠ 0) rfl (by simp) (fun c0 => ?_) (fun c0 => ?_)
  · skip
    refine W_sr ?_
    refine W_move rfl rfl ?_
    refine W_assign rfl rfl ?_
    refine W_assign rfl rfl ?_
    refine W_nil ?_
    refine W_ret2m (H2 := H) Tryd.results8 rfl rfl (.nil _) zH ?_
    exact .inl ⟨c0, rfl, rfl⟩
  · skip
    refine W_skip ?_
    refine W_seq ?_
    refine W_sr ?_
    refine W_move rfl rfl ?_
    refine W_bin rfl rfl b_lss rfl ?_
    refine W_move rfl rfl ?_
    apply W_or
    iterate 4 exact rfl
    case h1 =>
      intro hg2
      refine W_gyes rfl rfl ?_
      refine W_move rfl rfl ?_
      refine W_gyes rfl rfl ?_
      refine W_bin rfl rfl b_gtr rfl ?_
      exact W_met rfl zR
    refine W_nil ?_
    refine W_condPS (p := fuel < 1 ∨ 256 < fuel) rfl (by simp) (fun c1 => ?_) (fun c1 => ?_)
    · skip
      refine W_sr ?_
      refine W_assign rfl rfl ?_
      refine W_assign rfl rfl ?_
      refine W_nil ?_
      refine W_ret2m (H2 := H) Tryd.results8 rfl rfl (.nil _) zH ?_
      omega
    · skip
      refine W_skip ?_
      refine W_sr ?_
      refine W_move rfl rfl ?_
      refine W_call (.cons rfl .nil) Tryd.call29 rfl ((New_L (H := (b3, .cells 27 2 [.slice ad l.length cap, .bool s]) :: H) hla (hrl.up zH)).hsub zH) ?_
      rintro v H' ⟨bf, rfl, rfl⟩
      refine W_move rfl rfl ?_
      refine W_extract rfl rfl rfl ?_
      refine W_extract rfl rfl rfl ?_
      refine W_assign rfl rfl ?_
      refine W_assign rfl rfl ?_
      refine W_nil ?_
      refine W_seq ?_
      refine W_sr ?_
      refine W_move rfl rfl ?_
      refine W_bin rfl rfl b_neq rfl ?_
      refine W_nil ?_
      refine W_condF rfl rfl ?_
      refine W_skip ?_
      refine W_sr ?_
      refine W_move rfl rfl ?_
      refine W_fieldAddr rfl fld27_0 (by decide) rfl ?_
      refine W_load (v := .slice ad l.length cap) rfl ty24 rfl (Cell.own (b := b3) zM rfl) rfl ?_
      refine W_call (.cons rfl .nil) Tryd.call30 rfl ((RClone_L (H := (bf, .cells 101 90 (vaRow (newV la))) :: (b3, .cells 27 2 [.slice ad l.length cap, .bool s]) :: H) hlen (hrow.up zH)).hsub zH) ?_
      rintro v H' ⟨HB, hO, rfl⟩
      obtain ⟨adc, capc, rfl, _, _, hcl⟩ := Holds.of_own (w0 := w0) (H := HB ++ []) hO (fun p hp => List.mem_append_left _ hp)
      refine W_move rfl rfl ?_
      refine W_build (l := (runC bf adc l.length capc (newR la fuel))) ty86 pl86 (.cons rfl rfl rfl rfl rfl (.cons rfl rfl rfl rfl rfl (.cons rfl rfl rfl rfl rfl .nil))) rfl rfl rfl ?_
      refine W_box (l := (runC bf adc l.length capc (newR la fuel))) rfl rfl rfl (fun b40 => ?_)
      refine W_assign rfl rfl ?_
      refine W_assign rfl rfl ?_
      refine W_nil ?_
      refine W_ret2m (H2 := (b40, .cells 86 42 (runC bf adc l.length capc (newR la fuel))) :: (HB ++ ((bf, .cells 101 90 (vaRow (newV la))) :: H))) Tryd.results8 rfl rfl (.nil _) zH ?_
      exact .inr ⟨Decidable.not_not.1 c0, b40, bf, adc, capc, HB, rfl, hcl, rfl⟩
end Go.Proofs.YtcmfldfeakmdoaaDoor
namespace Go.Proofs.YtcmfldfeakmdoaaDoor
open Go Go.Sl
attribute [local irreducible] W
def kM : Ins := ⟨11, 0, 0, 0, 7⟩
def kX : Ins := ⟨73, 0, 0, 0, 0⟩
def kC : Ins := ⟨72, 0, 0, 0, 1⟩
def kl1 : List Ins := [kM, kX]
def kl2 : List Ins := [kC, kX]
def ks1 : Vs := ⟨⟨false, 0, 0, 0, 7⟩ :: List.replicate 17 zeroV, 1, 1, false, false, trZ, 0, 0⟩
def ks2 : Vs := ⟨⟨false, 0, 0, 0, 7⟩ :: List.replicate 17 zeroV, 1, 0, false, true, trZ, 0, 7⟩
def ks3 : Vs := ⟨⟨false, 0, 0, 0, 7⟩ :: List.replicate 17 zeroV, 1, 0, false, true, trZ, 16, 0⟩
def ks4 : Vs := ⟨zeroV :: List.replicate 17 zeroV, 0, 8, true, false, { trZ with kind := 2, helper := 1 }, 0, 0⟩
def ks5 : Vs := ⟨⟨false, 0, 0, 0, 9⟩ :: List.replicate 17 zeroV, 1, 8, false, false, trZ, 0, 0⟩
def ks6 : Vs := ⟨⟨false, 0, 0, 0, 9⟩ :: List.replicate 17 zeroV, 1, 7, false, true, trZ, 0, 9⟩
theorem kz1 : (chkR kl1 false).2 = 0 := by decide +kernel
theorem kz2 : (chkR kl2 false).2 = 0 := by decide +kernel
theorem ke1 : goF kl1 (1 : Int).toNat (newR [] 2) = ks1 := by decide +kernel
theorem ke2 : goF kl1 (1 : Int).toNat ks1 = ks2 := by decide +kernel
theorem ke3 : goF kl1 (9 : Int).toNat (newR [] 1) = ks3 := by decide +kernel
theorem ke4 : goF kl2 (9 : Int).toNat (newR [] 9) = ks4 := by decide +kernel
theorem ke5 : giveF kl2 ks4 ⟨false, 0, 0, 0, 9⟩ 0 = (ks5, 0) := by decide +kernel
theorem ke6 : goF kl2 (9 : Int).toNat ks5 = ks6 := by decide +kernel
theorem ins_ok {x : Ins} (h : x = kM ∨ x = kX ∨ x = kC) : x.Ok := by
  rcases h with rfl | rfl | rfl <;> exact ⟨by decide, by decide, by decide, by decide, by decide⟩
theorem ki1 : InsOk kl1 := fun x hx => ins_ok (by simp only [kl1, List.mem_cons, List.not_mem_nil, or_false] at hx; rcases hx with h | h <;> simp [h])
theorem ki2 : InsOk kl2 := fun x hx => ins_ok (by simp only [kl2, List.mem_cons, List.not_mem_nil, or_false] at hx; rcases hx with h | h <;> simp [h])
theorem kc1 : CodeOk kl1 := chk_code kz1
theorem kc2 : CodeOk kl2 := chk_code kz2
theorem kr0 {l : List Ins} (hc : CodeOk l) (f : Int) (h : 1 ≤ f ∧ f ≤ 256) : RunOk l (newR [] f) := newR_ok hc (by decide) (fun v hv => by cases hv) h
theorem kr1 : RunOk kl1 ks1 := ke1 ▸ goF_ok kc1 _ (kr0 kc1 2 (by decide))
theorem kr4 : RunOk kl2 ks4 := ke4 ▸ goF_ok kc2 _ (kr0 kc2 9 (by decide))
theorem kr5 : RunOk kl2 ks5 := by
  have h := giveF_ok (v := ⟨false, 0, 0, 0, 9⟩) (e := 0) kr4 ⟨by decide, by decide⟩
  rw [ke5] at h
  exact h
set_option maxHeartbeats 4000000 in
theorem vknown_pure  : Pure Tryd.prog (Tab) 11 [] (.bool true) := by
  intro w0 H hT
  refine L_enter Tryd.func11 rfl Tryd.ntmps11 rfl rfl ?_
  refine W_sr ?_
  refine W_assign rfl rfl ?_
  refine W_nil ?_
  refine W_sr ?_
  refine W_build (l := kM.cells) ty59 pl59 (.cons rfl rfl rfl rfl rfl (.cons rfl rfl rfl rfl rfl .nil)) rfl rfl rfl ?_
  refine W_build (l := kC.cells) ty59 pl59 (.cons rfl rfl rfl rfl rfl (.cons rfl rfl rfl rfl rfl .nil)) rfl rfl rfl ?_
  refine W_build (l := kX.cells) ty59 pl59 (.cons rfl rfl rfl rfl rfl .nil) rfl rfl rfl ?_
  refine W_alloc (l := [.int .i64 0, .int .i64 0, .int .i64 0, .int .i64 0, .int .i64 0]) ty59 rfl rfl (fun b1 => ?_)
  refine W_alloc (l := [.int .i64 0, .int .i64 0, .int .i64 0, .int .i64 0, .int .i64 0]) ty59 rfl rfl (fun b2 => ?_)
  refine W_alloc (l := [.int .i64 0, .int .i64 0, .int .i64 0, .int .i64 0, .int .i64 0]) ty59 rfl rfl (fun b3 => ?_)
  refine W_storeA (l' := kM.cells) rfl rfl ty59 rfl rfl (b := b1) zM (by decide) rfl zU ?_
  refine W_storeA (l' := kC.cells) rfl rfl ty59 rfl rfl (b := b2) zM (by decide) rfl zU ?_
  refine W_storeA (l' := kX.cells) rfl rfl ty59 rfl rfl (b := b3) zM (by decide) rfl zU ?_
  refine W_nil ?_
  refine W_sr ?_
  refine W_loadB (vs := kM.cells) rfl ty59 rfl (b := b1) zM rfl rfl rfl ?_
  refine W_loadB (vs := kX.cells) rfl ty59 rfl (b := b3) zM rfl rfl rfl ?_
  refine W_buildSlice (l := insRow kl1) ty24 ty59 (.cons rfl rfl rfl rfl rfl (.cons rfl rfl rfl rfl rfl .nil)) rfl rfl rfl rfl rfl rfl rfl (fun b17 => ?_)
  refine W_build (l := [.slice (some ⟨b17, 0, none⟩) 2 2, .bool false]) ty27 pl27 (.cons rfl rfl rfl rfl rfl .nil) rfl rfl rfl ?_
  refine W_call (.cons rfl (.cons rfl (.cons rfl .nil))) Tryd.call8 rfl ((RNew_L (H := (b1, .cells 59 5 kM.cells) :: (b2, .cells 59 5 kC.cells) :: (b3, .cells 59 5 kX.cells) :: (b17, .cells 59 10 (insRow kl1)) :: H) (l := kl1) (s := false) (cap := 2) (capl := 0) (la := []) ki1 (by decide) (by decide) (Holds.own (b := b17) zM) (by decide) (adl := none) Holds.nil (fuel := 2) (by decide) hT).hsub zH) ?_
  rintro v H' (⟨hne, _, _⟩ | ⟨_, br1, bf1, ad1, cap1, HB1, rfl, hcl1, rfl⟩)
  · exact absurd kz1 hne
  refine W_move rfl rfl ?_
  refine W_extract rfl rfl rfl ?_
  refine W_extract rfl rfl rfl ?_
  refine W_assign rfl rfl ?_
  refine W_assign rfl rfl ?_
  refine W_nil ?_
  refine W_seq ?_
  refine W_sr ?_
  refine W_move rfl rfl ?_
  refine W_bin rfl rfl b_neq rfl ?_
  refine W_move rfl rfl ?_
  refine W_gyes rfl rfl ?_
  refine W_move rfl rfl ?_
  refine W_gyes rfl rfl ?_
  refine W_call (.cons rfl (.cons rfl .nil)) Tryd.call12 rfl ((RGo_L (H := HB1 ++ ((b1, .cells 59 5 kM.cells) :: (b2, .cells 59 5 kC.cells) :: (b3, .cells 59 5 kX.cells) :: (b17, .cells 59 10 (insRow kl1)) :: H)) (br := br1) (bf := bf1) (r := (newR [] 2)) (nn := 1) (l := kl1) rfl kc1 ki1 (kr0 kc1 2 (by decide)) (hcl1.up zH) (by decide) hT).hsub zH) ?_
  rintro v H' ⟨rfl, rfl⟩
  rw [ke1]
  refine W_gyes rfl rfl ?_
  refine W_field rfl fld44_0 rfl rfl ?_
  refine W_gyes rfl rfl ?_
  refine W_bin rfl rfl b_neq rfl ?_
  first | refine W_pickt rfl rfl rfl ?_ | refine W_pickf rfl rfl rfl ?_
  refine W_move rfl rfl ?_
  refine W_gyes rfl rfl ?_
  refine W_move rfl rfl ?_
  refine W_gyes rfl rfl ?_
  refine W_call (.cons rfl .nil) Tryd.call14 rfl ((RAt_L (H := (bf1, .cells 101 90 (vaRow ks1.V)) :: (HB1 ++ ((b1, .cells 59 5 kM.cells) :: (b2, .cells 59 5 kC.cells) :: (b3, .cells 59 5 kX.cells) :: (b17, .cells 59 10 (insRow kl1)) :: H))) (br := br1) (bf := bf1) (r := ks1)).hsub zH) ?_
  rintro v H' ⟨rfl, rfl⟩
  refine W_gyes rfl rfl ?_
  refine W_bin rfl rfl b_neq rfl ?_
  first | refine W_pickt rfl rfl rfl ?_ | refine W_pickf rfl rfl rfl ?_
  refine W_move rfl rfl ?_
  refine W_gyes rfl rfl ?_
  refine W_move rfl rfl ?_
  refine W_gyes rfl rfl ?_
  refine W_call (.cons rfl (.cons rfl .nil)) Tryd.call12 rfl ((RGo_L (H := HB1 ++ ((b1, .cells 59 5 kM.cells) :: (b2, .cells 59 5 kC.cells) :: (b3, .cells 59 5 kX.cells) :: (b17, .cells 59 10 (insRow kl1)) :: H)) (br := br1) (bf := bf1) (r := ks1) (nn := 1) (l := kl1) rfl kc1 ki1 kr1 (hcl1.up zH) (by decide) hT).hsub zH) ?_
  rintro v H' ⟨rfl, rfl⟩
  rw [ke2]
  refine W_gyes rfl rfl ?_
  refine W_field rfl fld44_0 rfl rfl ?_
  refine W_gyes rfl rfl ?_
  refine W_bin rfl rfl b_neq rfl ?_
  first | refine W_pickt rfl rfl rfl ?_ | refine W_pickf rfl rfl rfl ?_
  refine W_move rfl rfl ?_
  refine W_gyes rfl rfl ?_
  refine W_move rfl rfl ?_
  refine W_gyes rfl rfl ?_
  refine W_call (.cons rfl .nil) Tryd.call15 rfl ((RCode_L (H := (bf1, .cells 101 90 (vaRow ks2.V)) :: (HB1 ++ ((b1, .cells 59 5 kM.cells) :: (b2, .cells 59 5 kC.cells) :: (b3, .cells 59 5 kX.cells) :: (b17, .cells 59 10 (insRow kl1)) :: H))) (br := br1) (bf := bf1) (r := ks2)).hsub zH) ?_
  rintro v H' ⟨rfl, rfl⟩
  refine W_gyes rfl rfl ?_
  refine W_bin rfl rfl b_neq rfl ?_
  first | refine W_pickt rfl rfl rfl ?_ | refine W_pickf rfl rfl rfl ?_
  refine W_move rfl rfl ?_
  refine W_gyes rfl rfl ?_
  refine W_move rfl rfl ?_
  refine W_gyes rfl rfl ?_
  refine W_call (.cons rfl .nil) Tryd.call16 rfl ((RResult_L (H := (bf1, .cells 101 90 (vaRow ks2.V)) :: (HB1 ++ ((b1, .cells 59 5 kM.cells) :: (b2, .cells 59 5 kC.cells) :: (b3, .cells 59 5 kX.cells) :: (b17, .cells 59 10 (insRow kl1)) :: H))) (br := br1) (bf := bf1) (r := ks2)).hsub zH) ?_
  rintro v H' ⟨rfl, rfl⟩
  refine W_gyes rfl rfl ?_
  refine W_bin rfl rfl b_neq rfl ?_
  first | refine W_pickt rfl rfl rfl ?_ | refine W_pickf rfl rfl rfl ?_
  refine W_nil ?_
  refine W_condF rfl rfl ?_
  refine W_skip ?_
  refine W_sr ?_
  refine W_loadB (vs := kM.cells) rfl ty59 rfl (b := b1) zM rfl rfl rfl ?_
  refine W_loadB (vs := kX.cells) rfl ty59 rfl (b := b3) zM rfl rfl rfl ?_
  refine W_buildSlice (l := insRow kl1) ty24 ty59 (.cons rfl rfl rfl rfl rfl (.cons rfl rfl rfl rfl rfl .nil)) rfl rfl rfl rfl rfl rfl rfl (fun b54 => ?_)
  refine W_build (l := [.slice (some ⟨b54, 0, none⟩) 2 2, .bool false]) ty27 pl27 (.cons rfl rfl rfl rfl rfl .nil) rfl rfl rfl ?_
  refine W_call (.cons rfl (.cons rfl (.cons rfl .nil))) Tryd.call8 rfl ((RNew_L (H := (b1, .cells 59 5 kM.cells) :: (b2, .cells 59 5 kC.cells) :: (b3, .cells 59 5 kX.cells) :: (b54, .cells 59 10 (insRow kl1)) :: H) (l := kl1) (s := false) (cap := 2) (capl := 0) (la := []) ki1 (by decide) (by decide) (Holds.own (b := b54) zM) (by decide) (adl := none) Holds.nil (fuel := 1) (by decide) hT).hsub zH) ?_
  rintro v H' (⟨hne, _, _⟩ | ⟨_, br2, bf2, ad2, cap2, HB2, rfl, hcl2, rfl⟩)
  · exact absurd kz1 hne
  refine W_move rfl rfl ?_
  refine W_extract rfl rfl rfl ?_
  refine W_extract rfl rfl rfl ?_
  refine W_assign rfl rfl ?_
  refine W_assign rfl rfl ?_
  refine W_nil ?_
  refine W_seq ?_
  refine W_sr ?_
  refine W_move rfl rfl ?_
  refine W_call (.cons rfl (.cons rfl .nil)) Tryd.call12 rfl ((RGo_L (H := HB2 ++ ((b1, .cells 59 5 kM.cells) :: (b2, .cells 59 5 kC.cells) :: (b3, .cells 59 5 kX.cells) :: (b54, .cells 59 10 (insRow kl1)) :: H)) (br := br2) (bf := bf2) (r := (newR [] 1)) (nn := 9) (l := kl1) rfl kc1 ki1 (kr0 kc1 1 (by decide)) (hcl2.up zH) (by decide) hT).hsub zH) ?_
  rintro v H' ⟨rfl, rfl⟩
  rw [ke3]
  refine W_field rfl fld44_0 rfl rfl ?_
  refine W_bin rfl rfl b_neq rfl ?_
  refine W_move rfl rfl ?_
  refine W_gyes rfl rfl ?_
  refine W_move rfl rfl ?_
  refine W_gyes rfl rfl ?_
  refine W_call (.cons rfl .nil) Tryd.call15 rfl ((RCode_L (H := (bf2, .cells 101 90 (vaRow ks3.V)) :: (HB2 ++ ((b1, .cells 59 5 kM.cells) :: (b2, .cells 59 5 kC.cells) :: (b3, .cells 59 5 kX.cells) :: (b54, .cells 59 10 (insRow kl1)) :: H))) (br := br2) (bf := bf2) (r := ks3)).hsub zH) ?_
  rintro v H' ⟨rfl, rfl⟩
  refine W_gyes rfl rfl ?_
  refine W_bin rfl rfl b_neq rfl ?_
  first | refine W_pickt rfl rfl rfl ?_ | refine W_pickf rfl rfl rfl ?_
  refine W_nil ?_
  refine W_condF rfl rfl ?_
  refine W_skip ?_
  refine W_sr ?_
  refine W_loadB (vs := kC.cells) rfl ty59 rfl (b := b2) zM rfl rfl rfl ?_
  refine W_loadB (vs := kX.cells) rfl ty59 rfl (b := b3) zM rfl rfl rfl ?_
  refine W_buildSlice (l := insRow kl2) ty24 ty59 (.cons rfl rfl rfl rfl rfl (.cons rfl rfl rfl rfl rfl .nil)) rfl rfl rfl rfl rfl rfl rfl (fun b71 => ?_)
  refine W_build (l := [.slice (some ⟨b71, 0, none⟩) 2 2, .bool false]) ty27 pl27 (.cons rfl rfl rfl rfl rfl .nil) rfl rfl rfl ?_
  refine W_call (.cons rfl (.cons rfl (.cons rfl .nil))) Tryd.call8 rfl ((RNew_L (H := (b1, .cells 59 5 kM.cells) :: (b2, .cells 59 5 kC.cells) :: (b3, .cells 59 5 kX.cells) :: (b71, .cells 59 10 (insRow kl2)) :: H) (l := kl2) (s := false) (cap := 2) (capl := 0) (la := []) ki2 (by decide) (by decide) (Holds.own (b := b71) zM) (by decide) (adl := none) Holds.nil (fuel := 9) (by decide) hT).hsub zH) ?_
  rintro v H' (⟨hne, _, _⟩ | ⟨_, br3, bf3, ad3, cap3, HB3, rfl, hcl3, rfl⟩)
  · exact absurd kz2 hne
  refine W_move rfl rfl ?_
  refine W_extract rfl rfl rfl ?_
  refine W_extract rfl rfl rfl ?_
  refine W_assign rfl rfl ?_
  refine W_assign rfl rfl ?_
  refine W_nil ?_
  refine W_sr ?_
  refine W_move rfl rfl ?_
  refine W_call (.cons rfl (.cons rfl .nil)) Tryd.call12 rfl ((RGo_L (H := HB3 ++ ((b1, .cells 59 5 kM.cells) :: (b2, .cells 59 5 kC.cells) :: (b3, .cells 59 5 kX.cells) :: (b71, .cells 59 10 (insRow kl2)) :: H)) (br := br3) (bf := bf3) (r := (newR [] 9)) (nn := 9) (l := kl2) rfl kc2 ki2 (kr0 kc2 9 (by decide)) (hcl3.up zH) (by decide) hT).hsub zH) ?_
  rintro v H' ⟨rfl, rfl⟩
  rw [ke4]
  refine W_alloc (l := trC trZ) ty44 rfl rfl (fun b10 => ?_)
  refine W_storeA (l' := trC (trapOf ks4)) rfl rfl ty44 rfl rfl (b := b10) zM (Nat.le_of_ble_eq_true rfl) rfl zU ?_
  refine W_nil ?_
  refine W_sr ?_
  refine W_fieldAddr rfl fld44_0 (by decide) rfl ?_
  refine W_load rfl ty3 rfl (Cell.own zM rfl) rfl ?_
  refine W_bin rfl rfl b_eql rfl ?_
  refine W_move rfl rfl ?_
  refine W_gyes rfl rfl ?_
  refine W_fieldAddr rfl fld44_1 (by decide) rfl ?_
  refine W_gyes rfl rfl ?_
  refine W_load rfl ty3 rfl (Cell.own zM rfl) rfl ?_
  refine W_gyes rfl rfl ?_
  refine W_bin rfl rfl b_eql rfl ?_
  first | refine W_pickt rfl rfl rfl ?_ | refine W_pickf rfl rfl rfl ?_
  refine W_move rfl rfl ?_
  refine W_gyes rfl rfl ?_
  refine W_move rfl rfl ?_
  refine W_gyes rfl rfl ?_
  refine W_callp (.cons rfl .nil) Tryd.call21 rfl (T := fun _ => True) trivial (Num_pure _) ?_
  refine W_gyes rfl rfl ?_
  refine W_call (.cons rfl (.cons rfl (.cons rfl .nil))) Tryd.call17 rfl ((RGive_L (H := HB3 ++ ((b1, .cells 59 5 kM.cells) :: (b2, .cells 59 5 kC.cells) :: (b3, .cells 59 5 kX.cells) :: (b71, .cells 59 10 (insRow kl2)) :: H)) (br := br3) (bf := bf3) (r := ks4) (v := ⟨false, 0, 0, 0, 9⟩) (e := 0) (l := kl2) rfl kc2 ki2 kr4 (hcl3.up zH)).hsub zH) ?_
  rintro v H' ⟨rfl, rfl⟩
  rw [ke5]
  refine W_gyes rfl rfl ?_
  refine W_bin rfl rfl b_eql rfl ?_
  first | refine W_pickt rfl rfl rfl ?_ | refine W_pickf rfl rfl rfl ?_
  refine W_move rfl rfl ?_
  refine W_gyes rfl rfl ?_
  refine W_move rfl rfl ?_
  refine W_gyes rfl rfl ?_
  refine W_call (.cons rfl (.cons rfl .nil)) Tryd.call12 rfl ((RGo_L (H := HB3 ++ ((b1, .cells 59 5 kM.cells) :: (b2, .cells 59 5 kC.cells) :: (b3, .cells 59 5 kX.cells) :: (b71, .cells 59 10 (insRow kl2)) :: H)) (br := br3) (bf := bf3) (r := ks5) (nn := 9) (l := kl2) rfl kc2 ki2 kr5 (hcl3.up zH) (by decide) hT).hsub zH) ?_
  rintro v H' ⟨rfl, rfl⟩
  rw [ke6]
  refine W_gyes rfl rfl ?_
  refine W_field rfl fld44_0 rfl rfl ?_
  refine W_gyes rfl rfl ?_
  refine W_bin rfl rfl b_eql rfl ?_
  first | refine W_pickt rfl rfl rfl ?_ | refine W_pickf rfl rfl rfl ?_
  refine W_move rfl rfl ?_
  refine W_gyes rfl rfl ?_
  refine W_move rfl rfl ?_
  refine W_gyes rfl rfl ?_
  refine W_call (.cons rfl .nil) Tryd.call16 rfl ((RResult_L (H := (bf3, .cells 101 90 (vaRow ks6.V)) :: (HB3 ++ ((b1, .cells 59 5 kM.cells) :: (b2, .cells 59 5 kC.cells) :: (b3, .cells 59 5 kX.cells) :: (b71, .cells 59 10 (insRow kl2)) :: H))) (br := br3) (bf := bf3) (r := ks6)).hsub zH) ?_
  rintro v H' ⟨rfl, rfl⟩
  refine W_gyes rfl rfl ?_
  refine W_bin rfl rfl b_eql rfl ?_
  first | refine W_pickt rfl rfl rfl ?_ | refine W_pickf rfl rfl rfl ?_
  refine W_assign rfl rfl ?_
  refine W_nil ?_
  refine W_ret1m (H2 := H) Tryd.results11 rfl (.nil _) zH ?_
  exact ⟨rfl, rfl⟩
end Go.Proofs.YtcmfldfeakmdoaaDoor
namespace Go.Proofs.YtcmfldfeakmdoaaDoor
open Go Go.Sl Go.ChangeShapes Go.WideShapes Go.ChangeAt Go.RowKit
set_option maxRecDepth 100000
theorem own : ownKnob Tryd.prog.godebug = none := by kernel_rfl
theorem kids : Kids Tryd.prog (· < Tryd.prog.types.size) := kids_rows (by kernel_rfl) (by kernel_rfl)
theorem full : ∀ t e, t < Tryd.prog.types.size → Tryd.prog.underlying t = some (.slice e) → 0 < Tryd.prog.cellsOf e := slices_full_of Tryd.prog (by kernel_rfl)
theorem u4 : Tryd.prog.underlying 4 = some .bool := by kernel_rfl
theorem u3 : Tryd.prog.underlying 3 = some (.int .i64) := by kernel_rfl
theorem u57 : Tryd.prog.underlying 57 = some (.slice 5) := by kernel_rfl
theorem u5 : Tryd.prog.underlying 5 = some (.int .u8) := by kernel_rfl
theorem k5 : Tryd.prog.cellsOf 5 = 1 := by kernel_rfl
theorem u136 : Tryd.prog.underlying 136 = some (.array 256 5) := by kernel_rfl
theorem gAscii : Tryd.prog.globalNamed "strings.asciiSpace" = some 0 := by kernel_rfl
theorem tAscii : (Tryd.prog.globals[0]?).map (·.type) = some 136 := by kernel_rfl
abbrev laidL : List (String × DataW Unit) := [("unicode.White_Space", Rows.laid_unicode_White_Space), ("strings.asciiSpace", Rows.laid_strings_asciiSpace)]
theorem tab_laid {W : World} (h : laidMetH Tryd.prog laidL W) : Tab W :=
  Lib.tabIs_of_head (rest := []) gAscii tAscii u136 u5 (by kernel_rfl) (by kernel_rfl) (laidMet.tail (show laidMet Tryd.prog laidL W from h))
noncomputable def laidWorld (os : Os) : World :=
  let N := (World.settled Tryd.prog os).heap.size
  let w0 := World.holding Tryd.prog os ⟨#[.cells #[.int .u16 9, .int .u16 13, .int .u16 1, .int .u16 32, .int .u16 133, .int .u16 101, .int .u16 160, .int .u16 5760, .int .u16 5600, .int .u16 8192, .int .u16 8202, .int .u16 1, .int .u16 8232, .int .u16 8233, .int .u16 1, .int .u16 8239, .int .u16 8287, .int .u16 48, .int .u16 12288, .int .u16 12288, .int .u16 1] 158, .cells #[.slice (some ⟨N, 0, none⟩) 7 7, .slice none 0 0, .int .i64 2] 155], #[], []⟩
  let put (h : Array Obj) (g : Nat) (cs : Array Value) : Array Obj := h.modify g fun
    | .cells _ t frozen => .cells cs t frozen
    | o => o
  let h0 := put w0.heap 0 (Lib.asciiSpaceTab.map fun z => Value.int .u8 z).toArray
  { w0 with heap := put h0 1 #[.pointer (some ⟨N + 1, 0, none⟩)] }
theorem laid_met (os : Os) (args : Array Value) : laidMet Tryd.prog laidL ((laidWorld os).forCall (fun _ _ => 0) ⟨#[], args, []⟩).memory :=
  laidMet_of_run' 8 (by kernel_rfl) (by kernel_rfl)
instance : Inhabited Ins := ⟨⟨0, 0, 0, 0, 0⟩⟩
theorem Ins.cells_len (v : Ins) : (Ins.cells v).length = 5 := rfl
end Go.Proofs.YtcmfldfeakmdoaaDoor
namespace Go.Proofs.YtcmfldfeakmdoaaDoor
open Go Go.Sl
attribute [local irreducible] W
open Go.Script (lowL numL Bytes lowL_len lowL_bytes numL_nonneg numL_lt low_num)
def kLd (a : Nat) : Ins := ⟨64, 0, 0, (a : Int), 0⟩
def kb (a : Nat) : List Ins := [kLd a, kX]
theorem kb_fin : ∀ a : Fin 8, (chkR (kb a.val) false).2 = 0 ∧ isaChk (kLd a.val) = 0 := by decide +kernel
theorem kb_z {a : Nat} (h : a < 8) : (chkR (kb a) false).2 = 0 := (kb_fin ⟨a, h⟩).1
theorem kb_c {a : Nat} (h : a < 8) : CodeOk (kb a) := chk_code (kb_z h)
theorem kb_i {a : Nat} (h : a < 8) : InsOk (kb a) := fun x hx => by
  simp only [kb, List.mem_cons, List.not_mem_nil, or_false] at hx
  rcases hx with rfl | rfl
  · exact ⟨(show I64 64 from ⟨by decide, by decide⟩), (show I64 0 from ⟨by decide, by decide⟩), (show I64 0 from ⟨by decide, by decide⟩), ⟨by show -9223372036854775808 ≤ (a : Int); omega, by show (a : Int) ≤ 9223372036854775807; omega⟩, (show I64 0 from ⟨by decide, by decide⟩)⟩
  · exact ins_ok (.inr (.inl rfl))
def brun (V : List Va) (F : Int) : Vs := ⟨V, 0, F, false, false, trZ, 0, 0⟩
theorem brun_ok {a : Nat} (h : a < 8) {V : List Va} {F : Int} (hV : V.length = 18) (hw : ∀ v ∈ V, Wd v.n) (hF : 0 ≤ F ∧ F ≤ 256) : RunOk (kb a) (brun V F) := ⟨hV, hw, ⟨0, rfl, by show 0 < 2; decide⟩, hF, fun h => by cases h⟩
theorem brun_go {a : Nat} (h : a < 8) {V : List Va} {F : Int} (hV : V.length = 18) (hF : 2 ≤ F) : ∃ r, goF (kb a) (2 : Int).toNat (brun V F) = r ∧ r.over = true ∧ r.why = 0 ∧ r.res = (V.getD (10 + a) zeroV).n := by
  have hchk := (kb_fin ⟨a, h⟩).2
  have hd : doV V (kLd a) = (V.set 0 (V.getD (10 + a) zeroV), 0) := by
    have hr : rdV V true (kLd a).off = (V.getD (10 + a) zeroV, 0) := rd_word' h
    unfold doV
    rw [if_neg (fun e => e hchk), if_neg (show ¬ cls (kLd a).op = 1 from (by decide : ¬ cls 64 = 1)), if_pos (show (kLd a).op = 64 from rfl), hr, if_pos rfl]
    rfl
  have s1 : stepX (kb a) (brun V F) = ⟨V.set 0 (V.getD (10 + a) zeroV), 1, F - 1, false, false, trZ, 0, 0⟩ := by
    show oneX (brun V F) (kLd a) = _
    unfold oneX
    rw [if_neg (show ¬ (brun V F).fuel = 0 from (by show ¬ F = 0; omega)), if_neg (show ¬ (kLd a).op = 73 from (by decide : ¬ (64 : Int) = 73)), if_neg (show ¬ (kLd a).op = 72 from (by decide : ¬ (64 : Int) = 72)), if_neg (show ¬ ((kLd a).op = 66 ∨ (kLd a).op = 67) from (by decide : ¬ ((64 : Int) = 66 ∨ (64 : Int) = 67))), if_neg (show ¬ cls (kLd a).op = 2 from (by decide : ¬ cls 64 = 2)), show (brun V F).V = V from rfl, hd]
    rfl
  have s2 : oneX ⟨V.set 0 (V.getD (10 + a) zeroV), 1, F - 1, false, false, trZ, 0, 0⟩ kX = { endF ⟨V.set 0 (V.getD (10 + a) zeroV), 1, F - 1 - 1, false, false, trZ, 0, 0⟩ 0 with res := (rdV (V.set 0 (V.getD (10 + a) zeroV)) false 0).1.n } := by
    unfold oneX
    rw [if_neg (by show ¬ F - 1 = 0; omega), if_pos (show kX.op = 73 from rfl)]
  refine ⟨_, rfl, ?_⟩
  have e : goF (kb a) (2 : Int).toNat (brun V F) = oneX ⟨V.set 0 (V.getD (10 + a) zeroV), 1, F - 1, false, false, trZ, 0, 0⟩ kX := by
    show goF (kb a) 1 (stepX (kb a) (brun V F)) = _
    rw [s1]
    rfl
  rw [e, s2]
  refine ⟨rfl, rfl, ?_⟩
  have h0 : rdV (V.set 0 (V.getD (10 + a) zeroV)) false 0 = ((V.set 0 (V.getD (10 + a) zeroV)).getD 0 zeroV, 0) := rd_reg (k := 0) (by decide)
  show (rdV (V.set 0 (V.getD (10 + a) zeroV)) false 0).1.n = _
  rw [h0, List.getD_eq_getElem?_getD, List.getElem?_set_self (by omega)]
  rfl
def BCase (an : Nat) (c : List Int) : Prop := (∃ nn : Nat, an + nn ≤ 8 ∧ c.length = 8 * nn) ∨ badW an ((c.length / 8 : Nat) : Int) ∨ (an + c.length / 8 ≤ 8 ∧ c.length % 8 ≠ 0)
set_option maxHeartbeats 1000000 in
theorem RWrite_L {w0 : World} {H : Heap} {br bf n cap : Nat} {ad : Option Addr} {r : Vs} {b : List Int} {adb : Option Addr} {capb an nn : Nat} (hV : r.V.length = 18) (hb : an + nn ≤ 8) (hbl : b.length = 8 * nn) (hB : Bytes b) (hrow : Holds w0 H adb (byV b))  : LCalls Tryd.prog w0 24 #[.pointer (some ⟨br, 0, none⟩), .int .i64 (an : Int), .slice adb b.length capb] ((br, .cells 86 42 (runC bf ad n cap r)) :: (bf, .cells 101 90 (vaRow (r).V)) :: H) (fun v H' => v = .int .i64 0 ∧ H' = (br, .cells 86 42 (runC bf ad n cap r)) :: (bf, .cells 101 90 (vaRow (wrN r.V an b nn))) :: H) := by
  refine L_enter (l := [.pointer (some ⟨br, 0, none⟩), .int .i64 (an : Int), .slice adb b.length capb]) Tryd.func24 rfl Tryd.ntmps24 rfl rfl ?_
  refine W_sr ?_
  refine W_assign rfl rfl ?_
  refine W_nil ?_
  refine W_sr ?_
  refine W_move rfl rfl ?_
  refine W_call (.cons rfl .nil) Tryd.call43 rfl ((rinner_L (r := r) (H := (bf, .cells 101 90 (vaRow r.V)) :: H)).hsub zH) ?_
  rintro v H' ⟨rfl, rfl⟩
  refine W_move rfl rfl ?_
  refine W_move rfl rfl ?_
  refine W_call (.cons rfl (.cons rfl (.cons rfl .nil))) Tryd.call44 rfl ((write_L (H := (br, .cells 86 42 (runC bf ad n cap r)) :: H) (V := r.V) hV hb hbl hB (hrow.up zH)).hsub zH) ?_
  rintro v H' ⟨rfl, rfl⟩
  refine W_assign rfl rfl ?_
  refine W_nil ?_
  refine W_ret1m (H2 := (br, .cells 86 42 (runC bf ad n cap r)) :: (bf, .cells 101 90 (vaRow (wrN r.V an b nn))) :: H) Tryd.results24 rfl (.nil _) zH ?_
  exact ⟨rfl, rfl⟩
set_option maxHeartbeats 1000000 in
theorem RWrite_bad {w0 : World} {H : Heap} {br bf n cap : Nat} {ad : Option Addr} {r : Vs} {b : List Int} {adb : Option Addr} {capb an nn : Nat} (ha : I64 (an : Int)) (hn : b.length ≤ 4611686018427387904) (hb : badW (an : Int) ((b.length / 8 : Nat) : Int))  : LCalls Tryd.prog w0 24 #[.pointer (some ⟨br, 0, none⟩), .int .i64 (an : Int), .slice adb b.length capb] ((br, .cells 86 42 (runC bf ad n cap r)) :: (bf, .cells 101 90 (vaRow (r).V)) :: H) (fun v H' => v = .int .i64 1 ∧ H' = (br, .cells 86 42 (runC bf ad n cap r)) :: (bf, .cells 101 90 (vaRow r.V)) :: H) := by
  refine L_enter (l := [.pointer (some ⟨br, 0, none⟩), .int .i64 (an : Int), .slice adb b.length capb]) Tryd.func24 rfl Tryd.ntmps24 rfl rfl ?_
  refine W_sr ?_
  refine W_assign rfl rfl ?_
  refine W_nil ?_
  refine W_sr ?_
  refine W_move rfl rfl ?_
  refine W_call (.cons rfl .nil) Tryd.call43 rfl ((rinner_L (r := r) (H := (bf, .cells 101 90 (vaRow r.V)) :: H)).hsub zH) ?_
  rintro v H' ⟨rfl, rfl⟩
  refine W_move rfl rfl ?_
  refine W_move rfl rfl ?_
  refine W_callp (.cons rfl (.cons rfl (.cons rfl .nil))) Tryd.call44 rfl (T := fun _ => True) trivial (write_bad bf ha hn hb) ?_
  refine W_assign rfl rfl ?_
  refine W_nil ?_
  refine W_ret1m (H2 := (br, .cells 86 42 (runC bf ad n cap r)) :: (bf, .cells 101 90 (vaRow r.V)) :: H) Tryd.results24 rfl (.nil _) zH ?_
  exact ⟨rfl, rfl⟩
set_option maxHeartbeats 1000000 in
theorem RWrite_odd {w0 : World} {H : Heap} {br bf n cap : Nat} {ad : Option Addr} {r : Vs} {b : List Int} {adb : Option Addr} {capb an nn : Nat} (hn : b.length ≤ 4611686018427387904) (hb : an + b.length / 8 ≤ 8) (ho : b.length % 8 ≠ 0)  : LCalls Tryd.prog w0 24 #[.pointer (some ⟨br, 0, none⟩), .int .i64 (an : Int), .slice adb b.length capb] ((br, .cells 86 42 (runC bf ad n cap r)) :: (bf, .cells 101 90 (vaRow (r).V)) :: H) (fun v H' => v = .int .i64 1 ∧ H' = (br, .cells 86 42 (runC bf ad n cap r)) :: (bf, .cells 101 90 (vaRow r.V)) :: H) := by
  refine L_enter (l := [.pointer (some ⟨br, 0, none⟩), .int .i64 (an : Int), .slice adb b.length capb]) Tryd.func24 rfl Tryd.ntmps24 rfl rfl ?_
  refine W_sr ?_
  refine W_assign rfl rfl ?_
  refine W_nil ?_
  refine W_sr ?_
  refine W_move rfl rfl ?_
  refine W_call (.cons rfl .nil) Tryd.call43 rfl ((rinner_L (r := r) (H := (bf, .cells 101 90 (vaRow r.V)) :: H)).hsub zH) ?_
  rintro v H' ⟨rfl, rfl⟩
  refine W_move rfl rfl ?_
  refine W_move rfl rfl ?_
  refine W_callp (.cons rfl (.cons rfl (.cons rfl .nil))) Tryd.call44 rfl (T := fun _ => True) trivial (write_odd bf hn hb ho) ?_
  refine W_assign rfl rfl ?_
  refine W_nil ?_
  refine W_ret1m (H2 := (br, .cells 86 42 (runC bf ad n cap r)) :: (bf, .cells 101 90 (vaRow r.V)) :: H) Tryd.results24 rfl (.nil _) zH ?_
  exact ⟨rfl, rfl⟩
set_option maxHeartbeats 1000000 in
theorem RRead_L {w0 : World} {H : Heap} {br bf n cap : Nat} {ad : Option Addr} {r : Vs} {an nn : Nat} (hV : r.V.length = 18) (hb : an + nn ≤ 8)  : LCalls Tryd.prog w0 26 #[.pointer (some ⟨br, 0, none⟩), .int .i64 (an : Int), .int .i64 (nn : Int)] ((br, .cells 86 42 (runC bf ad n cap r)) :: (bf, .cells 101 90 (vaRow (r).V)) :: H) (fun v H' => ∃ sv HB, v = .tuple #[sv, .int .i64 (rdB r.V an nn).2] ∧ OwnS 5 1 sv (rdB r.V an nn).1.length (byV (rdB r.V an nn).1) HB ∧ H' = HB ++ ((br, .cells 86 42 (runC bf ad n cap r)) :: (bf, .cells 101 90 (vaRow (r).V)) :: H)) := by
  refine L_enter (l := [.pointer (some ⟨br, 0, none⟩), .int .i64 (an : Int), .int .i64 (nn : Int)]) Tryd.func26 rfl Tryd.ntmps26 rfl rfl ?_
  refine W_sr ?_
  refine W_assign rfl rfl ?_
  refine W_assign rfl rfl ?_
  refine W_nil ?_
  refine W_sr ?_
  refine W_move rfl rfl ?_
  refine W_call (.cons rfl .nil) Tryd.call43 rfl ((rinner_L (r := r) (H := (bf, .cells 101 90 (vaRow r.V)) :: H)).hsub zH) ?_
  rintro v H' ⟨rfl, rfl⟩
  refine W_move rfl rfl ?_
  refine W_move rfl rfl ?_
  refine W_call (.cons rfl (.cons rfl (.cons rfl .nil))) Tryd.call45 rfl ((read_L (H := (br, .cells 86 42 (runC bf ad n cap r)) :: H) (V := r.V) hV hb).hsub zH) ?_
  rintro v H' ⟨sv, HB, rfl, hO, rfl⟩
  refine W_extract rfl rfl rfl ?_
  refine W_extract rfl rfl rfl ?_
  refine W_assign rfl rfl ?_
  refine W_assign rfl rfl ?_
  refine W_nil ?_
  refine W_ret2m (H2 := HB ++ ((br, .cells 86 42 (runC bf ad n cap r)) :: (bf, .cells 101 90 (vaRow (r).V)) :: H)) Tryd.results26 rfl rfl (.nil _) zH ?_
  exact ⟨sv, HB, rfl, hO, rfl⟩
set_option maxHeartbeats 1000000 in
theorem RRead_bad {w0 : World} {H : Heap} {br bf n cap : Nat} {ad : Option Addr} {r : Vs} {a z : Int} (ha : I64 a) (hn : I64 z) (hb : badW a z)  : LCalls Tryd.prog w0 26 #[.pointer (some ⟨br, 0, none⟩), .int .i64 a, .int .i64 z] ((br, .cells 86 42 (runC bf ad n cap r)) :: (bf, .cells 101 90 (vaRow (r).V)) :: H) (fun v H' => v = .tuple #[.slice none 0 0, .int .i64 1] ∧ H' = (br, .cells 86 42 (runC bf ad n cap r)) :: (bf, .cells 101 90 (vaRow (r).V)) :: H) := by
  refine L_enter (l := [.pointer (some ⟨br, 0, none⟩), .int .i64 a, .int .i64 z]) Tryd.func26 rfl Tryd.ntmps26 rfl rfl ?_
  refine W_sr ?_
  refine W_assign rfl rfl ?_
  refine W_assign rfl rfl ?_
  refine W_nil ?_
  refine W_sr ?_
  refine W_move rfl rfl ?_
  refine W_call (.cons rfl .nil) Tryd.call43 rfl ((rinner_L (r := r) (H := (bf, .cells 101 90 (vaRow r.V)) :: H)).hsub zH) ?_
  rintro v H' ⟨rfl, rfl⟩
  refine W_move rfl rfl ?_
  refine W_move rfl rfl ?_
  refine W_callp (.cons rfl (.cons rfl (.cons rfl .nil))) Tryd.call45 rfl (T := fun _ => True) trivial (read_bad bf ha hn hb) ?_
  refine W_extract rfl rfl rfl ?_
  refine W_extract rfl rfl rfl ?_
  refine W_assign rfl rfl ?_
  refine W_assign rfl rfl ?_
  refine W_nil ?_
  refine W_ret2m (H2 := (br, .cells 86 42 (runC bf ad n cap r)) :: (bf, .cells 101 90 (vaRow (r).V)) :: H) Tryd.results26 rfl rfl (.nil _) zH ?_
  exact ⟨rfl, rfl⟩
end Go.Proofs.YtcmfldfeakmdoaaDoor
namespace Go.Proofs.YtcmfldfeakmdoaaDoor
open Go Go.Sl
attribute [local irreducible] W
theorem RNew_ok {w0 : World} {H : Heap} {l : List Ins} {s : Bool} {ad adl : Option Addr} {cap capl : Nat} {fuel : Int} {la : List Va} (hz : (chkR l s).2 = 0) (hi : InsOk l) (hlen : l.length ≤ 1000) (hcap : l.length ≤ cap) (hrow : Holds w0 H ad (insRow l)) (hla : la.length ≤ 5) (hrl : Holds w0 H adl (vaRow la)) (hf : 1 ≤ fuel ∧ fuel ≤ 256) (hT : Tab w0) :
    LCalls Tryd.prog w0 8 #[.agg #[.slice ad l.length cap, .bool s], .int .i64 fuel, .slice adl la.length capl] H (fun v H' => ∃ br bf adc capc HB, v = .tuple #[.pointer (some ⟨br, 0, none⟩), .int .i64 0] ∧ Holds w0 (HB ++ []) adc (insRow l) ∧ H' = (br, .cells 86 42 (runC bf adc l.length capc (newR la fuel))) :: (HB ++ ((bf, .cells 101 90 (vaRow (newV la))) :: H))) := by
  refine (RNew_L hi hlen hcap hrow hla hrl hf hT).mono ?_
  rintro v H' (⟨h, _⟩ | ⟨_, h⟩)
  · exact absurd hz h
  · exact h
theorem fuel_is {z : Int} (hz : -9223372036854775808 ≤ z ∧ z ≤ 9223372036854775807) {d : Nat} (hd : d = 256 ∨ d = 255 ∨ d = 20 ∨ d = 8) : ∃ f : Nat, f < d ∧ (d = 256 ∨ d = 8 → (f : Int) = z % d) ∧ (IntKind.u64.wrap z).tmod d = (f : Int) ∧ (0 ≤ (IntKind.u64.wrap z)) := by
  have h0 : 0 ≤ IntKind.u64.wrap z := by rw [u64_wrap]; omega
  refine ⟨((IntKind.u64.wrap z).tmod d).toNat, ?_, ?_, ?_, h0⟩
  all_goals rw [Int.tmod_eq_emod_of_nonneg h0]
  · rcases hd with rfl | rfl | rfl | rfl <;> omega
  · rintro (rfl | rfl) <;> rw [u64_wrap] <;> omega
  · rcases hd with rfl | rfl | rfl | rfl <;> omega
end Go.Proofs.YtcmfldfeakmdoaaDoor
