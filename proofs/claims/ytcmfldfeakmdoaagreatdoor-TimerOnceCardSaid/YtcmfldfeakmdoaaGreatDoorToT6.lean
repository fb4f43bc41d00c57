/-
  Own work: contracts of functions that the statement reaches, and plain facts on what they compute; each theorem says its conditions.
-/
import Derived.Test.YtcmfldfeakmdoaaGreatDoorToT4
import Derived.Test.YtcmfldfeakmdoaaGreatDoorToT5
import Derived.Test.YtcmfldfeakmdoaaGreatDoorToS2
import Derived.Test.YtcmfldfeakmdoaaGreatDoorToA
set_option linter.all false
set_option linter.unusedSimpArgs false
set_option linter.unusedVariables false
namespace Go.Proofs.YtcmfldfeakmdoaaGreatDoor
open Go Go.Sl
attribute [local irreducible] W
structure Tone where
  made : Bool
  shut : Bool
  prog : Int
  starts : Int
def oneC (o : Tone) : List Value := [.bool o.made, .bool o.shut, .int .i64 o.prog, .int .i64 o.starts]
theorem oneC_len (o : Tone) : (oneC o).length = 4 := rfl
def tmRow (pb bb : Nat) (A : List Tone) : List Value := .pointer (some ⟨pb, 0, none⟩) :: .pointer (some ⟨bb, 0, none⟩) :: A.flatMap oneC
def zTone : Tone := ⟨false, false, 0, 0⟩
theorem flat_get {A : List Tone} {i j : Nat} {o : Tone} (h : A[i]? = some o) (hj : j < 4) : (A.flatMap oneC)[i * 4 + j]? = (oneC o)[j]? := by
  induction A generalizing i with
  | nil => simp at h
  | cons x A ih =>
    cases i with
    | zero =>
      obtain rfl : x = o := by simpa using h
      rw [Nat.zero_mul, Nat.zero_add, List.flatMap_cons, List.getElem?_append_left (by rw [oneC_len]; exact hj)]
    | succ i =>
      rw [List.flatMap_cons, List.getElem?_append_right (by rw [oneC_len]; omega), oneC_len, show (i + 1) * 4 + j - 4 = i * 4 + j by omega]
      exact ih (by simpa using h)
theorem tm_len {pb bb : Nat} (A : List Tone) : (tmRow pb bb A).length = A.length * 4 + 2 := by
  unfold tmRow; rw [List.length_cons, List.length_cons, flat_length oneC_len]
theorem tm_get {pb bb i j : Nat} {A : List Tone} {o : Tone} (h : A[i]? = some o) (hj : j < 4) : (tmRow pb bb A)[2 + i * 4 + j]? = (oneC o)[j]? := by
  unfold tmRow
  rw [show 2 + i * 4 + j = (i * 4 + j) + 1 + 1 by omega, List.getElem?_cons_succ, List.getElem?_cons_succ, flat_get h hj]
theorem tm_lt {pb bb i j : Nat} {A : List Tone} {o : Tone} (h : A[i]? = some o) (hj : j < 4) : Nat.blt (2 + i * 4 + j) (tmRow pb bb A).length = true := by
  have := (List.getElem?_eq_some_iff.1 h).1
  rw [tm_len, Nat.blt_eq]; omega
theorem tm_get0 {pb bb i : Nat} {A : List Tone} {o : Tone} (h : A[i]? = some o) : (tmRow pb bb A)[2 + i * 4 + 0]? = some (.bool o.made) := tm_get (j := 0) h (by decide)
theorem tm_get1 {pb bb i : Nat} {A : List Tone} {o : Tone} (h : A[i]? = some o) : (tmRow pb bb A)[2 + i * 4 + 1]? = some (.bool o.shut) := tm_get (j := 1) h (by decide)
theorem tm_get2 {pb bb i : Nat} {A : List Tone} {o : Tone} (h : A[i]? = some o) : (tmRow pb bb A)[2 + i * 4 + 2]? = some (.int .i64 o.prog) := tm_get (j := 2) h (by decide)
theorem tm_get3 {pb bb i : Nat} {A : List Tone} {o : Tone} (h : A[i]? = some o) : (tmRow pb bb A)[2 + i * 4 + 3]? = some (.int .i64 o.starts) := tm_get (j := 3) h (by decide)
theorem flat_setj {A : List Tone} {i j : Nat} {o o' : Tone} {v : Value} (h : A[i]? = some o) (hj : j < 4) (e : (oneC o).set j v = oneC o') : (A.flatMap oneC).set (i * 4 + j) v = (A.set i o').flatMap oneC := by
  induction A generalizing i with
  | nil => simp at h
  | cons x A ih =>
    cases i with
    | zero =>
      obtain rfl : x = o := by simpa using h
      rw [Nat.zero_mul, Nat.zero_add, List.flatMap_cons, List.set_append_left _ _ (by rw [oneC_len]; exact hj), e]
      rfl
    | succ i =>
      rw [List.flatMap_cons, List.set_append_right _ _ (by rw [oneC_len]; omega), oneC_len, show (i + 1) * 4 + j - 4 = i * 4 + j by omega, ih (by simpa using h)]
      rfl
theorem tm_set {pb bb i j : Nat} {A : List Tone} {o o' : Tone} {v : Value} (h : A[i]? = some o) (hj : j < 4) (e : (oneC o).set j v = oneC o') : (tmRow pb bb A).set (2 + i * 4 + j) v = tmRow pb bb (A.set i o') := by
  unfold tmRow
  rw [show 2 + i * 4 + j = (i * 4 + j) + 1 + 1 by omega, List.set_cons_succ, List.set_cons_succ, flat_setj h hj e]
theorem tm_set0 {pb bb i : Nat} {A : List Tone} {o : Tone} {x : Bool} (h : A[i]? = some o) : (tmRow pb bb A).set (2 + i * 4 + 0) (.bool x) = tmRow pb bb (A.set i { o with made := x }) := tm_set (j := 0) h (by decide) rfl
theorem tm_set1 {pb bb i : Nat} {A : List Tone} {o : Tone} {x : Bool} (h : A[i]? = some o) : (tmRow pb bb A).set (2 + i * 4 + 1) (.bool x) = tmRow pb bb (A.set i { o with shut := x }) := tm_set (j := 1) h (by decide) rfl
theorem tm_set2 {pb bb i : Nat} {A : List Tone} {o : Tone} {x : Int} (h : A[i]? = some o) : (tmRow pb bb A).set (2 + i * 4 + 2) (.int .i64 x) = tmRow pb bb (A.set i { o with prog := x }) := tm_set (j := 2) h (by decide) rfl
theorem tm_set3 {pb bb i : Nat} {A : List Tone} {o : Tone} {x : Int} (h : A[i]? = some o) : (tmRow pb bb A).set (2 + i * 4 + 3) (.int .i64 x) = tmRow pb bb (A.set i { o with starts := x }) := tm_set (j := 3) h (by decide) rfl
theorem tm_load {pb bb i : Nat} {A : List Tone} {o : Tone} (h : A[i]? = some o) : ((tmRow pb bb A).drop (2 + i * 4)).take 4 = oneC o := by
  apply List.ext_getElem?
  intro j
  by_cases c : j < 4
  · rw [List.getElem?_take, if_pos c, List.getElem?_drop, tm_get h c]
  · rw [List.getElem?_eq_none (by rw [List.length_take]; omega), List.getElem?_eq_none (by rw [oneC_len]; omega)]
structure AsOk (A : List Tone) : Prop where
  len : A.length = 256
  rng : ∀ o ∈ A, 0 ≤ o.prog ∧ o.prog ≤ 16
theorem AsOk.set {A : List Tone} (h : AsOk A) (i : Nat) {o : Tone} (hp : 0 ≤ o.prog ∧ o.prog ≤ 16) : AsOk (A.set i o) := ⟨by rw [List.length_set, h.len], fun x hx => by
  rcases List.mem_or_eq_of_mem_set hx with hx | rfl
  · exact h.rng x hx
  · exact hp⟩
theorem AsOk.at {A : List Tone} (h : AsOk A) {i : Nat} (hi : i < 256) : ∃ o, A[i]? = some o := ⟨_, List.getElem?_eq_getElem (by rw [h.len]; exact hi)⟩
inductive TimerH (tb n : Nat) (Ws : List Wl) (Q Rs : List (Int × Int)) (As : List Tone) : Heap → Prop
  | mk {pb bb : Nat} {HP HB : Heap} (hP : PendH pb n Q Rs HP) (hB : BankH bb Ws HB) (hA : AsOk As) (hn : Ws.length = n ∧ n ≤ 64) : TimerH tb n Ws Q Rs As ((tb, .cells 91 1026 (tmRow pb bb As)) :: (HP ++ HB))
set_option maxHeartbeats 1000000 in
theorem with_lo {tb : Nat} {id : Int} {f : Value} (hi : id < 0) : Pure Tryz.prog (fun _ => True) 49 [.pointer (some ⟨tb, 0, none⟩), .int .i64 id, f] (.int .i64 2) := by
  intro w0 H hT
  refine L_enter Tryz.func49 rfl Tryz.ntmps49 rfl rfl ?_
  refine W_sr ?_
  refine W_assign rfl rfl ?_
  refine W_nil ?_
  refine W_seq ?_
  refine W_block ?_
  refine W_sr ?_
  refine W_move rfl rfl ?_
  refine W_x (X_ptrNil rfl rfl ty25) (fun _ h => by cases h) rfl ?_
  refine W_assign rfl rfl ?_
  refine W_nil ?_
  refine W_condF rfl rfl ?_
  refine W_sr ?_
  refine W_move rfl rfl ?_
  refine W_bin rfl rfl b_lss rfl ?_
  first | rw [decide_eq_true (by omega)] | rw [decide_eq_false (by omega)]
  refine W_move rfl rfl ?_
  refine W_gno rfl rfl rfl ?_
  refine W_gno rfl rfl rfl ?_
  first | refine W_pickt rfl rfl rfl ?_ | refine W_pickf rfl rfl rfl ?_
  refine W_assign rfl rfl ?_
  refine W_nil ?_
  refine W_condT rfl rfl ?_
  refine W_sr ?_
  refine W_assign rfl rfl ?_
  refine W_nil ?_
  refine W_ret1m (H2 := H) Tryz.results49 rfl (.nil _) zH ?_
  exact ⟨rfl, rfl⟩
set_option maxHeartbeats 1000000 in
theorem with_hi {tb : Nat} {id : Int} {f : Value} (hi : 256 ≤ id) : Pure Tryz.prog (fun _ => True) 49 [.pointer (some ⟨tb, 0, none⟩), .int .i64 id, f] (.int .i64 2) := by
  intro w0 H hT
  refine L_enter Tryz.func49 rfl Tryz.ntmps49 rfl rfl ?_
  refine W_sr ?_
  refine W_assign rfl rfl ?_
  refine W_nil ?_
  refine W_seq ?_
  refine W_block ?_
  refine W_sr ?_
  refine W_move rfl rfl ?_
  refine W_x (X_ptrNil rfl rfl ty25) (fun _ h => by cases h) rfl ?_
  refine W_assign rfl rfl ?_
  refine W_nil ?_
  refine W_condF rfl rfl ?_
  refine W_sr ?_
  refine W_move rfl rfl ?_
  refine W_bin rfl rfl b_lss rfl ?_
  first | rw [decide_eq_true (by omega)] | rw [decide_eq_false (by omega)]
  refine W_move rfl rfl ?_
  refine W_gyes rfl rfl ?_
  refine W_move rfl rfl ?_
  refine W_gyes rfl rfl ?_
  refine W_bin rfl rfl b_geq rfl ?_
  first | rw [decide_eq_true (by omega)] | rw [decide_eq_false (by omega)]
  first | refine W_pickt rfl rfl rfl ?_ | refine W_pickf rfl rfl rfl ?_
  refine W_assign rfl rfl ?_
  refine W_nil ?_
  refine W_condT rfl rfl ?_
  refine W_sr ?_
  refine W_assign rfl rfl ?_
  refine W_nil ?_
  refine W_ret1m (H2 := H) Tryz.results49 rfl (.nil _) zH ?_
  exact ⟨rfl, rfl⟩
theorem with_out {tb : Nat} {id : Int} {f : Value} (hi : ¬ (0 ≤ id ∧ id < 256)) : Pure Tryz.prog (fun _ => True) 49 [.pointer (some ⟨tb, 0, none⟩), .int .i64 id, f] (.int .i64 2) := by
  by_cases h : id < 0
  · exact with_lo h
  · exact with_hi (by omega)
set_option maxHeartbeats 1000000 in
theorem with_in {w0 : World} {H : Heap} {tb i fi : Nat} {ca : List Value} {R : Value → Heap → Prop} (hfi : ∀ (args : Array Value) (w : World), (callFunc fi args).run Tryz.prog w = .ok (.enter fi args) w) (hi : i < 256) (hdo : LCalls Tryz.prog w0 fi (#[] ++ #[.pointer (some ⟨tb, 2 + i * 4, none⟩)] ++ ca.toArray) H R) (hE : ∀ v H2, R v H2 → ∃ e, v = .int .i64 e)  : LCalls Tryz.prog w0 49 #[.pointer (some ⟨tb, 0, none⟩), .int .i64 (i : Int), Value.func (.func fi) #[] ca.toArray] (H) (R) := by
  refine L_enter (l := [.pointer (some ⟨tb, 0, none⟩), .int .i64 (i : Int), Value.func (.func fi) #[] ca.toArray]) Tryz.func49 rfl Tryz.ntmps49 rfl rfl ?_
  refine W_sr ?_
  refine W_assign rfl rfl ?_
  refine W_nil ?_
  refine W_seq ?_
  refine W_block ?_
  refine W_sr ?_
  refine W_move rfl rfl ?_
  refine W_x (X_ptrNil rfl rfl ty25) (fun _ h => by cases h) rfl ?_
  refine W_assign rfl rfl ?_
  refine W_nil ?_
  refine W_condF rfl rfl ?_
  refine W_sr ?_
  refine W_move rfl rfl ?_
  refine W_bin rfl rfl b_lss rfl ?_
  first | rw [decide_eq_true (by omega)] | rw [decide_eq_false (by omega)]
  refine W_move rfl rfl ?_
  refine W_gyes rfl rfl ?_
  refine W_move rfl rfl ?_
  refine W_gyes rfl rfl ?_
  refine W_bin rfl rfl b_geq rfl ?_
  first | rw [decide_eq_true (by omega)] | rw [decide_eq_false (by omega)]
  first | refine W_pickt rfl rfl rfl ?_ | refine W_pickf rfl rfl rfl ?_
  refine W_assign rfl rfl ?_
  refine W_nil ?_
  refine W_condF rfl rfl ?_
  refine W_skip ?_
  refine W_blk ?_
  refine W_sr ?_
  refine W_move rfl rfl ?_
  refine W_move rfl rfl ?_
  refine W_move rfl rfl ?_
  refine W_nilCheck rfl rfl ?_
  refine W_fieldAddr rfl fld91_2 (by decide) rfl ?_
  refine W_indexAddrA (j := i) rfl rfl ty89 ty88 (by first | rfl | omega) (by first | decide | omega | simp) rfl rfl ?_
  refine W_callv (fa := #[]) (ca := ca.toArray) rfl (.cons rfl .nil) hfi rfl (hdo) ?_
  rintro v H' hR
  refine W_assign rfl rfl ?_
  refine W_nil ?_
  refine W_ret1m (H2 := H') Tryz.results49 rfl (.nil _) zH ?_
  exact hR
set_option maxHeartbeats 1000000 in
theorem open1_gone {w0 : World} {H : Heap} {tb i b5 : Nat} {pb bb : Nat} {As : List Tone} {o : Tone} (hA : As[i]? = some o) (hm : (tb, .cells 91 1026 (tmRow pb bb As)) ∈ H) (hs : o.shut = true)  : PureAt Tryz.prog w0 H 74 [.pointer (some ⟨tb, 2 + i * 4, none⟩), .pointer (some ⟨b5, 0, none⟩)] (.int .i64 22) := by
  refine L_enter Tryz.func74 rfl Tryz.ntmps74 rfl rfl ?_
  refine W_sr ?_
  refine W_assign rfl rfl ?_
  refine W_nil ?_
  refine W_seq ?_
  refine W_sr ?_
  refine W_move rfl rfl ?_
  refine W_nilCheck rfl rfl ?_
  refine W_fieldAddr rfl fld88_1 (by decide) rfl ?_
  refine W_load (v := .bool true) rfl ty4 rfl (Cell.own (b := tb) hm (hs ▸ tm_get1 hA)) rfl ?_
  refine W_nil ?_
  refine W_condT rfl rfl ?_
  refine W_sr ?_
  refine W_assign rfl rfl ?_
  refine W_nil ?_
  refine W_ret1m (H2 := H) Tryz.results74 rfl (.nil _) zH ?_
  exact ⟨rfl, rfl⟩
set_option maxHeartbeats 1000000 in
theorem open1_in {w0 : World} {H : Heap} {tb i fi b5 : Nat} {ca : List Value} {R : Value → Heap → Prop} (hfi : ∀ (args : Array Value) (w : World), (callFunc fi args).run Tryz.prog w = .ok (.enter fi args) w) {pb bb : Nat} {As : List Tone} {o : Tone} (hA : As[i]? = some o) (hm : (tb, .cells 91 1026 (tmRow pb bb As)) ∈ H) (hs : o.shut = false) (hdo : LCalls Tryz.prog w0 fi (#[] ++ #[.pointer (some ⟨tb, 2 + i * 4, none⟩)] ++ ca.toArray) H R)  : LCalls Tryz.prog w0 74 #[.pointer (some ⟨tb, 2 + i * 4, none⟩), .pointer (some ⟨b5, 0, none⟩)] ((b5, .cells 94 1 [Value.func (.func fi) #[] ca.toArray]) :: H) (R) := by
  refine L_enter (l := [.pointer (some ⟨tb, 2 + i * 4, none⟩), .pointer (some ⟨b5, 0, none⟩)]) Tryz.func74 rfl Tryz.ntmps74 rfl rfl ?_
  refine W_sr ?_
  refine W_assign rfl rfl ?_
  refine W_nil ?_
  refine W_seq ?_
  refine W_sr ?_
  refine W_move rfl rfl ?_
  refine W_nilCheck rfl rfl ?_
  refine W_fieldAddr rfl fld88_1 (by decide) rfl ?_
  refine W_load (v := .bool false) rfl ty4 rfl (Cell.own (b := tb) (List.mem_cons_of_mem _ hm) (hs ▸ tm_get1 hA)) rfl ?_
  refine W_nil ?_
  refine W_condF rfl rfl ?_
  refine W_skip ?_
  refine W_sr ?_
  refine W_load (v := Value.func (.func fi) #[] ca.toArray) rfl ty94 rfl (Cell.own (b := b5) zM rfl) rfl ?_
  refine W_move rfl rfl ?_
  refine W_callv (fa := #[]) (ca := ca.toArray) rfl (.cons rfl .nil) hfi rfl (hdo.hsub zH) ?_
  rintro v H' hR
  refine W_assign rfl rfl ?_
  refine W_nil ?_
  refine W_ret1m (H2 := H') Tryz.results74 rfl (.nil _) zH ?_
  exact hR
set_option maxHeartbeats 1000000 in
theorem open_out {tb : Nat} {id : Int} {fi : Nat} {fa ca : Array Value} (hi : ¬ (0 ≤ id ∧ id < 256)) : Pure Tryz.prog (fun _ => True) 35 [.pointer (some ⟨tb, 0, none⟩), .int .i64 id, .func (.func fi) fa ca] (.int .i64 2) := by
  intro w0 H hT
  refine L_enter Tryz.func35 rfl Tryz.ntmps35 rfl rfl ?_
  refine W_sr ?_
  refine W_box (l := [.func (.func fi) fa ca]) rfl rfl rfl (fun b5 => ?_)
  refine W_assign rfl rfl ?_
  refine W_nil ?_
  refine W_sr ?_
  refine W_move rfl rfl ?_
  refine W_move rfl rfl ?_
  refine W_makeFunc .nil (.cons rfl .nil) rfl ?_
  refine W_callp (.cons rfl (.cons rfl (.cons rfl .nil))) Tryz.call49 rfl (T := fun _ => True) trivial (with_out hi) ?_
  refine W_assign rfl rfl ?_
  refine W_nil ?_
  refine W_ret1m (H2 := H) Tryz.results35 rfl (.nil _) zH ?_
  exact ⟨rfl, rfl⟩
set_option maxHeartbeats 1000000 in
theorem open_gone {w0 : World} {H : Heap} {tb i fi : Nat} {ca : List Value} (hi : i < 256) {pb bb : Nat} {As : List Tone} {o : Tone} (hA : As[i]? = some o) (hm : (tb, .cells 91 1026 (tmRow pb bb As)) ∈ H) (hs : o.shut = true)  : LCalls Tryz.prog w0 35 #[.pointer (some ⟨tb, 0, none⟩), .int .i64 (i : Int), Value.func (.func fi) #[] ca.toArray] (H) (fun v H' => v = .int .i64 22 ∧ H' = H) := by
  refine L_enter (l := [.pointer (some ⟨tb, 0, none⟩), .int .i64 (i : Int), Value.func (.func fi) #[] ca.toArray]) Tryz.func35 rfl Tryz.ntmps35 rfl rfl ?_
  refine W_sr ?_
  refine W_box (l := [Value.func (.func fi) #[] ca.toArray]) rfl rfl rfl (fun b5 => ?_)
  refine W_assign rfl rfl ?_
  refine W_nil ?_
  refine W_sr ?_
  refine W_move rfl rfl ?_
  refine W_move rfl rfl ?_
  refine W_makeFunc .nil (.cons rfl .nil) rfl ?_
  refine W_call (.cons rfl (.cons rfl (.cons rfl .nil))) Tryz.call49 rfl (with_in (i := i) (fi := 74) (ca := [.pointer (some ⟨b5, 0, none⟩)]) Tryz.call74 hi (open1_gone hA (List.mem_cons_of_mem _ hm) hs) ?_) ?_
  · rintro v H' ⟨rfl, rfl⟩
    exact ⟨_, rfl⟩
  rintro v H' ⟨rfl, rfl⟩
  refine W_assign rfl rfl ?_
  refine W_nil ?_
  refine W_ret1m (H2 := H) Tryz.results35 rfl (.nil _) zH ?_
  exact ⟨rfl, rfl⟩
set_option maxHeartbeats 1000000 in
theorem open_in {w0 : World} {H : Heap} {tb i fi : Nat} {ca : List Value} {R : Value → Heap → Prop} (hfi : ∀ (args : Array Value) (w : World), (callFunc fi args).run Tryz.prog w = .ok (.enter fi args) w) (hi : i < 256) {pb bb : Nat} {As : List Tone} {o : Tone} (hA : As[i]? = some o) (hm : (tb, .cells 91 1026 (tmRow pb bb As)) ∈ H) (hs : o.shut = false) (hdo : LCalls Tryz.prog w0 fi (#[] ++ #[.pointer (some ⟨tb, 2 + i * 4, none⟩)] ++ ca.toArray) H R) (hE : ∀ v H2, R v H2 → ∃ e, v = .int .i64 e)  : LCalls Tryz.prog w0 35 #[.pointer (some ⟨tb, 0, none⟩), .int .i64 (i : Int), Value.func (.func fi) #[] ca.toArray] (H) (R) := by
  refine L_enter (l := [.pointer (some ⟨tb, 0, none⟩), .int .i64 (i : Int), Value.func (.func fi) #[] ca.toArray]) Tryz.func35 rfl Tryz.ntmps35 rfl rfl ?_
  refine W_sr ?_
  refine W_box (l := [Value.func (.func fi) #[] ca.toArray]) rfl rfl rfl (fun b5 => ?_)
  refine W_assign rfl rfl ?_
  refine W_nil ?_
  refine W_sr ?_
  refine W_move rfl rfl ?_
  refine W_move rfl rfl ?_
  refine W_makeFunc .nil (.cons rfl .nil) rfl ?_
  refine W_call (.cons rfl (.cons rfl (.cons rfl .nil))) Tryz.call49 rfl (with_in (i := i) (fi := 74) (ca := [.pointer (some ⟨b5, 0, none⟩)]) Tryz.call74 hi (open1_in hfi hA hm hs hdo) ?_) ?_
  · exact hE
  rintro v H' hR
  refine W_assign rfl rfl ?_
  refine W_nil ?_
  refine W_ret1m (H2 := H') Tryz.results35 rfl (.nil _) zH ?_
  exact hR
end Go.Proofs.YtcmfldfeakmdoaaGreatDoor
namespace Go.Proofs.YtcmfldfeakmdoaaGreatDoor
open Go Go.Sl
attribute [local irreducible] W
abbrev St := List (Nat × List Tm)
def findS (S : St) (id : Int) : Option Nat := S.findIdx? (fun x => heldB x.2 id)
def putS (S : St) (tn : Nat) (cpu id : Int) (a : Nat) : St × Spot × Int :=
  if cpu < 0 ∨ (S.length : Int) ≤ cpu ∨ id < 0 ∨ 255 < id then (S, zSpot, 2)
  else if (findS S id).isSome = true then (S, zSpot, 5)
  else match S[cpu.toNat]? with
    | none => (S, zSpot, 2)
    | some x => if x.1 = 18446744073709551615 then (S, zSpot, 12) else (S.set cpu.toNat (x.1, x.2 ++ [tmOf x.1 a tn id]), (placeT x.1 a).1, 0)
def CatchS (S : St) (cpu : Int) (a : Nat) (S' : St) (O : List Tm) : Prop :=
  ((cpu < 0 ∨ (S.length : Int) ≤ cpu) ∧ S' = S ∧ O = []) ∨ ∃ (k : Nat) (now : Nat) (L Li : List Tm), cpu = (k : Int) ∧ S[k]? = some (now, L) ∧ Gone now (max now a) L Li O ∧ S' = S.set k (max now a, Li)
structure Rw where
  now : Nat
  L : List Tm
  ad : Option Addr
  cap : Nat
abbrev rwC (d : Rw) : List Value := [.int .u64 ((d.now : Nat) : Int), .slice d.ad d.L.length d.cap]
abbrev rwRow (Ds : List Rw) : List Value := Ds.flatMap rwC
def Rw.nl (d : Rw) : Nat × List Tm := (d.now, d.L)
structure RbIs (w0 : World) (H : Heap) (S : St) (ad : Option Addr) (Ds : List Rw) : Prop where
  row : Holds w0 H ad (rwRow Ds)
  each : ∀ d ∈ Ds, Holds w0 H d.ad (rowT d.L) ∧ d.L.length ≤ d.cap
  st : Ds.map Rw.nl = S
def RbV (w0 : World) (H : Heap) (S : St) (v : Value) : Prop := ∃ ad cap Ds, v = .slice ad S.length cap ∧ RbIs w0 H S ad Ds
theorem RbV.up {w0 : World} {H H' : Heap} {S : St} {v : Value} (h : RbV w0 H S v) (hs : HSub H' H) : RbV w0 H' S v := by
  obtain ⟨ad, cap, Ds, e, h⟩ := h
  exact ⟨ad, cap, Ds, e, h.row.up hs, fun d hd => ⟨(h.each d hd).1.up hs, (h.each d hd).2⟩, h.st⟩
theorem findS_no {S : St} {id : Int} (h : findS S id = none) {x : Nat × List Tm} (hx : x ∈ S) : id ∉ x.2.map (·.id) := fun hin => by
  unfold findS at h
  rw [List.findIdx?_eq_none_iff] at h
  have := h x hx
  rw [heldB_iff.2 hin] at this; cases this
end Go.Proofs.YtcmfldfeakmdoaaGreatDoor
namespace Go.Proofs.YtcmfldfeakmdoaaGreatDoor
open Go Go.Sl
attribute [local irreducible] W
def Wl.nl (w : Wl) : Nat × List Tm := (w.now, w.L)
abbrev stW (Ws : List Wl) : St := Ws.map Wl.nl
theorem findS_stW (Ws : List Wl) (id : Int) : findS (stW Ws) id = findK Ws id := by
  unfold findS findK
  rw [List.findIdx?_map]; rfl
def turnOf (Ws : List Wl) (cpu : Int) : Nat := match wlAt Ws cpu with
  | some w => w.turn
  | none => 0
theorem wlAt_none {Ws : List Wl} {cpu : Int} (h : wlAt Ws cpu = none) : cpu < 0 ∨ (Ws.length : Int) ≤ cpu := by
  rcases cpu_ways Ws cpu with ⟨h1, _⟩ | ⟨_, h1, _⟩ | ⟨h0, h1, h2⟩
  · exact .inl h1
  · exact .inr h1
  · rw [h2, List.getElem?_eq_none_iff] at h; omega
theorem PutIs.fn {Ws Ws' : List Wl} {cpu id e : Int} {a : Nat} {s : Spot} (h : PutIs Ws cpu id a Ws' s e) (hr : ∀ w ∈ Ws, ∀ t ∈ w.L, 0 ≤ t.id ∧ t.id < 256) : putS (stW Ws) (turnOf Ws cpu) cpu id a = (stW Ws', s, e) := by
  have hl : (stW Ws).length = Ws.length := List.length_map _
  cases h with
  | cpu h => exact if_pos (by rw [hl]; have := wlAt_none h; omega)
  | @twice w k h hf =>
    obtain ⟨c, rfl, hk⟩ := wlAt_at h
    have hc := (List.getElem?_eq_some_iff.1 hk).1
    obtain ⟨u, hu, hh⟩ := findK_at hf
    obtain ⟨t, ht, rfl⟩ := List.mem_map.1 (heldB_iff.1 hh)
    have := hr u (List.mem_of_getElem? hu) t ht
    unfold putS
    rw [if_neg (by rw [hl]; omega), if_pos (by rw [findS_stW, hf]; rfl)]
  | range h hf hn => exact if_pos (by omega)
  | @late w h hf hi hm =>
    obtain ⟨c, rfl, hk⟩ := wlAt_at h
    have hc := (List.getElem?_eq_some_iff.1 hk).1
    have hx : (stW Ws)[((c : Nat) : Int).toNat]? = some (w.now, w.L) := by rw [show ((c : Nat) : Int).toNat = c by omega, List.getElem?_map, hk]; rfl
    unfold putS
    rw [if_neg (by rw [hl]; omega), if_neg (by rw [findS_stW, hf]; decide), hx]
    exact if_pos hm
  | @ok k w hc hk hf hi hm =>
    subst hc
    have hc := (List.getElem?_eq_some_iff.1 hk).1
    have e1 : ((k : Nat) : Int).toNat = k := by omega
    have hx : (stW Ws)[((k : Nat) : Int).toNat]? = some (w.now, w.L) := by rw [e1, List.getElem?_map, hk]; rfl
    have ht : turnOf Ws (k : Int) = w.turn := by unfold turnOf wlAt; rw [if_pos (by omega), e1, hk]
    unfold putS
    rw [if_neg (by rw [hl]; omega), if_neg (by rw [findS_stW, hf]; decide), hx, ht]
    dsimp only
    rw [if_neg (by omega), e1]
    unfold stW
    rw [List.map_set]; rfl
def delS (S : St) (id : Int) : St := S.map (fun x => (x.1, delT x.2 id))
theorem delW_one (Ws : List Wl) (id : Int) : stW (Ws.map (delW [id])) = delS (stW Ws) id := by
  unfold stW delS
  rw [List.map_map, List.map_map]
  exact List.map_congr_left fun w _ => rfl
def UniS (S : St) : Prop := ∀ (i j : Nat) x y, S[i]? = some x → S[j]? = some y → ∀ t ∈ x.2, ∀ u ∈ y.2, t.id = u.id → i = j
theorem UniS.del {S : St} (h : UniS S) (id : Int) : UniS (delS S id) := fun i j x y hx hy t ht u hu e => by
  unfold delS at hx hy
  rw [List.getElem?_map] at hx hy
  obtain ⟨x', hx', rfl⟩ := Option.map_eq_some_iff.1 hx
  obtain ⟨y', hy', rfl⟩ := Option.map_eq_some_iff.1 hy
  exact h i j x' y' hx' hy' t (List.mem_filter.1 ht).1 u (List.mem_filter.1 hu).1 e
theorem UniS.set {S : St} (h : UniS S) {k : Nat} {x : Nat × List Tm} {z : Nat × List Tm} (hx : S[k]? = some x) (hz : ∀ t ∈ z.2, t ∈ x.2 ∨ ∀ y ∈ S, t.id ∉ y.2.map (·.id)) : UniS (S.set k z) := fun i j p q hp hq t ht u hu e => by
  have hk := (List.getElem?_eq_some_iff.1 hx).1
  by_cases ci : k = i <;> by_cases cj : k = j
  · omega
  · subst ci
    rw [List.getElem?_set_self hk] at hp
    obtain rfl := Option.some.inj hp
    rw [List.getElem?_set_ne cj] at hq
    rcases hz t ht with h1 | h1
    · exact h k j x q hx hq t h1 u hu e
    · exact absurd (e ▸ List.mem_map_of_mem hu) (h1 q (List.mem_of_getElem? hq))
  · subst cj
    rw [List.getElem?_set_self hk] at hq
    obtain rfl := Option.some.inj hq
    rw [List.getElem?_set_ne ci] at hp
    rcases hz u hu with h1 | h1
    · exact h i k p x hp hx t ht u h1 e
    · exact absurd (e ▸ List.mem_map_of_mem ht) (h1 p (List.mem_of_getElem? hp))
  · rw [List.getElem?_set_ne ci] at hp
    rw [List.getElem?_set_ne cj] at hq
    exact h i j p q hp hq t ht u hu e
theorem UniS.put {S : St} (h : UniS S) (tn : Nat) (cpu id : Int) (a : Nat) : UniS (putS S tn cpu id a).1 := by
  unfold putS
  split
  · exact h
  · split
    · exact h
    · rename_i hf
      have hf : findS S id = none := by cases e : findS S id with | none => rfl | some k => rw [e] at hf; exact absurd rfl hf
      split
      · exact h
      · rename_i x hx
        split
        · exact h
        · refine h.set hx (fun t ht => ?_)
          rcases List.mem_append.1 ht with ht | ht
          · exact .inl ht
          · exact .inr (fun y hy => by rw [List.mem_singleton.1 ht]; exact findS_no hf hy)
theorem CatchIs.fn {Ws Ws' : List Wl} {cpu : Int} {a : Nat} {O : List Tm} (h : CatchIs Ws cpu a Ws' O) : CatchS (stW Ws) cpu a (stW Ws') O := by
  rcases h with ⟨h, rfl, rfl⟩ | ⟨k, w, Li, rfl, hk, hG, rfl⟩
  · exact .inl ⟨by rw [List.length_map]; exact wlAt_none h, rfl, rfl⟩
  · exact .inr ⟨k, w.now, w.L, Li, rfl, by rw [List.getElem?_map, hk]; rfl, hG, by unfold stW; rw [List.map_set]; rfl⟩
theorem CatchS.same {S S1 S2 : St} {cpu : Int} {a : Nat} {O1 O2 : List Tm} (h1 : CatchS S cpu a S1 O1) (h2 : CatchS S cpu a S2 O2) : S1 = S2 ∧ O1 = O2 := by
  rcases h1 with ⟨a1, rfl, rfl⟩ | ⟨k, now, L, Li, rfl, hk, hG, rfl⟩
  · rcases h2 with ⟨_, rfl, rfl⟩ | ⟨k, now, L, Li, rfl, hk, hG, rfl⟩
    · exact ⟨rfl, rfl⟩
    · have := (List.getElem?_eq_some_iff.1 hk).1; omega
  · rcases h2 with ⟨a1, _⟩ | ⟨k2, now2, L2, Li2, e, hk2, hG2, rfl⟩
    · have := (List.getElem?_eq_some_iff.1 hk).1; omega
    · obtain rfl : k2 = k := by omega
      obtain ⟨rfl, rfl⟩ := Prod.mk.inj (Option.some.inj (hk.symm.trans hk2))
      obtain ⟨rfl, rfl⟩ := hG.same hG2
      exact ⟨rfl, rfl⟩
theorem CatchS.uni {S S' : St} {cpu : Int} {a : Nat} {O : List Tm} (h : CatchS S cpu a S' O) (hU : UniS S) : UniS S' := by
  rcases h with ⟨_, rfl, rfl⟩ | ⟨k, now, L, Li, rfl, hk, hG, rfl⟩
  · exact hU
  · exact hU.set hk (fun t ht => .inl (by rw [hG.left] at ht; exact (List.mem_filter.1 ht).1))
theorem BankH.wheelOf2 {bb : Nat} {Ws : List Wl} {HB : Heap} (h : BankH bb Ws HB) {w : Wl} (hw : w ∈ Ws) : ∃ HW, WheelH w.bw w.now w.L w.turn HW := by
  obtain ⟨k, hk, e⟩ := List.getElem_of_mem hw
  obtain ⟨HW, hW, _⟩ := h.wheel (k := k) (w := w) (by rw [List.getElem?_eq_getElem hk, e])
  exact ⟨HW, hW⟩
theorem BankH.rng {bb : Nat} {Ws : List Wl} {HB : Heap} (h : BankH bb Ws HB) : ∀ w ∈ Ws, ∀ t ∈ w.L, 0 ≤ t.id ∧ t.id < 256 := fun w hw t ht => by
  obtain ⟨HU, hU⟩ := h.wheelOf2 hw
  exact hU.ids.2.1 t ht
structure BOk (T : Nat) (Ws : List Wl) : Prop where
  now : ∀ w ∈ Ws, w.now ≤ 18446744073709551615
  later : ∀ w ∈ Ws, ∀ t ∈ w.L, w.now < t.s.due
  turn : ∀ w ∈ Ws, w.turn ≤ T
  uni : UniS (stW Ws)
theorem BOk.start {now : Nat} {Ws : List Wl} (hn : now ≤ 18446744073709551615) (hf : ∀ w ∈ Ws, FreshW now w) : BOk 0 Ws := by
  refine ⟨fun w hw => ?_, fun w hw t ht => ?_, fun w hw => ?_, fun i j x y hx _ t ht => ?_⟩
  · rw [(hf w hw).1]; exact hn
  · rw [(hf w hw).2.1] at ht; cases ht
  · rw [(hf w hw).2.2]; exact Nat.le_refl _
  · obtain ⟨w, hw, rfl⟩ := List.mem_map.1 (List.mem_of_getElem? hx)
    have ht2 : t ∈ w.L := ht
    rw [(hf w hw).2.1] at ht2; cases ht2
theorem BOk.up {T T' : Nat} {Ws : List Wl} (h : BOk T Ws) (hl : T ≤ T') : BOk T' Ws := ⟨h.now, h.later, fun w hw => Nat.le_trans (h.turn w hw) hl, h.uni⟩
theorem BOk.put {T bb a : Nat} {Ws Ws' : List Wl} {HB' : Heap} {cpu id e : Int} {s : Spot} (h : BOk T Ws) (hr : ∀ w ∈ Ws, ∀ t ∈ w.L, 0 ≤ t.id ∧ t.id < 256) (hp : PutIs Ws cpu id a Ws' s e) (hB' : BankH bb Ws' HB') : BOk (T + 1) Ws' := by
  have hu : UniS (stW Ws') := by have := h.uni.put (turnOf Ws cpu) cpu id a; rwa [hp.fn hr] at this
  cases hp with
  | cpu _ => exact h.up (Nat.le_succ _)
  | twice _ _ => exact h.up (Nat.le_succ _)
  | range _ _ _ => exact h.up (Nat.le_succ _)
  | late _ _ _ _ => exact h.up (Nat.le_succ _)
  | @ok k w hc hk hf hi hm =>
    have hwm := List.mem_of_getElem? hk
    have hkl := (List.getElem?_eq_some_iff.1 hk).1
    refine ⟨fun u hu => ?_, fun u hu => ?_, fun u hu => ?_, hu⟩
    · rcases List.mem_or_eq_of_mem_set hu with hu | rfl
      · exact h.now u hu
      · exact h.now w hwm
    · rcases List.mem_or_eq_of_mem_set hu with hu' | rfl
      · exact h.later u hu'
      · obtain ⟨HU, hU⟩ := hB'.wheelOf2 hu
        exact hU.later hm
    · rcases List.mem_or_eq_of_mem_set hu with hu | rfl
      · exact Nat.le_succ_of_le (h.turn u hu)
      · have := h.turn w hwm
        show w.turn + 1 ≤ T + 1; omega
theorem BOk.del {T : Nat} {Ws : List Wl} (h : BOk T Ws) (id : Int) : BOk T (Ws.map (delW [id])) := by
  refine ⟨fun u hu => ?_, fun u hu t ht => ?_, fun u hu => ?_, by rw [delW_one]; exact h.uni.del id⟩
  · obtain ⟨w, hw, rfl⟩ := List.mem_map.1 hu
    exact h.now w hw
  · obtain ⟨w, hw, rfl⟩ := List.mem_map.1 hu
    exact h.later w hw t (List.mem_filter.1 ht).1
  · obtain ⟨w, hw, rfl⟩ := List.mem_map.1 hu
    exact h.turn w hw
theorem BOk.catch {T a : Nat} {Ws Ws' : List Wl} {cpu : Int} {O : List Tm} (h : BOk T Ws) (ha : a ≤ 18446744073709551615) (hc : CatchIs Ws cpu a Ws' O) : BOk T Ws' := by
  have hu : UniS (stW Ws') := hc.fn.uni h.uni
  rcases hc with ⟨_, rfl, rfl⟩ | ⟨k, w, Li, rfl, hk, hG, rfl⟩
  · exact h
  · have hwm := List.mem_of_getElem? hk
    refine ⟨fun u hu => ?_, fun u hu t ht => ?_, fun u hu => ?_, hu⟩
    · rcases List.mem_or_eq_of_mem_set hu with hu | rfl
      · exact h.now u hu
      · have := h.now w hwm
        show max w.now a ≤ _; omega
    · rcases List.mem_or_eq_of_mem_set hu with hu | rfl
      · exact h.later u hu t ht
      · have ht2 : t ∈ Li := ht
        rw [hG.left] at ht2
        exact of_decide_eq_true (List.mem_filter.1 ht2).2
    · rcases List.mem_or_eq_of_mem_set hu with hu | rfl
      · exact h.turn u hu
      · exact h.turn w hwm
theorem cnt_one (Ws : List Wl) (id : Int) : ∀ k, k ≤ Ws.length → UniS (stW Ws) → cntK Ws [id] k = if ∃ j : Nat, j < k ∧ ∃ w, Ws[j]? = some w ∧ heldB w.L id = true then 1 else 0
  | 0, _, _ => by
    rw [if_neg]; rfl
    rintro ⟨j, hj, _⟩; omega
  | k + 1, hk, hU => by
    obtain ⟨w, hw⟩ : ∃ w, Ws[k]? = some w := ⟨_, List.getElem?_eq_getElem (by omega)⟩
    rw [cntK_at hw, cnt_one Ws id k (by omega) hU]
    have e : (delsT w.L [id]).2 = if heldB w.L id = true then 1 else 0 := by show 0 + _ = _; rw [Nat.zero_add]
    rw [e]
    by_cases h1 : ∃ j : Nat, j < k ∧ ∃ w, Ws[j]? = some w ∧ heldB w.L id = true
    · rw [if_pos h1]
      obtain ⟨j, hj, u, hu, hh⟩ := h1
      have hR : ∃ j : Nat, j < k + 1 ∧ ∃ w, Ws[j]? = some w ∧ heldB w.L id = true := ⟨j, by omega, u, hu, hh⟩
      rw [if_pos hR, if_neg]
      intro h2
      obtain ⟨t, ht, e1⟩ := List.mem_map.1 (heldB_iff.1 hh)
      obtain ⟨v, hv, e2⟩ := List.mem_map.1 (heldB_iff.1 h2)
      have := hU j k (u.now, u.L) (w.now, w.L) (by rw [List.getElem?_map, hu]; rfl) (by rw [List.getElem?_map, hw]; rfl) t ht v hv (e1.trans e2.symm)
      omega
    · rw [if_neg h1]
      by_cases h2 : heldB w.L id = true
      · have hR : ∃ j : Nat, j < k + 1 ∧ ∃ w, Ws[j]? = some w ∧ heldB w.L id = true := ⟨k, by omega, w, hw, h2⟩
        rw [if_pos h2, if_pos hR]
      · rw [if_neg h2, if_neg]
        rintro ⟨j, hj, u, hu, hh⟩
        by_cases c : j = k
        · subst c
          obtain rfl := Option.some.inj (hw.symm.trans hu)
          exact h2 hh
        · exact h1 ⟨j, by omega, u, hu, hh⟩
theorem cnt_find {Ws : List Wl} (hU : UniS (stW Ws)) (id : Int) : cntK Ws [id] Ws.length = if (findS (stW Ws) id).isSome = true then 1 else 0 := by
  rw [cnt_one Ws id _ (Nat.le_refl _) hU, findS_stW]
  cases hf : findK Ws id with
  | none =>
    rw [if_neg, if_neg (by decide)]
    rintro ⟨j, hj, w, hw, hh⟩
    exact findK_no hf (List.mem_of_getElem? hw) (heldB_iff.1 hh)
  | some k =>
    obtain ⟨w, hw, hh⟩ := findK_at hf
    have hR : ∃ j : Nat, j < Ws.length ∧ ∃ w, Ws[j]? = some w ∧ heldB w.L id = true := ⟨k, (List.getElem?_eq_some_iff.1 hw).1, w, hw, hh⟩
    rw [if_pos hR, if_pos (show (some k).isSome = true from rfl)]
end Go.Proofs.YtcmfldfeakmdoaaGreatDoor
namespace Go.Proofs.YtcmfldfeakmdoaaGreatDoor
open Go Go.Sl
attribute [local irreducible] W
def initO (o : Tone) : Tone × Int := if o.shut = true then (o, 22) else if o.made = true then (o, 5) else ({ o with made := true }, 0)
def setO (prog : Int) (o : Tone) : Tone × Int := if o.shut = true then (o, 22) else if o.made = false then (o, 1) else ({ o with prog := prog + 1 }, 0)
def onA (f : Tone → Tone × Int) (As : List Tone) (id : Int) : List Tone × Int := if 0 ≤ id ∧ id < 256 then (match As[id.toNat]? with
  | some o => (As.set id.toNat (f o).1, (f o).2)
  | none => (As, 2)) else (As, 2)
theorem onA_at {f : Tone → Tone × Int} {As : List Tone} {i : Nat} {o : Tone} (hi : i < 256) (h : As[i]? = some o) : onA f As (i : Int) = (As.set i (f o).1, (f o).2) := by
  unfold onA; rw [if_pos (by omega), show ((i : Nat) : Int).toNat = i by omega, h]
theorem onA_out {f : Tone → Tone × Int} {As : List Tone} {id : Int} (h : ¬ (0 ≤ id ∧ id < 256)) : onA f As id = (As, 2) := if_neg h
theorem set_self {As : List Tone} {i : Nat} {o : Tone} (h : As[i]? = some o) : As.set i o = As := set_same h
theorem TimerH.as {tb n : Nat} {Ws : List Wl} {Q Rs : List (Int × Int)} {As : List Tone} {HB : Heap} (h : TimerH tb n Ws Q Rs As HB) : AsOk As := by cases h; assumption
set_option maxHeartbeats 1000000 in
theorem init1_L {w0 : World} {H : Heap} {pb bb tb i : Nat} {As : List Tone} {o : Tone} (hA : As[i]? = some o) (hs : o.shut = false) : LCalls Tryz.prog w0 36 #[.pointer (some ⟨tb, 2 + i * 4, none⟩)] ((tb, .cells 91 1026 (tmRow pb bb As)) :: H) (fun v H' => v = .int .i64 (initO o).2 ∧ H' = (tb, .cells 91 1026 (tmRow pb bb (As.set i (initO o).1))) :: H) := by
  refine L_enter (l := [.pointer (some ⟨tb, 2 + i * 4, none⟩)]) Tryz.func36 rfl Tryz.ntmps36 rfl rfl ?_
  refine W_sr ?_
  refine W_assign rfl rfl ?_
  refine W_nil ?_
  refine W_seq ?_
  refine W_sr ?_
  refine W_move rfl rfl ?_
  refine W_nilCheck rfl rfl ?_
  refine W_fieldAddr rfl fld88_0 (by decide) rfl ?_
  refine W_load (v := .bool o.made) rfl ty4 rfl (Cell.own (b := tb) zM (tm_get0 hA)) rfl ?_
  refine W_nil ?_
  refine W_condS rfl (fun c0 => ?_) (fun c0 => ?_)
  · skip
    refine W_sr ?_
    refine W_assign rfl rfl ?_
    refine W_nil ?_
    refine W_ret1m Tryz.results36 rfl (.nil _) (.refl _) ?_
    have e : initO o = (o, 5) := by unfold initO; rw [if_neg (by rw [hs]; decide), if_pos c0]
    rw [e, set_self hA]
    exact ⟨rfl, rfl⟩
  · skip
    refine W_skip ?_
    refine W_sr ?_
    refine W_move rfl rfl ?_
    refine W_nilCheck rfl rfl ?_
    refine W_fieldAddr rfl fld88_0 (by decide) rfl ?_
    refine W_store (l' := tmRow pb bb (As.set i { o with made := true })) rfl rfl ty4 rfl rfl (b := tb) zM (tm_lt hA (by decide)) (tm_set0 hA) zU ?_
    refine W_nil ?_
    refine W_sr ?_
    refine W_assign rfl rfl ?_
    refine W_nil ?_
    refine W_ret1m Tryz.results36 rfl (.nil _) (.refl _) ?_
    have e : initO o = ({ o with made := true }, 0) := by unfold initO; rw [if_neg (by rw [hs]; decide), if_neg (by rw [c0]; decide)]
    rw [e]
    exact ⟨rfl, rfl⟩
set_option maxHeartbeats 1000000 in
theorem set1_L {w0 : World} {H : Heap} {pb bb tb i : Nat} {As : List Tone} {o : Tone} (hA : As[i]? = some o) {b5 : Nat} {prog : Int} (hs : o.shut = false) (hp : 0 ≤ prog ∧ prog < 16) : LCalls Tryz.prog w0 37 #[.pointer (some ⟨tb, 2 + i * 4, none⟩), .pointer (some ⟨b5, 0, none⟩)] ((tb, .cells 91 1026 (tmRow pb bb As)) :: (b5, .cells 3 1 [.int .i64 prog]) :: H) (fun v H' => v = .int .i64 ((setO prog) o).2 ∧ H' = (tb, .cells 91 1026 (tmRow pb bb (As.set i ((setO prog) o).1))) :: H) := by
  refine L_enter (l := [.pointer (some ⟨tb, 2 + i * 4, none⟩), .pointer (some ⟨b5, 0, none⟩)]) Tryz.func37 rfl Tryz.ntmps37 rfl rfl ?_
  refine W_sr ?_
  refine W_assign rfl rfl ?_
  refine W_nil ?_
  refine W_seq ?_
  refine W_sr ?_
  refine W_move rfl rfl ?_
  refine W_nilCheck rfl rfl ?_
  refine W_fieldAddr rfl fld88_0 (by decide) rfl ?_
  refine W_load (v := .bool o.made) rfl ty4 rfl (Cell.own (b := tb) zM (tm_get0 hA)) rfl ?_
  refine W_not rfl rfl ?_
  refine W_nil ?_
  refine W_condS rfl (fun c0 => ?_) (fun c0 => ?_)
  · simp only [cond_true, cond_false, Bool.and_eq_true, Bool.or_eq_true, Bool.and_eq_false_iff, Bool.or_eq_false_iff, decide_eq_true_eq, decide_eq_false_iff_not, Bool.not_eq_true', Bool.not_eq_false', ne_eq, Decidable.not_not] at c0
    refine W_sr ?_
    refine W_assign rfl rfl ?_
    refine W_nil ?_
    refine W_ret1m (H2 := (tb, .cells 91 1026 (tmRow pb bb As)) :: H) Tryz.results37 rfl (.nil _) zH ?_
    have e : setO prog o = (o, 1) := by unfold setO; rw [if_neg (by rw [hs]; decide), if_pos c0]
    rw [e, set_self hA]
    exact ⟨rfl, rfl⟩
  · simp only [cond_true, cond_false, Bool.and_eq_true, Bool.or_eq_true, Bool.and_eq_false_iff, Bool.or_eq_false_iff, decide_eq_true_eq, decide_eq_false_iff_not, Bool.not_eq_true', Bool.not_eq_false', ne_eq, Decidable.not_not] at c0
    refine W_skip ?_
    refine W_sr ?_
    refine W_move rfl rfl ?_
    refine W_load (v := .int .i64 prog) rfl ty3 rfl (Cell.own (b := b5) zM rfl) rfl ?_
    refine W_bin rfl rfl (b_add (m := prog + 1) (i64w (by omega))) rfl ?_
    refine W_nilCheck rfl rfl ?_
    refine W_fieldAddr rfl fld88_2 (by decide) rfl ?_
    refine W_store (l' := tmRow pb bb (As.set i { o with prog := prog + 1 })) rfl rfl ty3 rfl rfl (b := tb) zM (tm_lt hA (by decide)) (tm_set2 hA) zU ?_
    refine W_nil ?_
    refine W_sr ?_
    refine W_assign rfl rfl ?_
    refine W_nil ?_
    refine W_ret1m (H2 := (tb, .cells 91 1026 (tmRow pb bb (As.set i { o with prog := prog + 1 }))) :: H) Tryz.results37 rfl (.nil _) zH ?_
    have e : setO prog o = ({ o with prog := prog + 1 }, 0) := by unfold setO; rw [if_neg (by rw [hs]; decide), if_neg (by rw [c0]; decide)]
    rw [e]
    exact ⟨rfl, rfl⟩
set_option maxHeartbeats 1000000 in
theorem Init_at {w0 : World} {H : Heap} {pb bb tb i : Nat} {As : List Tone} {o : Tone} (hA : As[i]? = some o) (hi : i < 256)  : LCalls Tryz.prog w0 9 #[.pointer (some ⟨tb, 0, none⟩), .int .i64 (i : Int)] ((tb, .cells 91 1026 (tmRow pb bb As)) :: H) (fun v H' => v = .int .i64 (initO o).2 ∧ H' = (tb, .cells 91 1026 (tmRow pb bb (As.set i (initO o).1))) :: H) := by
  refine L_enter (l := [.pointer (some ⟨tb, 0, none⟩), .int .i64 (i : Int)]) Tryz.func9 rfl Tryz.ntmps9 rfl rfl ?_
  refine W_sr ?_
  refine W_assign rfl rfl ?_
  refine W_nil ?_
  refine W_sr ?_
  refine W_move rfl rfl ?_
  refine W_move rfl rfl ?_
  cases hs : o.shut
  · skip
    refine W_call (.cons rfl (.cons rfl (.cons rfl .nil))) Tryz.call35 rfl (open_in (ca := []) Tryz.call36 hi hA zM hs (init1_L (H := H) hA hs) (by rintro v H2 ⟨rfl, _⟩; exact ⟨_, rfl⟩)) ?_
    rintro v H' ⟨rfl, rfl⟩
    refine W_assign rfl rfl ?_
    refine W_nil ?_
    refine W_ret1m Tryz.results9 rfl (.nil _) (.refl _) ?_
    exact ⟨rfl, rfl⟩
  · skip
    refine W_call (.cons rfl (.cons rfl (.cons rfl .nil))) Tryz.call35 rfl (open_gone (ca := []) hi hA zM hs) ?_
    rintro v H' ⟨rfl, rfl⟩
    refine W_assign rfl rfl ?_
    refine W_nil ?_
    refine W_ret1m Tryz.results9 rfl (.nil _) (.refl _) ?_
    have e : initO o = (o, 22) := by unfold initO; rw [if_pos hs]
    rw [e, set_self hA]
    exact ⟨rfl, rfl⟩
set_option maxHeartbeats 1000000 in
theorem Init_out {tb : Nat} {id : Int} (hi : ¬ (0 ≤ id ∧ id < 256)) : Pure Tryz.prog (fun _ => True) 9 [.pointer (some ⟨tb, 0, none⟩), .int .i64 id] (.int .i64 2) := by
  intro w0 H hT
  refine L_enter Tryz.func9 rfl Tryz.ntmps9 rfl rfl ?_
  refine W_sr ?_
  refine W_assign rfl rfl ?_
  refine W_nil ?_
  refine W_sr ?_
  refine W_move rfl rfl ?_
  refine W_move rfl rfl ?_
  refine W_callp (.cons rfl (.cons rfl (.cons rfl .nil))) Tryz.call35 rfl (T := fun _ => True) trivial (open_out hi) ?_
  refine W_assign rfl rfl ?_
  refine W_nil ?_
  refine W_ret1m (H2 := H) Tryz.results9 rfl (.nil _) zH ?_
  exact ⟨rfl, rfl⟩
theorem initO_rng {o : Tone} (h : 0 ≤ o.prog ∧ o.prog ≤ 16) : 0 ≤ (initO o).1.prog ∧ (initO o).1.prog ≤ 16 := by
  unfold initO; split
  · exact h
  · split <;> exact h
theorem setO_rng {o : Tone} {prog : Int} (hp : 0 ≤ prog ∧ prog < 16) (h : 0 ≤ o.prog ∧ o.prog ≤ 16) : 0 ≤ (setO prog o).1.prog ∧ (setO prog o).1.prog ≤ 16 := by
  unfold setO; split
  · exact h
  · split
    · exact h
    · show 0 ≤ prog + 1 ∧ prog + 1 ≤ 16; omega
theorem Init_L {w0 : World} {H : Heap} {HB : Heap} {tb n : Nat} {Ws : List Wl} {Q Rs : List (Int × Int)} {As : List Tone} (hT : TimerH tb n Ws Q Rs As HB) {id : Int} : LCalls Tryz.prog w0 9 #[.pointer (some ⟨tb, 0, none⟩), .int .i64 id] (HB ++ H) (fun v H' => ∃ HB', TimerH tb n Ws Q Rs (onA initO As id).1 HB' ∧ v = .int .i64 (onA initO As id).2 ∧ H' = HB' ++ H) := by
  by_cases hi : 0 ≤ id ∧ id < 256
  · obtain ⟨i, rfl⟩ : ∃ i : Nat, id = (i : Int) := ⟨id.toNat, by omega⟩
    cases hT with
    | @mk pb bb HP HBk hP hB hA hn =>
      obtain ⟨o, ho⟩ := hA.at (i := i) (by omega)
      refine (Init_at (H := (HP ++ HBk) ++ H) ho (by omega)).mono ?_
      rintro v H' ⟨rfl, rfl⟩
      rw [onA_at (by omega) ho]
      exact ⟨_, .mk hP hB (hA.set i (initO_rng (hA.rng o (List.mem_of_getElem? ho)))) hn, rfl, rfl⟩
  · rw [onA_out hi]
    refine (Init_out hi w0 _ trivial).mono ?_
    rintro v H' ⟨rfl, rfl⟩
    exact ⟨HB, hT, rfl, rfl⟩
set_option maxHeartbeats 1000000 in
theorem Set_lo {tb : Nat} {id prog : Int} (hp : prog < 0) : Pure Tryz.prog (fun _ => True) 10 [.pointer (some ⟨tb, 0, none⟩), .int .i64 id, .int .i64 prog] (.int .i64 2) := by
  intro w0 H hT
  refine L_enter Tryz.func10 rfl Tryz.ntmps10 rfl rfl ?_
  refine W_sr ?_
  refine W_box (l := [.int .i64 prog]) rfl rfl rfl (fun b5 => ?_)
  refine W_assign rfl rfl ?_
  refine W_nil ?_
  refine W_seq ?_
  refine W_sr ?_
  refine W_move rfl rfl ?_
  refine W_x (X_ptrNotNil rfl rfl ty25) (fun _ h => by cases h) rfl ?_
  refine W_move rfl rfl ?_
  refine W_gyes rfl rfl ?_
  refine W_load (v := .int .i64 prog) rfl ty3 rfl (Cell.own (b := b5) zM rfl) rfl ?_
  refine W_gyes rfl rfl ?_
  refine W_bin rfl rfl b_lss rfl ?_
  first | rw [decide_eq_true (by omega)] | rw [decide_eq_false (by omega)]
  refine W_gyes rfl rfl ?_
  refine W_move rfl rfl ?_
  refine W_gno rfl rfl rfl ?_
  refine W_gno rfl rfl rfl ?_
  refine W_gyes rfl rfl ?_
  first | refine W_pickt rfl rfl rfl ?_ | refine W_pickf rfl rfl rfl ?_
  first | refine W_pickt rfl rfl rfl ?_ | refine W_pickf rfl rfl rfl ?_
  refine W_nil ?_
  refine W_condT rfl rfl ?_
  refine W_sr ?_
  refine W_assign rfl rfl ?_
  refine W_nil ?_
  refine W_ret1m (H2 := H) Tryz.results10 rfl (.nil _) zH ?_
  exact ⟨rfl, rfl⟩
set_option maxHeartbeats 1000000 in
theorem Set_hi {tb : Nat} {id prog : Int} (hp : 16 ≤ prog) : Pure Tryz.prog (fun _ => True) 10 [.pointer (some ⟨tb, 0, none⟩), .int .i64 id, .int .i64 prog] (.int .i64 2) := by
  intro w0 H hT
  refine L_enter Tryz.func10 rfl Tryz.ntmps10 rfl rfl ?_
  refine W_sr ?_
  refine W_box (l := [.int .i64 prog]) rfl rfl rfl (fun b5 => ?_)
  refine W_assign rfl rfl ?_
  refine W_nil ?_
  refine W_seq ?_
  refine W_sr ?_
  refine W_move rfl rfl ?_
  refine W_x (X_ptrNotNil rfl rfl ty25) (fun _ h => by cases h) rfl ?_
  refine W_move rfl rfl ?_
  refine W_gyes rfl rfl ?_
  refine W_load (v := .int .i64 prog) rfl ty3 rfl (Cell.own (b := b5) zM rfl) rfl ?_
  refine W_gyes rfl rfl ?_
  refine W_bin rfl rfl b_lss rfl ?_
  first | rw [decide_eq_true (by omega)] | rw [decide_eq_false (by omega)]
  refine W_gyes rfl rfl ?_
  refine W_move rfl rfl ?_
  refine W_gyes rfl rfl ?_
  refine W_load (v := .int .i64 prog) rfl ty3 rfl (Cell.own (b := b5) zM rfl) rfl ?_
  refine W_gyes rfl rfl ?_
  refine W_bin rfl rfl b_geq rfl ?_
  first | rw [decide_eq_true (by omega)] | rw [decide_eq_false (by omega)]
  refine W_gyes rfl rfl ?_
  first | refine W_pickt rfl rfl rfl ?_ | refine W_pickf rfl rfl rfl ?_
  first | refine W_pickt rfl rfl rfl ?_ | refine W_pickf rfl rfl rfl ?_
  refine W_nil ?_
  refine W_condT rfl rfl ?_
  refine W_sr ?_
  refine W_assign rfl rfl ?_
  refine W_nil ?_
  refine W_ret1m (H2 := H) Tryz.results10 rfl (.nil _) zH ?_
  exact ⟨rfl, rfl⟩
set_option maxHeartbeats 1000000 in
theorem Set_out {tb : Nat} {id prog : Int} (hp : 0 ≤ prog ∧ prog < 16) (hi : ¬ (0 ≤ id ∧ id < 256)) : Pure Tryz.prog (fun _ => True) 10 [.pointer (some ⟨tb, 0, none⟩), .int .i64 id, .int .i64 prog] (.int .i64 2) := by
  intro w0 H hT
  refine L_enter Tryz.func10 rfl Tryz.ntmps10 rfl rfl ?_
  refine W_sr ?_
  refine W_box (l := [.int .i64 prog]) rfl rfl rfl (fun b5 => ?_)
  refine W_assign rfl rfl ?_
  refine W_nil ?_
  refine W_seq ?_
  refine W_sr ?_
  refine W_move rfl rfl ?_
  refine W_x (X_ptrNotNil rfl rfl ty25) (fun _ h => by cases h) rfl ?_
  refine W_move rfl rfl ?_
  refine W_gyes rfl rfl ?_
  refine W_load (v := .int .i64 prog) rfl ty3 rfl (Cell.own (b := b5) zM rfl) rfl ?_
  refine W_gyes rfl rfl ?_
  refine W_bin rfl rfl b_lss rfl ?_
  first | rw [decide_eq_true (by omega)] | rw [decide_eq_false (by omega)]
  refine W_gyes rfl rfl ?_
  refine W_move rfl rfl ?_
  refine W_gyes rfl rfl ?_
  refine W_load (v := .int .i64 prog) rfl ty3 rfl (Cell.own (b := b5) zM rfl) rfl ?_
  refine W_gyes rfl rfl ?_
  refine W_bin rfl rfl b_geq rfl ?_
  first | rw [decide_eq_true (by omega)] | rw [decide_eq_false (by omega)]
  refine W_gyes rfl rfl ?_
  first | refine W_pickt rfl rfl rfl ?_ | refine W_pickf rfl rfl rfl ?_
  first | refine W_pickt rfl rfl rfl ?_ | refine W_pickf rfl rfl rfl ?_
  refine W_nil ?_
  refine W_condF rfl rfl ?_
  refine W_skip ?_
  refine W_sr ?_
  refine W_move rfl rfl ?_
  refine W_move rfl rfl ?_
  refine W_makeFunc .nil (.cons rfl .nil) rfl ?_
  refine W_callp (.cons rfl (.cons rfl (.cons rfl .nil))) Tryz.call35 rfl (T := fun _ => True) trivial (open_out hi) ?_
  refine W_assign rfl rfl ?_
  refine W_nil ?_
  refine W_ret1m (H2 := H) Tryz.results10 rfl (.nil _) zH ?_
  exact ⟨rfl, rfl⟩
set_option maxHeartbeats 1000000 in
theorem Set_at {w0 : World} {H : Heap} {pb bb tb i : Nat} {As : List Tone} {o : Tone} (hA : As[i]? = some o) {prog : Int} (hi : i < 256) (hp : 0 ≤ prog ∧ prog < 16)  : LCalls Tryz.prog w0 10 #[.pointer (some ⟨tb, 0, none⟩), .int .i64 (i : Int), .int .i64 prog] ((tb, .cells 91 1026 (tmRow pb bb As)) :: H) (fun v H' => v = .int .i64 ((setO prog) o).2 ∧ H' = (tb, .cells 91 1026 (tmRow pb bb (As.set i ((setO prog) o).1))) :: H) := by
  refine L_enter (l := [.pointer (some ⟨tb, 0, none⟩), .int .i64 (i : Int), .int .i64 prog]) Tryz.func10 rfl Tryz.ntmps10 rfl rfl ?_
  refine W_sr ?_
  refine W_box (l := [.int .i64 prog]) rfl rfl rfl (fun b5 => ?_)
  refine W_assign rfl rfl ?_
  refine W_nil ?_
  refine W_seq ?_
  refine W_sr ?_
  refine W_move rfl rfl ?_
  refine W_x (X_ptrNotNil rfl rfl ty25) (fun _ h => by cases h) rfl ?_
  refine W_move rfl rfl ?_
  refine W_gyes rfl rfl ?_
  refine W_load (v := .int .i64 prog) rfl ty3 rfl (Cell.own (b := b5) zM rfl) rfl ?_
  refine W_gyes rfl rfl ?_
  refine W_bin rfl rfl b_lss rfl ?_
  first | rw [decide_eq_true (by omega)] | rw [decide_eq_false (by omega)]
  refine W_gyes rfl rfl ?_
  refine W_move rfl rfl ?_
  refine W_gyes rfl rfl ?_
  refine W_load (v := .int .i64 prog) rfl ty3 rfl (Cell.own (b := b5) zM rfl) rfl ?_
  refine W_gyes rfl rfl ?_
  refine W_bin rfl rfl b_geq rfl ?_
  first | rw [decide_eq_true (by omega)] | rw [decide_eq_false (by omega)]
  refine W_gyes rfl rfl ?_
  first | refine W_pickt rfl rfl rfl ?_ | refine W_pickf rfl rfl rfl ?_
  first | refine W_pickt rfl rfl rfl ?_ | refine W_pickf rfl rfl rfl ?_
  refine W_nil ?_
  refine W_condF rfl rfl ?_
  refine W_skip ?_
  refine W_sr ?_
  refine W_move rfl rfl ?_
  refine W_move rfl rfl ?_
  refine W_makeFunc .nil (.cons rfl .nil) rfl ?_
  cases hs : o.shut
  · skip
    refine W_call (.cons rfl (.cons rfl (.cons rfl .nil))) Tryz.call35 rfl ((open_in (R := fun v H' => v = .int .i64 (setO prog o).2 ∧ H' = (tb, .cells 91 1026 (tmRow pb bb (As.set i (setO prog o).1))) :: H) (ca := [.pointer (some ⟨b5, 0, none⟩)]) Tryz.call37 hi hA zM hs (H := (tb, .cells 91 1026 (tmRow pb bb As)) :: (b5, .cells 3 1 [.int .i64 prog]) :: H) (set1_L (H := H) hA hs hp) (by rintro v H2 ⟨rfl, _⟩; exact ⟨_, rfl⟩)).hsub zH) ?_
    rintro v H' ⟨rfl, rfl⟩
    refine W_assign rfl rfl ?_
    refine W_nil ?_
    refine W_ret1m (H2 := (tb, .cells 91 1026 (tmRow pb bb (As.set i (setO prog o).1))) :: H) Tryz.results10 rfl (.nil _) zH ?_
    exact ⟨rfl, rfl⟩
  · skip
    refine W_call (.cons rfl (.cons rfl (.cons rfl .nil))) Tryz.call35 rfl ((open_gone (ca := [.pointer (some ⟨b5, 0, none⟩)]) (H := (tb, .cells 91 1026 (tmRow pb bb As)) :: (b5, .cells 3 1 [.int .i64 prog]) :: H) hi hA zM hs).hsub zH) ?_
    rintro v H' ⟨rfl, rfl⟩
    refine W_assign rfl rfl ?_
    refine W_nil ?_
    refine W_ret1m (H2 := (tb, .cells 91 1026 (tmRow pb bb As)) :: H) Tryz.results10 rfl (.nil _) zH ?_
    have e : setO prog o = (o, 22) := by unfold setO; rw [if_pos hs]
    rw [e, set_self hA]
    exact ⟨rfl, rfl⟩
def setA (As : List Tone) (id prog : Int) : List Tone × Int := if 0 ≤ prog ∧ prog < 16 then onA (setO prog) As id else (As, 2)
theorem Set_L {w0 : World} {H : Heap} {HB : Heap} {tb n : Nat} {Ws : List Wl} {Q Rs : List (Int × Int)} {As : List Tone} (hT : TimerH tb n Ws Q Rs As HB) {id prog : Int} : LCalls Tryz.prog w0 10 #[.pointer (some ⟨tb, 0, none⟩), .int .i64 id, .int .i64 prog] (HB ++ H) (fun v H' => ∃ HB', TimerH tb n Ws Q Rs (setA As id prog).1 HB' ∧ v = .int .i64 (setA As id prog).2 ∧ H' = HB' ++ H) := by
  unfold setA
  by_cases hp : 0 ≤ prog ∧ prog < 16
  · rw [if_pos hp]
    by_cases hi : 0 ≤ id ∧ id < 256
    · obtain ⟨i, rfl⟩ : ∃ i : Nat, id = (i : Int) := ⟨id.toNat, by omega⟩
      cases hT with
      | @mk pb bb HP HBk hP hB hA hn =>
        obtain ⟨o, ho⟩ := hA.at (i := i) (by omega)
        refine (Set_at (H := (HP ++ HBk) ++ H) ho (by omega) hp).mono ?_
        rintro v H' ⟨rfl, rfl⟩
        rw [onA_at (by omega) ho]
        exact ⟨_, .mk hP hB (hA.set i (setO_rng hp (hA.rng o (List.mem_of_getElem? ho)))) hn, rfl, rfl⟩
    · rw [onA_out hi]
      refine (Set_out hp hi w0 _ trivial).mono ?_
      rintro v H' ⟨rfl, rfl⟩
      exact ⟨HB, hT, rfl, rfl⟩
  · rw [if_neg hp]
    by_cases h0 : prog < 0
    · refine (Set_lo h0 w0 _ trivial).mono ?_
      rintro v H' ⟨rfl, rfl⟩
      exact ⟨HB, hT, rfl, rfl⟩
    · refine (Set_hi (by omega) w0 _ trivial).mono ?_
      rintro v H' ⟨rfl, rfl⟩
      exact ⟨HB, hT, rfl, rfl⟩
end Go.Proofs.YtcmfldfeakmdoaaGreatDoor
namespace Go.Proofs.YtcmfldfeakmdoaaGreatDoor
open Go Go.Sl
attribute [local irreducible] W
def wasT (Ws : List Wl) (Q : List (Int × Int)) (z : Int) : Bool := decide (0 < cntK Ws [z] Ws.length + (delsQ Q [z]).2)
def stopM (Ws : List Wl) (Q : List (Int × Int)) (o : Tone) (z : Int) : List Wl × List (Int × Int) × Bool × Int := if o.made = true then (Ws.map (delW [z]), delQ Q z, wasT Ws Q z, 0) else (Ws, Q, false, 1)
set_option maxHeartbeats 4000000 in
theorem take_L {w0 : World} {H : Heap} {tb pb bb n : Nat} {HP HBk : Heap} {Ws : List Wl} {Q Rs : List (Int × Int)} {As : List Tone} (hP : PendH pb n Q Rs HP) (hB : BankH bb Ws HBk) (hn : Ws.length = n ∧ n ≤ 64) {z : Int}  : LCalls Tryz.prog w0 41 #[.pointer (some ⟨tb, 0, none⟩), .int .i64 z] ((tb, .cells 91 1026 (tmRow pb bb As)) :: (HP ++ (HBk ++ H))) (fun v H' => ∃ HP2 HB2, PendH pb n (delQ Q z) Rs HP2 ∧ BankH bb (Ws.map (delW [z])) HB2 ∧ v = .bool (wasT Ws Q z) ∧ H' = (tb, .cells 91 1026 (tmRow pb bb As)) :: (HP2 ++ (HB2 ++ H))) := by
  have hc1 := cntK_le Ws [z] Ws.length
  have hc2 : (delsQ Q [z]).2 ≤ 1 := delsQ_le Q [z] 1 (Nat.le_refl _)
  rw [List.length_singleton, Nat.mul_one] at hc1
  refine L_enter (l := [.pointer (some ⟨tb, 0, none⟩), .int .i64 z]) Tryz.func41 rfl Tryz.ntmps41 rfl rfl ?_
  refine W_sr ?_
  refine W_assign rfl rfl ?_
  refine W_nil ?_
  refine W_seq ?_
  refine W_cutX (X := (Heap × Heap)) (fun _ => [(4, .bool (wasT Ws Q z))]) (fun x => (tb, .cells 91 1026 (tmRow pb bb As)) :: (x.1 ++ (x.2 ++ H))) (fun x => PendH pb n (delQ Q z) Rs x.1 ∧ BankH bb (Ws.map (delW [z])) x.2) ?_ ?_
  · skip
    refine W_anyC [(tb, .cells 91 1026 (tmRow pb bb As))] (by kernel_rfl) ?_
    refine WC_take 0 (l' := #[true, false, false, false, false, false, false, false, false, false, false, false, false, false, false, false, false]) rfl (by decide +kernel) (by decide +kernel) (by decide +kernel) rfl (by decide +kernel) (X_move rfl) rfl ?_
    refine WC_take 1 (l' := #[true, true, false, false, false, false, false, false, false, false, false, false, false, false, false, false, false]) rfl (by decide +kernel) (by decide +kernel) (by decide +kernel) rfl (by decide +kernel) (X_nilCheck rfl) rfl ?_
    refine WC_take 2 (l' := #[true, true, true, false, false, false, false, false, false, false, false, false, false, false, false, false, false]) rfl (by decide +kernel) (by decide +kernel) (by decide +kernel) rfl (by decide +kernel) (X_fieldAddr rfl fld91_1 (by decide)) rfl ?_
    refine WC_take 3 (l' := #[true, true, true, true, false, false, false, false, false, false, false, false, false, false, false, false, false]) rfl (by decide +kernel) (by decide +kernel) (by decide +kernel) rfl (by decide +kernel) (X_load (v := .pointer (some ⟨bb, 0, none⟩)) rfl ty84 rfl (Cell.own (b := tb) zM rfl)) rfl ?_
    refine WC_take 4 (l' := #[true, true, true, true, true, false, false, false, false, false, false, false, false, false, false, false, false]) rfl (by decide +kernel) (by decide +kernel) (by decide +kernel) rfl (by decide +kernel) (X_move rfl) rfl ?_
    refine WC_take 7 (l' := #[true, true, true, true, true, false, false, true, false, false, false, false, false, false, false, false, false]) rfl (by decide +kernel) (by decide +kernel) (by decide +kernel) rfl (by decide +kernel) (X_move rfl) rfl ?_
    refine WC_take 8 (l' := #[true, true, true, true, true, false, false, true, true, false, false, false, false, false, false, false, false]) rfl (by decide +kernel) (by decide +kernel) (by decide +kernel) rfl (by decide +kernel) (X_nilCheck rfl) rfl ?_
    refine WC_take 9 (l' := #[true, true, true, true, true, false, false, true, true, true, false, false, false, false, false, false, false]) rfl (by decide +kernel) (by decide +kernel) (by decide +kernel) rfl (by decide +kernel) (X_fieldAddr rfl fld91_0 (by decide)) rfl ?_
    refine WC_take 10 (l' := #[true, true, true, true, true, false, false, true, true, true, true, false, false, false, false, false, false]) rfl (by decide +kernel) (by decide +kernel) (by decide +kernel) rfl (by decide +kernel) (X_load (v := .pointer (some ⟨pb, 0, none⟩)) rfl ty81 rfl (Cell.own (b := tb) zM rfl)) rfl ?_
    refine WC_take 11 (l' := #[true, true, true, true, true, false, false, true, true, true, true, true, false, false, false, false, false]) rfl (by decide +kernel) (by decide +kernel) (by decide +kernel) rfl (by decide +kernel) (X_move rfl) rfl ?_
    refine WC_two 5 12 (l' := #[true, true, true, true, true, true, false, true, true, true, true, true, false, false, false, false, false]) (l'' := #[true, true, true, true, true, false, false, true, true, true, true, true, true, false, false, false, false]) zH (by decide +kernel) rfl rfl (by decide +kernel) (by decide +kernel) ?_ ?_
    · skip
      refine W_buildSlice (l := [.int .i64 z]) ty24 ty3 (.cons rfl rfl rfl rfl rfl .nil) rfl rfl rfl rfl rfl rfl rfl (fun b10 => ?_)
      refine W_nil ?_
      refine WC_goal ?_
      refine WC_two 6 12 (l' := #[true, true, true, true, true, true, true, true, true, true, true, true, false, false, false, false, false]) (l'' := #[true, true, true, true, true, true, false, true, true, true, true, true, true, false, false, false, false]) zH (by decide +kernel) rfl rfl (by decide +kernel) (by decide +kernel) ?_ ?_
      · skip
        refine W_call (.cons rfl (.cons rfl .nil)) Tryz.call77 rfl ((DelB_L hB (by omega) (l := [z]) (ad := some ⟨b10, 0, none⟩) (cap := 1) (by show 1 ≤ 4611686018427387904; decide) (by show 1 ≤ 1000000; decide) (Holds.own (b := b10) zM) (H := (b10, .cells 3 1 [.int .i64 z]) :: (tb, .cells 91 1026 (tmRow pb bb As)) :: (HP ++ H))).hsub zH) ?_
        rintro v H' ⟨HB2, hB2, rfl, rfl⟩
        refine W_nil ?_
        refine WC_goal ?_
        refine WC_one 12 (l' := #[true, true, true, true, true, true, true, true, true, true, true, true, true, false, false, false, false]) zH (by decide +kernel) rfl (by decide +kernel) ?_
        refine W_buildSlice (l := [.int .i64 z]) ty24 ty3 (.cons rfl rfl rfl rfl rfl .nil) rfl rfl rfl rfl rfl rfl rfl (fun b17 => ?_)
        refine W_nil ?_
        refine WC_goal ?_
        refine WC_one 13 (l' := #[true, true, true, true, true, true, true, true, true, true, true, true, true, true, false, false, false]) zH (by decide +kernel) rfl (by decide +kernel) ?_
        refine W_call (.cons rfl (.cons rfl .nil)) Tryz.call78 rfl ((pDel_L hP (by omega) (ids := [z]) (ad := some ⟨b17, 0, none⟩) (cap := 1) (by show 1 ≤ 1000000; decide) (Holds.own (b := b17) zM) (H := (b17, .cells 3 1 [.int .i64 z]) :: (tb, .cells 91 1026 (tmRow pb bb As)) :: (HB2 ++ H))).hsub zH) ?_
        rintro v H' ⟨HP2, hP2, rfl, rfl⟩
        refine W_nil ?_
        refine WC_goal ?_
        refine WC_take 14 (l' := #[true, true, true, true, true, true, true, true, true, true, true, true, true, true, true, false, false]) rfl (by decide +kernel) (by decide +kernel) (by decide +kernel) rfl (by decide +kernel) (X_bin rfl rfl (b_add (m := ((cntK Ws [z] Ws.length + (delsQ Q [z]).2 : Nat) : Int)) (by rw [i64w (by omega)]; omega))) rfl ?_
        refine WC_take 15 (l' := #[true, true, true, true, true, true, true, true, true, true, true, true, true, true, true, true, false]) rfl (by decide +kernel) (by decide +kernel) (by decide +kernel) rfl (by decide +kernel) (X_bin rfl rfl b_gtr) rfl ?_
        rw [show decide ((0 : Int) < ((cntK Ws [z] Ws.length + (delsQ Q [z]).2 : Nat) : Int)) = wasT Ws Q z from decide_eq_decide.2 (by omega)]
        refine WC_take 16 (l' := #[true, true, true, true, true, true, true, true, true, true, true, true, true, true, true, true, true]) rfl (by decide +kernel) (by decide +kernel) (by decide +kernel) rfl (by decide +kernel) (X_assign rfl) rfl ?_
        refine WC_done zH (by decide +kernel) ?_
        refine W_joinX (HP2, HB2) ⟨hP2, hB2⟩ (sub_cons rfl (sub_nil _)) zH
      · skip
        refine W_buildSlice (l := [.int .i64 z]) ty24 ty3 (.cons rfl rfl rfl rfl rfl .nil) rfl rfl rfl rfl rfl rfl rfl (fun b17 => ?_)
        refine W_nil ?_
        refine WC_goal ?_
        refine WC_one 6 (l' := #[true, true, true, true, true, true, true, true, true, true, true, true, true, false, false, false, false]) zH (by decide +kernel) rfl (by decide +kernel) ?_
        refine W_call (.cons rfl (.cons rfl .nil)) Tryz.call77 rfl ((DelB_L hB (by omega) (l := [z]) (ad := some ⟨b10, 0, none⟩) (cap := 1) (by show 1 ≤ 4611686018427387904; decide) (by show 1 ≤ 1000000; decide) (Holds.own (b := b10) zM) (H := (b10, .cells 3 1 [.int .i64 z]) :: (b17, .cells 3 1 [.int .i64 z]) :: (tb, .cells 91 1026 (tmRow pb bb As)) :: (HP ++ H))).hsub zH) ?_
        rintro v H' ⟨HB2, hB2, rfl, rfl⟩
        refine W_nil ?_
        refine WC_goal ?_
        refine WC_one 13 (l' := #[true, true, true, true, true, true, true, true, true, true, true, true, true, true, false, false, false]) zH (by decide +kernel) rfl (by decide +kernel) ?_
        refine W_call (.cons rfl (.cons rfl .nil)) Tryz.call78 rfl ((pDel_L hP (by omega) (ids := [z]) (ad := some ⟨b17, 0, none⟩) (cap := 1) (by show 1 ≤ 1000000; decide) (Holds.own (b := b17) zM) (H := (b17, .cells 3 1 [.int .i64 z]) :: (tb, .cells 91 1026 (tmRow pb bb As)) :: (HB2 ++ H))).hsub zH) ?_
        rintro v H' ⟨HP2, hP2, rfl, rfl⟩
        refine W_nil ?_
        refine WC_goal ?_
        refine WC_take 14 (l' := #[true, true, true, true, true, true, true, true, true, true, true, true, true, true, true, false, false]) rfl (by decide +kernel) (by decide +kernel) (by decide +kernel) rfl (by decide +kernel) (X_bin rfl rfl (b_add (m := ((cntK Ws [z] Ws.length + (delsQ Q [z]).2 : Nat) : Int)) (by rw [i64w (by omega)]; omega))) rfl ?_
        refine WC_take 15 (l' := #[true, true, true, true, true, true, true, true, true, true, true, true, true, true, true, true, false]) rfl (by decide +kernel) (by decide +kernel) (by decide +kernel) rfl (by decide +kernel) (X_bin rfl rfl b_gtr) rfl ?_
        rw [show decide ((0 : Int) < ((cntK Ws [z] Ws.length + (delsQ Q [z]).2 : Nat) : Int)) = wasT Ws Q z from decide_eq_decide.2 (by omega)]
        refine WC_take 16 (l' := #[true, true, true, true, true, true, true, true, true, true, true, true, true, true, true, true, true]) rfl (by decide +kernel) (by decide +kernel) (by decide +kernel) rfl (by decide +kernel) (X_assign rfl) rfl ?_
        refine WC_done zH (by decide +kernel) ?_
        refine W_joinX (HP2, HB2) ⟨hP2, hB2⟩ (sub_cons rfl (sub_nil _)) zH
    · skip
      refine W_buildSlice (l := [.int .i64 z]) ty24 ty3 (.cons rfl rfl rfl rfl rfl .nil) rfl rfl rfl rfl rfl rfl rfl (fun b17 => ?_)
      refine W_nil ?_
      refine WC_goal ?_
      refine WC_one 5 (l' := #[true, true, true, true, true, true, false, true, true, true, true, true, true, false, false, false, false]) zH (by decide +kernel) rfl (by decide +kernel) ?_
      refine W_buildSlice (l := [.int .i64 z]) ty24 ty3 (.cons rfl rfl rfl rfl rfl .nil) rfl rfl rfl rfl rfl rfl rfl (fun b10 => ?_)
      refine W_nil ?_
      refine WC_goal ?_
      refine WC_one 6 (l' := #[true, true, true, true, true, true, true, true, true, true, true, true, true, false, false, false, false]) zH (by decide +kernel) rfl (by decide +kernel) ?_
      refine W_call (.cons rfl (.cons rfl .nil)) Tryz.call77 rfl ((DelB_L hB (by omega) (l := [z]) (ad := some ⟨b10, 0, none⟩) (cap := 1) (by show 1 ≤ 4611686018427387904; decide) (by show 1 ≤ 1000000; decide) (Holds.own (b := b10) zM) (H := (b10, .cells 3 1 [.int .i64 z]) :: (b17, .cells 3 1 [.int .i64 z]) :: (tb, .cells 91 1026 (tmRow pb bb As)) :: (HP ++ H))).hsub zH) ?_
      rintro v H' ⟨HB2, hB2, rfl, rfl⟩
      refine W_nil ?_
      refine WC_goal ?_
      refine WC_one 13 (l' := #[true, true, true, true, true, true, true, true, true, true, true, true, true, true, false, false, false]) zH (by decide +kernel) rfl (by decide +kernel) ?_
      refine W_call (.cons rfl (.cons rfl .nil)) Tryz.call78 rfl ((pDel_L hP (by omega) (ids := [z]) (ad := some ⟨b17, 0, none⟩) (cap := 1) (by show 1 ≤ 1000000; decide) (Holds.own (b := b17) zM) (H := (b17, .cells 3 1 [.int .i64 z]) :: (tb, .cells 91 1026 (tmRow pb bb As)) :: (HB2 ++ H))).hsub zH) ?_
      rintro v H' ⟨HP2, hP2, rfl, rfl⟩
      refine W_nil ?_
      refine WC_goal ?_
      refine WC_take 14 (l' := #[true, true, true, true, true, true, true, true, true, true, true, true, true, true, true, false, false]) rfl (by decide +kernel) (by decide +kernel) (by decide +kernel) rfl (by decide +kernel) (X_bin rfl rfl (b_add (m := ((cntK Ws [z] Ws.length + (delsQ Q [z]).2 : Nat) : Int)) (by rw [i64w (by omega)]; omega))) rfl ?_
      refine WC_take 15 (l' := #[true, true, true, true, true, true, true, true, true, true, true, true, true, true, true, true, false]) rfl (by decide +kernel) (by decide +kernel) (by decide +kernel) rfl (by decide +kernel) (X_bin rfl rfl b_gtr) rfl ?_
      rw [show decide ((0 : Int) < ((cntK Ws [z] Ws.length + (delsQ Q [z]).2 : Nat) : Int)) = wasT Ws Q z from decide_eq_decide.2 (by omega)]
      refine WC_take 16 (l' := #[true, true, true, true, true, true, true, true, true, true, true, true, true, true, true, true, true]) rfl (by decide +kernel) (by decide +kernel) (by decide +kernel) rfl (by decide +kernel) (X_assign rfl) rfl ?_
      refine WC_done zH (by decide +kernel) ?_
      refine W_joinX (HP2, HB2) ⟨hP2, hB2⟩ (sub_cons rfl (sub_nil _)) zH
  rintro ⟨HP2, HB2⟩ ⟨hP2, hB2⟩
  dsimp only at hP2 hB2 ⊢
  refine W_ret1m (H2 := (tb, .cells 91 1026 (tmRow pb bb As)) :: (HP2 ++ (HB2 ++ H))) Tryz.results41 rfl (.nil _) zH ?_
  exact ⟨HP2, HB2, hP2, hB2, rfl, rfl⟩
set_option maxHeartbeats 1000000 in
theorem stop1_L {w0 : World} {H : Heap} {tb pb bb n : Nat} {HP HBk : Heap} {Ws : List Wl} {Q Rs : List (Int × Int)} {As : List Tone} (hP : PendH pb n Q Rs HP) (hB : BankH bb Ws HBk) (hn : Ws.length = n ∧ n ≤ 64) {i : Nat} {o : Tone} {z : Int} (hA : As[i]? = some o) {b2 b3 b6 : Nat}  : LCalls Tryz.prog w0 50 #[.pointer (some ⟨tb, 2 + i * 4, none⟩), .pointer (some ⟨b2, 0, none⟩), .pointer (some ⟨b3, 0, none⟩), .pointer (some ⟨b6, 0, none⟩)] ((b2, .cells 25 1 [.pointer (some ⟨tb, 0, none⟩)]) :: (b3, .cells 3 1 [.int .i64 z]) :: (b6, .cells 4 1 [.bool false]) :: (tb, .cells 91 1026 (tmRow pb bb As)) :: (HP ++ (HBk ++ H))) (fun v H' => ∃ HP2 HB2, PendH pb n (stopM Ws Q o z).2.1 Rs HP2 ∧ BankH bb (stopM Ws Q o z).1 HB2 ∧ v = .int .i64 (stopM Ws Q o z).2.2.2 ∧ H' = (b6, .cells 4 1 [.bool (stopM Ws Q o z).2.2.1]) :: (tb, .cells 91 1026 (tmRow pb bb As)) :: (HP2 ++ (HB2 ++ H))) := by
  refine L_enter (l := [.pointer (some ⟨tb, 2 + i * 4, none⟩), .pointer (some ⟨b2, 0, none⟩), .pointer (some ⟨b3, 0, none⟩), .pointer (some ⟨b6, 0, none⟩)]) Tryz.func50 rfl Tryz.ntmps50 rfl rfl ?_
  refine W_sr ?_
  refine W_assign rfl rfl ?_
  refine W_nil ?_
  refine W_seq ?_
  refine W_sr ?_
  refine W_move rfl rfl ?_
  refine W_nilCheck rfl rfl ?_
  refine W_fieldAddr rfl fld88_0 (by decide) rfl ?_
  refine W_load (v := .bool o.made) rfl ty4 rfl (Cell.own (b := tb) zM (tm_get0 hA)) rfl ?_
  refine W_not rfl rfl ?_
  refine W_nil ?_
  refine W_condS rfl (fun c0 => ?_) (fun c0 => ?_)
  · simp only [cond_true, cond_false, Bool.and_eq_true, Bool.or_eq_true, Bool.and_eq_false_iff, Bool.or_eq_false_iff, decide_eq_true_eq, decide_eq_false_iff_not, Bool.not_eq_true', Bool.not_eq_false', ne_eq, Decidable.not_not] at c0
    refine W_sr ?_
    refine W_assign rfl rfl ?_
    refine W_nil ?_
    refine W_ret1m (H2 := (b6, .cells 4 1 [.bool false]) :: (tb, .cells 91 1026 (tmRow pb bb As)) :: (HP ++ (HBk ++ H))) Tryz.results50 rfl (.nil _) zH ?_
    have e : stopM Ws Q o z = (Ws, Q, false, 1) := by unfold stopM; rw [if_neg (by rw [c0]; decide)]
    rw [e]
    exact ⟨HP, HBk, hP, hB, rfl, rfl⟩
  · simp only [cond_true, cond_false, Bool.and_eq_true, Bool.or_eq_true, Bool.and_eq_false_iff, Bool.or_eq_false_iff, decide_eq_true_eq, decide_eq_false_iff_not, Bool.not_eq_true', Bool.not_eq_false', ne_eq, Decidable.not_not] at c0
    refine W_skip ?_
    refine W_sr ?_
    refine W_load (v := .pointer (some ⟨tb, 0, none⟩)) rfl ty25 rfl (Cell.own (b := b2) zM rfl) rfl ?_
    refine W_load (v := .int .i64 z) rfl ty3 rfl (Cell.own (b := b3) zM rfl) rfl ?_
    refine W_call (.cons rfl (.cons rfl .nil)) Tryz.call41 rfl ((take_L (z := z) hP hB hn (As := As) (H := (b6, .cells 4 1 [.bool false]) :: H)).hsub zH) ?_
    rintro v H' ⟨HP2, HB2, hP2, hB2, rfl, rfl⟩
    refine W_store (l' := [.bool (wasT Ws Q z)]) rfl rfl ty4 rfl rfl (b := b6) zM rfl rfl zU ?_
    refine W_nil ?_
    refine W_sr ?_
    refine W_assign rfl rfl ?_
    refine W_nil ?_
    refine W_ret1m (H2 := (b6, .cells 4 1 [.bool (wasT Ws Q z)]) :: (tb, .cells 91 1026 (tmRow pb bb As)) :: (HP2 ++ (HB2 ++ H))) Tryz.results50 rfl (.nil _) zH ?_
    have e : stopM Ws Q o z = (Ws.map (delW [z]), delQ Q z, wasT Ws Q z, 0) := by unfold stopM; rw [if_pos c0]
    rw [e]
    exact ⟨HP2, HB2, hP2, hB2, rfl, rfl⟩
set_option maxHeartbeats 1000000 in
theorem Stop_at {w0 : World} {H : Heap} {tb pb bb n : Nat} {HP HBk : Heap} {Ws : List Wl} {Q Rs : List (Int × Int)} {As : List Tone} (hP : PendH pb n Q Rs HP) (hB : BankH bb Ws HBk) (hn : Ws.length = n ∧ n ≤ 64) {i : Nat} {o : Tone} (hi : i < 256) (hA : As[i]? = some o)  : LCalls Tryz.prog w0 16 #[.pointer (some ⟨tb, 0, none⟩), .int .i64 (i : Int)] ((tb, .cells 91 1026 (tmRow pb bb As)) :: (HP ++ (HBk ++ H))) (fun v H' => ∃ HP2 HB2, PendH pb n (stopM Ws Q o (i : Int)).2.1 Rs HP2 ∧ BankH bb (stopM Ws Q o (i : Int)).1 HB2 ∧ v = .tuple #[.bool (stopM Ws Q o (i : Int)).2.2.1, .int .i64 (stopM Ws Q o (i : Int)).2.2.2] ∧ H' = (tb, .cells 91 1026 (tmRow pb bb As)) :: (HP2 ++ (HB2 ++ H))) := by
  refine L_enter (l := [.pointer (some ⟨tb, 0, none⟩), .int .i64 (i : Int)]) Tryz.func16 rfl Tryz.ntmps16 rfl rfl ?_
  refine W_sr ?_
  refine W_box (l := [.pointer (some ⟨tb, 0, none⟩)]) rfl rfl rfl (fun b2 => ?_)
  refine W_box (l := [.int .i64 (i : Int)]) rfl rfl rfl (fun b3 => ?_)
  refine W_assign rfl rfl ?_
  refine W_assign rfl rfl ?_
  refine W_nil ?_
  refine W_sr ?_
  refine W_alloc (l := [.bool false]) ty4 rfl rfl (fun b6 => ?_)
  refine W_store (l' := [.bool false]) rfl rfl ty4 rfl rfl (b := b6) zM rfl rfl zU ?_
  refine W_nil ?_
  refine W_sr ?_
  refine W_load (v := .pointer (some ⟨tb, 0, none⟩)) rfl ty25 rfl (Cell.own (b := b2) zM rfl) rfl ?_
  refine W_load (v := .int .i64 (i : Int)) rfl ty3 rfl (Cell.own (b := b3) zM rfl) rfl ?_
  refine W_makeFunc .nil (.cons rfl (.cons rfl (.cons rfl .nil))) rfl ?_
  refine W_call (.cons rfl (.cons rfl (.cons rfl .nil))) Tryz.call49 rfl ((with_in (i := i) (fi := 50) (ca := [.pointer (some ⟨b2, 0, none⟩), .pointer (some ⟨b3, 0, none⟩), .pointer (some ⟨b6, 0, none⟩)]) Tryz.call50 hi (stop1_L (z := (i : Int)) (b2 := b2) (b3 := b3) (b6 := b6) hP hB hn hA (H := H)) ?_).hsub zH) ?_
  · rintro v H2 ⟨_, _, _, _, e, _⟩
    exact ⟨_, e⟩
  rintro v H' ⟨HP2, HB2, hP2, hB2, rfl, rfl⟩
  refine W_assign rfl rfl ?_
  refine W_nil ?_
  refine W_sr ?_
  refine W_load (v := .bool (stopM Ws Q o (i : Int)).2.2.1) rfl ty4 rfl (Cell.own (b := b6) zM rfl) rfl ?_
  refine W_move rfl rfl ?_
  refine W_assign rfl rfl ?_
  refine W_assign rfl rfl ?_
  refine W_nil ?_
  refine W_ret2m (H2 := (tb, .cells 91 1026 (tmRow pb bb As)) :: (HP2 ++ (HB2 ++ H))) Tryz.results16 rfl rfl (.nil _) zH ?_
  exact ⟨HP2, HB2, hP2, hB2, rfl, rfl⟩
set_option maxHeartbeats 1000000 in
theorem Stop_out {tb : Nat} {id : Int} (hi : ¬ (0 ≤ id ∧ id < 256)) : Pure Tryz.prog (fun _ => True) 16 [.pointer (some ⟨tb, 0, none⟩), .int .i64 id] (.tuple #[.bool false, .int .i64 2]) := by
  intro w0 H hT
  refine L_enter Tryz.func16 rfl Tryz.ntmps16 rfl rfl ?_
  refine W_sr ?_
  refine W_box (l := [.pointer (some ⟨tb, 0, none⟩)]) rfl rfl rfl (fun b2 => ?_)
  refine W_box (l := [.int .i64 id]) rfl rfl rfl (fun b3 => ?_)
  refine W_assign rfl rfl ?_
  refine W_assign rfl rfl ?_
  refine W_nil ?_
  refine W_sr ?_
  refine W_alloc (l := [.bool false]) ty4 rfl rfl (fun b6 => ?_)
  refine W_store (l' := [.bool false]) rfl rfl ty4 rfl rfl (b := b6) zM rfl rfl zU ?_
  refine W_nil ?_
  refine W_sr ?_
  refine W_load (v := .pointer (some ⟨tb, 0, none⟩)) rfl ty25 rfl (Cell.own (b := b2) zM rfl) rfl ?_
  refine W_load (v := .int .i64 id) rfl ty3 rfl (Cell.own (b := b3) zM rfl) rfl ?_
  refine W_makeFunc .nil (.cons rfl (.cons rfl (.cons rfl .nil))) rfl ?_
  refine W_callp (.cons rfl (.cons rfl (.cons rfl .nil))) Tryz.call49 rfl (T := fun _ => True) trivial (with_out hi) ?_
  refine W_assign rfl rfl ?_
  refine W_nil ?_
  refine W_sr ?_
  refine W_load (v := .bool false) rfl ty4 rfl (Cell.own (b := b6) zM rfl) rfl ?_
  refine W_move rfl rfl ?_
  refine W_assign rfl rfl ?_
  refine W_assign rfl rfl ?_
  refine W_nil ?_
  refine W_ret2m (H2 := H) Tryz.results16 rfl rfl (.nil _) zH ?_
  exact ⟨rfl, rfl⟩
def stopA (Ws : List Wl) (Q : List (Int × Int)) (As : List Tone) (id : Int) : List Wl × List (Int × Int) × Bool × Int := if 0 ≤ id ∧ id < 256 then (match As[id.toNat]? with
  | some o => stopM Ws Q o id
  | none => (Ws, Q, false, 2)) else (Ws, Q, false, 2)
theorem stopA_at {Ws : List Wl} {Q : List (Int × Int)} {As : List Tone} {i : Nat} {o : Tone} (hi : i < 256) (h : As[i]? = some o) : stopA Ws Q As (i : Int) = stopM Ws Q o (i : Int) := by
  unfold stopA; rw [if_pos (by omega), show ((i : Nat) : Int).toNat = i by omega, h]
theorem stopM_len {Ws : List Wl} {Q : List (Int × Int)} {o : Tone} {z : Int} : (stopM Ws Q o z).1.length = Ws.length := by
  unfold stopM; split
  · exact List.length_map _
  · rfl
theorem Stop_L {w0 : World} {H HB : Heap} {tb n : Nat} {Ws : List Wl} {Q Rs : List (Int × Int)} {As : List Tone} (hT : TimerH tb n Ws Q Rs As HB) {id : Int} : LCalls Tryz.prog w0 16 #[.pointer (some ⟨tb, 0, none⟩), .int .i64 id] (HB ++ H) (fun v H' => ∃ HB', TimerH tb n (stopA Ws Q As id).1 (stopA Ws Q As id).2.1 Rs As HB' ∧ v = .tuple #[.bool (stopA Ws Q As id).2.2.1, .int .i64 (stopA Ws Q As id).2.2.2] ∧ H' = HB' ++ H) := by
  by_cases hi : 0 ≤ id ∧ id < 256
  · obtain ⟨i, rfl⟩ : ∃ i : Nat, id = (i : Int) := ⟨id.toNat, by omega⟩
    cases hT with
    | @mk pb bb HP HBk hP hB hA hn =>
      obtain ⟨o, ho⟩ := hA.at (i := i) (by omega)
      show LCalls _ _ _ _ ((tb, .cells 91 1026 (tmRow pb bb As)) :: ((HP ++ HBk) ++ H)) _
      rw [List.append_assoc, stopA_at (by omega) ho]
      refine (Stop_at (H := H) hP hB hn (by omega) ho).mono ?_
      rintro v H' ⟨HP2, HB2, hP2, hB2, rfl, rfl⟩
      exact ⟨_, .mk hP2 hB2 hA (by rw [stopM_len]; exact hn), rfl, by show _ = (tb, .cells 91 1026 (tmRow pb bb As)) :: ((HP2 ++ HB2) ++ H); rw [List.append_assoc]⟩
  · have e : stopA Ws Q As id = (Ws, Q, false, 2) := if_neg hi
    rw [e]
    refine (Stop_out hi w0 _ trivial).mono ?_
    rintro v H' ⟨rfl, rfl⟩
    exact ⟨HB, hT, rfl, rfl⟩
end Go.Proofs.YtcmfldfeakmdoaaGreatDoor
namespace Go.Proofs.YtcmfldfeakmdoaaGreatDoor
open Go Go.Sl
attribute [local irreducible] W
theorem nowK_at2 {Ws : List Wl} {k : Nat} {w : Wl} (h : Ws[k]? = some w) : nowK Ws (k : Int) = w.now := by
  unfold nowK wlAt
  rw [if_pos (by omega), show ((k : Nat) : Int).toNat = k by omega, h]
inductive StartM (Ws : List Wl) (Q : List (Int × Int)) (As : List Tone) (i k a : Nat) (o : Tone) (w : Wl) : List Wl → List (Int × Int) → List Tone → Spot → Int → Prop
  | gone (h : o.shut = true) : StartM Ws Q As i k a o w Ws Q As zSpot 22
  | unset (hs : o.shut = false) (h : o.made = false ∨ o.prog = 0) : StartM Ws Q As i k a o w Ws Q As zSpot 1
  | late (hs : o.shut = false) (h : ¬ (o.made = false ∨ o.prog = 0)) (hm : w.now = 18446744073709551615) : StartM Ws Q As i k a o w Ws Q As zSpot 12
  | put {Ws' : List Wl} {s : Spot} {e : Int} (hs : o.shut = false) (h : ¬ (o.made = false ∨ o.prog = 0)) (hm : ¬ w.now = 18446744073709551615) (hp : PutIs (Ws.map (delW [(i : Int)])) (k : Int) (i : Int) a Ws' s e) : StartM Ws Q As i k a o w Ws' (delQ Q (i : Int)) (As.set i { o with starts := o.starts + 1 }) s e
set_option maxHeartbeats 4000000 in
theorem start1_L {w0 : World} {H : Heap} {tb pb bb n : Nat} {HP HBk : Heap} {Ws : List Wl} {Q Rs : List (Int × Int)} {As : List Tone} (hP : PendH pb n Q Rs HP) (hB : BankH bb Ws HBk) (hn : Ws.length = n ∧ n ≤ 64) {i k a : Nat} {o : Tone} {w : Wl} (hA : As[i]? = some o) (hw : Ws[k]? = some w) (ha : a ≤ 18446744073709551615) (hnow : ∀ w ∈ Ws, w.now ≤ 18446744073709551615) (htn : ∀ w ∈ Ws, w.turn ≤ 4611686018427387904) (hst : 0 ≤ o.starts ∧ o.starts ≤ 4611686018427387904) (hs : o.shut = false) {b4 b5 b6 b7 b10 : Nat}  : LCalls Tryz.prog w0 39 #[.pointer (some ⟨tb, 2 + i * 4, none⟩), .pointer (some ⟨b4, 0, none⟩), .pointer (some ⟨b6, 0, none⟩), .pointer (some ⟨b5, 0, none⟩), .pointer (some ⟨b7, 0, none⟩), .pointer (some ⟨b10, 0, none⟩)] ((b10, .cells 32 4 zSpot.v) :: (b4, .cells 25 1 [.pointer (some ⟨tb, 0, none⟩)]) :: (b5, .cells 3 1 [.int .i64 (i : Int)]) :: (b6, .cells 3 1 [.int .i64 (k : Int)]) :: (b7, .cells 22 1 [.int .u64 ((a : Nat) : Int)]) :: (tb, .cells 91 1026 (tmRow pb bb As)) :: (HP ++ (HBk ++ H))) (fun v H' => ∃ Ws' Q' As' s e HP2 HB2, StartM Ws Q As i k a o w Ws' Q' As' s e ∧ PendH pb n Q' Rs HP2 ∧ BankH bb Ws' HB2 ∧ v = .int .i64 e ∧ H' = (b10, .cells 32 4 s.v) :: (b4, .cells 25 1 [.pointer (some ⟨tb, 0, none⟩)]) :: (b5, .cells 3 1 [.int .i64 (i : Int)]) :: (b6, .cells 3 1 [.int .i64 (k : Int)]) :: (b7, .cells 22 1 [.int .u64 ((a : Nat) : Int)]) :: (tb, .cells 91 1026 (tmRow pb bb As')) :: (HP2 ++ (HB2 ++ H))) := by
  have hnow2 : ∀ w ∈ Ws.map (delW [(i : Int)]), w.now ≤ 18446744073709551615 := fun u hu => by
    obtain ⟨v, hv, rfl⟩ := List.mem_map.1 hu
    exact hnow v hv
  have htn2 : ∀ w ∈ Ws.map (delW [(i : Int)]), w.turn ≤ 4611686018427387904 := fun u hu => by
    obtain ⟨v, hv, rfl⟩ := List.mem_map.1 hu
    exact htn v hv
  refine L_enter (l := [.pointer (some ⟨tb, 2 + i * 4, none⟩), .pointer (some ⟨b4, 0, none⟩), .pointer (some ⟨b6, 0, none⟩), .pointer (some ⟨b5, 0, none⟩), .pointer (some ⟨b7, 0, none⟩), .pointer (some ⟨b10, 0, none⟩)]) Tryz.func39 rfl Tryz.ntmps39 rfl rfl ?_
  refine W_sr ?_
  refine W_assign rfl rfl ?_
  refine W_nil ?_
  refine W_seq ?_
  refine W_block ?_
  refine W_sr ?_
  refine W_move rfl rfl ?_
  refine W_nilCheck rfl rfl ?_
  refine W_fieldAddr rfl fld88_0 (by decide) rfl ?_
  refine W_load (v := .bool o.made) rfl ty4 rfl (Cell.own (b := tb) zM (tm_get0 hA)) rfl ?_
  refine W_not rfl rfl ?_
  refine W_move rfl rfl ?_
  apply W_or
  iterate 4 exact rfl
  case h1 =>
    intro hg5
    refine W_gyes rfl rfl ?_
    refine W_move rfl rfl ?_
    refine W_gyes rfl rfl ?_
    refine W_nilCheck rfl rfl ?_
    refine W_gyes rfl rfl ?_
    refine W_fieldAddr rfl fld88_2 (by decide) rfl ?_
    refine W_gyes rfl rfl ?_
    refine W_load (v := .int .i64 o.prog) rfl ty3 rfl (Cell.own (b := tb) zM (tm_get2 hA)) rfl ?_
    refine W_gyes rfl rfl ?_
    refine W_bin rfl rfl b_eql rfl ?_
    exact W_met rfl zR
  refine W_assign rfl rfl ?_
  refine W_nil ?_
  refine W_condPS (p := o.made = false ∨ o.prog = 0) rfl (by simp) (fun c0 => ?_) (fun c0 => ?_)
  · skip
    refine W_sr ?_
    refine W_assign rfl rfl ?_
    refine W_nil ?_
    refine W_ret1m (H2 := (b10, .cells 32 4 zSpot.v) :: (b4, .cells 25 1 [.pointer (some ⟨tb, 0, none⟩)]) :: (b5, .cells 3 1 [.int .i64 (i : Int)]) :: (b6, .cells 3 1 [.int .i64 (k : Int)]) :: (b7, .cells 22 1 [.int .u64 ((a : Nat) : Int)]) :: (tb, .cells 91 1026 (tmRow pb bb As)) :: (HP ++ (HBk ++ H))) Tryz.results39 rfl (.nil _) zH ?_
    exact ⟨Ws, Q, As, zSpot, 1, HP, HBk, .unset hs c0, hP, hB, rfl, rfl⟩
  · skip
    refine W_quietsr (by kernel_rfl) (by decide +kernel) ?_
    refine WQ_x (X_load (v := .pointer (some ⟨tb, 0, none⟩)) rfl ty25 rfl (Cell.own (b := b4) zM rfl)) rfl ?_
    refine WQ_x (X_nilCheck rfl) rfl ?_
    refine WQ_x (X_fieldAddr rfl fld91_1 (by decide)) rfl ?_
    refine WQ_x (X_load (v := .pointer (some ⟨bb, 0, none⟩)) rfl ty84 rfl (Cell.own (b := tb) zM rfl)) rfl ?_
    refine WQ_x (X_load (v := .int .i64 (k : Int)) rfl ty3 rfl (Cell.own (b := b6) zM rfl)) rfl ?_
    refine WQ_callq (.cons rfl (.cons rfl .nil)) Tryz.call40 rfl (NowB_q hB (fun p hp => (by repeat (first | exact List.mem_append_left _ hp | exact List.mem_cons_self | apply List.mem_cons_of_mem | apply List.mem_append_right)))) ?_
    rw [nowK_at2 hw]
    refine WQ_x (X_bin rfl rfl b_eql) rfl ?_
    refine WQ_x (X_assign rfl) rfl ?_
    refine WQ_nil ?_
    refine W_condPS (p := w.now = 18446744073709551615) rfl (by rw [decide_eq_true_eq]; omega) (fun c1 => ?_) (fun c1 => ?_)
    · skip
      refine W_sr ?_
      refine W_assign rfl rfl ?_
      refine W_nil ?_
      refine W_ret1m (H2 := (b10, .cells 32 4 zSpot.v) :: (b4, .cells 25 1 [.pointer (some ⟨tb, 0, none⟩)]) :: (b5, .cells 3 1 [.int .i64 (i : Int)]) :: (b6, .cells 3 1 [.int .i64 (k : Int)]) :: (b7, .cells 22 1 [.int .u64 ((a : Nat) : Int)]) :: (tb, .cells 91 1026 (tmRow pb bb As)) :: (HP ++ (HBk ++ H))) Tryz.results39 rfl (.nil _) zH ?_
      exact ⟨Ws, Q, As, zSpot, 12, HP, HBk, .late hs c0 c1, hP, hB, rfl, rfl⟩
    · skip
      refine W_skip ?_
      refine W_blk ?_
      refine W_sr ?_
      refine W_load (v := .pointer (some ⟨tb, 0, none⟩)) rfl ty25 rfl (Cell.own (b := b4) zM rfl) rfl ?_
      refine W_load (v := .int .i64 (i : Int)) rfl ty3 rfl (Cell.own (b := b5) zM rfl) rfl ?_
      refine W_call (.cons rfl (.cons rfl .nil)) Tryz.call41 rfl ((take_L (z := (i : Int)) hP hB hn (As := As) (H := (b10, .cells 32 4 zSpot.v) :: (b4, .cells 25 1 [.pointer (some ⟨tb, 0, none⟩)]) :: (b5, .cells 3 1 [.int .i64 (i : Int)]) :: (b6, .cells 3 1 [.int .i64 (k : Int)]) :: (b7, .cells 22 1 [.int .u64 ((a : Nat) : Int)]) :: H)).hsub zH) ?_
      rintro v H' ⟨HP2, HB2, hP2, hB2, rfl, rfl⟩
      refine W_nil ?_
      refine W_sr ?_
      refine W_move rfl rfl ?_
      refine W_nilCheck rfl rfl ?_
      refine W_fieldAddr rfl fld88_3 (by decide) rfl ?_
      refine W_load (v := .int .i64 o.starts) rfl ty3 rfl (Cell.own (b := tb) zM (tm_get3 hA)) rfl ?_
      refine W_bin rfl rfl (b_add (m := o.starts + 1) (i64w (by omega))) rfl ?_
      refine W_nilCheck rfl rfl ?_
      refine W_fieldAddr rfl fld88_3 (by decide) rfl ?_
      refine W_store (l' := tmRow pb bb (As.set i { o with starts := o.starts + 1 })) rfl rfl ty3 rfl rfl (b := tb) zM (tm_lt hA (by decide)) (tm_set3 hA) zU ?_
      refine W_nil ?_
      refine W_seq ?_
      refine W_cutX (X := (List Wl × Heap × Spot × Int × Nat)) (fun x => [(5, .pointer (some ⟨b10, 0, none⟩)), (8, .pointer (some ⟨x.2.2.2.2, 0, none⟩)), (9, .int .i64 x.2.2.2.1)]) (fun x => (x.2.2.2.2, .cells 32 4 x.2.2.1.v) :: (tb, .cells 91 1026 (tmRow pb bb (As.set i { o with starts := o.starts + 1 }))) :: (HP2 ++ (x.2.1 ++ ((b10, .cells 32 4 zSpot.v) :: (b4, .cells 25 1 [.pointer (some ⟨tb, 0, none⟩)]) :: (b5, .cells 3 1 [.int .i64 (i : Int)]) :: (b6, .cells 3 1 [.int .i64 (k : Int)]) :: (b7, .cells 22 1 [.int .u64 ((a : Nat) : Int)]) :: H)))) (fun x => BankH bb x.1 x.2.1 ∧ PutIs (Ws.map (delW [(i : Int)])) (k : Int) (i : Int) a x.1 x.2.2.1 x.2.2.2.1) ?_ ?_
      · skip
        refine W_anyC [(tb, .cells 91 1026 (tmRow pb bb (As.set i { o with starts := o.starts + 1 }))), (b4, .cells 25 1 [.pointer (some ⟨tb, 0, none⟩)]), (b5, .cells 3 1 [.int .i64 (i : Int)]), (b6, .cells 3 1 [.int .i64 (k : Int)]), (b7, .cells 22 1 [.int .u64 ((a : Nat) : Int)])] (by kernel_rfl) ?_
        refine WC_take 0 (l' := #[true, false, false, false, false, false, false, false, false, false, false, false, false, false]) rfl (by decide +kernel) (by decide +kernel) (by decide +kernel) rfl (by decide +kernel) (X_load (v := .pointer (some ⟨tb, 0, none⟩)) rfl ty25 rfl (Cell.own (b := b4) zM rfl)) rfl ?_
        refine WC_take 1 (l' := #[true, true, false, false, false, false, false, false, false, false, false, false, false, false]) rfl (by decide +kernel) (by decide +kernel) (by decide +kernel) rfl (by decide +kernel) (X_nilCheck rfl) rfl ?_
        refine WC_take 2 (l' := #[true, true, true, false, false, false, false, false, false, false, false, false, false, false]) rfl (by decide +kernel) (by decide +kernel) (by decide +kernel) rfl (by decide +kernel) (X_fieldAddr rfl fld91_1 (by decide)) rfl ?_
        refine WC_take 3 (l' := #[true, true, true, true, false, false, false, false, false, false, false, false, false, false]) rfl (by decide +kernel) (by decide +kernel) (by decide +kernel) rfl (by decide +kernel) (X_load (v := .pointer (some ⟨bb, 0, none⟩)) rfl ty84 rfl (Cell.own (b := tb) zM rfl)) rfl ?_
        refine WC_take 4 (l' := #[true, true, true, true, true, false, false, false, false, false, false, false, false, false]) rfl (by decide +kernel) (by decide +kernel) (by decide +kernel) rfl (by decide +kernel) (X_load (v := .int .i64 (k : Int)) rfl ty3 rfl (Cell.own (b := b6) zM rfl)) rfl ?_
        refine WC_take 5 (l' := #[true, true, true, true, true, true, false, false, false, false, false, false, false, false]) rfl (by decide +kernel) (by decide +kernel) (by decide +kernel) rfl (by decide +kernel) (X_load (v := .int .i64 (i : Int)) rfl ty3 rfl (Cell.own (b := b5) zM rfl)) rfl ?_
        refine WC_take 6 (l' := #[true, true, true, true, true, true, true, false, false, false, false, false, false, false]) rfl (by decide +kernel) (by decide +kernel) (by decide +kernel) rfl (by decide +kernel) (X_load (v := .int .u64 ((a : Nat) : Int)) rfl ty22 rfl (Cell.own (b := b7) zM rfl)) rfl ?_
        refine WC_two 7 11 (l' := #[true, true, true, true, true, true, true, true, false, false, false, false, false, false]) (l'' := #[true, true, true, true, true, true, true, false, false, false, false, true, false, false]) zH (by decide +kernel) rfl rfl (by decide +kernel) (by decide +kernel) ?_ ?_
        · skip
          refine W_call (.cons rfl (.cons rfl (.cons rfl (.cons rfl .nil)))) Tryz.call42 rfl ((PutB_L hB2 (by rw [List.length_map]; omega) (cpu := (k : Int)) (id := (i : Int)) (a := a) ha hnow2 htn2 (H := (tb, .cells 91 1026 (tmRow pb bb (As.set i { o with starts := o.starts + 1 }))) :: (HP2 ++ ((b10, .cells 32 4 zSpot.v) :: (b4, .cells 25 1 [.pointer (some ⟨tb, 0, none⟩)]) :: (b5, .cells 3 1 [.int .i64 (i : Int)]) :: (b6, .cells 3 1 [.int .i64 (k : Int)]) :: (b7, .cells 22 1 [.int .u64 ((a : Nat) : Int)]) :: H)))).hsub zH) ?_
          rintro v H' ⟨Ws3, HB3, s3, e3, hB3, rfl, hpi, rfl⟩
          refine W_nil ?_
          refine WC_goal ?_
          refine WC_take 8 (l' := #[true, true, true, true, true, true, true, true, true, false, false, false, false, false]) rfl (by decide +kernel) (by decide +kernel) (by decide +kernel) rfl (by decide +kernel) (X_move rfl) rfl ?_
          refine WC_take 9 (l' := #[true, true, true, true, true, true, true, true, true, true, false, false, false, false]) rfl (by decide +kernel) (by decide +kernel) (by decide +kernel) rfl (by decide +kernel) (X_extract rfl rfl) rfl ?_
          refine WC_take 10 (l' := #[true, true, true, true, true, true, true, true, true, true, true, false, false, false]) rfl (by decide +kernel) (by decide +kernel) (by decide +kernel) rfl (by decide +kernel) (X_extract rfl rfl) rfl ?_
          refine WC_one 11 (l' := #[true, true, true, true, true, true, true, true, true, true, true, true, false, false]) zH (by decide +kernel) rfl (by decide +kernel) ?_
          refine W_alloc (l := zSpot.v) ty32 rfl rfl (fun b8 => ?_)
          refine W_nil ?_
          refine WC_goal ?_
          refine WC_one 12 (l' := #[true, true, true, true, true, true, true, true, true, true, true, true, true, false]) zH (by decide +kernel) rfl (by decide +kernel) ?_
          refine W_storeA (l' := s3.v) rfl rfl ty32 rfl rfl (b := b8) zM (by exact Nat.le_refl 4) rfl zU ?_
          refine W_nil ?_
          refine WC_goal ?_
          refine WC_take 13 (l' := #[true, true, true, true, true, true, true, true, true, true, true, true, true, true]) rfl (by decide +kernel) (by decide +kernel) (by decide +kernel) rfl (by decide +kernel) (X_assign rfl) rfl ?_
          refine WC_done zH (by decide +kernel) ?_
          refine W_joinX (Ws3, HB3, s3, e3, b8) ⟨hB3, hpi⟩ (sub_cons rfl (sub_cons rfl (sub_cons rfl (sub_nil _)))) zH
        · skip
          refine W_alloc (l := zSpot.v) ty32 rfl rfl (fun b8 => ?_)
          refine W_nil ?_
          refine WC_goal ?_
          refine WC_one 7 (l' := #[true, true, true, true, true, true, true, true, false, false, false, true, false, false]) zH (by decide +kernel) rfl (by decide +kernel) ?_
          refine W_call (.cons rfl (.cons rfl (.cons rfl (.cons rfl .nil)))) Tryz.call42 rfl ((PutB_L hB2 (by rw [List.length_map]; omega) (cpu := (k : Int)) (id := (i : Int)) (a := a) ha hnow2 htn2 (H := (b8, .cells 32 4 zSpot.v) :: (tb, .cells 91 1026 (tmRow pb bb (As.set i { o with starts := o.starts + 1 }))) :: (HP2 ++ ((b10, .cells 32 4 zSpot.v) :: (b4, .cells 25 1 [.pointer (some ⟨tb, 0, none⟩)]) :: (b5, .cells 3 1 [.int .i64 (i : Int)]) :: (b6, .cells 3 1 [.int .i64 (k : Int)]) :: (b7, .cells 22 1 [.int .u64 ((a : Nat) : Int)]) :: H)))).hsub zH) ?_
          rintro v H' ⟨Ws3, HB3, s3, e3, hB3, rfl, hpi, rfl⟩
          refine W_nil ?_
          refine WC_goal ?_
          refine WC_take 8 (l' := #[true, true, true, true, true, true, true, true, true, false, false, true, false, false]) rfl (by decide +kernel) (by decide +kernel) (by decide +kernel) rfl (by decide +kernel) (X_move rfl) rfl ?_
          refine WC_take 9 (l' := #[true, true, true, true, true, true, true, true, true, true, false, true, false, false]) rfl (by decide +kernel) (by decide +kernel) (by decide +kernel) rfl (by decide +kernel) (X_extract rfl rfl) rfl ?_
          refine WC_take 10 (l' := #[true, true, true, true, true, true, true, true, true, true, true, true, false, false]) rfl (by decide +kernel) (by decide +kernel) (by decide +kernel) rfl (by decide +kernel) (X_extract rfl rfl) rfl ?_
          refine WC_one 12 (l' := #[true, true, true, true, true, true, true, true, true, true, true, true, true, false]) zH (by decide +kernel) rfl (by decide +kernel) ?_
          refine W_storeA (l' := s3.v) rfl rfl ty32 rfl rfl (b := b8) zM (by exact Nat.le_refl 4) rfl zU ?_
          refine W_nil ?_
          refine WC_goal ?_
          refine WC_take 13 (l' := #[true, true, true, true, true, true, true, true, true, true, true, true, true, true]) rfl (by decide +kernel) (by decide +kernel) (by decide +kernel) rfl (by decide +kernel) (X_assign rfl) rfl ?_
          refine WC_done zH (by decide +kernel) ?_
          refine W_joinX (Ws3, HB3, s3, e3, b8) ⟨hB3, hpi⟩ (sub_cons rfl (sub_cons rfl (sub_cons rfl (sub_nil _)))) zH
      rintro ⟨Ws3, HB3, s3, e3, b8⟩ ⟨hB3, hpi⟩
      dsimp only at hB3 hpi ⊢
      refine W_sr ?_
      refine W_loadB (vs := s3.v) rfl ty32 rfl (b := b8) zM rfl rfl rfl ?_
      refine W_storeA (l' := s3.v) rfl rfl ty32 rfl rfl (b := b10) zM (by exact Nat.le_refl 4) rfl zU ?_
      refine W_nil ?_
      refine W_sr ?_
      refine W_move rfl rfl ?_
      refine W_assign rfl rfl ?_
      refine W_nil ?_
      refine W_ret1m (H2 := (b10, .cells 32 4 s3.v) :: (b4, .cells 25 1 [.pointer (some ⟨tb, 0, none⟩)]) :: (b5, .cells 3 1 [.int .i64 (i : Int)]) :: (b6, .cells 3 1 [.int .i64 (k : Int)]) :: (b7, .cells 22 1 [.int .u64 ((a : Nat) : Int)]) :: (tb, .cells 91 1026 (tmRow pb bb (As.set i { o with starts := o.starts + 1 }))) :: (HP2 ++ (HB3 ++ H))) Tryz.results39 rfl (.nil _) zH ?_
      exact ⟨Ws3, _, _, s3, e3, HP2, HB3, .put hs c0 c1 hpi, hP2, hB3, rfl, rfl⟩
end Go.Proofs.YtcmfldfeakmdoaaGreatDoor
namespace Go.Proofs.YtcmfldfeakmdoaaGreatDoor
open Go Go.Sl
attribute [local irreducible] W
set_option maxHeartbeats 1000000 in
theorem Start_lo {tb a : Nat} {id cpu : Int} (hc : cpu < 0) : Pure Tryz.prog (fun _ => True) 11 [.pointer (some ⟨tb, 0, none⟩), .int .i64 id, .int .i64 cpu, .int .u64 ((a : Nat) : Int)] (.tuple #[.agg zSpot.v.toArray, .int .i64 2]) := by
  intro w0 H hT
  refine L_enter Tryz.func11 rfl Tryz.ntmps11 rfl rfl ?_
  refine W_sr ?_
  refine W_box (l := [.pointer (some ⟨tb, 0, none⟩)]) rfl rfl rfl (fun b4 => ?_)
  refine W_box (l := [.int .i64 id]) rfl rfl rfl (fun b5 => ?_)
  refine W_box (l := [.int .i64 cpu]) rfl rfl rfl (fun b6 => ?_)
  refine W_box (l := [.int .u64 ((a : Nat) : Int)]) rfl rfl rfl (fun b7 => ?_)
  refine W_alloc (l := zSpot.v) ty32 rfl rfl (fun b8 => ?_)
  refine W_assign rfl rfl ?_
  refine W_nil ?_
  refine W_seq ?_
  refine W_quietsr (by kernel_rfl) (by decide +kernel) ?_
  refine WQ_x (X_load (v := .pointer (some ⟨tb, 0, none⟩)) rfl ty25 rfl (Cell.own (b := b4) zM rfl)) rfl ?_
  refine WQ_x (X_ptrNotNil rfl rfl ty25) rfl ?_
  refine WQ_x (X_move rfl) rfl ?_
  refine WQ_gyes rfl rfl ?_
  refine WQ_x (X_load (v := .int .i64 cpu) rfl ty3 rfl (Cell.own (b := b6) zM rfl)) rfl ?_
  refine WQ_gyes rfl rfl ?_
  refine WQ_x (X_bin rfl rfl b_lss) rfl ?_
  first | rw [decide_eq_true (by omega)] | rw [decide_eq_false (by omega)]
  refine WQ_gyes rfl rfl ?_
  refine WQ_x (X_move rfl) rfl ?_
  refine WQ_gno rfl rfl rfl rfl ?_
  refine WQ_gno rfl rfl rfl rfl ?_
  refine WQ_gno rfl rfl rfl rfl ?_
  refine WQ_gno rfl rfl rfl rfl ?_
  refine WQ_gno rfl rfl rfl rfl ?_
  refine WQ_gno rfl rfl rfl rfl ?_
  refine WQ_gno rfl rfl rfl rfl ?_
  refine WQ_gyes rfl rfl ?_
  first | refine WQ_x (X_pickt rfl rfl) rfl ?_ | refine WQ_x (X_pickf rfl rfl) rfl ?_
  first | refine WQ_x (X_pickt rfl rfl) rfl ?_ | refine WQ_x (X_pickf rfl rfl) rfl ?_
  refine WQ_nil ?_
  refine W_condT rfl rfl ?_
  refine W_sr ?_
  refine W_build (l := zSpot.v) ty32 pl32 .nil rfl rfl rfl ?_
  refine W_storeA (l' := zSpot.v) rfl rfl ty32 rfl rfl (b := b8) zM (by exact Nat.le_refl 4) rfl zU ?_
  refine W_assign rfl rfl ?_
  refine W_nil ?_
  refine W_ret2G (H2 := H) Tryz.results11 (.nil _) (.own rfl ty32 rfl zM rfl) (.tmp rfl) zH ?_
  exact ⟨rfl, rfl⟩
set_option maxHeartbeats 1000000 in
theorem Start_hi {w0 : World} {H : Heap} {tb pb bb n : Nat} {HP HBk : Heap} {Ws : List Wl} {Q Rs : List (Int × Int)} {As : List Tone} (hP : PendH pb n Q Rs HP) (hB : BankH bb Ws HBk) (hn : Ws.length = n ∧ n ≤ 64) {a : Nat} {id cpu : Int} (hc : (n : Int) ≤ cpu)  : LCalls Tryz.prog w0 11 #[.pointer (some ⟨tb, 0, none⟩), .int .i64 id, .int .i64 cpu, .int .u64 ((a : Nat) : Int)] ((tb, .cells 91 1026 (tmRow pb bb As)) :: (HP ++ (HBk ++ H))) (fun v H' => v = .tuple #[.agg zSpot.v.toArray, .int .i64 2] ∧ H' = (tb, .cells 91 1026 (tmRow pb bb As)) :: (HP ++ (HBk ++ H))) := by
  refine L_enter (l := [.pointer (some ⟨tb, 0, none⟩), .int .i64 id, .int .i64 cpu, .int .u64 ((a : Nat) : Int)]) Tryz.func11 rfl Tryz.ntmps11 rfl rfl ?_
  refine W_sr ?_
  refine W_box (l := [.pointer (some ⟨tb, 0, none⟩)]) rfl rfl rfl (fun b4 => ?_)
  refine W_box (l := [.int .i64 id]) rfl rfl rfl (fun b5 => ?_)
  refine W_box (l := [.int .i64 cpu]) rfl rfl rfl (fun b6 => ?_)
  refine W_box (l := [.int .u64 ((a : Nat) : Int)]) rfl rfl rfl (fun b7 => ?_)
  refine W_alloc (l := zSpot.v) ty32 rfl rfl (fun b8 => ?_)
  refine W_assign rfl rfl ?_
  refine W_nil ?_
  refine W_seq ?_
  refine W_quietsr (by kernel_rfl) (by decide +kernel) ?_
  refine WQ_x (X_load (v := .pointer (some ⟨tb, 0, none⟩)) rfl ty25 rfl (Cell.own (b := b4) zM rfl)) rfl ?_
  refine WQ_x (X_ptrNotNil rfl rfl ty25) rfl ?_
  refine WQ_x (X_move rfl) rfl ?_
  refine WQ_gyes rfl rfl ?_
  refine WQ_x (X_load (v := .int .i64 cpu) rfl ty3 rfl (Cell.own (b := b6) zM rfl)) rfl ?_
  refine WQ_gyes rfl rfl ?_
  refine WQ_x (X_bin rfl rfl b_lss) rfl ?_
  first | rw [decide_eq_true (by omega)] | rw [decide_eq_false (by omega)]
  refine WQ_gyes rfl rfl ?_
  refine WQ_x (X_move rfl) rfl ?_
  refine WQ_gyes rfl rfl ?_
  refine WQ_x (X_load (v := .int .i64 cpu) rfl ty3 rfl (Cell.own (b := b6) zM rfl)) rfl ?_
  refine WQ_gyes rfl rfl ?_
  refine WQ_x (X_load (v := .pointer (some ⟨tb, 0, none⟩)) rfl ty25 rfl (Cell.own (b := b4) zM rfl)) rfl ?_
  refine WQ_gyes rfl rfl ?_
  refine WQ_x (X_nilCheck rfl) rfl ?_
  refine WQ_gyes rfl rfl ?_
  refine WQ_x (X_fieldAddr rfl fld91_1 (by decide)) rfl ?_
  refine WQ_gyes rfl rfl ?_
  refine WQ_x (X_load (v := .pointer (some ⟨bb, 0, none⟩)) rfl ty84 rfl (Cell.own (b := tb) zM rfl)) rfl ?_
  refine WQ_gyes rfl rfl ?_
  refine WQ_callq (.cons rfl .nil) Tryz.call38 rfl (CPUs_q hB (fun p hp => (by repeat (first | exact List.mem_append_left _ hp | exact List.mem_cons_self | apply List.mem_cons_of_mem | apply List.mem_append_right)))) ?_
  refine WQ_gyes rfl rfl ?_
  refine WQ_x (X_bin rfl rfl b_geq) rfl ?_
  first | rw [decide_eq_true (by omega)] | rw [decide_eq_false (by omega)]
  refine WQ_gyes rfl rfl ?_
  first | refine WQ_x (X_pickt rfl rfl) rfl ?_ | refine WQ_x (X_pickf rfl rfl) rfl ?_
  first | refine WQ_x (X_pickt rfl rfl) rfl ?_ | refine WQ_x (X_pickf rfl rfl) rfl ?_
  refine WQ_nil ?_
  refine W_condT rfl rfl ?_
  refine W_sr ?_
  refine W_build (l := zSpot.v) ty32 pl32 .nil rfl rfl rfl ?_
  refine W_storeA (l' := zSpot.v) rfl rfl ty32 rfl rfl (b := b8) zM (by exact Nat.le_refl 4) rfl zU ?_
  refine W_assign rfl rfl ?_
  refine W_nil ?_
  refine W_ret2G (H2 := (tb, .cells 91 1026 (tmRow pb bb As)) :: (HP ++ (HBk ++ H))) Tryz.results11 (.nil _) (.own rfl ty32 rfl zM rfl) (.tmp rfl) zH ?_
  exact ⟨rfl, rfl⟩
set_option maxHeartbeats 1000000 in
theorem Start_out {w0 : World} {H : Heap} {tb pb bb n : Nat} {HP HBk : Heap} {Ws : List Wl} {Q Rs : List (Int × Int)} {As : List Tone} (hP : PendH pb n Q Rs HP) (hB : BankH bb Ws HBk) (hn : Ws.length = n ∧ n ≤ 64) {a k : Nat} {id : Int} (hk : k < n) (hi : ¬ (0 ≤ id ∧ id < 256))  : LCalls Tryz.prog w0 11 #[.pointer (some ⟨tb, 0, none⟩), .int .i64 id, .int .i64 (k : Int), .int .u64 ((a : Nat) : Int)] ((tb, .cells 91 1026 (tmRow pb bb As)) :: (HP ++ (HBk ++ H))) (fun v H' => v = .tuple #[.agg zSpot.v.toArray, .int .i64 2] ∧ H' = (tb, .cells 91 1026 (tmRow pb bb As)) :: (HP ++ (HBk ++ H))) := by
  refine L_enter (l := [.pointer (some ⟨tb, 0, none⟩), .int .i64 id, .int .i64 (k : Int), .int .u64 ((a : Nat) : Int)]) Tryz.func11 rfl Tryz.ntmps11 rfl rfl ?_
  refine W_sr ?_
  refine W_box (l := [.pointer (some ⟨tb, 0, none⟩)]) rfl rfl rfl (fun b4 => ?_)
  refine W_box (l := [.int .i64 id]) rfl rfl rfl (fun b5 => ?_)
  refine W_box (l := [.int .i64 (k : Int)]) rfl rfl rfl (fun b6 => ?_)
  refine W_box (l := [.int .u64 ((a : Nat) : Int)]) rfl rfl rfl (fun b7 => ?_)
  refine W_alloc (l := zSpot.v) ty32 rfl rfl (fun b8 => ?_)
  refine W_assign rfl rfl ?_
  refine W_nil ?_
  refine W_seq ?_
  refine W_quietsr (by kernel_rfl) (by decide +kernel) ?_
  refine WQ_x (X_load (v := .pointer (some ⟨tb, 0, none⟩)) rfl ty25 rfl (Cell.own (b := b4) zM rfl)) rfl ?_
  refine WQ_x (X_ptrNotNil rfl rfl ty25) rfl ?_
  refine WQ_x (X_move rfl) rfl ?_
  refine WQ_gyes rfl rfl ?_
  refine WQ_x (X_load (v := .int .i64 (k : Int)) rfl ty3 rfl (Cell.own (b := b6) zM rfl)) rfl ?_
  refine WQ_gyes rfl rfl ?_
  refine WQ_x (X_bin rfl rfl b_lss) rfl ?_
  first | rw [decide_eq_true (by omega)] | rw [decide_eq_false (by omega)]
  refine WQ_gyes rfl rfl ?_
  refine WQ_x (X_move rfl) rfl ?_
  refine WQ_gyes rfl rfl ?_
  refine WQ_x (X_load (v := .int .i64 (k : Int)) rfl ty3 rfl (Cell.own (b := b6) zM rfl)) rfl ?_
  refine WQ_gyes rfl rfl ?_
  refine WQ_x (X_load (v := .pointer (some ⟨tb, 0, none⟩)) rfl ty25 rfl (Cell.own (b := b4) zM rfl)) rfl ?_
  refine WQ_gyes rfl rfl ?_
  refine WQ_x (X_nilCheck rfl) rfl ?_
  refine WQ_gyes rfl rfl ?_
  refine WQ_x (X_fieldAddr rfl fld91_1 (by decide)) rfl ?_
  refine WQ_gyes rfl rfl ?_
  refine WQ_x (X_load (v := .pointer (some ⟨bb, 0, none⟩)) rfl ty84 rfl (Cell.own (b := tb) zM rfl)) rfl ?_
  refine WQ_gyes rfl rfl ?_
  refine WQ_callq (.cons rfl .nil) Tryz.call38 rfl (CPUs_q hB (fun p hp => (by repeat (first | exact List.mem_append_left _ hp | exact List.mem_cons_self | apply List.mem_cons_of_mem | apply List.mem_append_right)))) ?_
  refine WQ_gyes rfl rfl ?_
  refine WQ_x (X_bin rfl rfl b_geq) rfl ?_
  first | rw [decide_eq_true (by omega)] | rw [decide_eq_false (by omega)]
  refine WQ_gyes rfl rfl ?_
  first | refine WQ_x (X_pickt rfl rfl) rfl ?_ | refine WQ_x (X_pickf rfl rfl) rfl ?_
  first | refine WQ_x (X_pickt rfl rfl) rfl ?_ | refine WQ_x (X_pickf rfl rfl) rfl ?_
  refine WQ_nil ?_
  refine W_condF rfl rfl ?_
  refine W_skip ?_
  refine W_sr ?_
  refine W_alloc (l := zSpot.v) ty32 rfl rfl (fun b10 => ?_)
  refine W_nil ?_
  refine W_sr ?_
  refine W_load (v := .pointer (some ⟨tb, 0, none⟩)) rfl ty25 rfl (Cell.own (b := b4) zM rfl) rfl ?_
  refine W_load (v := .int .i64 id) rfl ty3 rfl (Cell.own (b := b5) zM rfl) rfl ?_
  refine W_makeFunc .nil (.cons rfl (.cons rfl (.cons rfl (.cons rfl (.cons rfl .nil))))) rfl ?_
  refine W_callp (.cons rfl (.cons rfl (.cons rfl .nil))) Tryz.call35 rfl (T := fun _ => True) trivial (open_out hi) ?_
  refine W_assign rfl rfl ?_
  refine W_nil ?_
  refine W_sr ?_
  refine W_loadB (vs := zSpot.v) rfl ty32 rfl (b := b10) zM rfl rfl rfl ?_
  refine W_move rfl rfl ?_
  refine W_storeA (l' := zSpot.v) rfl rfl ty32 rfl rfl (b := b8) zM (by exact Nat.le_refl 4) rfl zU ?_
  refine W_assign rfl rfl ?_
  refine W_nil ?_
  refine W_ret2G (H2 := (tb, .cells 91 1026 (tmRow pb bb As)) :: (HP ++ (HBk ++ H))) Tryz.results11 (.nil _) (.own rfl ty32 rfl zM rfl) (.tmp rfl) zH ?_
  exact ⟨rfl, rfl⟩
set_option maxHeartbeats 2000000 in
theorem Start_at {w0 : World} {H : Heap} {tb pb bb n : Nat} {HP HBk : Heap} {Ws : List Wl} {Q Rs : List (Int × Int)} {As : List Tone} (hP : PendH pb n Q Rs HP) (hB : BankH bb Ws HBk) (hn : Ws.length = n ∧ n ≤ 64) {i k a : Nat} {o : Tone} {w : Wl} (hi : i < 256) (hA : As[i]? = some o) (hw : Ws[k]? = some w) (ha : a ≤ 18446744073709551615) (hnow : ∀ w ∈ Ws, w.now ≤ 18446744073709551615) (htn : ∀ w ∈ Ws, w.turn ≤ 4611686018427387904) (hst : 0 ≤ o.starts ∧ o.starts ≤ 4611686018427387904)  : LCalls Tryz.prog w0 11 #[.pointer (some ⟨tb, 0, none⟩), .int .i64 (i : Int), .int .i64 (k : Int), .int .u64 ((a : Nat) : Int)] ((tb, .cells 91 1026 (tmRow pb bb As)) :: (HP ++ (HBk ++ H))) (fun v H' => ∃ Ws' Q' As' s e HP2 HB2, StartM Ws Q As i k a o w Ws' Q' As' s e ∧ PendH pb n Q' Rs HP2 ∧ BankH bb Ws' HB2 ∧ v = .tuple #[.agg (Spot.v s).toArray, .int .i64 e] ∧ H' = (tb, .cells 91 1026 (tmRow pb bb As')) :: (HP2 ++ (HB2 ++ H))) := by
  have hk := (List.getElem?_eq_some_iff.1 hw).1
  refine L_enter (l := [.pointer (some ⟨tb, 0, none⟩), .int .i64 (i : Int), .int .i64 (k : Int), .int .u64 ((a : Nat) : Int)]) Tryz.func11 rfl Tryz.ntmps11 rfl rfl ?_
  refine W_sr ?_
  refine W_box (l := [.pointer (some ⟨tb, 0, none⟩)]) rfl rfl rfl (fun b4 => ?_)
  refine W_box (l := [.int .i64 (i : Int)]) rfl rfl rfl (fun b5 => ?_)
  refine W_box (l := [.int .i64 (k : Int)]) rfl rfl rfl (fun b6 => ?_)
  refine W_box (l := [.int .u64 ((a : Nat) : Int)]) rfl rfl rfl (fun b7 => ?_)
  refine W_alloc (l := zSpot.v) ty32 rfl rfl (fun b8 => ?_)
  refine W_assign rfl rfl ?_
  refine W_nil ?_
  refine W_seq ?_
  refine W_quietsr (by kernel_rfl) (by decide +kernel) ?_
  refine WQ_x (X_load (v := .pointer (some ⟨tb, 0, none⟩)) rfl ty25 rfl (Cell.own (b := b4) zM rfl)) rfl ?_
  refine WQ_x (X_ptrNotNil rfl rfl ty25) rfl ?_
  refine WQ_x (X_move rfl) rfl ?_
  refine WQ_gyes rfl rfl ?_
  refine WQ_x (X_load (v := .int .i64 (k : Int)) rfl ty3 rfl (Cell.own (b := b6) zM rfl)) rfl ?_
  refine WQ_gyes rfl rfl ?_
  refine WQ_x (X_bin rfl rfl b_lss) rfl ?_
  first | rw [decide_eq_true (by omega)] | rw [decide_eq_false (by omega)]
  refine WQ_gyes rfl rfl ?_
  refine WQ_x (X_move rfl) rfl ?_
  refine WQ_gyes rfl rfl ?_
  refine WQ_x (X_load (v := .int .i64 (k : Int)) rfl ty3 rfl (Cell.own (b := b6) zM rfl)) rfl ?_
  refine WQ_gyes rfl rfl ?_
  refine WQ_x (X_load (v := .pointer (some ⟨tb, 0, none⟩)) rfl ty25 rfl (Cell.own (b := b4) zM rfl)) rfl ?_
  refine WQ_gyes rfl rfl ?_
  refine WQ_x (X_nilCheck rfl) rfl ?_
  refine WQ_gyes rfl rfl ?_
  refine WQ_x (X_fieldAddr rfl fld91_1 (by decide)) rfl ?_
  refine WQ_gyes rfl rfl ?_
  refine WQ_x (X_load (v := .pointer (some ⟨bb, 0, none⟩)) rfl ty84 rfl (Cell.own (b := tb) zM rfl)) rfl ?_
  refine WQ_gyes rfl rfl ?_
  refine WQ_callq (.cons rfl .nil) Tryz.call38 rfl (CPUs_q hB (fun p hp => (by repeat (first | exact List.mem_append_left _ hp | exact List.mem_cons_self | apply List.mem_cons_of_mem | apply List.mem_append_right)))) ?_
  refine WQ_gyes rfl rfl ?_
  refine WQ_x (X_bin rfl rfl b_geq) rfl ?_
  first | rw [decide_eq_true (by omega)] | rw [decide_eq_false (by omega)]
  refine WQ_gyes rfl rfl ?_
  first | refine WQ_x (X_pickt rfl rfl) rfl ?_ | refine WQ_x (X_pickf rfl rfl) rfl ?_
  first | refine WQ_x (X_pickt rfl rfl) rfl ?_ | refine WQ_x (X_pickf rfl rfl) rfl ?_
  refine WQ_nil ?_
  refine W_condF rfl rfl ?_
  refine W_skip ?_
  refine W_sr ?_
  refine W_alloc (l := zSpot.v) ty32 rfl rfl (fun b10 => ?_)
  refine W_nil ?_
  refine W_sr ?_
  refine W_load (v := .pointer (some ⟨tb, 0, none⟩)) rfl ty25 rfl (Cell.own (b := b4) zM rfl) rfl ?_
  refine W_load (v := .int .i64 (i : Int)) rfl ty3 rfl (Cell.own (b := b5) zM rfl) rfl ?_
  refine W_makeFunc .nil (.cons rfl (.cons rfl (.cons rfl (.cons rfl (.cons rfl .nil))))) rfl ?_
  cases hs : o.shut
  · skip
    refine W_call (.cons rfl (.cons rfl (.cons rfl .nil))) Tryz.call35 rfl ((open_in (ca := [.pointer (some ⟨b4, 0, none⟩), .pointer (some ⟨b6, 0, none⟩), .pointer (some ⟨b5, 0, none⟩), .pointer (some ⟨b7, 0, none⟩), .pointer (some ⟨b10, 0, none⟩)]) Tryz.call39 hi hA zM hs (start1_L (b4 := b4) (b5 := b5) (b6 := b6) (b7 := b7) (b10 := b10) hP hB hn hA hw ha hnow htn hst hs (H := (b8, .cells 32 4 zSpot.v) :: H)) (by rintro v H2 ⟨_, _, _, _, _, _, _, _, _, _, e, _⟩; exact ⟨_, e⟩)).hsub zH) ?_
    rintro v H' ⟨Ws', Q', As', s, e, HP2, HB2, hM, hP2, hB2, rfl, rfl⟩
    refine W_assign rfl rfl ?_
    refine W_nil ?_
    refine W_sr ?_
    refine W_loadB (vs := s.v) rfl ty32 rfl (b := b10) zM rfl rfl rfl ?_
    refine W_move rfl rfl ?_
    refine W_storeA (l' := s.v) rfl rfl ty32 rfl rfl (b := b8) zM (by exact Nat.le_refl 4) rfl zU ?_
    refine W_assign rfl rfl ?_
    refine W_nil ?_
    refine W_ret2G (H2 := (tb, .cells 91 1026 (tmRow pb bb As')) :: (HP2 ++ (HB2 ++ H))) Tryz.results11 (.nil _) (.own rfl ty32 rfl zM rfl) (.tmp rfl) zH ?_
    exact ⟨Ws', Q', As', s, e, HP2, HB2, hM, hP2, hB2, rfl, rfl⟩
  · skip
    refine W_call (.cons rfl (.cons rfl (.cons rfl .nil))) Tryz.call35 rfl ((open_gone (ca := [.pointer (some ⟨b4, 0, none⟩), .pointer (some ⟨b6, 0, none⟩), .pointer (some ⟨b5, 0, none⟩), .pointer (some ⟨b7, 0, none⟩), .pointer (some ⟨b10, 0, none⟩)]) (H := (b10, .cells 32 4 zSpot.v) :: (b4, .cells 25 1 [.pointer (some ⟨tb, 0, none⟩)]) :: (b5, .cells 3 1 [.int .i64 (i : Int)]) :: (b6, .cells 3 1 [.int .i64 (k : Int)]) :: (b7, .cells 22 1 [.int .u64 ((a : Nat) : Int)]) :: (tb, .cells 91 1026 (tmRow pb bb As)) :: (HP ++ (HBk ++ ((b8, .cells 32 4 zSpot.v) :: H)))) hi hA zM hs).hsub zH) ?_
    rintro v H' ⟨rfl, rfl⟩
    refine W_assign rfl rfl ?_
    refine W_nil ?_
    refine W_sr ?_
    refine W_loadB (vs := zSpot.v) rfl ty32 rfl (b := b10) zM rfl rfl rfl ?_
    refine W_move rfl rfl ?_
    refine W_storeA (l' := zSpot.v) rfl rfl ty32 rfl rfl (b := b8) zM (by exact Nat.le_refl 4) rfl zU ?_
    refine W_assign rfl rfl ?_
    refine W_nil ?_
    refine W_ret2G (H2 := (tb, .cells 91 1026 (tmRow pb bb As)) :: (HP ++ (HBk ++ H))) Tryz.results11 (.nil _) (.own rfl ty32 rfl zM rfl) (.tmp rfl) zH ?_
    exact ⟨Ws, Q, As, zSpot, 22, HP, HBk, .gone hs, hP, hB, rfl, rfl⟩
inductive StartIs (n : Nat) (Ws : List Wl) (Q : List (Int × Int)) (As : List Tone) (id cpu : Int) (a : Nat) : List Wl → List (Int × Int) → List Tone → Spot → Int → Prop
  | out (h : cpu < 0 ∨ (n : Int) ≤ cpu ∨ ¬ (0 ≤ id ∧ id < 256)) : StartIs n Ws Q As id cpu a Ws Q As zSpot 2
  | at_ {i k : Nat} {o : Tone} {w : Wl} {Ws' : List Wl} {Q' : List (Int × Int)} {As' : List Tone} {s : Spot} {e : Int} (hi : i < 256) (ei : id = (i : Int)) (ek : cpu = (k : Int)) (hA : As[i]? = some o) (hw : Ws[k]? = some w) (h : StartM Ws Q As i k a o w Ws' Q' As' s e) : StartIs n Ws Q As id cpu a Ws' Q' As' s e
structure TOk (T : Nat) (Ws : List Wl) (As : List Tone) : Prop where
  bank : BOk T Ws
  starts : ∀ o ∈ As, 0 ≤ o.starts ∧ o.starts ≤ (T : Int)
theorem TOk.up {T T' : Nat} {Ws : List Wl} {As : List Tone} (h : TOk T Ws As) (hl : T ≤ T') : TOk T' Ws As := ⟨h.bank.up hl, fun o ho => by have := h.starts o ho; omega⟩
theorem StartM.len {Ws Ws' : List Wl} {Q Q' : List (Int × Int)} {As As' : List Tone} {i k a : Nat} {o : Tone} {w : Wl} {s : Spot} {e : Int} (h : StartM Ws Q As i k a o w Ws' Q' As' s e) : Ws'.length = Ws.length := by
  cases h with
  | gone _ => rfl
  | unset _ _ => rfl
  | late _ _ _ => rfl
  | put _ _ _ hp => cases hp <;> first | exact List.length_map _ | (rw [List.length_set, List.length_map])
theorem StartM.asOk {Ws Ws' : List Wl} {Q Q' : List (Int × Int)} {As As' : List Tone} {i k a : Nat} {o : Tone} {w : Wl} {s : Spot} {e : Int} (h : StartM Ws Q As i k a o w Ws' Q' As' s e) (hA : AsOk As) (ho : As[i]? = some o) : AsOk As' := by
  cases h with
  | gone _ => exact hA
  | unset _ _ => exact hA
  | late _ _ _ => exact hA
  | put _ _ _ hp => exact hA.set i (o := { o with starts := o.starts + 1 }) (hA.rng o (List.mem_of_getElem? ho))
theorem Start_L {w0 : World} {H HB : Heap} {tb n T : Nat} {Ws : List Wl} {Q Rs : List (Int × Int)} {As : List Tone} (hT : TimerH tb n Ws Q Rs As HB) (hO : TOk T Ws As) (hTl : T ≤ 1000000) {id cpu : Int} {a : Nat} (ha : a ≤ 18446744073709551615) :
    LCalls Tryz.prog w0 11 #[.pointer (some ⟨tb, 0, none⟩), .int .i64 id, .int .i64 cpu, .int .u64 ((a : Nat) : Int)] (HB ++ H) (fun v H' => ∃ Ws' Q' As' s e HB', StartIs n Ws Q As id cpu a Ws' Q' As' s e ∧ TimerH tb n Ws' Q' Rs As' HB' ∧ TOk (T + 1) Ws' As' ∧ v = .tuple #[.agg (Spot.v s).toArray, .int .i64 e] ∧ H' = HB' ++ H) := by
  by_cases h0 : cpu < 0
  · refine (Start_lo h0 w0 _ trivial).mono ?_
    rintro v H' ⟨rfl, rfl⟩
    exact ⟨Ws, Q, As, zSpot, 2, HB, .out (.inl h0), hT, hO.up (Nat.le_succ _), rfl, rfl⟩
  · obtain ⟨k, rfl⟩ : ∃ k : Nat, cpu = (k : Int) := ⟨cpu.toNat, by omega⟩
    cases hT with
    | @mk pb bb HP HBk hP hB hA hn =>
      show LCalls _ _ _ _ ((tb, .cells 91 1026 (tmRow pb bb As)) :: ((HP ++ HBk) ++ H)) _
      rw [List.append_assoc]
      by_cases h1 : n ≤ k
      · refine (Start_hi (H := H) hP hB hn (id := id) (cpu := (k : Int)) (by omega)).mono ?_
        rintro v H' ⟨rfl, rfl⟩
        exact ⟨Ws, Q, As, zSpot, 2, _, .out (.inr (.inl (by omega))), .mk hP hB hA hn, hO.up (Nat.le_succ _), rfl, by show _ = (tb, .cells 91 1026 (tmRow pb bb As)) :: ((HP ++ HBk) ++ H); rw [List.append_assoc]⟩
      · by_cases hi : 0 ≤ id ∧ id < 256
        · obtain ⟨i, rfl⟩ : ∃ i : Nat, id = (i : Int) := ⟨id.toNat, by omega⟩
          obtain ⟨o, ho⟩ := hA.at (i := i) (by omega)
          obtain ⟨w, hw⟩ : ∃ w, Ws[k]? = some w := ⟨_, List.getElem?_eq_getElem (by omega)⟩
          have hos := hO.starts o (List.mem_of_getElem? ho)
          refine (Start_at (H := H) hP hB hn (by omega) ho hw ha hO.bank.now (fun u hu => by have := hO.bank.turn u hu; omega) (by omega)).mono ?_
          rintro v H' ⟨Ws', Q', As', s, e, HP2, HB2, hM, hP2, hB2, rfl, rfl⟩
          refine ⟨Ws', Q', As', s, e, _, .at_ (by omega) rfl rfl ho hw hM, .mk hP2 hB2 (hM.asOk hA ho) (by rw [hM.len]; exact hn), ?_, rfl, by show _ = (tb, .cells 91 1026 (tmRow pb bb As')) :: ((HP2 ++ HB2) ++ H); rw [List.append_assoc]⟩
          cases hM with
          | gone _ => exact hO.up (Nat.le_succ _)
          | unset _ _ => exact hO.up (Nat.le_succ _)
          | late _ _ _ => exact hO.up (Nat.le_succ _)
          | put hs h hm hp =>
            refine ⟨(hO.bank.del (i : Int)).put (fun w hw t ht => ?_) hp hB2, fun x hx => ?_⟩
            · obtain ⟨u, hu, rfl⟩ := List.mem_map.1 hw
              exact hB.rng u hu t (List.mem_filter.1 ht).1
            · rcases List.mem_or_eq_of_mem_set hx with hx | rfl
              · have := hO.starts x hx; omega
              · show 0 ≤ o.starts + 1 ∧ o.starts + 1 ≤ ((T + 1 : Nat) : Int); omega
        · refine (Start_out (H := H) hP hB hn (k := k) (by omega) hi).mono ?_
          rintro v H' ⟨rfl, rfl⟩
          exact ⟨Ws, Q, As, zSpot, 2, _, .out (.inr (.inr hi)), .mk hP hB hA hn, hO.up (Nat.le_succ _), rfl, by show _ = (tb, .cells 91 1026 (tmRow pb bb As)) :: ((HP ++ HBk) ++ H); rw [List.append_assoc]⟩
end Go.Proofs.YtcmfldfeakmdoaaGreatDoor
namespace Go.Proofs.YtcmfldfeakmdoaaGreatDoor
open Go Go.Sl
attribute [local irreducible] W
theorem Add_L2 {w0 : World} {H : Heap} {HB : Heap} {pb n : Nat} {Q Rs : List (Int × Int)} (hP : PendH pb n Q Rs HB) (hn : n ≤ 64) {cpu : Int} {ids : List Int} {ad : Option Addr} {cap m : Nat} (hm : ids.length = m) (hil : m ≤ 1000000) (hrow : Holds w0 H ad (ids.map (Value.int .i64))) : LCalls Tryz.prog w0 48 #[.pointer (some ⟨pb, 0, none⟩), .int .i64 cpu, .slice ad m cap] (HB ++ H) (fun v H' => ∃ HB', PendH pb n (addsQ n Q cpu ids).1 Rs HB' ∧ v = .int .i64 (addsQ n Q cpu ids).2 ∧ H' = HB' ++ H) := by
  subst hm; exact Add_L hP hn hil hrow
theorem CatchIs.out2 {Ws Ws' : List Wl} {cpu : Int} {a : Nat} {O : List Tm} (h : CatchIs Ws cpu a Ws' O) (hl : ∀ w ∈ Ws, w.L.length ≤ 256) : O.length ≤ 256 := by
  rcases h with ⟨_, _, rfl⟩ | ⟨k, w, Li, _, hk, hG, _⟩
  · exact Nat.zero_le _
  · exact Nat.le_trans hG.len (hl w (List.mem_of_getElem? hk))
theorem CatchIs.len2 {Ws Ws' : List Wl} {cpu : Int} {a : Nat} {O : List Tm} (h : CatchIs Ws cpu a Ws' O) : Ws'.length = Ws.length := by
  rcases h with ⟨_, rfl, _⟩ | ⟨k, w, Li, _, _, _, rfl⟩
  · rfl
  · exact List.length_set
set_option maxHeartbeats 1000000 in
theorem Catch_at {w0 : World} {H : Heap} {tb pb bb n : Nat} {HP HBk : Heap} {Ws : List Wl} {Q Rs : List (Int × Int)} {As : List Tone} (hP : PendH pb n Q Rs HP) (hB : BankH bb Ws HBk) (hn : Ws.length = n ∧ n ≤ 64) {a : Nat} {cpu : Int} (ha : a ≤ 18446744073709551615) (hlt : ∀ w ∈ Ws, ∀ t ∈ w.L, w.now < t.s.due) (hTb : Tab w0)  : LCalls Tryz.prog w0 15 #[.pointer (some ⟨tb, 0, none⟩), .int .i64 cpu, .int .u64 ((a : Nat) : Int)] ((tb, .cells 91 1026 (tmRow pb bb As)) :: (HP ++ (HBk ++ H))) (fun v H' => ∃ (Ws' : List Wl) (O : List Tm) (XO HP2 HB2 : Heap), CatchIs Ws cpu a Ws' O ∧ PendH pb n (addsQ n Q cpu (O.map (·.id))).1 Rs HP2 ∧ BankH bb Ws' HB2 ∧ OwnS 3 1 v O.length ((O.map (·.id)).map (Value.int .i64)) XO ∧ H' = XO ++ ((tb, .cells 91 1026 (tmRow pb bb As)) :: (HP2 ++ (HB2 ++ H)))) := by
  refine L_enter (l := [.pointer (some ⟨tb, 0, none⟩), .int .i64 cpu, .int .u64 ((a : Nat) : Int)]) Tryz.func15 rfl Tryz.ntmps15 rfl rfl ?_
  refine W_sr ?_
  refine W_assign rfl rfl ?_
  refine W_nil ?_
  refine W_seq ?_
  refine W_sr ?_
  refine W_move rfl rfl ?_
  refine W_x (X_ptrNil rfl rfl ty25) (fun _ h => by cases h) rfl ?_
  refine W_nil ?_
  refine W_condF rfl rfl ?_
  refine W_skip ?_
  refine W_sr ?_
  refine W_move rfl rfl ?_
  refine W_nilCheck rfl rfl ?_
  refine W_fieldAddr rfl fld91_1 (by decide) rfl ?_
  refine W_load (v := .pointer (some ⟨bb, 0, none⟩)) rfl ty84 rfl (Cell.own (b := tb) zM rfl) rfl ?_
  refine W_move rfl rfl ?_
  refine W_move rfl rfl ?_
  refine W_call (.cons rfl (.cons rfl (.cons rfl .nil))) Tryz.call47 rfl ((CatchB_L hB (cpu := cpu) ha hlt hTb (H := (tb, .cells 91 1026 (tmRow pb bb As)) :: (HP ++ H))).hsub zH) ?_
  rintro v H' ⟨Ws2, HB2, O, XO, hB2, hO, hC, rfl⟩
  have hOl := hC.out2 hB.lens
  obtain ⟨ado, capo, rfl, hoc, _, hro⟩ := Holds.of_own (w0 := w0) (H := XO ++ []) hO (fun p hp => List.mem_append_left _ hp)
  refine W_assign rfl rfl ?_
  refine W_nil ?_
  refine W_sr ?_
  refine W_move rfl rfl ?_
  refine W_nilCheck rfl rfl ?_
  refine W_fieldAddr rfl fld91_0 (by decide) rfl ?_
  refine W_load (v := .pointer (some ⟨pb, 0, none⟩)) rfl ty81 rfl (Cell.own (b := tb) zM rfl) rfl ?_
  refine W_move rfl rfl ?_
  refine W_move rfl rfl ?_
  refine W_call (.cons rfl (.cons rfl (.cons rfl .nil))) Tryz.call48 rfl ((Add_L2 hP (by omega) (cpu := cpu) (ids := (O.map (·.id))) (cap := capo) (ad := ado) (by exact List.length_map _) (by omega) (H := XO ++ ((tb, .cells 91 1026 (tmRow pb bb As)) :: (HB2 ++ H))) (hro.up zH)).hsub zH) ?_
  rintro v H' ⟨HP2, hP2, rfl, rfl⟩
  refine W_nil ?_
  refine W_sr ?_
  refine W_move rfl rfl ?_
  refine W_assign rfl rfl ?_
  refine W_nil ?_
  refine W_ret1m (H2 := XO ++ ((tb, .cells 91 1026 (tmRow pb bb As)) :: (HP2 ++ (HB2 ++ H)))) Tryz.results15 rfl (.nil _) zH ?_
  exact ⟨Ws2, O, XO, HP2, HB2, hC, hP2, hB2, hO, rfl⟩
theorem Catch_L {w0 : World} {H HB : Heap} {tb n T : Nat} {Ws : List Wl} {Q Rs : List (Int × Int)} {As : List Tone} (hT : TimerH tb n Ws Q Rs As HB) (hO : TOk T Ws As) (hTb : Tab w0) {cpu : Int} {a : Nat} (ha : a ≤ 18446744073709551615) :
    LCalls Tryz.prog w0 15 #[.pointer (some ⟨tb, 0, none⟩), .int .i64 cpu, .int .u64 ((a : Nat) : Int)] (HB ++ H) (fun v H' => ∃ (Ws' : List Wl) (O : List Tm) (XO HB' : Heap), CatchIs Ws cpu a Ws' O ∧ TimerH tb n Ws' (addsQ n Q cpu (O.map (·.id))).1 Rs As HB' ∧ TOk T Ws' As ∧ OwnS 3 1 v O.length ((O.map (·.id)).map (Value.int .i64)) XO ∧ O.length ≤ 256 ∧ H' = XO ++ (HB' ++ H)) := by
  cases hT with
  | @mk pb bb HP HBk hP hB hA hn =>
    show LCalls _ _ _ _ ((tb, .cells 91 1026 (tmRow pb bb As)) :: ((HP ++ HBk) ++ H)) _
    rw [List.append_assoc]
    refine (Catch_at (H := H) hP hB hn ha hO.bank.later hTb).mono ?_
    rintro v H' ⟨Ws', O, XO, HP2, HB2, hC, hP2, hB2, hv, rfl⟩
    exact ⟨Ws', O, XO, _, hC, .mk hP2 hB2 hA (by rw [hC.len2]; exact hn), ⟨hO.bank.catch ha hC, hO.starts⟩, hv, hC.out2 hB.lens, by show _ = XO ++ ((tb, .cells 91 1026 (tmRow pb bb As)) :: ((HP2 ++ HB2) ++ H)); rw [List.append_assoc]⟩
set_option maxHeartbeats 1000000 in
theorem inner_q {w0 : World} {H : Heap} {tb pb bb : Nat} {As : List Tone} (hm : (tb, .cells 91 1026 (tmRow pb bb As)) ∈ H)  : PureAt Tryz.prog w0 H 51 [.pointer (some ⟨tb, 0, none⟩)] (.pointer (some ⟨pb, 0, none⟩)) := by
  refine L_enter Tryz.func51 rfl Tryz.ntmps51 rfl rfl ?_
  refine W_sr ?_
  refine W_assign rfl rfl ?_
  refine W_nil ?_
  refine W_seq ?_
  refine W_sr ?_
  refine W_move rfl rfl ?_
  refine W_x (X_ptrNil rfl rfl ty25) (fun _ h => by cases h) rfl ?_
  refine W_nil ?_
  refine W_condF rfl rfl ?_
  refine W_skip ?_
  refine W_sr ?_
  refine W_move rfl rfl ?_
  refine W_nilCheck rfl rfl ?_
  refine W_fieldAddr rfl fld91_0 (by decide) rfl ?_
  refine W_load (v := .pointer (some ⟨pb, 0, none⟩)) rfl ty81 rfl (Cell.own (b := tb) hm rfl) rfl ?_
  refine W_assign rfl rfl ?_
  refine W_nil ?_
  refine W_ret1m (H2 := H) Tryz.results51 rfl (.nil _) zH ?_
  exact ⟨rfl, rfl⟩
set_option maxHeartbeats 1000000 in
theorem tEnd_at {w0 : World} {H : Heap} {tb pb bb n : Nat} {HP HBk : Heap} {Ws : List Wl} {Q Rs : List (Int × Int)} {As : List Tone} (hP : PendH pb n Q Rs HP) (hB : BankH bb Ws HBk) (hn : Ws.length = n ∧ n ≤ 64) {c : Int}  : LCalls Tryz.prog w0 18 #[.pointer (some ⟨tb, 0, none⟩), .int .i64 c] ((tb, .cells 91 1026 (tmRow pb bb As)) :: (HP ++ (HBk ++ H))) (fun v H' => ∃ HP2, PendH pb n Q (endQ Rs c).1 HP2 ∧ v = .tuple #[.int .i64 (endQ Rs c).2.1, .int .i64 (endQ Rs c).2.2] ∧ H' = (tb, .cells 91 1026 (tmRow pb bb As)) :: (HP2 ++ (HBk ++ H))) := by
  refine L_enter (l := [.pointer (some ⟨tb, 0, none⟩), .int .i64 c]) Tryz.func18 rfl Tryz.ntmps18 rfl rfl ?_
  refine W_sr ?_
  refine W_assign rfl rfl ?_
  refine W_assign rfl rfl ?_
  refine W_nil ?_
  refine W_sr ?_
  refine W_move rfl rfl ?_
  refine W_callq (.cons rfl .nil) Tryz.call51 rfl (inner_q (pb := pb) (bb := bb) (As := As) zM) ?_
  refine W_move rfl rfl ?_
  refine W_call (.cons rfl (.cons rfl .nil)) Tryz.call53 rfl ((End_L hP (by omega) (c := c) (H := (tb, .cells 91 1026 (tmRow pb bb As)) :: (HBk ++ H))).hsub zH) ?_
  rintro v H' ⟨HP2, hP2, rfl, rfl⟩
  refine W_extract rfl rfl rfl ?_
  refine W_extract rfl rfl rfl ?_
  refine W_assign rfl rfl ?_
  refine W_assign rfl rfl ?_
  refine W_nil ?_
  refine W_ret2m (H2 := (tb, .cells 91 1026 (tmRow pb bb As)) :: (HP2 ++ (HBk ++ H))) Tryz.results18 rfl rfl (.nil _) zH ?_
  exact ⟨HP2, hP2, rfl, rfl⟩
def progOf (As : List Tone) (id : Int) : Int := match As[id.toNat]? with
  | some o => o.prog - 1
  | none => 0
theorem progOf_at {As : List Tone} {i : Nat} {o : Tone} (h : As[i]? = some o) : progOf As (i : Int) = o.prog - 1 := by
  unfold progOf; rw [show ((i : Nat) : Int).toNat = i by omega, h]
theorem begQ_ok {n : Nat} {Q Rs : List (Int × Int)} {cpu c : Int} (hq : QOk n Q) (h : (begQ n Q Rs cpu c).2.2.2 = 0) : 0 ≤ (begQ n Q Rs cpu c).2.2.1 ∧ (begQ n Q Rs cpu c).2.2.1 < 256 := by
  have key : ∀ x l, quOf Q cpu = x :: l → 0 ≤ x ∧ x < 256 := fun x l e => (quOf_sub hq cpu).2 x (by rw [e]; exact List.mem_cons_self)
  revert h
  unfold begQ
  repeat' split
  all_goals (intro h; first | (exact key _ _ (by assumption)) | (simp at h))
set_option maxHeartbeats 1000000 in
theorem tBegin_at {w0 : World} {H : Heap} {tb pb bb n : Nat} {HP HBk : Heap} {Ws : List Wl} {Q Rs : List (Int × Int)} {As : List Tone} (hP : PendH pb n Q Rs HP) (hB : BankH bb Ws HBk) (hn : Ws.length = n ∧ n ≤ 64) {cpu c : Int} (hA : AsOk As)  : LCalls Tryz.prog w0 17 #[.pointer (some ⟨tb, 0, none⟩), .int .i64 cpu, .int .i64 c] ((tb, .cells 91 1026 (tmRow pb bb As)) :: (HP ++ (HBk ++ H))) (fun v H' => ∃ HP2, PendH pb n (begQ n Q Rs cpu c).1 (begQ n Q Rs cpu c).2.1 HP2 ∧ v = (if (begQ n Q Rs cpu c).2.2.2 = 0 then .tuple #[.int .i64 (begQ n Q Rs cpu c).2.2.1, .int .i64 ((progOf As (begQ n Q Rs cpu c).2.2.1)), .int .i64 0] else .tuple #[.int .i64 0, .int .i64 0, .int .i64 (begQ n Q Rs cpu c).2.2.2]) ∧ H' = (tb, .cells 91 1026 (tmRow pb bb As)) :: (HP2 ++ (HBk ++ H))) := by
  refine L_enter (l := [.pointer (some ⟨tb, 0, none⟩), .int .i64 cpu, .int .i64 c]) Tryz.func17 rfl Tryz.ntmps17 rfl rfl ?_
  refine W_sr ?_
  refine W_assign rfl rfl ?_
  refine W_assign rfl rfl ?_
  refine W_assign rfl rfl ?_
  refine W_nil ?_
  refine W_sr ?_
  refine W_move rfl rfl ?_
  refine W_callq (.cons rfl .nil) Tryz.call51 rfl (inner_q (pb := pb) (bb := bb) (As := As) zM) ?_
  refine W_move rfl rfl ?_
  refine W_move rfl rfl ?_
  refine W_call (.cons rfl (.cons rfl (.cons rfl .nil))) Tryz.call52 rfl ((Begin_L hP (by omega) (cpu := cpu) (c := c) (H := (tb, .cells 91 1026 (tmRow pb bb As)) :: (HBk ++ H))).hsub zH) ?_
  rintro v H' ⟨HP2, hP2, rfl, rfl⟩
  refine W_move rfl rfl ?_
  refine W_extract rfl rfl rfl ?_
  refine W_extract rfl rfl rfl ?_
  refine W_assign rfl rfl ?_
  refine W_assign rfl rfl ?_
  refine W_nil ?_
  refine W_seq ?_
  refine W_sr ?_
  refine W_move rfl rfl ?_
  refine W_bin rfl rfl b_neq rfl ?_
  refine W_nil ?_
  refine W_condPS (p := ¬ (begQ n Q Rs cpu c).2.2.2 = 0) rfl (by simp) (fun c0 => ?_) (fun c0 => ?_)
  · skip
    refine W_sr ?_
    refine W_move rfl rfl ?_
    refine W_assign rfl rfl ?_
    refine W_assign rfl rfl ?_
    refine W_assign rfl rfl ?_
    refine W_nil ?_
    refine W_ret3m (H2 := (tb, .cells 91 1026 (tmRow pb bb As)) :: (HP2 ++ (HBk ++ H))) Tryz.results17 rfl rfl rfl (.nil _) zH ?_
    rw [if_neg c0]
    exact ⟨HP2, hP2, rfl, rfl⟩
  · skip
    refine W_skip ?_
    refine W_quietsr (by kernel_rfl) (by decide +kernel) ?_
    have hid := begQ_ok (n := n) (Q := Q) (Rs := Rs) (cpu := cpu) (c := c) hP.ok (by simpa using c0)
    obtain ⟨i, hi⟩ : ∃ i : Nat, (begQ n Q Rs cpu c).2.2.1 = (i : Int) := ⟨((begQ n Q Rs cpu c).2.2.1).toNat, by omega⟩
    obtain ⟨o, ho⟩ := hA.at (i := i) (by omega)
    have hpr := hA.rng o (List.mem_of_getElem? ho)
    rw [hi]
    refine WQ_x (X_move rfl) rfl ?_
    refine WQ_x (X_move rfl) rfl ?_
    refine WQ_x (X_move rfl) rfl ?_
    refine WQ_x (X_nilCheck rfl) rfl ?_
    refine WQ_x (X_fieldAddr rfl fld91_2 (by decide)) rfl ?_
    refine WQ_x (X_indexAddrA (j := i) rfl rfl ty89 ty88 (by first | rfl | omega) (by first | decide | omega | simp) rfl) rfl ?_
    refine WQ_x (X_fieldAddr rfl fld88_2 (by decide)) rfl ?_
    refine WQ_x (X_load (v := .int .i64 o.prog) rfl ty3 rfl (Cell.own (b := tb) zM (tm_get2 ho))) rfl ?_
    refine WQ_x (X_bin rfl rfl (b_sub (m := o.prog - 1) (i64w (by omega)))) rfl ?_
    refine WQ_x (X_assign rfl) rfl ?_
    refine WQ_x (X_assign rfl) rfl ?_
    refine WQ_x (X_assign rfl) rfl ?_
    refine WQ_nil ?_
    refine W_ret3m (H2 := (tb, .cells 91 1026 (tmRow pb bb As)) :: (HP2 ++ (HBk ++ H))) Tryz.results17 rfl rfl rfl (.nil _) zH ?_
    rw [if_pos (by simpa using c0), progOf_at ho]
    exact ⟨HP2, hP2, rfl, rfl⟩
end Go.Proofs.YtcmfldfeakmdoaaGreatDoor
