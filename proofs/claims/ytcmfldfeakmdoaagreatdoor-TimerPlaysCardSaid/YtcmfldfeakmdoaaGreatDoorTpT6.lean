/-
  Own work: contracts of functions that the statement reaches, and plain facts on what they compute; each theorem says its conditions.
-/
import Derived.Test.YtcmfldfeakmdoaaGreatDoorTpT4
import Derived.Test.YtcmfldfeakmdoaaGreatDoorTpT5
import Derived.Test.YtcmfldfeakmdoaaGreatDoorTpS2
import Derived.Test.YtcmfldfeakmdoaaGreatDoorTpA
set_option linter.all false
set_option linter.unusedSimpArgs false
set_option linter.unusedVariables false
set_option maxHeartbeats 16000000
namespace Go.Proofs.YtcmfldfeakmdoaaGreatDoor
open Go Go.Sl
attribute [local irreducible] W
structure Tone where
 made : Bool
 shut : Bool
 prog : Int
 starts : Int
def oneC (o : Tone) : List Value := [.bool o.made, .bool o.shut, .int .i64 o.prog, .int .i64 o.starts]
theorem oneC_len (o : Tone) : (oneC o).length = 4 := rfl
def tmRow (pb bb : Nat) (A : List Tone) : List Value := .pointer (some ⟨pb, 0, none⟩) :: .pointer (some ⟨bb, 0, none⟩) :: A.flatMap oneC
def zTone : Tone := ⟨false, false, 0, 0⟩
theorem flat_get {A : List Tone} {i j : Nat} {o : Tone} (h : A[i]? = some o) (hj : j < 4) : (A.flatMap oneC)[i * 4 + j]? = (oneC o)[j]? := by
 induction A generalizing i with
 | nil => simp at h
 | cons x A ih =>
  cases i with
  | zero =>
   obtain rfl : x = o := by simpa using h
   rw [Nat.zero_mul, Nat.zero_add, List.flatMap_cons, List.getElem?_append_left (by rw [oneC_len]; exact hj)]
  | succ i =>
   rw [List.flatMap_cons, List.getElem?_append_right (by rw [oneC_len]; omega), oneC_len, show (i + 1) * 4 + j - 4 = i * 4 + j by omega]
   exact ih (by simpa using h)
theorem tm_len {pb bb : Nat} (A : List Tone) : (tmRow pb bb A).length = A.length * 4 + 2 := by
 unfold tmRow; rw [List.length_cons, List.length_cons, flat_length oneC_len]
theorem tm_get {pb bb i j : Nat} {A : List Tone} {o : Tone} (h : A[i]? = some o) (hj : j < 4) : (tmRow pb bb A)[2 + i * 4 + j]? = (oneC o)[j]? := by
 unfold tmRow
 rw [show 2 + i * 4 + j = (i * 4 + j) + 1 + 1 by omega, List.getElem?_cons_succ, List.getElem?_cons_succ, flat_get h hj]
theorem tm_lt {pb bb i j : Nat} {A : List Tone} {o : Tone} (h : A[i]? = some o) (hj : j < 4) : Nat.blt (2 + i * 4 + j) (tmRow pb bb A).length = true := by
 have := (List.getElem?_eq_some_iff.1 h).1
 rw [tm_len, Nat.blt_eq]; omega
theorem tm_get0 {pb bb i : Nat} {A : List Tone} {o : Tone} (h : A[i]? = some o) : (tmRow pb bb A)[2 + i * 4 + 0]? = some (.bool o.made) := tm_get (j := 0) h zd
theorem tm_get1 {pb bb i : Nat} {A : List Tone} {o : Tone} (h : A[i]? = some o) : (tmRow pb bb A)[2 + i * 4 + 1]? = some (.bool o.shut) := tm_get (j := 1) h zd
theorem tm_get2 {pb bb i : Nat} {A : List Tone} {o : Tone} (h : A[i]? = some o) : (tmRow pb bb A)[2 + i * 4 + 2]? = some (.int .i64 o.prog) := tm_get (j := 2) h zd
theorem tm_get3 {pb bb i : Nat} {A : List Tone} {o : Tone} (h : A[i]? = some o) : (tmRow pb bb A)[2 + i * 4 + 3]? = some (.int .i64 o.starts) := tm_get (j := 3) h zd
theorem flat_setj {A : List Tone} {i j : Nat} {o o' : Tone} {v : Value} (h : A[i]? = some o) (hj : j < 4) (e : (oneC o).set j v = oneC o') : (A.flatMap oneC).set (i * 4 + j) v = (A.set i o').flatMap oneC := by
 induction A generalizing i with
 | nil => simp at h
 | cons x A ih =>
  cases i with
  | zero =>
   obtain rfl : x = o := by simpa using h
   rw [Nat.zero_mul, Nat.zero_add, List.flatMap_cons, List.set_append_left _ _ (by rw [oneC_len]; exact hj), e]
   rfl
  | succ i =>
   rw [List.flatMap_cons, List.set_append_right _ _ (by rw [oneC_len]; omega), oneC_len, show (i + 1) * 4 + j - 4 = i * 4 + j by omega, ih (by simpa using h)]
   rfl
theorem tm_set {pb bb i j : Nat} {A : List Tone} {o o' : Tone} {v : Value} (h : A[i]? = some o) (hj : j < 4) (e : (oneC o).set j v = oneC o') : (tmRow pb bb A).set (2 + i * 4 + j) v = tmRow pb bb (A.set i o') := by
 unfold tmRow
 rw [show 2 + i * 4 + j = (i * 4 + j) + 1 + 1 by omega, List.set_cons_succ, List.set_cons_succ, flat_setj h hj e]
theorem tm_set0 {pb bb i : Nat} {A : List Tone} {o : Tone} {x : Bool} (h : A[i]? = some o) : (tmRow pb bb A).set (2 + i * 4 + 0) (.bool x) = tmRow pb bb (A.set i { o with made := x }) := tm_set (j := 0) h zd rfl
theorem tm_set1 {pb bb i : Nat} {A : List Tone} {o : Tone} {x : Bool} (h : A[i]? = some o) : (tmRow pb bb A).set (2 + i * 4 + 1) (.bool x) = tmRow pb bb (A.set i { o with shut := x }) := tm_set (j := 1) h zd rfl
theorem tm_set2 {pb bb i : Nat} {A : List Tone} {o : Tone} {x : Int} (h : A[i]? = some o) : (tmRow pb bb A).set (2 + i * 4 + 2) (.int .i64 x) = tmRow pb bb (A.set i { o with prog := x }) := tm_set (j := 2) h zd rfl
theorem tm_set3 {pb bb i : Nat} {A : List Tone} {o : Tone} {x : Int} (h : A[i]? = some o) : (tmRow pb bb A).set (2 + i * 4 + 3) (.int .i64 x) = tmRow pb bb (A.set i { o with starts := x }) := tm_set (j := 3) h zd rfl
theorem flat_spl {A : List Tone} {i : Nat} {o' : Tone} (h : i < A.length) : spliceL (A.flatMap oneC) (i * 4) (oneC o') = (A.set i o').flatMap oneC := flat_set oneC_len o' h
theorem tm_spl {pb bb i : Nat} {A : List Tone} {o' : Tone} (h : i < A.length) : spliceL (tmRow pb bb A) (2 + i * 4) (oneC o') = tmRow pb bb (A.set i o') := by
 have e := flat_spl (o' := o') h
 unfold spliceL at e ⊢
 unfold tmRow
 rw [← e, show 2 + i * 4 = (i * 4) + 1 + 1 by omega, List.take_succ_cons, List.take_succ_cons, show (i * 4) + 1 + 1 + (oneC o').length = (i * 4 + (oneC o').length) + 1 + 1 by omega, List.drop_succ_cons, List.drop_succ_cons]
 rfl
theorem tm_load {pb bb i : Nat} {A : List Tone} {o : Tone} (h : A[i]? = some o) : ((tmRow pb bb A).drop (2 + i * 4)).take 4 = oneC o := by
 apply List.ext_getElem?
 intro j
 by_cases c : j < 4
 ·rw [List.getElem?_take, if_pos c, List.getElem?_drop, tm_get h c]
 ·rw [List.getElem?_eq_none (by rw [List.length_take]; omega), List.getElem?_eq_none (by rw [oneC_len]; omega)]
structure AsOk (A : List Tone) : Prop where
 len : A.length = 256
 rng : ∀ o ∈ A, 0 ≤ o.prog ∧ o.prog ≤ 16
theorem AsOk.set {A : List Tone} (h : AsOk A) (i : Nat) {o : Tone} (hp : 0 ≤ o.prog ∧ o.prog ≤ 16) : AsOk (A.set i o) := ⟨by rw [List.length_set, h.len], fun x hx => by
 rcases List.mem_or_eq_of_mem_set hx with hx | rfl
 ·exact h.rng x hx
 ·exact hp⟩
theorem AsOk.at {A : List Tone} (h : AsOk A) {i : Nat} (hi : i < 256) : ∃ o, A[i]? = some o := ⟨_, List.getElem?_eq_getElem (by rw [h.len]; exact hi)⟩
inductive TimerH (tb n : Nat) (Ws : List Wl) (Q Rs : List (Int × Int)) (As : List Tone) : Heap → Prop
 | mk {pb bb : Nat} {HP HB : Heap} (hP : PendH pb n Q Rs HP) (hB : BankH bb Ws HB) (hA : AsOk As) (hn : Ws.length = n ∧ n ≤ 64) : TimerH tb n Ws Q Rs As ((tb, .cells 91 1026 (tmRow pb bb As)) :: (HP ++ HB))
theorem with_lo {tb : Nat} {id : Int} {f : Value} (hi : id < 0) : Pure Tryz.prog (fun _ => True) 49 [.pointer (some ⟨tb, 0, none⟩), .int .i64 id, f] (.int .i64 2) := by
 intro w0 H hT
 refine L_enter Tryz.func49 rfl Tryz.ntmps49 rfl rfl ?_
 refine W_sr ?_
 refine W_assign rfl rfl ?_
 refine W_nil (W_seq ?_)
 refine W_block (W_sr ?_)
 refine W_move rfl rfl ?_
 refine W_x (X_ptrNil rfl rfl ty25) (fun _ h => by cases h) rfl ?_
 refine W_assign rfl rfl ?_
 refine W_nil ?_
 refine W_condF rfl rfl ?_
 refine W_sr ?_
 refine W_move rfl rfl ?_
 refine W_bin rfl rfl b_lss rfl ?_
 first | rw [decide_eq_true (by omega)] | rw [decide_eq_false (by omega)]
 refine W_move rfl rfl ?_
 refine W_gno rfl rfl rfl ?_
 refine W_gno rfl rfl rfl ?_
 first | refine W_pickt rfl rfl rfl ?_ | refine W_pickf rfl rfl rfl ?_
 refine W_assign rfl rfl ?_
 refine W_nil ?_
 refine W_condT rfl rfl ?_
 refine W_sr ?_
 refine W_assign rfl rfl ?_
 refine W_nil ?_
 refine W_ret1m (H2 := H) Tryz.results49 rfl (.nil _) zH ?_
 exact ⟨rfl, rfl⟩
theorem with_hi {tb : Nat} {id : Int} {f : Value} (hi : 256 ≤ id) : Pure Tryz.prog (fun _ => True) 49 [.pointer (some ⟨tb, 0, none⟩), .int .i64 id, f] (.int .i64 2) := by
 intro w0 H hT
 refine L_enter Tryz.func49 rfl Tryz.ntmps49 rfl rfl ?_
 refine W_sr ?_
 refine W_assign rfl rfl ?_
 refine W_nil (W_seq ?_)
 refine W_block (W_sr ?_)
 refine W_move rfl rfl ?_
 refine W_x (X_ptrNil rfl rfl ty25) (fun _ h => by cases h) rfl ?_
 refine W_assign rfl rfl ?_
 refine W_nil ?_
 refine W_condF rfl rfl ?_
 refine W_sr ?_
 refine W_move rfl rfl ?_
 refine W_bin rfl rfl b_lss rfl ?_
 first | rw [decide_eq_true (by omega)] | rw [decide_eq_false (by omega)]
 refine W_move rfl rfl ?_
 refine W_gyes rfl rfl ?_
 refine W_move rfl rfl ?_
 refine W_gyes rfl rfl ?_
 refine W_bin rfl rfl b_geq rfl ?_
 first | rw [decide_eq_true (by omega)] | rw [decide_eq_false (by omega)]
 first | refine W_pickt rfl rfl rfl ?_ | refine W_pickf rfl rfl rfl ?_
 refine W_assign rfl rfl ?_
 refine W_nil ?_
 refine W_condT rfl rfl ?_
 refine W_sr ?_
 refine W_assign rfl rfl ?_
 refine W_nil ?_
 refine W_ret1m (H2 := H) Tryz.results49 rfl (.nil _) zH ?_
 exact ⟨rfl, rfl⟩
theorem with_out {tb : Nat} {id : Int} {f : Value} (hi : ¬ (0 ≤ id ∧ id < 256)) : Pure Tryz.prog (fun _ => True) 49 [.pointer (some ⟨tb, 0, none⟩), .int .i64 id, f] (.int .i64 2) := by
 by_cases h : id < 0
 ·exact with_lo h
 ·exact with_hi zO
theorem with_in {w0 : World} {H : Heap} {tb i fi : Nat} {ca : List Value} {R : Value → Heap → Prop} (hfi : ∀ (args : Array Value) (w : World), (callFunc fi args).run Tryz.prog w = .ok (.enter fi args) w) (hi : i < 256) (hdo : LCalls Tryz.prog w0 fi (#[] ++ #[.pointer (some ⟨tb, 2 + i * 4, none⟩)] ++ ca.toArray) H R) (hE : ∀ v H2, R v H2 → ∃ e, v = .int .i64 e)  : LCalls Tryz.prog w0 49 #[.pointer (some ⟨tb, 0, none⟩), .int .i64 (i : Int), Value.func (.func fi) #[] ca.toArray] (H) (R) := by
 refine L_enter (l := [.pointer (some ⟨tb, 0, none⟩), .int .i64 (i : Int), Value.func (.func fi) #[] ca.toArray]) Tryz.func49 rfl Tryz.ntmps49 rfl rfl ?_
 refine W_sr ?_
 refine W_assign rfl rfl ?_
 refine W_nil (W_seq ?_)
 refine W_block (W_sr ?_)
 refine W_move rfl rfl ?_
 refine W_x (X_ptrNil rfl rfl ty25) (fun _ h => by cases h) rfl ?_
 refine W_assign rfl rfl ?_
 refine W_nil ?_
 refine W_condF rfl rfl ?_
 refine W_sr ?_
 refine W_move rfl rfl ?_
 refine W_bin rfl rfl b_lss rfl ?_
 first | rw [decide_eq_true (by omega)] | rw [decide_eq_false (by omega)]
 refine W_move rfl rfl ?_
 refine W_gyes rfl rfl ?_
 refine W_move rfl rfl ?_
 refine W_gyes rfl rfl ?_
 refine W_bin rfl rfl b_geq rfl ?_
 first | rw [decide_eq_true (by omega)] | rw [decide_eq_false (by omega)]
 first | refine W_pickt rfl rfl rfl ?_ | refine W_pickf rfl rfl rfl ?_
 refine W_assign rfl rfl ?_
 refine W_nil ?_
 refine W_condF rfl rfl ?_
 refine W_skip ?_
 refine W_blk ?_
 refine W_sr ?_
 refine W_move rfl rfl ?_
 refine W_move rfl rfl ?_
 refine W_move rfl rfl ?_
 refine W_nilCheck rfl rfl ?_
 refine W_fieldAddr rfl fld91_2 zd rfl ?_
 refine W_indexAddrA (j := i) rfl rfl ty89 ty88 (by first | rfl | omega) (by first | decide | omega | simp) rfl rfl ?_
 refine W_callv (fa := #[]) (ca := ca.toArray) rfl (.cons rfl .nil) hfi rfl (hdo) ?_
 rintro v H' hR
 refine W_assign rfl rfl ?_
 refine W_nil ?_
 refine W_ret1m (H2 := H') Tryz.results49 rfl (.nil _) zH ?_
 exact hR
theorem open1_gone {w0 : World} {H : Heap} {tb i b5 : Nat} {pb bb : Nat} {As : List Tone} {o : Tone} (hA : As[i]? = some o) (hm : (tb, .cells 91 1026 (tmRow pb bb As)) ∈ H) (hs : o.shut = true)  : PureAt Tryz.prog w0 H 74 [.pointer (some ⟨tb, 2 + i * 4, none⟩), .pointer (some ⟨b5, 0, none⟩)] (.int .i64 22) := by
 refine L_enter Tryz.func74 rfl Tryz.ntmps74 rfl rfl ?_
 refine W_sr ?_
 refine W_assign rfl rfl ?_
 refine W_nil (W_seq (W_sr ?_))
 refine W_move rfl rfl ?_
 refine W_nilCheck rfl rfl ?_
 refine W_fieldAddr rfl fld88_1 zd rfl ?_
 refine W_load (v := .bool true) rfl ty4 rfl (Cell.own (b := tb) hm (hs ▸ tm_get1 hA)) rfl ?_
 refine W_nil ?_
 refine W_condT rfl rfl ?_
 refine W_sr ?_
 refine W_assign rfl rfl ?_
 refine W_nil ?_
 refine W_ret1m (H2 := H) Tryz.results74 rfl (.nil _) zH ?_
 exact ⟨rfl, rfl⟩
theorem open1_in {w0 : World} {H : Heap} {tb i fi b5 : Nat} {ca : List Value} {R : Value → Heap → Prop} (hfi : ∀ (args : Array Value) (w : World), (callFunc fi args).run Tryz.prog w = .ok (.enter fi args) w) {pb bb : Nat} {As : List Tone} {o : Tone} (hA : As[i]? = some o) (hm : (tb, .cells 91 1026 (tmRow pb bb As)) ∈ H) (hs : o.shut = false) (hdo : LCalls Tryz.prog w0 fi (#[] ++ #[.pointer (some ⟨tb, 2 + i * 4, none⟩)] ++ ca.toArray) H R)  : LCalls Tryz.prog w0 74 #[.pointer (some ⟨tb, 2 + i * 4, none⟩), .pointer (some ⟨b5, 0, none⟩)] ((b5, .cells 94 1 [Value.func (.func fi) #[] ca.toArray]) :: H) (R) := by
 refine L_enter (l := [.pointer (some ⟨tb, 2 + i * 4, none⟩), .pointer (some ⟨b5, 0, none⟩)]) Tryz.func74 rfl Tryz.ntmps74 rfl rfl ?_
 refine W_sr ?_
 refine W_assign rfl rfl ?_
 refine W_nil (W_seq (W_sr ?_))
 refine W_move rfl rfl ?_
 refine W_nilCheck rfl rfl ?_
 refine W_fieldAddr rfl fld88_1 zd rfl ?_
 refine W_load (v := .bool false) rfl ty4 rfl (Cell.own (b := tb) (List.mem_cons_of_mem _ hm) (hs ▸ tm_get1 hA)) rfl ?_
 refine W_nil ?_
 refine W_condF rfl rfl ?_
 refine W_skip (W_sr ?_)
 refine W_load (v := Value.func (.func fi) #[] ca.toArray) rfl ty94 rfl (Cell.own (b := b5) zM rfl) rfl ?_
 refine W_move rfl rfl ?_
 refine W_callv (fa := #[]) (ca := ca.toArray) rfl (.cons rfl .nil) hfi rfl (hdo.hsub zH) ?_
 rintro v H' hR
 refine W_assign rfl rfl ?_
 refine W_nil ?_
 refine W_ret1m (H2 := H') Tryz.results74 rfl (.nil _) zH ?_
 exact hR
theorem open_out {tb : Nat} {id : Int} {fi : Nat} {fa ca : Array Value} (hi : ¬ (0 ≤ id ∧ id < 256)) : Pure Tryz.prog (fun _ => True) 35 [.pointer (some ⟨tb, 0, none⟩), .int .i64 id, .func (.func fi) fa ca] (.int .i64 2) := by
 intro w0 H hT
 refine L_enter Tryz.func35 rfl Tryz.ntmps35 rfl rfl ?_
 refine W_sr ?_
 refine W_box (l := [.func (.func fi) fa ca]) rfl rfl rfl (fun b5 => ?_)
 refine W_assign rfl rfl ?_
 refine W_nil (W_sr ?_)
 refine W_move rfl rfl ?_
 refine W_move rfl rfl ?_
 refine W_makeFunc .nil (.cons rfl .nil) rfl ?_
 refine W_callp (.cons rfl (.cons rfl (.cons rfl .nil))) Tryz.call49 rfl (T := fun _ => True) trivial (with_out hi) ?_
 refine W_assign rfl rfl ?_
 refine W_nil ?_
 refine W_ret1m (H2 := H) Tryz.results35 rfl (.nil _) zH ?_
 exact ⟨rfl, rfl⟩
theorem open_gone {w0 : World} {H : Heap} {tb i fi : Nat} {ca : List Value} (hi : i < 256) {pb bb : Nat} {As : List Tone} {o : Tone} (hA : As[i]? = some o) (hm : (tb, .cells 91 1026 (tmRow pb bb As)) ∈ H) (hs : o.shut = true)  : LCalls Tryz.prog w0 35 #[.pointer (some ⟨tb, 0, none⟩), .int .i64 (i : Int), Value.func (.func fi) #[] ca.toArray] (H) (fun v H' => v = .int .i64 22 ∧ H' = H) := by
 refine L_enter (l := [.pointer (some ⟨tb, 0, none⟩), .int .i64 (i : Int), Value.func (.func fi) #[] ca.toArray]) Tryz.func35 rfl Tryz.ntmps35 rfl rfl ?_
 refine W_sr ?_
 refine W_box (l := [Value.func (.func fi) #[] ca.toArray]) rfl rfl rfl (fun b5 => ?_)
 refine W_assign rfl rfl ?_
 refine W_nil (W_sr ?_)
 refine W_move rfl rfl ?_
 refine W_move rfl rfl ?_
 refine W_makeFunc .nil (.cons rfl .nil) rfl ?_
 refine W_call (.cons rfl (.cons rfl (.cons rfl .nil))) Tryz.call49 rfl (with_in (i := i) (fi := 74) (ca := [.pointer (some ⟨b5, 0, none⟩)]) Tryz.call74 hi (open1_gone hA (List.mem_cons_of_mem _ hm) hs) ?_) ?_
 ·rintro v H' ⟨rfl, rfl⟩
  exact ⟨_, rfl⟩
 rintro v H' ⟨rfl, rfl⟩
 refine W_assign rfl rfl ?_
 refine W_nil ?_
 refine W_ret1m (H2 := H) Tryz.results35 rfl (.nil _) zH ?_
 exact ⟨rfl, rfl⟩
theorem open_in {w0 : World} {H : Heap} {tb i fi : Nat} {ca : List Value} {R : Value → Heap → Prop} (hfi : ∀ (args : Array Value) (w : World), (callFunc fi args).run Tryz.prog w = .ok (.enter fi args) w) (hi : i < 256) {pb bb : Nat} {As : List Tone} {o : Tone} (hA : As[i]? = some o) (hm : (tb, .cells 91 1026 (tmRow pb bb As)) ∈ H) (hs : o.shut = false) (hdo : LCalls Tryz.prog w0 fi (#[] ++ #[.pointer (some ⟨tb, 2 + i * 4, none⟩)] ++ ca.toArray) H R) (hE : ∀ v H2, R v H2 → ∃ e, v = .int .i64 e)  : LCalls Tryz.prog w0 35 #[.pointer (some ⟨tb, 0, none⟩), .int .i64 (i : Int), Value.func (.func fi) #[] ca.toArray] (H) (R) := by
 refine L_enter (l := [.pointer (some ⟨tb, 0, none⟩), .int .i64 (i : Int), Value.func (.func fi) #[] ca.toArray]) Tryz.func35 rfl Tryz.ntmps35 rfl rfl ?_
 refine W_sr ?_
 refine W_box (l := [Value.func (.func fi) #[] ca.toArray]) rfl rfl rfl (fun b5 => ?_)
 refine W_assign rfl rfl ?_
 refine W_nil (W_sr ?_)
 refine W_move rfl rfl ?_
 refine W_move rfl rfl ?_
 refine W_makeFunc .nil (.cons rfl .nil) rfl ?_
 refine W_call (.cons rfl (.cons rfl (.cons rfl .nil))) Tryz.call49 rfl (with_in (i := i) (fi := 74) (ca := [.pointer (some ⟨b5, 0, none⟩)]) Tryz.call74 hi (open1_in hfi hA hm hs hdo) ?_) ?_
 ·exact hE
 rintro v H' hR
 refine W_assign rfl rfl ?_
 refine W_nil ?_
 refine W_ret1m (H2 := H') Tryz.results35 rfl (.nil _) zH ?_
 exact hR
abbrev St := List (Nat × List Tm)
def findS (S : St) (id : Int) : Option Nat := S.findIdx? (fun x => heldB x.2 id)
def findZ (S : St) (id : Int) : Int := match findS S id with | some k => (k : Int) | none => -1
def putS (S : St) (tn : Nat) (cpu id : Int) (a : Nat) : St × Spot × Int :=
 if cpu < 0 ∨ (S.length : Int) ≤ cpu ∨ id < 0 ∨ 255 < id then (S, zSpot, 2)
 else if (findS S id).isSome = true then (S, zSpot, 5)
 else match S[cpu.toNat]? with
  | none => (S, zSpot, 2)
  | some x => if x.1 = 18446744073709551615 then (S, zSpot, 12) else (S.set cpu.toNat (x.1, x.2 ++ [tmOf x.1 a tn id]), (placeT x.1 a).1, 0)
def delOne (S : St) (id : Int) : St := match findS S id with
 | none => S
 | some k => match S[k]? with
  | none => S
  | some x => S.set k (x.1, delT x.2 id)
def CatchS (S : St) (cpu : Int) (a : Nat) (S' : St) (O : List Tm) : Prop :=
 ((cpu < 0 ∨ (S.length : Int) ≤ cpu) ∧ S' = S ∧ O = []) ∨ ∃ (k : Nat) (now : Nat) (L Li : List Tm), cpu = (k : Int) ∧ S[k]? = some (now, L) ∧ Gone now (max now a) L Li O ∧ S' = S.set k (max now a, Li)
structure WOk (x : Nat × List Tm) : Prop where
 len : x.2.length ≤ 256
 now : x.1 ≤ 18446744073709551615
 ids : (x.2.map (·.id)).Nodup
 asc : x.2.Pairwise (fun a b => a.turn < b.turn)
 later : ∀ t ∈ x.2, x.1 < t.s.due
def StOk (S : St) : Prop := ∀ x ∈ S, WOk x
structure Rw where
 now : Nat
 L : List Tm
 ad : Option Addr
 cap : Nat
abbrev rwC (d : Rw) : List Value := [.int .u64 ((d.now : Nat) : Int), .slice d.ad d.L.length d.cap]
abbrev rwRow (Ds : List Rw) : List Value := Ds.flatMap rwC
def Rw.nl (d : Rw) : Nat × List Tm := (d.now, d.L)
theorem rwC_len (d : Rw) : (rwC d).length = 2 := rfl
theorem rwRow_len (Ds : List Rw) : (rwRow Ds).length = Ds.length * 2 := flat_length rwC_len Ds
theorem rwRow_one (Ds : List Rw) : (rwRow Ds).all Value.oneCell' = true := by
 rw [List.all_flatMap, List.all_eq_true]; exact fun t _ => rfl
structure RbIs (w0 : World) (H : Heap) (S : St) (ad : Option Addr) (Ds : List Rw) : Prop where
 row : Holds w0 H ad (rwRow Ds)
 each : ∀ d ∈ Ds, Holds w0 H d.ad (rowT d.L) ∧ d.L.length ≤ d.cap
 st : Ds.map Rw.nl = S
def RbV (w0 : World) (H : Heap) (S : St) (v : Value) : Prop := ∃ ad cap Ds, v = .slice ad S.length cap ∧ RbIs w0 H S ad Ds
theorem RbV.up {w0 : World} {H H' : Heap} {S : St} {v : Value} (h : RbV w0 H S v) (hs : HSub H' H) : RbV w0 H' S v := by
 obtain ⟨ad, cap, Ds, e, h⟩ := h
 exact ⟨ad, cap, Ds, e, h.row.up hs, fun d hd => ⟨(h.each d hd).1.up hs, (h.each d hd).2⟩, h.st⟩
theorem StOk.of {Ds : List Rw} (h : StOk (Ds.map Rw.nl)) {d : Rw} (hd : d ∈ Ds) : WOk (d.now, d.L) := h _ (List.mem_map_of_mem hd)
theorem findS_some {S : St} {id : Int} {k : Nat} {x : Nat × List Tm} (hw : S[k]? = some x) (hh : heldB x.2 id = true) (hf : ∀ (j : Nat) u, j < k → S[j]? = some u → heldB u.2 id = false) : findS S id = some k := by
 unfold findS
 have hk := (List.getElem?_eq_some_iff.1 hw)
 have hk1 := hk.1
 refine List.findIdx?_eq_some_iff_getElem.2 ⟨hk.1, by rw [hk.2]; exact hh, fun j hj => ?_⟩
 rw [hf j _ hj (List.getElem?_eq_getElem (by omega))]; simp
theorem findS_none {S : St} {id : Int} (hf : ∀ (j : Nat) u, j < S.length → S[j]? = some u → heldB u.2 id = false) : findS S id = none := by
 unfold findS
 rw [List.findIdx?_eq_none_iff]
 intro w hw
 obtain ⟨j, hj, e⟩ := List.getElem_of_mem hw
 exact hf j w hj (by rw [List.getElem?_eq_getElem hj, e])
theorem findS_at {S : St} {id : Int} {k : Nat} (h : findS S id = some k) : ∃ x, S[k]? = some x ∧ heldB x.2 id = true := by
 unfold findS at h
 obtain ⟨h1, h2, _⟩ := List.findIdx?_eq_some_iff_getElem.1 h
 exact ⟨_, List.getElem?_eq_getElem h1, h2⟩
theorem findS_no {S : St} {id : Int} (h : findS S id = none) {x : Nat × List Tm} (hx : x ∈ S) : id ∉ x.2.map (·.id) := fun hin => by
 unfold findS at h
 rw [List.findIdx?_eq_none_iff] at h
 have := h x hx
 rw [heldB_iff.2 hin] at this; cases this
theorem findZ_ways (S : St) (id : Int) : (∃ k, findS S id = some k ∧ findZ S id = (k : Int)) ∨ (findS S id = none ∧ findZ S id = -1) := by
 unfold findZ
 cases findS S id with
 | some k => exact .inl ⟨k, rfl, rfl⟩
 | none => exact .inr ⟨rfl, rfl⟩
theorem repl_snoc {α : Type} (x : α) (i : Nat) : List.replicate (i + 1) x = List.replicate i x ++ [x] := List.replicate_succ'
theorem rbNew_L {w0 : World} {H : Heap} {n now : Nat} (hn : n ≤ 64)  : LCalls Tryz.prog w0 56 #[.int .i64 (n : Int), .int .u64 ((now : Nat) : Int)] (H) (fun v H' => ∃ X, RbV w0 X (List.replicate n (now, [])) v ∧ H' = X ++ H) := by
 refine L_enter (l := [.int .i64 (n : Int), .int .u64 ((now : Nat) : Int)]) Tryz.func56 rfl Tryz.ntmps56 rfl rfl ?_
 refine W_sr ?_
 refine W_assign rfl rfl ?_
 refine W_nil (W_sr ?_)
 refine W_assign rfl rfl ?_
 refine W_nil (W_seq (W_sr ?_))
 refine W_assign rfl rfl ?_
 refine W_nil (W_block ?_)
 refine W_loopC (X := (Nat × Value × Heap)) [(0, _), (1, _)] (fun (x : (Nat × Value × Heap)) => [(5, x.2.1), (6, .int .i64 (x.1 : Int))]) (fun _ => _) (fun (x : (Nat × Value × Heap)) => x.2.2 ++ H) (fun (x : (Nat × Value × Heap)) => x.1 ≤ n ∧ OwnS 76 2 x.2.1 x.1 (rwRow (List.replicate x.1 (⟨now, [], none, 0⟩ : Rw))) x.2.2) (fun (x : (Nat × Value × Heap)) => n - x.1) (0, .slice none 0 0, []) ⟨Nat.zero_le _, .nil⟩ (sub_cons rfl (sub_cons rfl (sub_nil _))) (sub_cons rfl (sub_cons rfl (sub_nil _))) rfl (.refl _) ?_
 rintro ⟨i, v, X⟩ ⟨hi, hO⟩
 dsimp only at hi hO ⊢
 simp only [List.cons_append, List.nil_append]
 refine W_seq (W_sr ?_)
 refine W_move rfl rfl ?_
 refine W_move rfl rfl ?_
 refine W_bin rfl rfl b_lss rfl ?_
 refine W_nil ?_
 refine W_condPS (p := (i : Int) < (n : Int)) rfl (by simp) (fun q0 => ?_) (fun q0 => ?_)
 ·skip
  refine W_skip (W_seq (W_block ?_))
  refine W_region ?_
  refine W_move rfl rfl ?_
  refine W_move rfl rfl ?_
  refine W_build (l := rwC (⟨now, [], none, 0⟩ : Rw)) ty76 pl76 (.cons rfl rfl rfl rfl rfl .nil) rfl rfl rfl ?_
  refine W_buildSlice (l := rwC (⟨now, [], none, 0⟩ : Rw)) ty57 ty76 (.cons rfl rfl rfl rfl rfl .nil) rfl rfl rfl rfl rfl rfl rfl (fun b15 => ?_)
  refine W_append (news := rwC (⟨now, [], none, 0⟩ : Rw)) (m := 1) (HB := X) (H0 := (b15, .cells 76 2 (rwC (⟨now, [], none, 0⟩ : Rw))) :: H) rfl rfl ty57 ty76 rfl (by decide) hO rfl (Holds.own zM) rfl (by simp only [maxLen]; omega) (by omega) zH rfl (fun v' X' hO' => ?_)
  refine W_assign rfl rfl ?_
  refine W_nil ?_
  refine W_blk ?_
  refine W_region ?_
  refine W_move rfl rfl ?_
  refine W_bin rfl rfl (b_add (m := ((i + 1 : Nat) : Int)) ((i64w zO).trans zO)) rfl ?_
  refine W_assign rfl rfl ?_
  refine W_nil ?_
  refine W_again (i + 1, v', X') ⟨by show i + 1 ≤ n; omega, by show OwnS _ _ _ _ (List.flatMap rwC (List.replicate (i + 1) (⟨now, [], none, 0⟩ : Rw))) _; rw [repl_snoc, List.flatMap_append]; exact hO'⟩ (by show n - (i + 1) < n - i; omega) (sub_cons rfl (sub_cons rfl (sub_cons rfl (sub_cons rfl (sub_nil _))))) rfl zH
 ·skip
  refine W_exit rfl ?_
  refine W_sr ?_
  refine W_move rfl rfl ?_
  refine W_assign rfl rfl ?_
  refine W_nil ?_
  refine W_ret1m (H2 := X ++ H) Tryz.results56 rfl (.nil _) zH ?_
  obtain rfl : i = n := by omega
  obtain ⟨ad, cap, rfl, _, _, hh⟩ := Holds.of_own (w0 := w0) (H := X) hO (fun p hp => hp)
  exact ⟨X, ⟨ad, cap, List.replicate i (⟨now, [], none, 0⟩ : Rw), by rw [List.length_replicate], hh, fun d hd => by obtain rfl := List.eq_of_mem_replicate hd; exact ⟨Holds.nil, Nat.zero_le _⟩, by rw [List.map_replicate]; rfl⟩, rfl⟩
theorem rbFind_q {w0 : World} {H : Heap} {S : St} {v : Value} {id : Int} (hS : StOk S) (hv : RbV w0 H S v) (h64 : S.length ≤ 64)  : PureAt Tryz.prog w0 H 30 [v, .int .i64 id] (.int .i64 (findZ S id)) := by
 obtain ⟨ad, cap, Ds, rfl, hb⟩ := hv
 obtain ⟨hrow, heach, rfl⟩ := hb
 have hlen : (Ds.map Rw.nl).length = Ds.length := List.length_map _
 rw [hlen]
 rw [hlen] at h64
 refine L_enter Tryz.func30 rfl Tryz.ntmps30 rfl rfl ?_
 refine W_sr ?_
 refine W_assign rfl rfl ?_
 refine W_nil (W_seq (W_sr ?_))
 refine W_assign rfl rfl ?_
 refine W_nil (W_block ?_)
 refine W_loopC (X := Nat) [(0, _), (1, _)] (fun (i : Nat) => [(5, .int .i64 (i : Int))]) (fun _ => _) (fun (i : Nat) => H) (fun (i : Nat) => i ≤ Ds.length ∧ ∀ (j : Nat) u, j < i → Ds[j]? = some u → heldB u.L id = false) (fun (i : Nat) => Ds.length - i) 0 ⟨Nat.zero_le _, fun j u hj => absurd hj (Nat.not_lt_zero _)⟩ (sub_cons rfl (sub_cons rfl (sub_nil _))) (sub_cons rfl (sub_nil _)) rfl (.refl _) ?_
 rintro i ⟨hi, hn⟩
 simp only [List.cons_append, List.nil_append]
 refine W_seq (W_sr ?_)
 refine W_move rfl rfl ?_
 refine W_move rfl rfl ?_
 refine W_len rfl ty57 rfl rfl ?_
 refine W_bin rfl rfl b_lss rfl ?_
 refine W_nil ?_
 refine W_condPS (p := (i : Int) < (Ds.length : Int)) rfl (by simp) (fun q0 => ?_) (fun q0 => ?_)
 ·skip
  refine W_skip (W_seq ?_)
  refine W_block (W_sr ?_)
  obtain ⟨d, hd⟩ : ∃ d, Ds[i]? = some d := ⟨_, List.getElem?_eq_getElem zO⟩
  have hdm := List.mem_of_getElem? hd
  obtain ⟨q0, p0, rfl, hc⟩ := Holds.row rwC_len zd hrow hd
  refine W_move rfl rfl ?_
  refine W_move rfl rfl ?_
  refine W_indexAddr (j := i) rfl rfl ty57 ty76 rfl zO rfl rfl ?_
  refine W_loadA (vs := [.int .u64 ((d.now : Nat) : Int), .slice d.ad d.L.length d.cap]) rfl ty76 rfl rfl (hc.up zH) rfl ?_
  refine W_move rfl rfl ?_
  have hw := hS.of hdm
  have hwl := hw.len
  dsimp only at hwl
  refine W_call (.cons rfl (.cons rfl .nil)) Tryz.call32 rfl ((rFind_L (now := d.now) (cap := d.cap) (L := d.L) (ad := d.ad) (id := id) zO ((heach d hdm).1.up zH)).hsub (.refl _)) ?_
  rintro v H' ⟨z, rfl, hz, eH⟩
  obtain rfl := eH.symm
  refine W_bin rfl rfl b_geq rfl ?_
  refine W_nil ?_
  refine W_condPS (p := 0 ≤ z) rfl (by simp) (fun q1 => ?_) (fun q1 => ?_)
  ·skip
   refine W_sr ?_
   refine W_move rfl rfl ?_
   refine W_assign rfl rfl ?_
   refine W_nil ?_
   refine W_ret1m (H2 := H) Tryz.results30 rfl (.nil _) zH ?_
   have hh := heldB_iff.2 (hz.held.1 q1)
   refine ⟨?_, rfl⟩
   unfold findZ
   rw [findS_some (S := Ds.map Rw.nl) (k := i) (x := d.nl) (by rw [List.getElem?_map, hd]; rfl) hh (fun j u hj hu => ?_)]
   rw [List.getElem?_map] at hu
   obtain ⟨u2, hu2, rfl⟩ := Option.map_eq_some_iff.1 hu
   exact hn j u2 hj hu2
  ·skip
   refine W_skip ?_
   refine W_blk ?_
   refine W_region ?_
   refine W_move rfl rfl ?_
   refine W_bin rfl rfl (b_add (m := ((i + 1 : Nat) : Int)) ((i64w zO).trans zO)) rfl ?_
   refine W_assign rfl rfl ?_
   refine W_nil ?_
   refine W_again (i + 1) ⟨by omega, fun j u hj hu => by
     by_cases e : j = i
     ·subst e
      obtain rfl := Option.some.inj (hu.symm.trans hd)
      cases hb : heldB u.L id with
      | false => rfl
      | true => exact absurd (hz.held.2 (heldB_iff.1 hb)) q1
     ·exact hn j u zO hu⟩ zO (sub_cons rfl (sub_cons rfl (sub_cons rfl (sub_nil _)))) rfl (.refl _)
 ·skip
  refine W_exit rfl ?_
  refine W_sr ?_
  refine W_assign rfl rfl ?_
  refine W_nil ?_
  refine W_ret1m (H2 := H) Tryz.results30 rfl (.nil _) zH ?_
  refine ⟨?_, rfl⟩
  unfold findZ
  rw [findS_none (S := Ds.map Rw.nl) (fun j u hj hu => ?_)]
  rw [List.getElem?_map] at hu
  obtain ⟨u2, hu2, rfl⟩ := Option.map_eq_some_iff.1 hu
  rw [hlen] at hj
  exact hn j u2 zO hu2
theorem rbSet_L {w0 : World} {H : Heap} {HR : Heap} {S : St} {v : Value} {k : Nat} {d : Rw} (hv : RbV w0 HR S v) (hHR : HSub H HR) (h64 : S.length ≤ 64) (hk : k < S.length) (hd1 : Holds w0 HR d.ad (rowT d.L)) (hd2 : d.L.length ≤ d.cap)  : LCalls Tryz.prog w0 115 #[v, .int .i64 (k : Int), .agg (List.toArray [.int .u64 ((d.now : Nat) : Int), .slice d.ad d.L.length d.cap])] (H) (fun v' H' => ∃ X, RbV w0 (X ++ HR) (S.set k d.nl) v' ∧ H' = X ++ H) := by
 obtain ⟨ad, cap, Ds, rfl, hb⟩ := hv
 obtain ⟨hrow, heach, rfl⟩ := hb
 have hlen : (Ds.map Rw.nl).length = Ds.length := List.length_map _
 rw [hlen]
 rw [hlen] at h64 hk
 have hrowH := hrow.up hHR
 refine L_enter (l := [.slice ad Ds.length cap, .int .i64 (k : Int), .agg (List.toArray [.int .u64 ((d.now : Nat) : Int), .slice d.ad d.L.length d.cap])]) Tryz.func115 rfl Tryz.ntmps115 rfl rfl ?_
 refine W_sr ?_
 refine W_box (l := [.int .u64 ((d.now : Nat) : Int), .slice d.ad d.L.length d.cap]) rfl rfl rfl (fun b5 => ?_)
 refine W_assign rfl rfl ?_
 refine W_nil (W_sr ?_)
 refine W_buildSlice (l := []) ty57 ty76 .nil rfl rfl rfl rfl rfl rfl rfl (fun b8 => ?_)
 refine W_move rfl rfl ?_
 refine W_append (news := rwRow Ds) (m := Ds.length) (HB := [(b8, .cells 76 0 [])]) (H0 := (b5, .cells 76 2 [.int .u64 ((d.now : Nat) : Int), .slice d.ad d.L.length d.cap]) :: H) rfl rfl ty57 ty76 rfl (by decide) (OwnS.own (n := 0) (cap := 0) (xs := []) rfl (Nat.le_refl _) (Nat.zero_le _)) (rwRow_len Ds) (hrowH.up zH) (rwRow_one Ds) (by simp only [maxLen]; omega) (by omega) zH rfl (fun v1 X1 hO1 => ?_)
 rw [Nat.zero_add] at hO1
 obtain ⟨b1, cap1, rfl, rfl, hcap1⟩ := hO1.pos zO
 simp only [List.nil_append, List.cons_append] at hO1 ⊢
 refine W_assign rfl rfl ?_
 refine W_nil (W_sr ?_)
 refine W_move rfl rfl ?_
 refine W_move rfl rfl ?_
 refine W_loadB (vs := [.int .u64 ((d.now : Nat) : Int), .slice d.ad d.L.length d.cap]) rfl ty76 rfl (b := b5) zM rfl rfl rfl ?_
 refine W_indexAddr (j := k) rfl rfl ty57 ty76 rfl zO rfl rfl ?_
 refine W_storeA (l' := rwRow (Ds.set k d)) rfl rfl ty76 rfl rfl (b := b1) zM (by show 0 + k * 2 + 2 ≤ (rwRow Ds).length; rw [rwRow_len]; omega) (by rw [Nat.zero_add]; exact flat_set rwC_len d hk) zU ?_
 refine W_nil (W_sr ?_)
 refine W_move rfl rfl ?_
 refine W_assign rfl rfl ?_
 refine W_nil ?_
 refine W_ret1m (H2 := (b1, .cells 76 (cap1 * 2) (rwRow (Ds.set k d))) :: H) Tryz.results115 rfl (.nil _) zH ?_
 refine ⟨[_], ⟨some ⟨b1, 0, none⟩, cap1, Ds.set k d, by rw [List.length_set, List.length_map], Holds.own List.mem_cons_self, fun u hu => ?_, by rw [List.map_set]⟩, rfl⟩
 rcases List.mem_or_eq_of_mem_set hu with h | rfl
 ·exact ⟨(heach u h).1.up (.drop (.refl _)), (heach u h).2⟩
 ·exact ⟨hd1.up (.drop (.refl _)), hd2⟩
theorem rPut_late' {w0 : World} {H : Heap} {now cap : Nat} {L : List Tm} {ad : Option Addr} (hm : now = 18446744073709551615) (hl : L.length ≤ 1000000) (hrow : Holds w0 H ad (rowT L)) {id : Int} {a : Nat} (hid : 0 ≤ id ∧ id < 256) (ha : a ≤ 18446744073709551615) (hin : id ∉ L.map (·.id)) : PureAt Tryz.prog w0 H 114 [.agg (List.toArray [.int .u64 ((now : Nat) : Int), .slice ad L.length cap]), .int .i64 id, .int .u64 ((a : Nat) : Int)] (.tuple #[.agg (List.toArray [.int .u64 ((now : Nat) : Int), .slice ad L.length cap]), .agg zSpot.v.toArray, .int .i64 12]) := by
 subst hm
 exact rPut_late hl hrow hid ha hin
theorem placeT_ok {now a : Nat} (h : now ≠ 18446744073709551615) : placeT now a = ((placeT now a).1, 0) := by
 unfold placeT; rw [if_neg h]
theorem rbPut_no {w0 : World} {H : Heap} {HR : Heap} {S : St} {v : Value} (hS : StOk S) (hv : RbV w0 HR S v) (hHR : HSub H HR) (h64 : S.length ≤ 64) {tn a : Nat} {cpu id : Int} (ha : a ≤ 18446744073709551615) (hno : cpu < 0 ∨ (S.length : Int) ≤ cpu ∨ id < 0 ∨ 255 < id)  : LCalls Tryz.prog w0 95 #[v, .int .i64 cpu, .int .i64 id, .int .u64 ((a : Nat) : Int)] (H) (fun v' H' => ∃ v1 X, v' = .tuple #[v1, .agg (putS S tn cpu id a).2.1.v.toArray, .int .i64 (putS S tn cpu id a).2.2] ∧ RbV w0 (X ++ HR) (putS S tn cpu id a).1 v1 ∧ H' = X ++ H) := by
 have hv0 := hv
 obtain ⟨ad, cap, Ds, rfl, hb⟩ := hv
 obtain ⟨hrow, heach, rfl⟩ := hb
 have hlen : (Ds.map Rw.nl).length = Ds.length := List.length_map _
 rw [hlen]
 rw [hlen] at hv0 h64
 have hrowH := hrow.up hHR
 rw [hlen] at hno
 refine L_enter (l := [.slice ad Ds.length cap, .int .i64 cpu, .int .i64 id, .int .u64 ((a : Nat) : Int)]) Tryz.func95 rfl Tryz.ntmps95 rfl rfl ?_
 refine W_sr ?_
 refine W_assign rfl rfl ?_
 refine W_alloc (l := zSpot.v) ty70 rfl rfl (fun b9 => ?_)
 refine W_assign rfl rfl ?_
 refine W_nil (W_seq (W_sr ?_))
 refine W_move rfl rfl ?_
 refine W_bin rfl rfl b_lss rfl ?_
 refine W_move rfl rfl ?_
 apply W_or
 iterate 4 exact rfl
 case h1 =>
  intro hg2
  refine W_gyes rfl rfl ?_
  refine W_move rfl rfl ?_
  refine W_gyes rfl rfl ?_
  refine W_move rfl rfl ?_
  refine W_gyes rfl rfl ?_
  refine W_len rfl ty57 rfl rfl ?_
  refine W_gyes rfl rfl ?_
  refine W_bin rfl rfl b_geq rfl ?_
  exact W_met rfl zR
 refine W_move rfl rfl ?_
 apply W_or
 iterate 4 exact rfl
 case h1 =>
  intro hg8
  refine W_gyes rfl rfl ?_
  refine W_move rfl rfl ?_
  refine W_gyes rfl rfl ?_
  refine W_bin rfl rfl b_lss rfl ?_
  exact W_met rfl zR
 refine W_move rfl rfl ?_
 apply W_or
 iterate 4 exact rfl
 case h1 =>
  intro hg12
  refine W_gyes rfl rfl ?_
  refine W_move rfl rfl ?_
  refine W_gyes rfl rfl ?_
  refine W_bin rfl rfl b_gtr rfl ?_
  exact W_met rfl zR
 refine W_nil ?_
 refine W_condT rfl (by simp; omega) ?_
 refine W_sr ?_
 refine W_move rfl rfl ?_
 refine W_build ty70 pl70 .nil rfl zF rfl ?_
 refine W_assign rfl rfl ?_
 refine W_storeA (l' := zSpot.v) rfl rfl ty70 rfl rfl (b := b9) zM (by exact Nat.le_refl 4) rfl zU ?_
 refine W_assign rfl rfl ?_
 refine W_nil ?_
 refine W_ret3G (H2 := H) Tryz.results95 (.nil _) (.tmp rfl) (.own rfl ty70 rfl zM rfl) (.tmp rfl) zH ?_
 have hp : putS (Ds.map Rw.nl) tn cpu id a = (Ds.map Rw.nl, zSpot, 2) := if_pos (by rw [hlen]; exact hno)
 rw [hp]
 exact ⟨_, [], rfl, hv0, rfl⟩
theorem rbPut_twice {w0 : World} {H : Heap} {HR : Heap} {S : St} {v : Value} (hS : StOk S) (hv : RbV w0 HR S v) (hHR : HSub H HR) (h64 : S.length ≤ 64) {tn a : Nat} {cpu id : Int} (ha : a ≤ 18446744073709551615) (hc : 0 ≤ cpu ∧ cpu < (S.length : Int)) (hid : 0 ≤ id ∧ id < 256) {k : Nat} (hf : findS S id = some k)  : LCalls Tryz.prog w0 95 #[v, .int .i64 cpu, .int .i64 id, .int .u64 ((a : Nat) : Int)] (H) (fun v' H' => ∃ v1 X, v' = .tuple #[v1, .agg (putS S tn cpu id a).2.1.v.toArray, .int .i64 (putS S tn cpu id a).2.2] ∧ RbV w0 (X ++ HR) (putS S tn cpu id a).1 v1 ∧ H' = X ++ H) := by
 have hv0 := hv
 obtain ⟨ad, cap, Ds, rfl, hb⟩ := hv
 obtain ⟨hrow, heach, rfl⟩ := hb
 have hlen : (Ds.map Rw.nl).length = Ds.length := List.length_map _
 rw [hlen]
 rw [hlen] at hv0 h64
 have hrowH := hrow.up hHR
 rw [hlen] at hc
 refine L_enter (l := [.slice ad Ds.length cap, .int .i64 cpu, .int .i64 id, .int .u64 ((a : Nat) : Int)]) Tryz.func95 rfl Tryz.ntmps95 rfl rfl ?_
 refine W_sr ?_
 refine W_assign rfl rfl ?_
 refine W_alloc (l := zSpot.v) ty70 rfl rfl (fun b9 => ?_)
 refine W_assign rfl rfl ?_
 refine W_nil (W_seq (W_sr ?_))
 refine W_move rfl rfl ?_
 refine W_bin rfl rfl b_lss rfl ?_
 refine W_move rfl rfl ?_
 apply W_or
 iterate 4 exact rfl
 case h1 =>
  intro hg2
  refine W_gyes rfl rfl ?_
  refine W_move rfl rfl ?_
  refine W_gyes rfl rfl ?_
  refine W_move rfl rfl ?_
  refine W_gyes rfl rfl ?_
  refine W_len rfl ty57 rfl rfl ?_
  refine W_gyes rfl rfl ?_
  refine W_bin rfl rfl b_geq rfl ?_
  exact W_met rfl zR
 refine W_move rfl rfl ?_
 apply W_or
 iterate 4 exact rfl
 case h1 =>
  intro hg8
  refine W_gyes rfl rfl ?_
  refine W_move rfl rfl ?_
  refine W_gyes rfl rfl ?_
  refine W_bin rfl rfl b_lss rfl ?_
  exact W_met rfl zR
 refine W_move rfl rfl ?_
 apply W_or
 iterate 4 exact rfl
 case h1 =>
  intro hg12
  refine W_gyes rfl rfl ?_
  refine W_move rfl rfl ?_
  refine W_gyes rfl rfl ?_
  refine W_bin rfl rfl b_gtr rfl ?_
  exact W_met rfl zR
 refine W_nil ?_
 refine W_condF rfl (by simp; omega) ?_
 refine W_skip (W_seq (W_sr ?_))
 refine W_move rfl rfl ?_
 refine W_move rfl rfl ?_
 refine W_callq (.cons rfl (.cons rfl .nil)) Tryz.call30 rfl (rbFind_q (id := id) hS (hv0.up ((show HSub _ H from zH).trans hHR)) (by rw [hlen]; omega)) ?_
 rw [show findZ (Ds.map Rw.nl) id = (k : Int) from by unfold findZ; rw [hf]]
 refine W_bin rfl rfl b_geq rfl ?_
 refine W_nil ?_
 refine W_condT rfl (decide_eq_true zO) ?_
 refine W_sr ?_
 refine W_move rfl rfl ?_
 refine W_build ty70 pl70 .nil rfl zF rfl ?_
 refine W_assign rfl rfl ?_
 refine W_storeA (l' := zSpot.v) rfl rfl ty70 rfl rfl (b := b9) zM (by exact Nat.le_refl 4) rfl zU ?_
 refine W_assign rfl rfl ?_
 refine W_nil ?_
 refine W_ret3G (H2 := H) Tryz.results95 (.nil _) (.tmp rfl) (.own rfl ty70 rfl zM rfl) (.tmp rfl) zH ?_
 have hp0 : ¬ (cpu < 0 ∨ ((Ds.map Rw.nl).length : Int) ≤ cpu ∨ id < 0 ∨ 255 < id) := by rw [hlen]; omega
 have hp : putS (Ds.map Rw.nl) tn cpu id a = (Ds.map Rw.nl, zSpot, 5) := by
  unfold putS; rw [if_neg hp0, if_pos (by rw [hf]; rfl)]
 rw [hp]
 exact ⟨_, [], rfl, hv0, rfl⟩
theorem rbPut_late {w0 : World} {H : Heap} {HR : Heap} {S : St} {v : Value} (hS : StOk S) (hv : RbV w0 HR S v) (hHR : HSub H HR) (h64 : S.length ≤ 64) {tn a : Nat} {cpu id : Int} (ha : a ≤ 18446744073709551615) (hc : 0 ≤ cpu ∧ cpu < (S.length : Int)) (hid : 0 ≤ id ∧ id < 256) (hf : findS S id = none) (hm : ∀ x, S[cpu.toNat]? = some x → x.1 = 18446744073709551615)  : LCalls Tryz.prog w0 95 #[v, .int .i64 cpu, .int .i64 id, .int .u64 ((a : Nat) : Int)] (H) (fun v' H' => ∃ v1 X, v' = .tuple #[v1, .agg (putS S tn cpu id a).2.1.v.toArray, .int .i64 (putS S tn cpu id a).2.2] ∧ RbV w0 (X ++ HR) (putS S tn cpu id a).1 v1 ∧ H' = X ++ H) := by
 have hv0 := hv
 obtain ⟨ad, cap, Ds, rfl, hb⟩ := hv
 obtain ⟨hrow, heach, rfl⟩ := hb
 have hlen : (Ds.map Rw.nl).length = Ds.length := List.length_map _
 rw [hlen]
 rw [hlen] at hv0 h64
 have hrowH := hrow.up hHR
 rw [hlen] at hc
 obtain ⟨k, rfl⟩ : ∃ k : Nat, cpu = (k : Int) := ⟨cpu.toNat, by omega⟩
 have hk2 : (k : Int).toNat = k := by omega
 refine L_enter (l := [.slice ad Ds.length cap, .int .i64 (k : Int), .int .i64 id, .int .u64 ((a : Nat) : Int)]) Tryz.func95 rfl Tryz.ntmps95 rfl rfl ?_
 refine W_sr ?_
 refine W_assign rfl rfl ?_
 refine W_alloc (l := zSpot.v) ty70 rfl rfl (fun b9 => ?_)
 refine W_assign rfl rfl ?_
 refine W_nil (W_seq (W_sr ?_))
 refine W_move rfl rfl ?_
 refine W_bin rfl rfl b_lss rfl ?_
 refine W_move rfl rfl ?_
 apply W_or
 iterate 4 exact rfl
 case h1 =>
  intro hg2
  refine W_gyes rfl rfl ?_
  refine W_move rfl rfl ?_
  refine W_gyes rfl rfl ?_
  refine W_move rfl rfl ?_
  refine W_gyes rfl rfl ?_
  refine W_len rfl ty57 rfl rfl ?_
  refine W_gyes rfl rfl ?_
  refine W_bin rfl rfl b_geq rfl ?_
  exact W_met rfl zR
 refine W_move rfl rfl ?_
 apply W_or
 iterate 4 exact rfl
 case h1 =>
  intro hg8
  refine W_gyes rfl rfl ?_
  refine W_move rfl rfl ?_
  refine W_gyes rfl rfl ?_
  refine W_bin rfl rfl b_lss rfl ?_
  exact W_met rfl zR
 refine W_move rfl rfl ?_
 apply W_or
 iterate 4 exact rfl
 case h1 =>
  intro hg12
  refine W_gyes rfl rfl ?_
  refine W_move rfl rfl ?_
  refine W_gyes rfl rfl ?_
  refine W_bin rfl rfl b_gtr rfl ?_
  exact W_met rfl zR
 refine W_nil ?_
 refine W_condF rfl (by simp; omega) ?_
 refine W_skip (W_seq (W_sr ?_))
 refine W_move rfl rfl ?_
 refine W_move rfl rfl ?_
 refine W_callq (.cons rfl (.cons rfl .nil)) Tryz.call30 rfl (rbFind_q (id := id) hS (hv0.up ((show HSub _ H from zH).trans hHR)) (by rw [hlen]; omega)) ?_
 rw [show findZ (Ds.map Rw.nl) id = -1 from by unfold findZ; rw [hf]]
 refine W_bin rfl rfl b_geq rfl ?_
 refine W_nil ?_
 refine W_condF rfl rfl ?_
 refine W_skip (W_sr ?_)
 obtain ⟨d, hd⟩ : ∃ d, Ds[k]? = some d := ⟨_, List.getElem?_eq_getElem zO⟩
 have hdm := List.mem_of_getElem? hd
 obtain ⟨q0, p0, rfl, hcx⟩ := Holds.row rwC_len zd hrowH hd
 have hw := hS.of hdm
 have hwl := hw.len
 have hwn := hw.now
 dsimp only at hwl hwn
 have hni : id ∉ d.L.map (·.id) := findS_no hf (x := (d.now, d.L)) (List.mem_map_of_mem (f := Rw.nl) hdm)
 refine W_move rfl rfl ?_
 refine W_move rfl rfl ?_
 refine W_indexAddr (j := k) rfl rfl ty57 ty76 rfl zO rfl rfl ?_
 refine W_loadA (vs := [.int .u64 ((d.now : Nat) : Int), .slice d.ad d.L.length d.cap]) rfl ty76 rfl rfl (hcx.up zH) rfl ?_
 refine W_move rfl rfl ?_
 refine W_move rfl rfl ?_
 have hm := hm _ (by rw [hk2, List.getElem?_map, hd]; rfl)
 refine W_callq (.cons rfl (.cons rfl (.cons rfl .nil))) Tryz.call114 rfl (rPut_late' (now := d.now) (cap := d.cap) hm zO ((heach d hdm).1.up ((show HSub _ (H) from zH).trans hHR)) hid ha hni) ?_
 refine W_move rfl rfl ?_
 refine W_extract rfl rfl rfl ?_
 refine W_extract rfl rfl rfl ?_
 refine W_extract rfl rfl rfl ?_
 refine W_alloc (l := [.int .u64 0, .slice none 0 0]) ty76 rfl rfl (fun b11 => ?_)
 refine W_alloc (l := zSpot.v) ty70 rfl rfl (fun b12 => ?_)
 refine W_storeA (l' := [.int .u64 ((d.now : Nat) : Int), .slice d.ad d.L.length d.cap]) rfl rfl ty76 rfl rfl (b := b11) zM (by exact Nat.le_refl 2) rfl zU ?_
 refine W_storeA (l' := (zSpot).v) rfl rfl ty70 rfl rfl (b := b12) zM (by exact Nat.le_refl 4) rfl zU ?_
 refine W_assign rfl rfl ?_
 refine W_nil (W_seq ?_)
 refine W_anyC [(b11, .cells 76 2 [.int .u64 ((d.now : Nat) : Int), .slice d.ad d.L.length d.cap]), (b12, .cells 70 4 (zSpot).v)] zk ?_
 refine WC_take 0 (l' := #[true, false, false, false, false, false, false, false, false]) rfl zK zK zK rfl zK (X_move rfl) rfl ?_
 refine WC_take 1 (l' := #[true, true, false, false, false, false, false, false, false]) rfl zK zK zK rfl zK (X_move rfl) rfl ?_
 refine WC_take 2 (l' := #[true, true, true, false, false, false, false, false, false]) rfl zK zK zK rfl zK (X_loadB (vs := [.int .u64 ((d.now : Nat) : Int), .slice d.ad d.L.length d.cap]) rfl ty76 rfl (b := b11) zM rfl rfl) rfl ?_
 refine WC_take 4 (l' := #[true, true, true, false, true, false, false, false, false]) rfl zK zK zK rfl zK (X_loadB (vs := (zSpot).v) rfl ty70 rfl (b := b12) zM rfl rfl) rfl ?_
 refine WC_take 5 (l' := #[true, true, true, false, true, true, false, false, false]) rfl zK zK zK rfl zK (X_move rfl) rfl ?_
 refine WC_one 3 (l' := #[true, true, true, true, true, true, false, false, false]) zH zK rfl zK ?_
 refine W_call (.cons rfl (.cons rfl (.cons rfl .nil))) Tryz.call115 rfl (rbSet_L (HR := HR) (d := d) (k := k) (hv0.up (.refl _)) ((show HSub _ (H) from zH).trans hHR) (by rw [hlen]; omega) (by rw [hlen]; omega) (heach d hdm).1 (heach d hdm).2) ?_
 rintro v H' ⟨X2, hX2, rfl⟩
 refine W_nil ?_
 refine WC_goal ?_
 refine WC_take 6 (l' := #[true, true, true, true, true, true, true, false, false]) rfl zK zK zK rfl zK (X_assign rfl) rfl ?_
 refine WC_one 7 (l' := #[true, true, true, true, true, true, true, true, false]) zH zK rfl zK ?_
 refine W_storeA (l' := (zSpot).v) rfl rfl ty70 rfl rfl (b := b9) zM (by exact Nat.le_refl 4) rfl zU ?_
 refine W_nil ?_
 refine WC_goal ?_
 refine WC_take 8 (l' := #[true, true, true, true, true, true, true, true, true]) rfl zK zK zK rfl zK (X_assign rfl) rfl ?_
 refine WC_done zH zK ?_
 refine W_ret3G (H2 := X2 ++ H) Tryz.results95 (.nil _) (.tmp rfl) (.own rfl ty70 rfl zM rfl) (.tmp rfl) zH ?_
 have hp0 : ¬ ((k : Int) < 0 ∨ ((Ds.map Rw.nl).length : Int) ≤ (k : Int) ∨ id < 0 ∨ 255 < id) := by rw [hlen]; omega
 have hx : (Ds.map Rw.nl)[(k : Int).toNat]? = some (d.now, d.L) := by rw [hk2, List.getElem?_map, hd]; rfl
 have hp : putS (Ds.map Rw.nl) tn (k : Int) id a = (Ds.map Rw.nl, zSpot, 12) := by
  unfold putS; rw [if_neg hp0, if_neg (by rw [hf]; decide), hx]
  exact if_pos hm
 rw [hp]
 rw [set_same (by rw [List.getElem?_map, hd]; rfl)] at hX2
 exact ⟨_, X2, rfl, hX2, rfl⟩
theorem rbPut_ok {w0 : World} {H : Heap} {HR : Heap} {S : St} {v : Value} (hS : StOk S) (hv : RbV w0 HR S v) (hHR : HSub H HR) (h64 : S.length ≤ 64) {tn a : Nat} {cpu id : Int} (ha : a ≤ 18446744073709551615) (hc : 0 ≤ cpu ∧ cpu < (S.length : Int)) (hid : 0 ≤ id ∧ id < 256) (hf : findS S id = none) (hm : ∀ x, S[cpu.toNat]? = some x → x.1 ≠ 18446744073709551615)  : LCalls Tryz.prog w0 95 #[v, .int .i64 cpu, .int .i64 id, .int .u64 ((a : Nat) : Int)] (H) (fun v' H' => ∃ v1 X, v' = .tuple #[v1, .agg (putS S tn cpu id a).2.1.v.toArray, .int .i64 (putS S tn cpu id a).2.2] ∧ RbV w0 (X ++ HR) (putS S tn cpu id a).1 v1 ∧ H' = X ++ H) := by
 have hv0 := hv
 obtain ⟨ad, cap, Ds, rfl, hb⟩ := hv
 obtain ⟨hrow, heach, rfl⟩ := hb
 have hlen : (Ds.map Rw.nl).length = Ds.length := List.length_map _
 rw [hlen]
 rw [hlen] at hv0 h64
 have hrowH := hrow.up hHR
 rw [hlen] at hc
 obtain ⟨k, rfl⟩ : ∃ k : Nat, cpu = (k : Int) := ⟨cpu.toNat, by omega⟩
 have hk2 : (k : Int).toNat = k := by omega
 refine L_enter (l := [.slice ad Ds.length cap, .int .i64 (k : Int), .int .i64 id, .int .u64 ((a : Nat) : Int)]) Tryz.func95 rfl Tryz.ntmps95 rfl rfl ?_
 refine W_sr ?_
 refine W_assign rfl rfl ?_
 refine W_alloc (l := zSpot.v) ty70 rfl rfl (fun b9 => ?_)
 refine W_assign rfl rfl ?_
 refine W_nil (W_seq (W_sr ?_))
 refine W_move rfl rfl ?_
 refine W_bin rfl rfl b_lss rfl ?_
 refine W_move rfl rfl ?_
 apply W_or
 iterate 4 exact rfl
 case h1 =>
  intro hg2
  refine W_gyes rfl rfl ?_
  refine W_move rfl rfl ?_
  refine W_gyes rfl rfl ?_
  refine W_move rfl rfl ?_
  refine W_gyes rfl rfl ?_
  refine W_len rfl ty57 rfl rfl ?_
  refine W_gyes rfl rfl ?_
  refine W_bin rfl rfl b_geq rfl ?_
  exact W_met rfl zR
 refine W_move rfl rfl ?_
 apply W_or
 iterate 4 exact rfl
 case h1 =>
  intro hg8
  refine W_gyes rfl rfl ?_
  refine W_move rfl rfl ?_
  refine W_gyes rfl rfl ?_
  refine W_bin rfl rfl b_lss rfl ?_
  exact W_met rfl zR
 refine W_move rfl rfl ?_
 apply W_or
 iterate 4 exact rfl
 case h1 =>
  intro hg12
  refine W_gyes rfl rfl ?_
  refine W_move rfl rfl ?_
  refine W_gyes rfl rfl ?_
  refine W_bin rfl rfl b_gtr rfl ?_
  exact W_met rfl zR
 refine W_nil ?_
 refine W_condF rfl (by simp; omega) ?_
 refine W_skip (W_seq (W_sr ?_))
 refine W_move rfl rfl ?_
 refine W_move rfl rfl ?_
 refine W_callq (.cons rfl (.cons rfl .nil)) Tryz.call30 rfl (rbFind_q (id := id) hS (hv0.up ((show HSub _ H from zH).trans hHR)) (by rw [hlen]; omega)) ?_
 rw [show findZ (Ds.map Rw.nl) id = -1 from by unfold findZ; rw [hf]]
 refine W_bin rfl rfl b_geq rfl ?_
 refine W_nil ?_
 refine W_condF rfl rfl ?_
 refine W_skip (W_sr ?_)
 obtain ⟨d, hd⟩ : ∃ d, Ds[k]? = some d := ⟨_, List.getElem?_eq_getElem zO⟩
 have hdm := List.mem_of_getElem? hd
 obtain ⟨q0, p0, rfl, hcx⟩ := Holds.row rwC_len zd hrowH hd
 have hw := hS.of hdm
 have hwl := hw.len
 have hwn := hw.now
 dsimp only at hwl hwn
 have hni : id ∉ d.L.map (·.id) := findS_no hf (x := (d.now, d.L)) (List.mem_map_of_mem (f := Rw.nl) hdm)
 refine W_move rfl rfl ?_
 refine W_move rfl rfl ?_
 refine W_indexAddr (j := k) rfl rfl ty57 ty76 rfl zO rfl rfl ?_
 refine W_loadA (vs := [.int .u64 ((d.now : Nat) : Int), .slice d.ad d.L.length d.cap]) rfl ty76 rfl rfl (hcx.up zH) rfl ?_
 refine W_move rfl rfl ?_
 refine W_move rfl rfl ?_
 have hm := hm _ (by rw [hk2, List.getElem?_map, hd]; rfl)
 refine W_call (.cons rfl (.cons rfl (.cons rfl .nil))) Tryz.call114 rfl (rPut_ok (now := d.now) (cap := d.cap) (tn := tn + 1) (e := (placeT d.now a).1) zO ((heach d hdm).1.up ((show HSub _ (H) from zH).trans hHR)) hid hwn ha hni (placeT_ok hm)) ?_
 rintro v H' ⟨sv, XB, rfl, hO, rfl⟩
 obtain ⟨ad2, cap2, rfl, hc2, _⟩ := hO.shape
 refine W_move rfl rfl ?_
 refine W_extract rfl rfl rfl ?_
 refine W_extract rfl rfl rfl ?_
 refine W_extract rfl rfl rfl ?_
 refine W_alloc (l := [.int .u64 0, .slice none 0 0]) ty76 rfl rfl (fun b11 => ?_)
 refine W_alloc (l := zSpot.v) ty70 rfl rfl (fun b12 => ?_)
 refine W_storeA (l' := [.int .u64 ((d.now : Nat) : Int), .slice ad2 (d.L ++ [tmOf d.now a tn id]).length cap2]) rfl rfl ty76 rfl rfl (b := b11) zM (by exact Nat.le_refl 2) rfl zU ?_
 refine W_storeA (l' := ((placeT d.now a).1).v) rfl rfl ty70 rfl rfl (b := b12) zM (by exact Nat.le_refl 4) rfl zU ?_
 refine W_assign rfl rfl ?_
 refine W_nil (W_seq ?_)
 refine W_anyC [(b11, .cells 76 2 [.int .u64 ((d.now : Nat) : Int), .slice ad2 (d.L ++ [tmOf d.now a tn id]).length cap2]), (b12, .cells 70 4 ((placeT d.now a).1).v)] zk ?_
 refine WC_take 0 (l' := #[true, false, false, false, false, false, false, false, false]) rfl zK zK zK rfl zK (X_move rfl) rfl ?_
 refine WC_take 1 (l' := #[true, true, false, false, false, false, false, false, false]) rfl zK zK zK rfl zK (X_move rfl) rfl ?_
 refine WC_take 2 (l' := #[true, true, true, false, false, false, false, false, false]) rfl zK zK zK rfl zK (X_loadB (vs := [.int .u64 ((d.now : Nat) : Int), .slice ad2 (d.L ++ [tmOf d.now a tn id]).length cap2]) rfl ty76 rfl (b := b11) zM rfl rfl) rfl ?_
 refine WC_take 4 (l' := #[true, true, true, false, true, false, false, false, false]) rfl zK zK zK rfl zK (X_loadB (vs := ((placeT d.now a).1).v) rfl ty70 rfl (b := b12) zM rfl rfl) rfl ?_
 refine WC_take 5 (l' := #[true, true, true, false, true, true, false, false, false]) rfl zK zK zK rfl zK (X_move rfl) rfl ?_
 refine WC_one 3 (l' := #[true, true, true, true, true, true, false, false, false]) zH zK rfl zK ?_
 refine W_call (.cons rfl (.cons rfl (.cons rfl .nil))) Tryz.call115 rfl (rbSet_L (HR := (XB ++ HR)) (d := (⟨d.now, d.L ++ [tmOf d.now a tn id], ad2, cap2⟩ : Rw)) (k := k) (hv0.up (.dropS (.refl _))) ((show HSub _ (XB ++ H) from zH).trans (HSub.app (TakeS.here _) hHR)) (by rw [hlen]; omega) (by rw [hlen]; omega) (OwnS.holds hO (fun p hp => List.mem_append_left _ hp)) hc2) ?_
 rintro v H' ⟨X2, hX2, rfl⟩
 refine W_nil ?_
 refine WC_goal ?_
 refine WC_take 6 (l' := #[true, true, true, true, true, true, true, false, false]) rfl zK zK zK rfl zK (X_assign rfl) rfl ?_
 refine WC_one 7 (l' := #[true, true, true, true, true, true, true, true, false]) zH zK rfl zK ?_
 refine W_storeA (l' := ((placeT d.now a).1).v) rfl rfl ty70 rfl rfl (b := b9) zM (by exact Nat.le_refl 4) rfl zU ?_
 refine W_nil ?_
 refine WC_goal ?_
 refine WC_take 8 (l' := #[true, true, true, true, true, true, true, true, true]) rfl zK zK zK rfl zK (X_assign rfl) rfl ?_
 refine WC_done zH zK ?_
 refine W_ret3G (H2 := X2 ++ (XB ++ H)) Tryz.results95 (.nil _) (.tmp rfl) (.own rfl ty70 rfl zM rfl) (.tmp rfl) zH ?_
 have hp0 : ¬ ((k : Int) < 0 ∨ ((Ds.map Rw.nl).length : Int) ≤ (k : Int) ∨ id < 0 ∨ 255 < id) := by rw [hlen]; omega
 have hx : (Ds.map Rw.nl)[(k : Int).toNat]? = some (d.now, d.L) := by rw [hk2, List.getElem?_map, hd]; rfl
 have hp : putS (Ds.map Rw.nl) tn (k : Int) id a = ((Ds.map Rw.nl).set k (d.now, d.L ++ [tmOf d.now a tn id]), (placeT d.now a).1, 0) := by
  unfold putS; rw [if_neg hp0, if_neg (by rw [hf]; decide), hx, hk2]
  exact if_neg hm
 rw [hp]
 exact ⟨_, X2 ++ XB, rfl, by rw [List.append_assoc]; exact hX2, by rw [List.append_assoc]⟩
theorem rbPut_L {w0 : World} {H : Heap} {HR : Heap} {S : St} {v : Value} (hS : StOk S) (hv : RbV w0 HR S v) (hHR : HSub H HR) (h64 : S.length ≤ 64) {tn a : Nat} {cpu id : Int} (ha : a ≤ 18446744073709551615) : LCalls Tryz.prog w0 95 #[v, .int .i64 cpu, .int .i64 id, .int .u64 ((a : Nat) : Int)] H (fun v' H' => ∃ v1 X, v' = .tuple #[v1, .agg (putS S tn cpu id a).2.1.v.toArray, .int .i64 (putS S tn cpu id a).2.2] ∧ RbV w0 (X ++ HR) (putS S tn cpu id a).1 v1 ∧ H' = X ++ H) := by
 by_cases hc : cpu < 0 ∨ (S.length : Int) ≤ cpu ∨ id < 0 ∨ 255 < id
 ·exact rbPut_no hS hv hHR h64 ha hc
 ·have h1 : 0 ≤ cpu ∧ cpu < (S.length : Int) := by omega
  have h2 : 0 ≤ id ∧ id < 256 := by omega
  cases hf : findS S id with
  | some k => exact rbPut_twice hS hv hHR h64 ha h1 h2 hf
  | none =>
   obtain ⟨x, hx⟩ : ∃ x, S[cpu.toNat]? = some x := ⟨_, List.getElem?_eq_getElem zO⟩
   by_cases hm : x.1 = 18446744073709551615
   ·exact rbPut_late hS hv hHR h64 ha h1 h2 hf (fun y hy => by rw [hx] at hy; obtain rfl := Option.some.inj hy; exact hm)
   ·exact rbPut_ok hS hv hHR h64 ha h1 h2 hf (fun y hy => by rw [hx] at hy; obtain rfl := Option.some.inj hy; exact hm)
theorem rbDel_miss {w0 : World} {H : Heap} {HR : Heap} {S : St} {v : Value} (hS : StOk S) (hv : RbV w0 HR S v) (hHR : HSub H HR) (h64 : S.length ≤ 64) {id : Int} (hf : findS S id = none)  : LCalls Tryz.prog w0 112 #[v, .int .i64 id] (H) (fun v' H' => ∃ v1 X, v' = .tuple #[v1, .bool (findS S id).isSome] ∧ RbV w0 (X ++ HR) (delOne S id) v1 ∧ H' = X ++ H) := by
 have hv0 := hv
 obtain ⟨ad, cap, Ds, rfl, hb⟩ := hv
 obtain ⟨hrow, heach, rfl⟩ := hb
 have hlen : (Ds.map Rw.nl).length = Ds.length := List.length_map _
 rw [hlen]
 rw [hlen] at hv0 h64
 have hrowH := hrow.up hHR
 refine L_enter (l := [.slice ad Ds.length cap, .int .i64 id]) Tryz.func112 rfl Tryz.ntmps112 rfl rfl ?_
 refine W_sr ?_
 refine W_assign rfl rfl ?_
 refine W_assign rfl rfl ?_
 refine W_nil (W_sr ?_)
 refine W_move rfl rfl ?_
 refine W_move rfl rfl ?_
 refine W_callq (.cons rfl (.cons rfl .nil)) Tryz.call30 rfl (rbFind_q (id := id) hS (hv0.up ((show HSub _ H from zH).trans hHR)) (by rw [hlen]; omega)) ?_
 rw [show findZ (Ds.map Rw.nl) id = -1 from by unfold findZ; rw [hf]]
 refine W_assign rfl rfl ?_
 refine W_nil (W_seq (W_sr ?_))
 refine W_move rfl rfl ?_
 refine W_bin rfl rfl b_lss rfl ?_
 refine W_nil ?_
 refine W_condT rfl rfl ?_
 refine W_sr ?_
 refine W_move rfl rfl ?_
 refine W_assign rfl rfl ?_
 refine W_assign rfl rfl ?_
 refine W_nil ?_
 refine W_ret2m (H2 := H) Tryz.results112 rfl rfl (.nil _) zH ?_
 have hp : delOne (Ds.map Rw.nl) id = Ds.map Rw.nl := by unfold delOne; rw [hf]
 rw [hp, hf]
 exact ⟨_, [], rfl, hv0, rfl⟩
theorem rbDel_hit {w0 : World} {H : Heap} {HR : Heap} {S : St} {v : Value} (hS : StOk S) (hv : RbV w0 HR S v) (hHR : HSub H HR) (h64 : S.length ≤ 64) {id : Int} {k : Nat} (hf : findS S id = some k)  : LCalls Tryz.prog w0 112 #[v, .int .i64 id] (H) (fun v' H' => ∃ v1 X, v' = .tuple #[v1, .bool (findS S id).isSome] ∧ RbV w0 (X ++ HR) (delOne S id) v1 ∧ H' = X ++ H) := by
 have hv0 := hv
 obtain ⟨ad, cap, Ds, rfl, hb⟩ := hv
 obtain ⟨hrow, heach, rfl⟩ := hb
 have hlen : (Ds.map Rw.nl).length = Ds.length := List.length_map _
 rw [hlen]
 rw [hlen] at hv0 h64
 have hrowH := hrow.up hHR
 have hkl : k < Ds.length := by
  obtain ⟨x, hx, _⟩ := findS_at hf
  have := (List.getElem?_eq_some_iff.1 hx).1
  rwa [hlen] at this
 refine L_enter (l := [.slice ad Ds.length cap, .int .i64 id]) Tryz.func112 rfl Tryz.ntmps112 rfl rfl ?_
 refine W_sr ?_
 refine W_assign rfl rfl ?_
 refine W_assign rfl rfl ?_
 refine W_nil (W_sr ?_)
 refine W_move rfl rfl ?_
 refine W_move rfl rfl ?_
 refine W_callq (.cons rfl (.cons rfl .nil)) Tryz.call30 rfl (rbFind_q (id := id) hS (hv0.up ((show HSub _ H from zH).trans hHR)) (by rw [hlen]; omega)) ?_
 rw [show findZ (Ds.map Rw.nl) id = (k : Int) from by unfold findZ; rw [hf]]
 refine W_assign rfl rfl ?_
 refine W_nil (W_seq (W_sr ?_))
 refine W_move rfl rfl ?_
 refine W_bin rfl rfl b_lss rfl ?_
 refine W_nil ?_
 refine W_condF rfl (decide_eq_false zO) ?_
 refine W_skip (W_sr ?_)
 obtain ⟨d, hd⟩ : ∃ d, Ds[k]? = some d := ⟨_, List.getElem?_eq_getElem zO⟩
 have hdm := List.mem_of_getElem? hd
 obtain ⟨q0, p0, rfl, hcx⟩ := Holds.row rwC_len zd hrowH hd
 have hxk : (Ds.map Rw.nl)[k]? = some (d.now, d.L) := by rw [List.getElem?_map, hd]; rfl
 have hw := hS.of hdm
 have hwl := hw.len
 dsimp only at hwl
 obtain ⟨x, hx1, hx2⟩ := findS_at hf
 obtain rfl := Option.some.inj (hx1.symm.trans hxk)
 obtain ⟨t, ht, rfl⟩ := List.mem_map.1 (heldB_iff.1 hx2)
 refine W_move rfl rfl ?_
 refine W_move rfl rfl ?_
 refine W_indexAddr (j := k) rfl rfl ty57 ty76 rfl zO rfl rfl ?_
 refine W_loadA (vs := [.int .u64 ((d.now : Nat) : Int), .slice d.ad d.L.length d.cap]) rfl ty76 rfl rfl (hcx.up zH) rfl ?_
 refine W_move rfl rfl ?_
 refine W_call (.cons rfl (.cons rfl .nil)) Tryz.call131 rfl (rDel_hit (now := d.now) (cap := d.cap) (t := t) zO ((heach d hdm).1.up ((show HSub _ H from zH).trans hHR)) (heach d hdm).2 hw.ids ht) ?_
 rintro v H' ⟨sv, XB, rfl, hO, rfl⟩
 obtain ⟨ad2, cap2, rfl, hc2, _⟩ := hO.shape
 refine W_move rfl rfl ?_
 refine W_extract rfl rfl rfl ?_
 refine W_extract rfl rfl rfl ?_
 refine W_alloc (l := [.int .u64 0, .slice none 0 0]) ty76 rfl rfl (fun b7 => ?_)
 refine W_storeA (l' := [.int .u64 ((d.now : Nat) : Int), .slice ad2 (delT d.L t.id).length cap2]) rfl rfl ty76 rfl rfl (b := b7) zM (by exact Nat.le_refl 2) rfl zU ?_
 refine W_assign rfl rfl ?_
 refine W_nil (W_sr ?_)
 refine W_move rfl rfl ?_
 refine W_move rfl rfl ?_
 refine W_loadB (vs := [.int .u64 ((d.now : Nat) : Int), .slice ad2 (delT d.L t.id).length cap2]) rfl ty76 rfl (b := b7) zM rfl rfl rfl ?_
 refine W_call (.cons rfl (.cons rfl (.cons rfl .nil))) Tryz.call115 rfl (rbSet_L (HR := XB ++ HR) (d := (⟨d.now, delT d.L t.id, ad2, cap2⟩ : Rw)) (k := k) (hv0.up (.dropS (.refl _))) ((show HSub _ (XB ++ H) from zH).trans (HSub.app (TakeS.here _) hHR)) (by rw [hlen]; omega) (by rw [hlen]; omega) (OwnS.holds hO (fun p hp => List.mem_append_left _ hp)) hc2) ?_
 rintro v H' ⟨X2, hX2, rfl⟩
 refine W_assign rfl rfl ?_
 refine W_assign rfl rfl ?_
 refine W_nil ?_
 refine W_ret2m (H2 := X2 ++ (XB ++ H)) Tryz.results112 rfl rfl (.nil _) zH ?_
 have hp : delOne (Ds.map Rw.nl) t.id = (Ds.map Rw.nl).set k (d.now, delT d.L t.id) := by unfold delOne; rw [hf]; dsimp only; rw [hxk]
 rw [hp, hf]
 exact ⟨_, X2 ++ XB, rfl, by rw [List.append_assoc]; exact hX2, by rw [List.append_assoc]⟩
theorem rbDel_L {w0 : World} {H : Heap} {HR : Heap} {S : St} {v : Value} (hS : StOk S) (hv : RbV w0 HR S v) (hHR : HSub H HR) (h64 : S.length ≤ 64) {id : Int} : LCalls Tryz.prog w0 112 #[v, .int .i64 id] H (fun v' H' => ∃ v1 X, v' = .tuple #[v1, .bool (findS S id).isSome] ∧ RbV w0 (X ++ HR) (delOne S id) v1 ∧ H' = X ++ H) := by
 cases hf : findS S id with
 | none => rw [← hf]; exact rbDel_miss hS hv hHR h64 hf
 | some k => rw [← hf]; exact rbDel_hit hS hv hHR h64 hf
theorem rbCatch_no {w0 : World} {H : Heap} {HR : Heap} {S : St} {v : Value} (hS : StOk S) (hv : RbV w0 HR S v) (hHR : HSub H HR) (h64 : S.length ≤ 64) {cpu : Int} {a : Nat} (hno : cpu < 0 ∨ (S.length : Int) ≤ cpu)  : LCalls Tryz.prog w0 96 #[v, .int .i64 cpu, .int .u64 ((a : Nat) : Int)] (H) (fun v' H' => ∃ (v1 ov : Value) (X : Heap) (S' : St) (O : List Tm) (XO : Heap), v' = .tuple #[v1, ov] ∧ RbV w0 (X ++ HR) S' v1 ∧ OwnS 3 1 ov O.length ((O.map (·.id)).map (Value.int .i64)) XO ∧ CatchS S cpu a S' O ∧ H' = XO ++ (X ++ H)) := by
 have hv0 := hv
 obtain ⟨ad, cap, Ds, rfl, hb⟩ := hv
 obtain ⟨hrow, heach, rfl⟩ := hb
 have hlen : (Ds.map Rw.nl).length = Ds.length := List.length_map _
 rw [hlen]
 rw [hlen] at hv0 h64
 have hrowH := hrow.up hHR
 rw [hlen] at hno
 refine L_enter (l := [.slice ad Ds.length cap, .int .i64 cpu, .int .u64 ((a : Nat) : Int)]) Tryz.func96 rfl Tryz.ntmps96 rfl rfl ?_
 refine W_sr ?_
 refine W_assign rfl rfl ?_
 refine W_assign rfl rfl ?_
 refine W_nil (W_seq (W_sr ?_))
 refine W_move rfl rfl ?_
 refine W_bin rfl rfl b_lss rfl ?_
 refine W_move rfl rfl ?_
 apply W_or
 iterate 4 exact rfl
 case h1 =>
  intro hg2
  refine W_gyes rfl rfl ?_
  refine W_move rfl rfl ?_
  refine W_gyes rfl rfl ?_
  refine W_move rfl rfl ?_
  refine W_gyes rfl rfl ?_
  refine W_len rfl ty57 rfl rfl ?_
  refine W_gyes rfl rfl ?_
  refine W_bin rfl rfl b_geq rfl ?_
  exact W_met rfl zR
 refine W_nil ?_
 refine W_condT rfl (by simp; omega) ?_
 refine W_sr ?_
 refine W_move rfl rfl ?_
 refine W_assign rfl rfl ?_
 refine W_assign rfl rfl ?_
 refine W_nil ?_
 refine W_ret2m (H2 := H) Tryz.results96 rfl rfl (.nil _) zH ?_
 exact ⟨_, _, [], _, [], [], rfl, hv0, .nil, .inl ⟨by rw [hlen]; exact hno, rfl, rfl⟩, rfl⟩
theorem rbCatch_go {w0 : World} {H : Heap} {HR : Heap} {S : St} {v : Value} (hS : StOk S) (hv : RbV w0 HR S v) (hHR : HSub H HR) (h64 : S.length ≤ 64) {cpu : Int} {a : Nat} (hc : 0 ≤ cpu ∧ cpu < (S.length : Int)) (hg : ∀ x, S[cpu.toNat]? = some x → x.1 < a)  : LCalls Tryz.prog w0 96 #[v, .int .i64 cpu, .int .u64 ((a : Nat) : Int)] (H) (fun v' H' => ∃ (v1 ov : Value) (X : Heap) (S' : St) (O : List Tm) (XO : Heap), v' = .tuple #[v1, ov] ∧ RbV w0 (X ++ HR) S' v1 ∧ OwnS 3 1 ov O.length ((O.map (·.id)).map (Value.int .i64)) XO ∧ CatchS S cpu a S' O ∧ H' = XO ++ (X ++ H)) := by
 have hv0 := hv
 obtain ⟨ad, cap, Ds, rfl, hb⟩ := hv
 obtain ⟨hrow, heach, rfl⟩ := hb
 have hlen : (Ds.map Rw.nl).length = Ds.length := List.length_map _
 rw [hlen]
 rw [hlen] at hv0 h64
 have hrowH := hrow.up hHR
 rw [hlen] at hc
 obtain ⟨k, rfl⟩ : ∃ k : Nat, cpu = (k : Int) := ⟨cpu.toNat, by omega⟩
 refine L_enter (l := [.slice ad Ds.length cap, .int .i64 (k : Int), .int .u64 ((a : Nat) : Int)]) Tryz.func96 rfl Tryz.ntmps96 rfl rfl ?_
 refine W_sr ?_
 refine W_assign rfl rfl ?_
 refine W_assign rfl rfl ?_
 refine W_nil (W_seq (W_sr ?_))
 refine W_move rfl rfl ?_
 refine W_bin rfl rfl b_lss rfl ?_
 refine W_move rfl rfl ?_
 apply W_or
 iterate 4 exact rfl
 case h1 =>
  intro hg2
  refine W_gyes rfl rfl ?_
  refine W_move rfl rfl ?_
  refine W_gyes rfl rfl ?_
  refine W_move rfl rfl ?_
  refine W_gyes rfl rfl ?_
  refine W_len rfl ty57 rfl rfl ?_
  refine W_gyes rfl rfl ?_
  refine W_bin rfl rfl b_geq rfl ?_
  exact W_met rfl zR
 refine W_nil ?_
 refine W_condF rfl (by simp; omega) ?_
 refine W_skip (W_sr ?_)
 obtain ⟨d, hd⟩ : ∃ d, Ds[k]? = some d := ⟨_, List.getElem?_eq_getElem zO⟩
 have hdm := List.mem_of_getElem? hd
 obtain ⟨q0, p0, rfl, hcx⟩ := Holds.row rwC_len zd hrowH hd
 have hxk : (Ds.map Rw.nl)[k]? = some (d.now, d.L) := by rw [List.getElem?_map, hd]; rfl
 have hw := hS.of hdm
 have hwl := hw.len
 dsimp only at hwl
 refine W_move rfl rfl ?_
 refine W_move rfl rfl ?_
 refine W_indexAddr (j := k) rfl rfl ty57 ty76 rfl zO rfl rfl ?_
 refine W_loadA (vs := [.int .u64 ((d.now : Nat) : Int), .slice d.ad d.L.length d.cap]) rfl ty76 rfl rfl (hcx.up zH) rfl ?_
 refine W_move rfl rfl ?_
 have hg := hg _ (by rw [show (k : Int).toNat = k by omega, hxk])
 dsimp only at hg
 refine W_call (.cons rfl (.cons rfl .nil)) Tryz.call116 rfl (rTo_go (HR := HR) (now := d.now) (cap := d.cap) (a := a) zO (heach d hdm).1 ((show HSub _ H from zH).trans hHR) (heach d hdm).2 hg hw.ids hw.asc) ?_
 rintro v H' ⟨Li, O, ov, ad2, cap2, XB, XO, rfl, hG, hc2, hR2, hO, rfl⟩
 obtain ⟨ado, capo, rfl, _, _⟩ := hO.shape
 refine W_move rfl rfl ?_
 refine W_extract rfl rfl rfl ?_
 refine W_extract rfl rfl rfl ?_
 refine W_alloc (l := [.int .u64 0, .slice none 0 0]) ty76 rfl rfl (fun b8 => ?_)
 refine W_storeA (l' := [.int .u64 ((a : Nat) : Int), .slice ad2 Li.length cap2]) rfl rfl ty76 rfl rfl (b := b8) zM (by exact Nat.le_refl 2) rfl zU ?_
 refine W_assign rfl rfl ?_
 refine W_nil (W_sr ?_)
 refine W_move rfl rfl ?_
 refine W_move rfl rfl ?_
 refine W_loadB (vs := [.int .u64 ((a : Nat) : Int), .slice ad2 Li.length cap2]) rfl ty76 rfl (b := b8) zM rfl rfl rfl ?_
 refine W_call (.cons rfl (.cons rfl (.cons rfl .nil))) Tryz.call115 rfl (rbSet_L (HR := (XB ++ HR)) (d := (⟨a, Li, ad2, cap2⟩ : Rw)) (k := k) (hv0.up (.dropS (.refl _))) ((show HSub _ (XB ++ H) from zH).trans (HSub.app (TakeS.here _) hHR)) (by rw [hlen]; omega) (by rw [hlen]; omega) hR2 hc2) ?_
 rintro v H' ⟨X2, hX2, rfl⟩
 refine W_move rfl rfl ?_
 refine W_assign rfl rfl ?_
 refine W_assign rfl rfl ?_
 refine W_nil ?_
 refine W_ret2m (H2 := XO ++ (X2 ++ (XB ++ H))) Tryz.results96 rfl rfl (.nil _) zH ?_
 have hm : max d.now a = a := by omega
 exact ⟨_, _, X2 ++ XB, _, O, XO, rfl, by rw [List.append_assoc]; exact hX2, hO, .inr ⟨k, d.now, d.L, Li, rfl, hxk, by rw [hm]; exact hG, by rw [hm]; rfl⟩, by simp only [List.append_assoc]⟩
theorem rbCatch_stay {w0 : World} {H : Heap} {HR : Heap} {S : St} {v : Value} (hS : StOk S) (hv : RbV w0 HR S v) (hHR : HSub H HR) (h64 : S.length ≤ 64) {cpu : Int} {a : Nat} (hc : 0 ≤ cpu ∧ cpu < (S.length : Int)) (hg : ∀ x, S[cpu.toNat]? = some x → a ≤ x.1)  : LCalls Tryz.prog w0 96 #[v, .int .i64 cpu, .int .u64 ((a : Nat) : Int)] (H) (fun v' H' => ∃ (v1 ov : Value) (X : Heap) (S' : St) (O : List Tm) (XO : Heap), v' = .tuple #[v1, ov] ∧ RbV w0 (X ++ HR) S' v1 ∧ OwnS 3 1 ov O.length ((O.map (·.id)).map (Value.int .i64)) XO ∧ CatchS S cpu a S' O ∧ H' = XO ++ (X ++ H)) := by
 have hv0 := hv
 obtain ⟨ad, cap, Ds, rfl, hb⟩ := hv
 obtain ⟨hrow, heach, rfl⟩ := hb
 have hlen : (Ds.map Rw.nl).length = Ds.length := List.length_map _
 rw [hlen]
 rw [hlen] at hv0 h64
 have hrowH := hrow.up hHR
 rw [hlen] at hc
 obtain ⟨k, rfl⟩ : ∃ k : Nat, cpu = (k : Int) := ⟨cpu.toNat, by omega⟩
 refine L_enter (l := [.slice ad Ds.length cap, .int .i64 (k : Int), .int .u64 ((a : Nat) : Int)]) Tryz.func96 rfl Tryz.ntmps96 rfl rfl ?_
 refine W_sr ?_
 refine W_assign rfl rfl ?_
 refine W_assign rfl rfl ?_
 refine W_nil (W_seq (W_sr ?_))
 refine W_move rfl rfl ?_
 refine W_bin rfl rfl b_lss rfl ?_
 refine W_move rfl rfl ?_
 apply W_or
 iterate 4 exact rfl
 case h1 =>
  intro hg2
  refine W_gyes rfl rfl ?_
  refine W_move rfl rfl ?_
  refine W_gyes rfl rfl ?_
  refine W_move rfl rfl ?_
  refine W_gyes rfl rfl ?_
  refine W_len rfl ty57 rfl rfl ?_
  refine W_gyes rfl rfl ?_
  refine W_bin rfl rfl b_geq rfl ?_
  exact W_met rfl zR
 refine W_nil ?_
 refine W_condF rfl (by simp; omega) ?_
 refine W_skip (W_sr ?_)
 obtain ⟨d, hd⟩ : ∃ d, Ds[k]? = some d := ⟨_, List.getElem?_eq_getElem zO⟩
 have hdm := List.mem_of_getElem? hd
 obtain ⟨q0, p0, rfl, hcx⟩ := Holds.row rwC_len zd hrowH hd
 have hxk : (Ds.map Rw.nl)[k]? = some (d.now, d.L) := by rw [List.getElem?_map, hd]; rfl
 have hw := hS.of hdm
 have hwl := hw.len
 dsimp only at hwl
 refine W_move rfl rfl ?_
 refine W_move rfl rfl ?_
 refine W_indexAddr (j := k) rfl rfl ty57 ty76 rfl zO rfl rfl ?_
 refine W_loadA (vs := [.int .u64 ((d.now : Nat) : Int), .slice d.ad d.L.length d.cap]) rfl ty76 rfl rfl (hcx.up zH) rfl ?_
 refine W_move rfl rfl ?_
 have hg := hg _ (by rw [show (k : Int).toNat = k by omega, hxk])
 dsimp only at hg
 refine W_callq (.cons rfl (.cons rfl .nil)) Tryz.call116 rfl (rTo_stay (now := d.now) (cap := d.cap) (a := a) zO ((heach d hdm).1.up ((show HSub _ H from zH).trans hHR)) hg) ?_
 refine W_move rfl rfl ?_
 refine W_extract rfl rfl rfl ?_
 refine W_extract rfl rfl rfl ?_
 refine W_alloc (l := [.int .u64 0, .slice none 0 0]) ty76 rfl rfl (fun b8 => ?_)
 refine W_storeA (l' := [.int .u64 ((d.now : Nat) : Int), .slice d.ad d.L.length d.cap]) rfl rfl ty76 rfl rfl (b := b8) zM (by exact Nat.le_refl 2) rfl zU ?_
 refine W_assign rfl rfl ?_
 refine W_nil (W_sr ?_)
 refine W_move rfl rfl ?_
 refine W_move rfl rfl ?_
 refine W_loadB (vs := [.int .u64 ((d.now : Nat) : Int), .slice d.ad d.L.length d.cap]) rfl ty76 rfl (b := b8) zM rfl rfl rfl ?_
 refine W_call (.cons rfl (.cons rfl (.cons rfl .nil))) Tryz.call115 rfl (rbSet_L (HR := HR) (d := d) (k := k) hv0 ((show HSub _ H from zH).trans hHR) (by rw [hlen]; omega) (by rw [hlen]; omega) (heach d hdm).1 (heach d hdm).2) ?_
 rintro v H' ⟨X2, hX2, rfl⟩
 refine W_move rfl rfl ?_
 refine W_assign rfl rfl ?_
 refine W_assign rfl rfl ?_
 refine W_nil ?_
 refine W_ret2m (H2 := X2 ++ H) Tryz.results96 rfl rfl (.nil _) zH ?_
 have hm : max d.now a = d.now := by omega
 exact ⟨_, _, X2, _, [], [], rfl, hX2, .nil, .inr ⟨k, d.now, d.L, d.L, rfl, hxk, by rw [hm]; exact Gone.start hw.later, by rw [hm]; rfl⟩, rfl⟩
theorem rbCatch_L {w0 : World} {H : Heap} {HR : Heap} {S : St} {v : Value} (hS : StOk S) (hv : RbV w0 HR S v) (hHR : HSub H HR) (h64 : S.length ≤ 64) {cpu : Int} {a : Nat} : LCalls Tryz.prog w0 96 #[v, .int .i64 cpu, .int .u64 ((a : Nat) : Int)] H (fun v' H' => ∃ (v1 ov : Value) (X : Heap) (S' : St) (O : List Tm) (XO : Heap), v' = .tuple #[v1, ov] ∧ RbV w0 (X ++ HR) S' v1 ∧ OwnS 3 1 ov O.length ((O.map (·.id)).map (Value.int .i64)) XO ∧ CatchS S cpu a S' O ∧ H' = XO ++ (X ++ H)) := by
 by_cases hc : cpu < 0 ∨ (S.length : Int) ≤ cpu
 ·exact rbCatch_no hS hv hHR h64 hc
 ·have h1 : 0 ≤ cpu ∧ cpu < (S.length : Int) := by omega
  obtain ⟨x, hx⟩ : ∃ x, S[cpu.toNat]? = some x := ⟨_, List.getElem?_eq_getElem zO⟩
  rcases Nat.lt_or_ge x.1 a with hg | hg
  ·exact rbCatch_go hS hv hHR h64 h1 (fun y hy => by rw [hx] at hy; obtain rfl := Option.some.inj hy; exact hg)
  ·exact rbCatch_stay hS hv hHR h64 h1 (fun y hy => by rw [hx] at hy; obtain rfl := Option.some.inj hy; exact hg)
def Wl.nl (w : Wl) : Nat × List Tm := (w.now, w.L)
abbrev stW (Ws : List Wl) : St := Ws.map Wl.nl
theorem findS_stW (Ws : List Wl) (id : Int) : findS (stW Ws) id = findK Ws id := by
 unfold findS findK
 rw [List.findIdx?_map]; rfl
def turnOf (Ws : List Wl) (cpu : Int) : Nat := match wlAt Ws cpu with
 | some w => w.turn
 | none => 0
theorem wlAt_none {Ws : List Wl} {cpu : Int} (h : wlAt Ws cpu = none) : cpu < 0 ∨ (Ws.length : Int) ≤ cpu := by
 rcases cpu_ways Ws cpu with ⟨h1, _⟩ | ⟨_, h1, _⟩ | ⟨h0, h1, h2⟩
 ·exact .inl h1
 ·exact .inr h1
 ·rw [h2, List.getElem?_eq_none_iff] at h; omega
theorem PutIs.fn {Ws Ws' : List Wl} {cpu id e : Int} {a : Nat} {s : Spot} (h : PutIs Ws cpu id a Ws' s e) (hr : ∀ w ∈ Ws, ∀ t ∈ w.L, 0 ≤ t.id ∧ t.id < 256) : putS (stW Ws) (turnOf Ws cpu) cpu id a = (stW Ws', s, e) := by
 have hl : (stW Ws).length = Ws.length := List.length_map _
 cases h with
 | cpu h => exact if_pos (by rw [hl]; have := wlAt_none h; omega)
 | @twice w k h hf =>
  obtain ⟨c, rfl, hk⟩ := wlAt_at h
  have hc := (List.getElem?_eq_some_iff.1 hk).1
  obtain ⟨u, hu, hh⟩ := findK_at hf
  obtain ⟨t, ht, rfl⟩ := List.mem_map.1 (heldB_iff.1 hh)
  have := hr u (List.mem_of_getElem? hu) t ht
  unfold putS
  rw [if_neg (by rw [hl]; omega), if_pos (by rw [findS_stW, hf]; rfl)]
 | range h hf hn => exact if_pos zO
 | @late w h hf hi hm =>
  obtain ⟨c, rfl, hk⟩ := wlAt_at h
  have hc := (List.getElem?_eq_some_iff.1 hk).1
  have hx : (stW Ws)[((c : Nat) : Int).toNat]? = some (w.now, w.L) := by rw [show ((c : Nat) : Int).toNat = c by omega, List.getElem?_map, hk]; rfl
  unfold putS
  rw [if_neg (by rw [hl]; omega), if_neg (by rw [findS_stW, hf]; decide), hx]
  exact if_pos hm
 | @ok k w hc hk hf hi hm =>
  subst hc
  have hc := (List.getElem?_eq_some_iff.1 hk).1
  have e1 : ((k : Nat) : Int).toNat = k := by omega
  have hx : (stW Ws)[((k : Nat) : Int).toNat]? = some (w.now, w.L) := by rw [e1, List.getElem?_map, hk]; rfl
  have ht : turnOf Ws (k : Int) = w.turn := by unfold turnOf wlAt; rw [if_pos (by omega), e1, hk]
  unfold putS
  rw [if_neg (by rw [hl]; omega), if_neg (by rw [findS_stW, hf]; decide), hx, ht]
  dsimp only
  rw [if_neg (by omega), e1]
  unfold stW
  rw [List.map_set]; rfl
def delS (S : St) (id : Int) : St := S.map (fun x => (x.1, delT x.2 id))
theorem delW_one (Ws : List Wl) (id : Int) : stW (Ws.map (delW [id])) = delS (stW Ws) id := by
 unfold stW delS
 rw [List.map_map, List.map_map]
 exact List.map_congr_left fun w _ => rfl
def UniS (S : St) : Prop := ∀ (i j : Nat) x y, S[i]? = some x → S[j]? = some y → ∀ t ∈ x.2, ∀ u ∈ y.2, t.id = u.id → i = j
theorem delOne_is {S : St} (hU : UniS S) (id : Int) : delOne S id = delS S id := by
 unfold delOne
 cases hf : findS S id with
 | none =>
  refine (List.map_congr_left (fun x hx => ?_)).trans (List.map_id S) |>.symm
  show (x.1, delT x.2 id) = x
  rw [delT_out (findS_no hf hx)]
 | some k =>
  obtain ⟨x, hx, hh⟩ := findS_at hf
  dsimp only
  rw [hx]
  dsimp only
  apply List.ext_getElem?
  intro j
  unfold delS
  rw [List.getElem?_map]
  by_cases c : k = j
  ·subst c
   rw [List.getElem?_set_self (List.getElem?_eq_some_iff.1 hx).1, hx]; rfl
  ·rw [List.getElem?_set_ne c]
   cases hj : S[j]? with
   | none => rfl
   | some y =>
    show some y = some (y.1, delT y.2 id)
    rw [delT_out]
    intro hin
    obtain ⟨t, ht, e1⟩ := List.mem_map.1 hin
    obtain ⟨u, hu, e2⟩ := List.mem_map.1 (heldB_iff.1 hh)
    exact c (hU k j x y hx hj u hu t ht (e2.trans e1.symm))
theorem UniS.del {S : St} (h : UniS S) (id : Int) : UniS (delS S id) := fun i j x y hx hy t ht u hu e => by
 unfold delS at hx hy
 rw [List.getElem?_map] at hx hy
 obtain ⟨x', hx', rfl⟩ := Option.map_eq_some_iff.1 hx
 obtain ⟨y', hy', rfl⟩ := Option.map_eq_some_iff.1 hy
 exact h i j x' y' hx' hy' t (List.mem_filter.1 ht).1 u (List.mem_filter.1 hu).1 e
theorem UniS.set {S : St} (h : UniS S) {k : Nat} {x : Nat × List Tm} {z : Nat × List Tm} (hx : S[k]? = some x) (hz : ∀ t ∈ z.2, t ∈ x.2 ∨ ∀ y ∈ S, t.id ∉ y.2.map (·.id)) : UniS (S.set k z) := fun i j p q hp hq t ht u hu e => by
 have hk := (List.getElem?_eq_some_iff.1 hx).1
 by_cases ci : k = i <;> by_cases cj : k = j
 ·omega
 ·subst ci
  rw [List.getElem?_set_self hk] at hp
  obtain rfl := Option.some.inj hp
  rw [List.getElem?_set_ne cj] at hq
  rcases hz t ht with h1 | h1
  ·exact h k j x q hx hq t h1 u hu e
  ·exact absurd (e ▸ List.mem_map_of_mem hu) (h1 q (List.mem_of_getElem? hq))
 ·subst cj
  rw [List.getElem?_set_self hk] at hq
  obtain rfl := Option.some.inj hq
  rw [List.getElem?_set_ne ci] at hp
  rcases hz u hu with h1 | h1
  ·exact h i k p x hp hx t ht u h1 e
  ·exact absurd (e ▸ List.mem_map_of_mem ht) (h1 p (List.mem_of_getElem? hp))
 ·rw [List.getElem?_set_ne ci] at hp
  rw [List.getElem?_set_ne cj] at hq
  exact h i j p q hp hq t ht u hu e
theorem UniS.put {S : St} (h : UniS S) (tn : Nat) (cpu id : Int) (a : Nat) : UniS (putS S tn cpu id a).1 := by
 unfold putS
 split
 ·exact h
 ·split
  ·exact h
  ·rename_i hf
   have hf : findS S id = none := by cases e : findS S id with | none => rfl | some k => rw [e] at hf; exact absurd rfl hf
   split
   ·exact h
   ·rename_i x hx
    split
    ·exact h
    ·refine h.set hx (fun t ht => ?_)
     rcases List.mem_append.1 ht with ht | ht
     ·exact .inl ht
     ·exact .inr (fun y hy => by rw [List.mem_singleton.1 ht]; exact findS_no hf hy)
theorem CatchIs.fn {Ws Ws' : List Wl} {cpu : Int} {a : Nat} {O : List Tm} (h : CatchIs Ws cpu a Ws' O) : CatchS (stW Ws) cpu a (stW Ws') O := by
 rcases h with ⟨h, rfl, rfl⟩ | ⟨k, w, Li, rfl, hk, hG, rfl⟩
 ·exact .inl ⟨by rw [List.length_map]; exact wlAt_none h, rfl, rfl⟩
 ·exact .inr ⟨k, w.now, w.L, Li, rfl, by rw [List.getElem?_map, hk]; rfl, hG, by unfold stW; rw [List.map_set]; rfl⟩
theorem CatchS.same {S S1 S2 : St} {cpu : Int} {a : Nat} {O1 O2 : List Tm} (h1 : CatchS S cpu a S1 O1) (h2 : CatchS S cpu a S2 O2) : S1 = S2 ∧ O1 = O2 := by
 rcases h1 with ⟨a1, rfl, rfl⟩ | ⟨k, now, L, Li, rfl, hk, hG, rfl⟩
 ·rcases h2 with ⟨_, rfl, rfl⟩ | ⟨k, now, L, Li, rfl, hk, hG, rfl⟩
  ·exact ⟨rfl, rfl⟩
  ·have := (List.getElem?_eq_some_iff.1 hk).1; omega
 ·rcases h2 with ⟨a1, _⟩ | ⟨k2, now2, L2, Li2, e, hk2, hG2, rfl⟩
  ·have := (List.getElem?_eq_some_iff.1 hk).1; omega
  ·obtain rfl : k2 = k := by omega
   obtain ⟨rfl, rfl⟩ := Prod.mk.inj (Option.some.inj (hk.symm.trans hk2))
   obtain ⟨rfl, rfl⟩ := hG.same hG2
   exact ⟨rfl, rfl⟩
theorem CatchS.uni {S S' : St} {cpu : Int} {a : Nat} {O : List Tm} (h : CatchS S cpu a S' O) (hU : UniS S) : UniS S' := by
 rcases h with ⟨_, rfl, rfl⟩ | ⟨k, now, L, Li, rfl, hk, hG, rfl⟩
 ·exact hU
 ·exact hU.set hk (fun t ht => .inl (by rw [hG.left] at ht; exact (List.mem_filter.1 ht).1))
theorem BankH.wheelOf2 {bb : Nat} {Ws : List Wl} {HB : Heap} (h : BankH bb Ws HB) {w : Wl} (hw : w ∈ Ws) : ∃ HW, WheelH w.bw w.now w.L w.turn HW := by
 obtain ⟨k, hk, e⟩ := List.getElem_of_mem hw
 obtain ⟨HW, hW, _⟩ := h.wheel (k := k) (w := w) (by rw [List.getElem?_eq_getElem hk, e])
 exact ⟨HW, hW⟩
theorem BankH.stOk {bb : Nat} {Ws : List Wl} {HB : Heap} (h : BankH bb Ws HB) (hn : ∀ w ∈ Ws, w.now ≤ 18446744073709551615) (hl : ∀ w ∈ Ws, ∀ t ∈ w.L, w.now < t.s.due) : StOk (stW Ws) := fun x hx => by
 obtain ⟨w, hw, rfl⟩ := List.mem_map.1 hx
 obtain ⟨HU, hU⟩ := h.wheelOf2 hw
 obtain ⟨i1, i2, i3, i4⟩ := hU.ids
 exact ⟨i4, hn w hw, i1, i3, hl w hw⟩
theorem BankH.rng {bb : Nat} {Ws : List Wl} {HB : Heap} (h : BankH bb Ws HB) : ∀ w ∈ Ws, ∀ t ∈ w.L, 0 ≤ t.id ∧ t.id < 256 := fun w hw t ht => by
 obtain ⟨HU, hU⟩ := h.wheelOf2 hw
 exact hU.ids.2.1 t ht
structure BOk (T : Nat) (Ws : List Wl) : Prop where
 now : ∀ w ∈ Ws, w.now ≤ 18446744073709551615
 later : ∀ w ∈ Ws, ∀ t ∈ w.L, w.now < t.s.due
 turn : ∀ w ∈ Ws, w.turn ≤ T
 uni : UniS (stW Ws)
theorem BOk.start {now : Nat} {Ws : List Wl} (hn : now ≤ 18446744073709551615) (hf : ∀ w ∈ Ws, FreshW now w) : BOk 0 Ws := by
 refine ⟨fun w hw => ?_, fun w hw t ht => ?_, fun w hw => ?_, fun i j x y hx _ t ht => ?_⟩
 ·rw [(hf w hw).1]; exact hn
 ·rw [(hf w hw).2.1] at ht; cases ht
 ·rw [(hf w hw).2.2]; exact Nat.le_refl _
 ·obtain ⟨w, hw, rfl⟩ := List.mem_map.1 (List.mem_of_getElem? hx)
  have ht2 : t ∈ w.L := ht
  rw [(hf w hw).2.1] at ht2; cases ht2
theorem BOk.up {T T' : Nat} {Ws : List Wl} (h : BOk T Ws) (hl : T ≤ T') : BOk T' Ws := ⟨h.now, h.later, fun w hw => Nat.le_trans (h.turn w hw) hl, h.uni⟩
theorem BOk.put {T bb a : Nat} {Ws Ws' : List Wl} {HB' : Heap} {cpu id e : Int} {s : Spot} (h : BOk T Ws) (hr : ∀ w ∈ Ws, ∀ t ∈ w.L, 0 ≤ t.id ∧ t.id < 256) (hp : PutIs Ws cpu id a Ws' s e) (hB' : BankH bb Ws' HB') : BOk (T + 1) Ws' := by
 have hu : UniS (stW Ws') := by have := h.uni.put (turnOf Ws cpu) cpu id a; rwa [hp.fn hr] at this
 cases hp with
 | cpu _ => exact h.up (Nat.le_succ _)
 | twice _ _ => exact h.up (Nat.le_succ _)
 | range _ _ _ => exact h.up (Nat.le_succ _)
 | late _ _ _ _ => exact h.up (Nat.le_succ _)
 | @ok k w hc hk hf hi hm =>
  have hwm := List.mem_of_getElem? hk
  have hkl := (List.getElem?_eq_some_iff.1 hk).1
  refine ⟨fun u hu => ?_, fun u hu => ?_, fun u hu => ?_, hu⟩
  ·rcases List.mem_or_eq_of_mem_set hu with hu | rfl
   ·exact h.now u hu
   ·exact h.now w hwm
  ·rcases List.mem_or_eq_of_mem_set hu with hu' | rfl
   ·exact h.later u hu'
   ·obtain ⟨HU, hU⟩ := hB'.wheelOf2 hu
    exact hU.later hm
  ·rcases List.mem_or_eq_of_mem_set hu with hu | rfl
   ·exact Nat.le_succ_of_le (h.turn u hu)
   ·have := h.turn w hwm
    show w.turn + 1 ≤ T + 1; omega
theorem BOk.del {T : Nat} {Ws : List Wl} (h : BOk T Ws) (id : Int) : BOk T (Ws.map (delW [id])) := by
 refine ⟨fun u hu => ?_, fun u hu t ht => ?_, fun u hu => ?_, by rw [delW_one]; exact h.uni.del id⟩
 ·obtain ⟨w, hw, rfl⟩ := List.mem_map.1 hu
  exact h.now w hw
 ·obtain ⟨w, hw, rfl⟩ := List.mem_map.1 hu
  exact h.later w hw t (List.mem_filter.1 ht).1
 ·obtain ⟨w, hw, rfl⟩ := List.mem_map.1 hu
  exact h.turn w hw
theorem BOk.catch {T a : Nat} {Ws Ws' : List Wl} {cpu : Int} {O : List Tm} (h : BOk T Ws) (ha : a ≤ 18446744073709551615) (hc : CatchIs Ws cpu a Ws' O) : BOk T Ws' := by
 have hu : UniS (stW Ws') := hc.fn.uni h.uni
 rcases hc with ⟨_, rfl, rfl⟩ | ⟨k, w, Li, rfl, hk, hG, rfl⟩
 ·exact h
 ·have hwm := List.mem_of_getElem? hk
  refine ⟨fun u hu => ?_, fun u hu t ht => ?_, fun u hu => ?_, hu⟩
  ·rcases List.mem_or_eq_of_mem_set hu with hu | rfl
   ·exact h.now u hu
   ·have := h.now w hwm
    show max w.now a ≤ _; omega
  ·rcases List.mem_or_eq_of_mem_set hu with hu | rfl
   ·exact h.later u hu t ht
   ·have ht2 : t ∈ Li := ht
    rw [hG.left] at ht2
    exact of_decide_eq_true (List.mem_filter.1 ht2).2
  ·rcases List.mem_or_eq_of_mem_set hu with hu | rfl
   ·exact h.turn u hu
   ·exact h.turn w hwm
theorem cnt_one (Ws : List Wl) (id : Int) : ∀ k, k ≤ Ws.length → UniS (stW Ws) → cntK Ws [id] k = if ∃ j : Nat, j < k ∧ ∃ w, Ws[j]? = some w ∧ heldB w.L id = true then 1 else 0
 | 0, _, _ => by
  rw [if_neg]; rfl
  rintro ⟨j, hj, _⟩; omega
 | k + 1, hk, hU => by
  obtain ⟨w, hw⟩ : ∃ w, Ws[k]? = some w := ⟨_, List.getElem?_eq_getElem zO⟩
  rw [cntK_at hw, cnt_one Ws id k (by omega) hU]
  have e : (delsT w.L [id]).2 = if heldB w.L id = true then 1 else 0 := by show 0 + _ = _; rw [Nat.zero_add]
  rw [e]
  by_cases h1 : ∃ j : Nat, j < k ∧ ∃ w, Ws[j]? = some w ∧ heldB w.L id = true
  ·rw [if_pos h1]
   obtain ⟨j, hj, u, hu, hh⟩ := h1
   have hR : ∃ j : Nat, j < k + 1 ∧ ∃ w, Ws[j]? = some w ∧ heldB w.L id = true := ⟨j, by omega, u, hu, hh⟩
   rw [if_pos hR, if_neg]
   intro h2
   obtain ⟨t, ht, e1⟩ := List.mem_map.1 (heldB_iff.1 hh)
   obtain ⟨v, hv, e2⟩ := List.mem_map.1 (heldB_iff.1 h2)
   have := hU j k (u.now, u.L) (w.now, w.L) (by rw [List.getElem?_map, hu]; rfl) (by rw [List.getElem?_map, hw]; rfl) t ht v hv (e1.trans e2.symm)
   omega
  ·rw [if_neg h1]
   by_cases h2 : heldB w.L id = true
   ·have hR : ∃ j : Nat, j < k + 1 ∧ ∃ w, Ws[j]? = some w ∧ heldB w.L id = true := ⟨k, by omega, w, hw, h2⟩
    rw [if_pos h2, if_pos hR]
   ·rw [if_neg h2, if_neg]
    rintro ⟨j, hj, u, hu, hh⟩
    by_cases c : j = k
    ·subst c
     obtain rfl := Option.some.inj (hw.symm.trans hu)
     exact h2 hh
    ·exact h1 ⟨j, by omega, u, hu, hh⟩
theorem cnt_find {Ws : List Wl} (hU : UniS (stW Ws)) (id : Int) : cntK Ws [id] Ws.length = if (findS (stW Ws) id).isSome = true then 1 else 0 := by
 rw [cnt_one Ws id _ (Nat.le_refl _) hU, findS_stW]
 cases hf : findK Ws id with
 | none =>
  rw [if_neg, if_neg (by decide)]
  rintro ⟨j, hj, w, hw, hh⟩
  exact findK_no hf (List.mem_of_getElem? hw) (heldB_iff.1 hh)
 | some k =>
  obtain ⟨w, hw, hh⟩ := findK_at hf
  have hR : ∃ j : Nat, j < Ws.length ∧ ∃ w, Ws[j]? = some w ∧ heldB w.L id = true := ⟨k, (List.getElem?_eq_some_iff.1 hw).1, w, hw, hh⟩
  rw [if_pos hR, if_pos (show (some k).isSome = true from rfl)]
def initO (o : Tone) : Tone × Int := if o.shut = true then (o, 22) else if o.made = true then (o, 5) else ({ o with made := true }, 0)
def setO (prog : Int) (o : Tone) : Tone × Int := if o.shut = true then (o, 22) else if o.made = false then (o, 1) else ({ o with prog := prog + 1 }, 0)
def onA (f : Tone → Tone × Int) (As : List Tone) (id : Int) : List Tone × Int := if 0 ≤ id ∧ id < 256 then (match As[id.toNat]? with
 | some o => (As.set id.toNat (f o).1, (f o).2)
 | none => (As, 2)) else (As, 2)
theorem onA_at {f : Tone → Tone × Int} {As : List Tone} {i : Nat} {o : Tone} (hi : i < 256) (h : As[i]? = some o) : onA f As (i : Int) = (As.set i (f o).1, (f o).2) := by
 unfold onA; rw [if_pos (by omega), show ((i : Nat) : Int).toNat = i by omega, h]
theorem onA_out {f : Tone → Tone × Int} {As : List Tone} {id : Int} (h : ¬ (0 ≤ id ∧ id < 256)) : onA f As id = (As, 2) := if_neg h
theorem set_self {As : List Tone} {i : Nat} {o : Tone} (h : As[i]? = some o) : As.set i o = As := set_same h
theorem TimerH.as {tb n : Nat} {Ws : List Wl} {Q Rs : List (Int × Int)} {As : List Tone} {HB : Heap} (h : TimerH tb n Ws Q Rs As HB) : AsOk As := by cases h; assumption
theorem init1_L {w0 : World} {H : Heap} {pb bb tb i : Nat} {As : List Tone} {o : Tone} (hA : As[i]? = some o) (hs : o.shut = false) : LCalls Tryz.prog w0 36 #[.pointer (some ⟨tb, 2 + i * 4, none⟩)] ((tb, .cells 91 1026 (tmRow pb bb As)) :: H) (fun v H' => v = .int .i64 (initO o).2 ∧ H' = (tb, .cells 91 1026 (tmRow pb bb (As.set i (initO o).1))) :: H) := by
 refine L_enter (l := [.pointer (some ⟨tb, 2 + i * 4, none⟩)]) Tryz.func36 rfl Tryz.ntmps36 rfl rfl ?_
 refine W_sr ?_
 refine W_assign rfl rfl ?_
 refine W_nil (W_seq (W_sr ?_))
 refine W_move rfl rfl ?_
 refine W_nilCheck rfl rfl ?_
 refine W_fieldAddr rfl fld88_0 zd rfl ?_
 refine W_load (v := .bool o.made) rfl ty4 rfl (Cell.own (b := tb) zM (tm_get0 hA)) rfl ?_
 refine W_nil ?_
 refine W_condS rfl (fun c0 => ?_) (fun c0 => ?_)
 ·skip
  refine W_sr ?_
  refine W_assign rfl rfl ?_
  refine W_nil ?_
  refine W_ret1m Tryz.results36 rfl (.nil _) (.refl _) ?_
  have e : initO o = (o, 5) := by unfold initO; rw [if_neg (by rw [hs]; decide), if_pos c0]
  rw [e, set_self hA]
  exact ⟨rfl, rfl⟩
 ·skip
  refine W_skip (W_sr ?_)
  refine W_move rfl rfl ?_
  refine W_nilCheck rfl rfl ?_
  refine W_fieldAddr rfl fld88_0 zd rfl ?_
  refine W_store (l' := tmRow pb bb (As.set i { o with made := true })) rfl rfl ty4 rfl rfl (b := tb) zM (tm_lt hA zd) (tm_set0 hA) zU ?_
  refine W_nil (W_sr ?_)
  refine W_assign rfl rfl ?_
  refine W_nil ?_
  refine W_ret1m Tryz.results36 rfl (.nil _) (.refl _) ?_
  have e : initO o = ({ o with made := true }, 0) := by unfold initO; rw [if_neg (by rw [hs]; decide), if_neg (by rw [c0]; decide)]
  rw [e]
  exact ⟨rfl, rfl⟩
theorem set1_L {w0 : World} {H : Heap} {pb bb tb i : Nat} {As : List Tone} {o : Tone} (hA : As[i]? = some o) {b5 : Nat} {prog : Int} (hs : o.shut = false) (hp : 0 ≤ prog ∧ prog < 16) : LCalls Tryz.prog w0 37 #[.pointer (some ⟨tb, 2 + i * 4, none⟩), .pointer (some ⟨b5, 0, none⟩)] ((tb, .cells 91 1026 (tmRow pb bb As)) :: (b5, .cells 3 1 [.int .i64 prog]) :: H) (fun v H' => v = .int .i64 ((setO prog) o).2 ∧ H' = (tb, .cells 91 1026 (tmRow pb bb (As.set i ((setO prog) o).1))) :: H) := by
 refine L_enter (l := [.pointer (some ⟨tb, 2 + i * 4, none⟩), .pointer (some ⟨b5, 0, none⟩)]) Tryz.func37 rfl Tryz.ntmps37 rfl rfl ?_
 refine W_sr ?_
 refine W_assign rfl rfl ?_
 refine W_nil (W_seq (W_sr ?_))
 refine W_move rfl rfl ?_
 refine W_nilCheck rfl rfl ?_
 refine W_fieldAddr rfl fld88_0 zd rfl ?_
 refine W_load (v := .bool o.made) rfl ty4 rfl (Cell.own (b := tb) zM (tm_get0 hA)) rfl ?_
 refine W_not rfl rfl ?_
 refine W_nil ?_
 refine W_condS rfl (fun c0 => ?_) (fun c0 => ?_)
 ·simp only [cond_true, cond_false, Bool.and_eq_true, Bool.or_eq_true, Bool.and_eq_false_iff, Bool.or_eq_false_iff, decide_eq_true_eq, decide_eq_false_iff_not, Bool.not_eq_true', Bool.not_eq_false', ne_eq, Decidable.not_not] at c0
  refine W_sr ?_
  refine W_assign rfl rfl ?_
  refine W_nil ?_
  refine W_ret1m (H2 := (tb, .cells 91 1026 (tmRow pb bb As)) :: H) Tryz.results37 rfl (.nil _) zH ?_
  have e : setO prog o = (o, 1) := by unfold setO; rw [if_neg (by rw [hs]; decide), if_pos c0]
  rw [e, set_self hA]
  exact ⟨rfl, rfl⟩
 ·simp only [cond_true, cond_false, Bool.and_eq_true, Bool.or_eq_true, Bool.and_eq_false_iff, Bool.or_eq_false_iff, decide_eq_true_eq, decide_eq_false_iff_not, Bool.not_eq_true', Bool.not_eq_false', ne_eq, Decidable.not_not] at c0
  refine W_skip (W_sr ?_)
  refine W_move rfl rfl ?_
  refine W_load (v := .int .i64 prog) rfl ty3 rfl (Cell.own (b := b5) zM rfl) rfl ?_
  refine W_bin rfl rfl (b_add (m := prog + 1) (i64w zO)) rfl ?_
  refine W_nilCheck rfl rfl ?_
  refine W_fieldAddr rfl fld88_2 zd rfl ?_
  refine W_store (l' := tmRow pb bb (As.set i { o with prog := prog + 1 })) rfl rfl ty3 rfl rfl (b := tb) zM (tm_lt hA zd) (tm_set2 hA) zU ?_
  refine W_nil (W_sr ?_)
  refine W_assign rfl rfl ?_
  refine W_nil ?_
  refine W_ret1m (H2 := (tb, .cells 91 1026 (tmRow pb bb (As.set i { o with prog := prog + 1 }))) :: H) Tryz.results37 rfl (.nil _) zH ?_
  have e : setO prog o = ({ o with prog := prog + 1 }, 0) := by unfold setO; rw [if_neg (by rw [hs]; decide), if_neg (by rw [c0]; decide)]
  rw [e]
  exact ⟨rfl, rfl⟩
theorem Init_at {w0 : World} {H : Heap} {pb bb tb i : Nat} {As : List Tone} {o : Tone} (hA : As[i]? = some o) (hi : i < 256)  : LCalls Tryz.prog w0 9 #[.pointer (some ⟨tb, 0, none⟩), .int .i64 (i : Int)] ((tb, .cells 91 1026 (tmRow pb bb As)) :: H) (fun v H' => v = .int .i64 (initO o).2 ∧ H' = (tb, .cells 91 1026 (tmRow pb bb (As.set i (initO o).1))) :: H) := by
 refine L_enter (l := [.pointer (some ⟨tb, 0, none⟩), .int .i64 (i : Int)]) Tryz.func9 rfl Tryz.ntmps9 rfl rfl ?_
 refine W_sr ?_
 refine W_assign rfl rfl ?_
 refine W_nil (W_sr ?_)
 refine W_move rfl rfl ?_
 refine W_move rfl rfl ?_
 cases hs : o.shut
 ·skip
  refine W_call (.cons rfl (.cons rfl (.cons rfl .nil))) Tryz.call35 rfl (open_in (ca := []) Tryz.call36 hi hA zM hs (init1_L (H := H) hA hs) (by rintro v H2 ⟨rfl, _⟩; exact ⟨_, rfl⟩)) ?_
  rintro v H' ⟨rfl, rfl⟩
  refine W_assign rfl rfl ?_
  refine W_nil ?_
  refine W_ret1m Tryz.results9 rfl (.nil _) (.refl _) ?_
  exact ⟨rfl, rfl⟩
 ·skip
  refine W_call (.cons rfl (.cons rfl (.cons rfl .nil))) Tryz.call35 rfl (open_gone (ca := []) hi hA zM hs) ?_
  rintro v H' ⟨rfl, rfl⟩
  refine W_assign rfl rfl ?_
  refine W_nil ?_
  refine W_ret1m Tryz.results9 rfl (.nil _) (.refl _) ?_
  have e : initO o = (o, 22) := by unfold initO; rw [if_pos hs]
  rw [e, set_self hA]
  exact ⟨rfl, rfl⟩
theorem Init_out {tb : Nat} {id : Int} (hi : ¬ (0 ≤ id ∧ id < 256)) : Pure Tryz.prog (fun _ => True) 9 [.pointer (some ⟨tb, 0, none⟩), .int .i64 id] (.int .i64 2) := by
 intro w0 H hT
 refine L_enter Tryz.func9 rfl Tryz.ntmps9 rfl rfl ?_
 refine W_sr ?_
 refine W_assign rfl rfl ?_
 refine W_nil (W_sr ?_)
 refine W_move rfl rfl ?_
 refine W_move rfl rfl ?_
 refine W_callp (.cons rfl (.cons rfl (.cons rfl .nil))) Tryz.call35 rfl (T := fun _ => True) trivial (open_out hi) ?_
 refine W_assign rfl rfl ?_
 refine W_nil ?_
 refine W_ret1m (H2 := H) Tryz.results9 rfl (.nil _) zH ?_
 exact ⟨rfl, rfl⟩
theorem initO_rng {o : Tone} (h : 0 ≤ o.prog ∧ o.prog ≤ 16) : 0 ≤ (initO o).1.prog ∧ (initO o).1.prog ≤ 16 := by
 unfold initO; split
 ·exact h
 ·split <;> exact h
theorem setO_rng {o : Tone} {prog : Int} (hp : 0 ≤ prog ∧ prog < 16) (h : 0 ≤ o.prog ∧ o.prog ≤ 16) : 0 ≤ (setO prog o).1.prog ∧ (setO prog o).1.prog ≤ 16 := by
 unfold setO; split
 ·exact h
 ·split
  ·exact h
  ·show 0 ≤ prog + 1 ∧ prog + 1 ≤ 16; omega
theorem Init_L {w0 : World} {H : Heap} {HB : Heap} {tb n : Nat} {Ws : List Wl} {Q Rs : List (Int × Int)} {As : List Tone} (hT : TimerH tb n Ws Q Rs As HB) {id : Int} : LCalls Tryz.prog w0 9 #[.pointer (some ⟨tb, 0, none⟩), .int .i64 id] (HB ++ H) (fun v H' => ∃ HB', TimerH tb n Ws Q Rs (onA initO As id).1 HB' ∧ v = .int .i64 (onA initO As id).2 ∧ H' = HB' ++ H) := by
 by_cases hi : 0 ≤ id ∧ id < 256
 ·obtain ⟨i, rfl⟩ : ∃ i : Nat, id = (i : Int) := ⟨id.toNat, by omega⟩
  cases hT with
  | @mk pb bb HP HBk hP hB hA hn =>
   obtain ⟨o, ho⟩ := hA.at (i := i) zO
   refine (Init_at (H := (HP ++ HBk) ++ H) ho zO).mono ?_
   rintro v H' ⟨rfl, rfl⟩
   rw [onA_at (by omega) ho]
   exact ⟨_, .mk hP hB (hA.set i (initO_rng (hA.rng o (List.mem_of_getElem? ho)))) hn, rfl, rfl⟩
 ·rw [onA_out hi]
  refine (Init_out hi w0 _ trivial).mono ?_
  rintro v H' ⟨rfl, rfl⟩
  exact ⟨HB, hT, rfl, rfl⟩
theorem Set_lo {tb : Nat} {id prog : Int} (hp : prog < 0) : Pure Tryz.prog (fun _ => True) 10 [.pointer (some ⟨tb, 0, none⟩), .int .i64 id, .int .i64 prog] (.int .i64 2) := by
 intro w0 H hT
 refine L_enter Tryz.func10 rfl Tryz.ntmps10 rfl rfl ?_
 refine W_sr ?_
 refine W_box (l := [.int .i64 prog]) rfl rfl rfl (fun b5 => ?_)
 refine W_assign rfl rfl ?_
 refine W_nil (W_seq (W_sr ?_))
 refine W_move rfl rfl ?_
 refine W_x (X_ptrNotNil rfl rfl ty25) (fun _ h => by cases h) rfl ?_
 refine W_move rfl rfl ?_
 refine W_gyes rfl rfl ?_
 refine W_load (v := .int .i64 prog) rfl ty3 rfl (Cell.own (b := b5) zM rfl) rfl ?_
 refine W_gyes rfl rfl ?_
 refine W_bin rfl rfl b_lss rfl ?_
 first | rw [decide_eq_true (by omega)] | rw [decide_eq_false (by omega)]
 refine W_gyes rfl rfl ?_
 refine W_move rfl rfl ?_
 refine W_gno rfl rfl rfl ?_
 refine W_gno rfl rfl rfl ?_
 refine W_gyes rfl rfl ?_
 first | refine W_pickt rfl rfl rfl ?_ | refine W_pickf rfl rfl rfl ?_
 first | refine W_pickt rfl rfl rfl ?_ | refine W_pickf rfl rfl rfl ?_
 refine W_nil ?_
 refine W_condT rfl rfl ?_
 refine W_sr ?_
 refine W_assign rfl rfl ?_
 refine W_nil ?_
 refine W_ret1m (H2 := H) Tryz.results10 rfl (.nil _) zH ?_
 exact ⟨rfl, rfl⟩
theorem Set_hi {tb : Nat} {id prog : Int} (hp : 16 ≤ prog) : Pure Tryz.prog (fun _ => True) 10 [.pointer (some ⟨tb, 0, none⟩), .int .i64 id, .int .i64 prog] (.int .i64 2) := by
 intro w0 H hT
 refine L_enter Tryz.func10 rfl Tryz.ntmps10 rfl rfl ?_
 refine W_sr ?_
 refine W_box (l := [.int .i64 prog]) rfl rfl rfl (fun b5 => ?_)
 refine W_assign rfl rfl ?_
 refine W_nil (W_seq (W_sr ?_))
 refine W_move rfl rfl ?_
 refine W_x (X_ptrNotNil rfl rfl ty25) (fun _ h => by cases h) rfl ?_
 refine W_move rfl rfl ?_
 refine W_gyes rfl rfl ?_
 refine W_load (v := .int .i64 prog) rfl ty3 rfl (Cell.own (b := b5) zM rfl) rfl ?_
 refine W_gyes rfl rfl ?_
 refine W_bin rfl rfl b_lss rfl ?_
 first | rw [decide_eq_true (by omega)] | rw [decide_eq_false (by omega)]
 refine W_gyes rfl rfl ?_
 refine W_move rfl rfl ?_
 refine W_gyes rfl rfl ?_
 refine W_load (v := .int .i64 prog) rfl ty3 rfl (Cell.own (b := b5) zM rfl) rfl ?_
 refine W_gyes rfl rfl ?_
 refine W_bin rfl rfl b_geq rfl ?_
 first | rw [decide_eq_true (by omega)] | rw [decide_eq_false (by omega)]
 refine W_gyes rfl rfl ?_
 first | refine W_pickt rfl rfl rfl ?_ | refine W_pickf rfl rfl rfl ?_
 first | refine W_pickt rfl rfl rfl ?_ | refine W_pickf rfl rfl rfl ?_
 refine W_nil ?_
 refine W_condT rfl rfl ?_
 refine W_sr ?_
 refine W_assign rfl rfl ?_
 refine W_nil ?_
 refine W_ret1m (H2 := H) Tryz.results10 rfl (.nil _) zH ?_
 exact ⟨rfl, rfl⟩
theorem Set_out {tb : Nat} {id prog : Int} (hp : 0 ≤ prog ∧ prog < 16) (hi : ¬ (0 ≤ id ∧ id < 256)) : Pure Tryz.prog (fun _ => True) 10 [.pointer (some ⟨tb, 0, none⟩), .int .i64 id, .int .i64 prog] (.int .i64 2) := by
 intro w0 H hT
 refine L_enter Tryz.func10 rfl Tryz.ntmps10 rfl rfl ?_
 refine W_sr ?_
 refine W_box (l := [.int .i64 prog]) rfl rfl rfl (fun b5 => ?_)
 refine W_assign rfl rfl ?_
 refine W_nil (W_seq (W_sr ?_))
 refine W_move rfl rfl ?_
 refine W_x (X_ptrNotNil rfl rfl ty25) (fun _ h => by cases h) rfl ?_
 refine W_move rfl rfl ?_
 refine W_gyes rfl rfl ?_
 refine W_load (v := .int .i64 prog) rfl ty3 rfl (Cell.own (b := b5) zM rfl) rfl ?_
 refine W_gyes rfl rfl ?_
 refine W_bin rfl rfl b_lss rfl ?_
 first | rw [decide_eq_true (by omega)] | rw [decide_eq_false (by omega)]
 refine W_gyes rfl rfl ?_
 refine W_move rfl rfl ?_
 refine W_gyes rfl rfl ?_
 refine W_load (v := .int .i64 prog) rfl ty3 rfl (Cell.own (b := b5) zM rfl) rfl ?_
 refine W_gyes rfl rfl ?_
 refine W_bin rfl rfl b_geq rfl ?_
 first | rw [decide_eq_true (by omega)] | rw [decide_eq_false (by omega)]
 refine W_gyes rfl rfl ?_
 first | refine W_pickt rfl rfl rfl ?_ | refine W_pickf rfl rfl rfl ?_
 first | refine W_pickt rfl rfl rfl ?_ | refine W_pickf rfl rfl rfl ?_
 refine W_nil ?_
 refine W_condF rfl rfl ?_
 refine W_skip (W_sr ?_)
 refine W_move rfl rfl ?_
 refine W_move rfl rfl ?_
 refine W_makeFunc .nil (.cons rfl .nil) rfl ?_
 refine W_callp (.cons rfl (.cons rfl (.cons rfl .nil))) Tryz.call35 rfl (T := fun _ => True) trivial (open_out hi) ?_
 refine W_assign rfl rfl ?_
 refine W_nil ?_
 refine W_ret1m (H2 := H) Tryz.results10 rfl (.nil _) zH ?_
 exact ⟨rfl, rfl⟩
theorem Set_at {w0 : World} {H : Heap} {pb bb tb i : Nat} {As : List Tone} {o : Tone} (hA : As[i]? = some o) {prog : Int} (hi : i < 256) (hp : 0 ≤ prog ∧ prog < 16)  : LCalls Tryz.prog w0 10 #[.pointer (some ⟨tb, 0, none⟩), .int .i64 (i : Int), .int .i64 prog] ((tb, .cells 91 1026 (tmRow pb bb As)) :: H) (fun v H' => v = .int .i64 ((setO prog) o).2 ∧ H' = (tb, .cells 91 1026 (tmRow pb bb (As.set i ((setO prog) o).1))) :: H) := by
 refine L_enter (l := [.pointer (some ⟨tb, 0, none⟩), .int .i64 (i : Int), .int .i64 prog]) Tryz.func10 rfl Tryz.ntmps10 rfl rfl ?_
 refine W_sr ?_
 refine W_box (l := [.int .i64 prog]) rfl rfl rfl (fun b5 => ?_)
 refine W_assign rfl rfl ?_
 refine W_nil (W_seq (W_sr ?_))
 refine W_move rfl rfl ?_
 refine W_x (X_ptrNotNil rfl rfl ty25) (fun _ h => by cases h) rfl ?_
 refine W_move rfl rfl ?_
 refine W_gyes rfl rfl ?_
 refine W_load (v := .int .i64 prog) rfl ty3 rfl (Cell.own (b := b5) zM rfl) rfl ?_
 refine W_gyes rfl rfl ?_
 refine W_bin rfl rfl b_lss rfl ?_
 first | rw [decide_eq_true (by omega)] | rw [decide_eq_false (by omega)]
 refine W_gyes rfl rfl ?_
 refine W_move rfl rfl ?_
 refine W_gyes rfl rfl ?_
 refine W_load (v := .int .i64 prog) rfl ty3 rfl (Cell.own (b := b5) zM rfl) rfl ?_
 refine W_gyes rfl rfl ?_
 refine W_bin rfl rfl b_geq rfl ?_
 first | rw [decide_eq_true (by omega)] | rw [decide_eq_false (by omega)]
 refine W_gyes rfl rfl ?_
 first | refine W_pickt rfl rfl rfl ?_ | refine W_pickf rfl rfl rfl ?_
 first | refine W_pickt rfl rfl rfl ?_ | refine W_pickf rfl rfl rfl ?_
 refine W_nil ?_
 refine W_condF rfl rfl ?_
 refine W_skip (W_sr ?_)
 refine W_move rfl rfl ?_
 refine W_move rfl rfl ?_
 refine W_makeFunc .nil (.cons rfl .nil) rfl ?_
 cases hs : o.shut
 ·skip
  refine W_call (.cons rfl (.cons rfl (.cons rfl .nil))) Tryz.call35 rfl ((open_in (R := fun v H' => v = .int .i64 (setO prog o).2 ∧ H' = (tb, .cells 91 1026 (tmRow pb bb (As.set i (setO prog o).1))) :: H) (ca := [.pointer (some ⟨b5, 0, none⟩)]) Tryz.call37 hi hA zM hs (H := (tb, .cells 91 1026 (tmRow pb bb As)) :: (b5, .cells 3 1 [.int .i64 prog]) :: H) (set1_L (H := H) hA hs hp) (by rintro v H2 ⟨rfl, _⟩; exact ⟨_, rfl⟩)).hsub zH) ?_
  rintro v H' ⟨rfl, rfl⟩
  refine W_assign rfl rfl ?_
  refine W_nil ?_
  refine W_ret1m (H2 := (tb, .cells 91 1026 (tmRow pb bb (As.set i (setO prog o).1))) :: H) Tryz.results10 rfl (.nil _) zH ?_
  exact ⟨rfl, rfl⟩
 ·skip
  refine W_call (.cons rfl (.cons rfl (.cons rfl .nil))) Tryz.call35 rfl ((open_gone (ca := [.pointer (some ⟨b5, 0, none⟩)]) (H := (tb, .cells 91 1026 (tmRow pb bb As)) :: (b5, .cells 3 1 [.int .i64 prog]) :: H) hi hA zM hs).hsub zH) ?_
  rintro v H' ⟨rfl, rfl⟩
  refine W_assign rfl rfl ?_
  refine W_nil ?_
  refine W_ret1m (H2 := (tb, .cells 91 1026 (tmRow pb bb As)) :: H) Tryz.results10 rfl (.nil _) zH ?_
  have e : setO prog o = (o, 22) := by unfold setO; rw [if_pos hs]
  rw [e, set_self hA]
  exact ⟨rfl, rfl⟩
def setA (As : List Tone) (id prog : Int) : List Tone × Int := if 0 ≤ prog ∧ prog < 16 then onA (setO prog) As id else (As, 2)
theorem Set_L {w0 : World} {H : Heap} {HB : Heap} {tb n : Nat} {Ws : List Wl} {Q Rs : List (Int × Int)} {As : List Tone} (hT : TimerH tb n Ws Q Rs As HB) {id prog : Int} : LCalls Tryz.prog w0 10 #[.pointer (some ⟨tb, 0, none⟩), .int .i64 id, .int .i64 prog] (HB ++ H) (fun v H' => ∃ HB', TimerH tb n Ws Q Rs (setA As id prog).1 HB' ∧ v = .int .i64 (setA As id prog).2 ∧ H' = HB' ++ H) := by
 unfold setA
 by_cases hp : 0 ≤ prog ∧ prog < 16
 ·rw [if_pos hp]
  by_cases hi : 0 ≤ id ∧ id < 256
  ·obtain ⟨i, rfl⟩ : ∃ i : Nat, id = (i : Int) := ⟨id.toNat, by omega⟩
   cases hT with
   | @mk pb bb HP HBk hP hB hA hn =>
    obtain ⟨o, ho⟩ := hA.at (i := i) zO
    refine (Set_at (H := (HP ++ HBk) ++ H) ho zO hp).mono ?_
    rintro v H' ⟨rfl, rfl⟩
    rw [onA_at (by omega) ho]
    exact ⟨_, .mk hP hB (hA.set i (setO_rng hp (hA.rng o (List.mem_of_getElem? ho)))) hn, rfl, rfl⟩
  ·rw [onA_out hi]
   refine (Set_out hp hi w0 _ trivial).mono ?_
   rintro v H' ⟨rfl, rfl⟩
   exact ⟨HB, hT, rfl, rfl⟩
 ·rw [if_neg hp]
  by_cases h0 : prog < 0
  ·refine (Set_lo h0 w0 _ trivial).mono ?_
   rintro v H' ⟨rfl, rfl⟩
   exact ⟨HB, hT, rfl, rfl⟩
  ·refine (Set_hi zO w0 _ trivial).mono ?_
   rintro v H' ⟨rfl, rfl⟩
   exact ⟨HB, hT, rfl, rfl⟩
def wasT (Ws : List Wl) (Q : List (Int × Int)) (z : Int) : Bool := decide (0 < cntK Ws [z] Ws.length + (delsQ Q [z]).2)
def stopM (Ws : List Wl) (Q : List (Int × Int)) (o : Tone) (z : Int) : List Wl × List (Int × Int) × Bool × Int := if o.made = true then (Ws.map (delW [z]), delQ Q z, wasT Ws Q z, 0) else (Ws, Q, false, 1)
theorem take_L {w0 : World} {H : Heap} {tb pb bb n : Nat} {HP HBk : Heap} {Ws : List Wl} {Q Rs : List (Int × Int)} {As : List Tone} (hP : PendH pb n Q Rs HP) (hB : BankH bb Ws HBk) (hn : Ws.length = n ∧ n ≤ 64) {z : Int}  : LCalls Tryz.prog w0 41 #[.pointer (some ⟨tb, 0, none⟩), .int .i64 z] ((tb, .cells 91 1026 (tmRow pb bb As)) :: (HP ++ (HBk ++ H))) (fun v H' => ∃ HP2 HB2, PendH pb n (delQ Q z) Rs HP2 ∧ BankH bb (Ws.map (delW [z])) HB2 ∧ v = .bool (wasT Ws Q z) ∧ H' = (tb, .cells 91 1026 (tmRow pb bb As)) :: (HP2 ++ (HB2 ++ H))) := by
 have hc1 := cntK_le Ws [z] Ws.length
 have hc2 : (delsQ Q [z]).2 ≤ 1 := delsQ_le Q [z] 1 (Nat.le_refl _)
 rw [List.length_singleton, Nat.mul_one] at hc1
 refine L_enter (l := [.pointer (some ⟨tb, 0, none⟩), .int .i64 z]) Tryz.func41 rfl Tryz.ntmps41 rfl rfl ?_
 refine W_sr ?_
 refine W_assign rfl rfl ?_
 refine W_nil (W_seq ?_)
 refine W_cutX (X := (Heap × Heap)) (fun _ => [(4, .bool (wasT Ws Q z))]) (fun x => (tb, .cells 91 1026 (tmRow pb bb As)) :: (x.1 ++ (x.2 ++ H))) (fun x => PendH pb n (delQ Q z) Rs x.1 ∧ BankH bb (Ws.map (delW [z])) x.2) ?_ ?_
 ·skip
  refine W_anyC [(tb, .cells 91 1026 (tmRow pb bb As))] zk ?_
  refine WC_take 0 (l' := #[true, false, false, false, false, false, false, false, false, false, false, false, false, false, false, false, false]) rfl zK zK zK rfl zK (X_move rfl) rfl ?_
  refine WC_take 1 (l' := #[true, true, false, false, false, false, false, false, false, false, false, false, false, false, false, false, false]) rfl zK zK zK rfl zK (X_nilCheck rfl) rfl ?_
  refine WC_take 2 (l' := #[true, true, true, false, false, false, false, false, false, false, false, false, false, false, false, false, false]) rfl zK zK zK rfl zK (X_fieldAddr rfl fld91_1 zd) rfl ?_
  refine WC_take 3 (l' := #[true, true, true, true, false, false, false, false, false, false, false, false, false, false, false, false, false]) rfl zK zK zK rfl zK (X_load (v := .pointer (some ⟨bb, 0, none⟩)) rfl ty84 rfl (Cell.own (b := tb) zM rfl)) rfl ?_
  refine WC_take 4 (l' := #[true, true, true, true, true, false, false, false, false, false, false, false, false, false, false, false, false]) rfl zK zK zK rfl zK (X_move rfl) rfl ?_
  refine WC_take 7 (l' := #[true, true, true, true, true, false, false, true, false, false, false, false, false, false, false, false, false]) rfl zK zK zK rfl zK (X_move rfl) rfl ?_
  refine WC_take 8 (l' := #[true, true, true, true, true, false, false, true, true, false, false, false, false, false, false, false, false]) rfl zK zK zK rfl zK (X_nilCheck rfl) rfl ?_
  refine WC_take 9 (l' := #[true, true, true, true, true, false, false, true, true, true, false, false, false, false, false, false, false]) rfl zK zK zK rfl zK (X_fieldAddr rfl fld91_0 zd) rfl ?_
  refine WC_take 10 (l' := #[true, true, true, true, true, false, false, true, true, true, true, false, false, false, false, false, false]) rfl zK zK zK rfl zK (X_load (v := .pointer (some ⟨pb, 0, none⟩)) rfl ty81 rfl (Cell.own (b := tb) zM rfl)) rfl ?_
  refine WC_take 11 (l' := #[true, true, true, true, true, false, false, true, true, true, true, true, false, false, false, false, false]) rfl zK zK zK rfl zK (X_move rfl) rfl ?_
  refine WC_two 5 12 (l' := #[true, true, true, true, true, true, false, true, true, true, true, true, false, false, false, false, false]) (l'' := #[true, true, true, true, true, false, false, true, true, true, true, true, true, false, false, false, false]) zH zK rfl rfl zK zK ?_ ?_
  ·skip
   refine W_buildSlice (l := [.int .i64 z]) ty24 ty3 (.cons rfl rfl rfl rfl rfl .nil) rfl rfl rfl rfl rfl rfl rfl (fun b10 => ?_)
   refine W_nil ?_
   refine WC_goal ?_
   refine WC_two 6 12 (l' := #[true, true, true, true, true, true, true, true, true, true, true, true, false, false, false, false, false]) (l'' := #[true, true, true, true, true, true, false, true, true, true, true, true, true, false, false, false, false]) zH zK rfl rfl zK zK ?_ ?_
   ·skip
    refine W_call (.cons rfl (.cons rfl .nil)) Tryz.call77 rfl ((DelB_L hB zO (l := [z]) (ad := some ⟨b10, 0, none⟩) (cap := 1) (by show 1 ≤ 4611686018427387904; decide) (by show 1 ≤ 1000000; decide) (Holds.own (b := b10) zM) (H := (b10, .cells 3 1 [.int .i64 z]) :: (tb, .cells 91 1026 (tmRow pb bb As)) :: (HP ++ H))).hsub zH) ?_
    rintro v H' ⟨HB2, hB2, rfl, rfl⟩
    refine W_nil ?_
    refine WC_goal ?_
    refine WC_one 12 (l' := #[true, true, true, true, true, true, true, true, true, true, true, true, true, false, false, false, false]) zH zK rfl zK ?_
    refine W_buildSlice (l := [.int .i64 z]) ty24 ty3 (.cons rfl rfl rfl rfl rfl .nil) rfl rfl rfl rfl rfl rfl rfl (fun b17 => ?_)
    refine W_nil ?_
    refine WC_goal ?_
    refine WC_one 13 (l' := #[true, true, true, true, true, true, true, true, true, true, true, true, true, true, false, false, false]) zH zK rfl zK ?_
    refine W_call (.cons rfl (.cons rfl .nil)) Tryz.call78 rfl ((pDel_L hP zO (ids := [z]) (ad := some ⟨b17, 0, none⟩) (cap := 1) (by show 1 ≤ 1000000; decide) (Holds.own (b := b17) zM) (H := (b17, .cells 3 1 [.int .i64 z]) :: (tb, .cells 91 1026 (tmRow pb bb As)) :: (HB2 ++ H))).hsub zH) ?_
    rintro v H' ⟨HP2, hP2, rfl, rfl⟩
    refine W_nil ?_
    refine WC_goal ?_
    refine WC_take 14 (l' := #[true, true, true, true, true, true, true, true, true, true, true, true, true, true, true, false, false]) rfl (by decide +kernel) (by decide +kernel) (by decide +kernel) rfl (by decide +kernel) (X_bin rfl rfl (b_add (m := ((cntK Ws [z] Ws.length + (delsQ Q [z]).2 : Nat) : Int)) (by rw [i64w (by omega)]; omega))) rfl ?_
    refine WC_take 15 (l' := #[true, true, true, true, true, true, true, true, true, true, true, true, true, true, true, true, false]) rfl zK zK zK rfl zK (X_bin rfl rfl b_gtr) rfl ?_
    rw [show decide ((0 : Int) < ((cntK Ws [z] Ws.length + (delsQ Q [z]).2 : Nat) : Int)) = wasT Ws Q z from decide_eq_decide.2 (by omega)]
    refine WC_take 16 (l' := #[true, true, true, true, true, true, true, true, true, true, true, true, true, true, true, true, true]) rfl zK zK zK rfl zK (X_assign rfl) rfl ?_
    refine WC_done zH zK ?_
    refine W_joinX (HP2, HB2) ⟨hP2, hB2⟩ (sub_cons rfl (sub_nil _)) zH
   ·skip
    refine W_buildSlice (l := [.int .i64 z]) ty24 ty3 (.cons rfl rfl rfl rfl rfl .nil) rfl rfl rfl rfl rfl rfl rfl (fun b17 => ?_)
    refine W_nil ?_
    refine WC_goal ?_
    refine WC_one 6 (l' := #[true, true, true, true, true, true, true, true, true, true, true, true, true, false, false, false, false]) zH zK rfl zK ?_
    refine W_call (.cons rfl (.cons rfl .nil)) Tryz.call77 rfl ((DelB_L hB zO (l := [z]) (ad := some ⟨b10, 0, none⟩) (cap := 1) (by show 1 ≤ 4611686018427387904; decide) (by show 1 ≤ 1000000; decide) (Holds.own (b := b10) zM) (H := (b10, .cells 3 1 [.int .i64 z]) :: (b17, .cells 3 1 [.int .i64 z]) :: (tb, .cells 91 1026 (tmRow pb bb As)) :: (HP ++ H))).hsub zH) ?_
    rintro v H' ⟨HB2, hB2, rfl, rfl⟩
    refine W_nil ?_
    refine WC_goal ?_
    refine WC_one 13 (l' := #[true, true, true, true, true, true, true, true, true, true, true, true, true, true, false, false, false]) zH zK rfl zK ?_
    refine W_call (.cons rfl (.cons rfl .nil)) Tryz.call78 rfl ((pDel_L hP zO (ids := [z]) (ad := some ⟨b17, 0, none⟩) (cap := 1) (by show 1 ≤ 1000000; decide) (Holds.own (b := b17) zM) (H := (b17, .cells 3 1 [.int .i64 z]) :: (tb, .cells 91 1026 (tmRow pb bb As)) :: (HB2 ++ H))).hsub zH) ?_
    rintro v H' ⟨HP2, hP2, rfl, rfl⟩
    refine W_nil ?_
    refine WC_goal ?_
    refine WC_take 14 (l' := #[true, true, true, true, true, true, true, true, true, true, true, true, true, true, true, false, false]) rfl (by decide +kernel) (by decide +kernel) (by decide +kernel) rfl (by decide +kernel) (X_bin rfl rfl (b_add (m := ((cntK Ws [z] Ws.length + (delsQ Q [z]).2 : Nat) : Int)) (by rw [i64w (by omega)]; omega))) rfl ?_
    refine WC_take 15 (l' := #[true, true, true, true, true, true, true, true, true, true, true, true, true, true, true, true, false]) rfl zK zK zK rfl zK (X_bin rfl rfl b_gtr) rfl ?_
    rw [show decide ((0 : Int) < ((cntK Ws [z] Ws.length + (delsQ Q [z]).2 : Nat) : Int)) = wasT Ws Q z from decide_eq_decide.2 (by omega)]
    refine WC_take 16 (l' := #[true, true, true, true, true, true, true, true, true, true, true, true, true, true, true, true, true]) rfl zK zK zK rfl zK (X_assign rfl) rfl ?_
    refine WC_done zH zK ?_
    refine W_joinX (HP2, HB2) ⟨hP2, hB2⟩ (sub_cons rfl (sub_nil _)) zH
  ·skip
   refine W_buildSlice (l := [.int .i64 z]) ty24 ty3 (.cons rfl rfl rfl rfl rfl .nil) rfl rfl rfl rfl rfl rfl rfl (fun b17 => ?_)
   refine W_nil ?_
   refine WC_goal ?_
   refine WC_one 5 (l' := #[true, true, true, true, true, true, false, true, true, true, true, true, true, false, false, false, false]) zH zK rfl zK ?_
   refine W_buildSlice (l := [.int .i64 z]) ty24 ty3 (.cons rfl rfl rfl rfl rfl .nil) rfl rfl rfl rfl rfl rfl rfl (fun b10 => ?_)
   refine W_nil ?_
   refine WC_goal ?_
   refine WC_one 6 (l' := #[true, true, true, true, true, true, true, true, true, true, true, true, true, false, false, false, false]) zH zK rfl zK ?_
   refine W_call (.cons rfl (.cons rfl .nil)) Tryz.call77 rfl ((DelB_L hB zO (l := [z]) (ad := some ⟨b10, 0, none⟩) (cap := 1) (by show 1 ≤ 4611686018427387904; decide) (by show 1 ≤ 1000000; decide) (Holds.own (b := b10) zM) (H := (b10, .cells 3 1 [.int .i64 z]) :: (b17, .cells 3 1 [.int .i64 z]) :: (tb, .cells 91 1026 (tmRow pb bb As)) :: (HP ++ H))).hsub zH) ?_
   rintro v H' ⟨HB2, hB2, rfl, rfl⟩
   refine W_nil ?_
   refine WC_goal ?_
   refine WC_one 13 (l' := #[true, true, true, true, true, true, true, true, true, true, true, true, true, true, false, false, false]) zH zK rfl zK ?_
   refine W_call (.cons rfl (.cons rfl .nil)) Tryz.call78 rfl ((pDel_L hP zO (ids := [z]) (ad := some ⟨b17, 0, none⟩) (cap := 1) (by show 1 ≤ 1000000; decide) (Holds.own (b := b17) zM) (H := (b17, .cells 3 1 [.int .i64 z]) :: (tb, .cells 91 1026 (tmRow pb bb As)) :: (HB2 ++ H))).hsub zH) ?_
   rintro v H' ⟨HP2, hP2, rfl, rfl⟩
   refine W_nil ?_
   refine WC_goal ?_
   refine WC_take 14 (l' := #[true, true, true, true, true, true, true, true, true, true, true, true, true, true, true, false, false]) rfl (by decide +kernel) (by decide +kernel) (by decide +kernel) rfl (by decide +kernel) (X_bin rfl rfl (b_add (m := ((cntK Ws [z] Ws.length + (delsQ Q [z]).2 : Nat) : Int)) (by rw [i64w (by omega)]; omega))) rfl ?_
   refine WC_take 15 (l' := #[true, true, true, true, true, true, true, true, true, true, true, true, true, true, true, true, false]) rfl zK zK zK rfl zK (X_bin rfl rfl b_gtr) rfl ?_
   rw [show decide ((0 : Int) < ((cntK Ws [z] Ws.length + (delsQ Q [z]).2 : Nat) : Int)) = wasT Ws Q z from decide_eq_decide.2 (by omega)]
   refine WC_take 16 (l' := #[true, true, true, true, true, true, true, true, true, true, true, true, true, true, true, true, true]) rfl zK zK zK rfl zK (X_assign rfl) rfl ?_
   refine WC_done zH zK ?_
   refine W_joinX (HP2, HB2) ⟨hP2, hB2⟩ (sub_cons rfl (sub_nil _)) zH
 rintro ⟨HP2, HB2⟩ ⟨hP2, hB2⟩
 dsimp only at hP2 hB2 ⊢
 refine W_ret1m (H2 := (tb, .cells 91 1026 (tmRow pb bb As)) :: (HP2 ++ (HB2 ++ H))) Tryz.results41 rfl (.nil _) zH ?_
 exact ⟨HP2, HB2, hP2, hB2, rfl, rfl⟩
theorem stop1_L {w0 : World} {H : Heap} {tb pb bb n : Nat} {HP HBk : Heap} {Ws : List Wl} {Q Rs : List (Int × Int)} {As : List Tone} (hP : PendH pb n Q Rs HP) (hB : BankH bb Ws HBk) (hn : Ws.length = n ∧ n ≤ 64) {i : Nat} {o : Tone} {z : Int} (hA : As[i]? = some o) {b2 b3 b6 : Nat}  : LCalls Tryz.prog w0 50 #[.pointer (some ⟨tb, 2 + i * 4, none⟩), .pointer (some ⟨b2, 0, none⟩), .pointer (some ⟨b3, 0, none⟩), .pointer (some ⟨b6, 0, none⟩)] ((b2, .cells 25 1 [.pointer (some ⟨tb, 0, none⟩)]) :: (b3, .cells 3 1 [.int .i64 z]) :: (b6, .cells 4 1 [.bool false]) :: (tb, .cells 91 1026 (tmRow pb bb As)) :: (HP ++ (HBk ++ H))) (fun v H' => ∃ HP2 HB2, PendH pb n (stopM Ws Q o z).2.1 Rs HP2 ∧ BankH bb (stopM Ws Q o z).1 HB2 ∧ v = .int .i64 (stopM Ws Q o z).2.2.2 ∧ H' = (b6, .cells 4 1 [.bool (stopM Ws Q o z).2.2.1]) :: (tb, .cells 91 1026 (tmRow pb bb As)) :: (HP2 ++ (HB2 ++ H))) := by
 refine L_enter (l := [.pointer (some ⟨tb, 2 + i * 4, none⟩), .pointer (some ⟨b2, 0, none⟩), .pointer (some ⟨b3, 0, none⟩), .pointer (some ⟨b6, 0, none⟩)]) Tryz.func50 rfl Tryz.ntmps50 rfl rfl ?_
 refine W_sr ?_
 refine W_assign rfl rfl ?_
 refine W_nil (W_seq (W_sr ?_))
 refine W_move rfl rfl ?_
 refine W_nilCheck rfl rfl ?_
 refine W_fieldAddr rfl fld88_0 zd rfl ?_
 refine W_load (v := .bool o.made) rfl ty4 rfl (Cell.own (b := tb) zM (tm_get0 hA)) rfl ?_
 refine W_not rfl rfl ?_
 refine W_nil ?_
 refine W_condS rfl (fun c0 => ?_) (fun c0 => ?_)
 ·simp only [cond_true, cond_false, Bool.and_eq_true, Bool.or_eq_true, Bool.and_eq_false_iff, Bool.or_eq_false_iff, decide_eq_true_eq, decide_eq_false_iff_not, Bool.not_eq_true', Bool.not_eq_false', ne_eq, Decidable.not_not] at c0
  refine W_sr ?_
  refine W_assign rfl rfl ?_
  refine W_nil ?_
  refine W_ret1m (H2 := (b6, .cells 4 1 [.bool false]) :: (tb, .cells 91 1026 (tmRow pb bb As)) :: (HP ++ (HBk ++ H))) Tryz.results50 rfl (.nil _) zH ?_
  have e : stopM Ws Q o z = (Ws, Q, false, 1) := by unfold stopM; rw [if_neg (by rw [c0]; decide)]
  rw [e]
  exact ⟨HP, HBk, hP, hB, rfl, rfl⟩
 ·simp only [cond_true, cond_false, Bool.and_eq_true, Bool.or_eq_true, Bool.and_eq_false_iff, Bool.or_eq_false_iff, decide_eq_true_eq, decide_eq_false_iff_not, Bool.not_eq_true', Bool.not_eq_false', ne_eq, Decidable.not_not] at c0
  refine W_skip (W_sr ?_)
  refine W_load (v := .pointer (some ⟨tb, 0, none⟩)) rfl ty25 rfl (Cell.own (b := b2) zM rfl) rfl ?_
  refine W_load (v := .int .i64 z) rfl ty3 rfl (Cell.own (b := b3) zM rfl) rfl ?_
  refine W_call (.cons rfl (.cons rfl .nil)) Tryz.call41 rfl ((take_L (z := z) hP hB hn (As := As) (H := (b6, .cells 4 1 [.bool false]) :: H)).hsub zH) ?_
  rintro v H' ⟨HP2, HB2, hP2, hB2, rfl, rfl⟩
  refine W_store (l' := [.bool (wasT Ws Q z)]) rfl rfl ty4 rfl rfl (b := b6) zM rfl rfl zU ?_
  refine W_nil (W_sr ?_)
  refine W_assign rfl rfl ?_
  refine W_nil ?_
  refine W_ret1m (H2 := (b6, .cells 4 1 [.bool (wasT Ws Q z)]) :: (tb, .cells 91 1026 (tmRow pb bb As)) :: (HP2 ++ (HB2 ++ H))) Tryz.results50 rfl (.nil _) zH ?_
  have e : stopM Ws Q o z = (Ws.map (delW [z]), delQ Q z, wasT Ws Q z, 0) := by unfold stopM; rw [if_pos c0]
  rw [e]
  exact ⟨HP2, HB2, hP2, hB2, rfl, rfl⟩
theorem Stop_at {w0 : World} {H : Heap} {tb pb bb n : Nat} {HP HBk : Heap} {Ws : List Wl} {Q Rs : List (Int × Int)} {As : List Tone} (hP : PendH pb n Q Rs HP) (hB : BankH bb Ws HBk) (hn : Ws.length = n ∧ n ≤ 64) {i : Nat} {o : Tone} (hi : i < 256) (hA : As[i]? = some o)  : LCalls Tryz.prog w0 16 #[.pointer (some ⟨tb, 0, none⟩), .int .i64 (i : Int)] ((tb, .cells 91 1026 (tmRow pb bb As)) :: (HP ++ (HBk ++ H))) (fun v H' => ∃ HP2 HB2, PendH pb n (stopM Ws Q o (i : Int)).2.1 Rs HP2 ∧ BankH bb (stopM Ws Q o (i : Int)).1 HB2 ∧ v = .tuple #[.bool (stopM Ws Q o (i : Int)).2.2.1, .int .i64 (stopM Ws Q o (i : Int)).2.2.2] ∧ H' = (tb, .cells 91 1026 (tmRow pb bb As)) :: (HP2 ++ (HB2 ++ H))) := by
 refine L_enter (l := [.pointer (some ⟨tb, 0, none⟩), .int .i64 (i : Int)]) Tryz.func16 rfl Tryz.ntmps16 rfl rfl ?_
 refine W_sr ?_
 refine W_box (l := [.pointer (some ⟨tb, 0, none⟩)]) rfl rfl rfl (fun b2 => ?_)
 refine W_box (l := [.int .i64 (i : Int)]) rfl rfl rfl (fun b3 => ?_)
 refine W_assign rfl rfl ?_
 refine W_assign rfl rfl ?_
 refine W_nil (W_sr ?_)
 refine W_alloc (l := [.bool false]) ty4 rfl rfl (fun b6 => ?_)
 refine W_store (l' := [.bool false]) rfl rfl ty4 rfl rfl (b := b6) zM rfl rfl zU ?_
 refine W_nil (W_sr ?_)
 refine W_load (v := .pointer (some ⟨tb, 0, none⟩)) rfl ty25 rfl (Cell.own (b := b2) zM rfl) rfl ?_
 refine W_load (v := .int .i64 (i : Int)) rfl ty3 rfl (Cell.own (b := b3) zM rfl) rfl ?_
 refine W_makeFunc .nil (.cons rfl (.cons rfl (.cons rfl .nil))) rfl ?_
 refine W_call (.cons rfl (.cons rfl (.cons rfl .nil))) Tryz.call49 rfl ((with_in (i := i) (fi := 50) (ca := [.pointer (some ⟨b2, 0, none⟩), .pointer (some ⟨b3, 0, none⟩), .pointer (some ⟨b6, 0, none⟩)]) Tryz.call50 hi (stop1_L (z := (i : Int)) (b2 := b2) (b3 := b3) (b6 := b6) hP hB hn hA (H := H)) ?_).hsub zH) ?_
 ·rintro v H2 ⟨_, _, _, _, e, _⟩
  exact ⟨_, e⟩
 rintro v H' ⟨HP2, HB2, hP2, hB2, rfl, rfl⟩
 refine W_assign rfl rfl ?_
 refine W_nil (W_sr ?_)
 refine W_load (v := .bool (stopM Ws Q o (i : Int)).2.2.1) rfl ty4 rfl (Cell.own (b := b6) zM rfl) rfl ?_
 refine W_move rfl rfl ?_
 refine W_assign rfl rfl ?_
 refine W_assign rfl rfl ?_
 refine W_nil ?_
 refine W_ret2m (H2 := (tb, .cells 91 1026 (tmRow pb bb As)) :: (HP2 ++ (HB2 ++ H))) Tryz.results16 rfl rfl (.nil _) zH ?_
 exact ⟨HP2, HB2, hP2, hB2, rfl, rfl⟩
theorem Stop_out {tb : Nat} {id : Int} (hi : ¬ (0 ≤ id ∧ id < 256)) : Pure Tryz.prog (fun _ => True) 16 [.pointer (some ⟨tb, 0, none⟩), .int .i64 id] (.tuple #[.bool false, .int .i64 2]) := by
 intro w0 H hT
 refine L_enter Tryz.func16 rfl Tryz.ntmps16 rfl rfl ?_
 refine W_sr ?_
 refine W_box (l := [.pointer (some ⟨tb, 0, none⟩)]) rfl rfl rfl (fun b2 => ?_)
 refine W_box (l := [.int .i64 id]) rfl rfl rfl (fun b3 => ?_)
 refine W_assign rfl rfl ?_
 refine W_assign rfl rfl ?_
 refine W_nil (W_sr ?_)
 refine W_alloc (l := [.bool false]) ty4 rfl rfl (fun b6 => ?_)
 refine W_store (l' := [.bool false]) rfl rfl ty4 rfl rfl (b := b6) zM rfl rfl zU ?_
 refine W_nil (W_sr ?_)
 refine W_load (v := .pointer (some ⟨tb, 0, none⟩)) rfl ty25 rfl (Cell.own (b := b2) zM rfl) rfl ?_
 refine W_load (v := .int .i64 id) rfl ty3 rfl (Cell.own (b := b3) zM rfl) rfl ?_
 refine W_makeFunc .nil (.cons rfl (.cons rfl (.cons rfl .nil))) rfl ?_
 refine W_callp (.cons rfl (.cons rfl (.cons rfl .nil))) Tryz.call49 rfl (T := fun _ => True) trivial (with_out hi) ?_
 refine W_assign rfl rfl ?_
 refine W_nil (W_sr ?_)
 refine W_load (v := .bool false) rfl ty4 rfl (Cell.own (b := b6) zM rfl) rfl ?_
 refine W_move rfl rfl ?_
 refine W_assign rfl rfl ?_
 refine W_assign rfl rfl ?_
 refine W_nil ?_
 refine W_ret2m (H2 := H) Tryz.results16 rfl rfl (.nil _) zH ?_
 exact ⟨rfl, rfl⟩
def stopA (Ws : List Wl) (Q : List (Int × Int)) (As : List Tone) (id : Int) : List Wl × List (Int × Int) × Bool × Int := if 0 ≤ id ∧ id < 256 then (match As[id.toNat]? with
 | some o => stopM Ws Q o id
 | none => (Ws, Q, false, 2)) else (Ws, Q, false, 2)
theorem stopA_at {Ws : List Wl} {Q : List (Int × Int)} {As : List Tone} {i : Nat} {o : Tone} (hi : i < 256) (h : As[i]? = some o) : stopA Ws Q As (i : Int) = stopM Ws Q o (i : Int) := by
 unfold stopA; rw [if_pos (by omega), show ((i : Nat) : Int).toNat = i by omega, h]
theorem stopM_len {Ws : List Wl} {Q : List (Int × Int)} {o : Tone} {z : Int} : (stopM Ws Q o z).1.length = Ws.length := by
 unfold stopM; split
 ·exact List.length_map _
 ·rfl
theorem Stop_L {w0 : World} {H HB : Heap} {tb n : Nat} {Ws : List Wl} {Q Rs : List (Int × Int)} {As : List Tone} (hT : TimerH tb n Ws Q Rs As HB) {id : Int} : LCalls Tryz.prog w0 16 #[.pointer (some ⟨tb, 0, none⟩), .int .i64 id] (HB ++ H) (fun v H' => ∃ HB', TimerH tb n (stopA Ws Q As id).1 (stopA Ws Q As id).2.1 Rs As HB' ∧ v = .tuple #[.bool (stopA Ws Q As id).2.2.1, .int .i64 (stopA Ws Q As id).2.2.2] ∧ H' = HB' ++ H) := by
 by_cases hi : 0 ≤ id ∧ id < 256
 ·obtain ⟨i, rfl⟩ : ∃ i : Nat, id = (i : Int) := ⟨id.toNat, by omega⟩
  cases hT with
  | @mk pb bb HP HBk hP hB hA hn =>
   obtain ⟨o, ho⟩ := hA.at (i := i) zO
   show LCalls _ _ _ _ ((tb, .cells 91 1026 (tmRow pb bb As)) :: ((HP ++ HBk) ++ H)) _
   rw [List.append_assoc, stopA_at (by omega) ho]
   refine (Stop_at (H := H) hP hB hn zO ho).mono ?_
   rintro v H' ⟨HP2, HB2, hP2, hB2, rfl, rfl⟩
   exact ⟨_, .mk hP2 hB2 hA (by rw [stopM_len]; exact hn), rfl, by show _ = (tb, .cells 91 1026 (tmRow pb bb As)) :: ((HP2 ++ HB2) ++ H); rw [List.append_assoc]⟩
 ·have e : stopA Ws Q As id = (Ws, Q, false, 2) := if_neg hi
  rw [e]
  refine (Stop_out hi w0 _ trivial).mono ?_
  rintro v H' ⟨rfl, rfl⟩
  exact ⟨HB, hT, rfl, rfl⟩
end Go.Proofs.YtcmfldfeakmdoaaGreatDoor
