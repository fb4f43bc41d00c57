/-
  Own work: contracts of functions that the statement reaches, and plain facts on what they compute; each theorem says its conditions.
-/
import Derived.Test.YtknbohnoiigioaaO1
import Derived.Test.YtknbohnoiigioaaSlRead
import Derived.Test.YtknbohnoiigioaaShelf
import Derived.WalkSmall
import Derived.IntWalk
set_option linter.all false
set_option linter.unusedSimpArgs false
set_option linter.unusedVariables false
namespace Go.Proofs.Ytknbohnoiigioaa
open Go Go.Sl
attribute [local irreducible] W
theorem i64w {m : Int} (h : -9223372036854775808 ≤ m ∧ m ≤ 9223372036854775807) : IntKind.i64.wrap m = m := IntWalk.i64_in m h
theorem u64w {m : Int} (h : 0 ≤ m ∧ m ≤ 18446744073709551615) : IntKind.u64.wrap m = m := by
  have e : IntKind.u64.wrap m = m % 18446744073709551616 := by simp [IntKind.wrap, IntKind.signed, IntKind.bits]
  rw [e]; omega
theorem zE : ∀ w, (zeroValue 3).run Try.prog w = .ok (.int .i64 0) w := Try.zeroValue3
theorem gt0 {K : Type} [DecidableEq K] {room last c : Nat} {m : List K} {l : Ents K} {τ : K → Nat} {k : K} (h : OrdIs room m last l c τ) : decide ((0 : Int) < (if inO m k then (τ k : Int) else 0)) = inO m k := by
  cases hk : inO m k with
  | true => have := (h.bd k (inO_iff.1 hk)).1; exact decide_eq_true (by simpa using this)
  | false => rfl
theorem keyI : KeyKind Try.prog 3 (Value.int .i64) := intKeys ty3.und
set_option maxHeartbeats 1000000 in
theorem hasI_q {w0 : World} {H : Heap} {room last c bo bm : Nat} {m : List Int} {l : Ents Int} {τ : Int → Nat} (hO : OrdIs room m last l c τ) (h1 : (bo, .cells 57 3 [.int .i64 (room : Int), .int .i64 ((last : Nat) : Int), .map (some bm)]) ∈ H) (h2 : (bm, .obj (mapO (Value.int .i64) l c)) ∈ H) (k : Int)  : PureAt Try.prog w0 H 24 [.pointer (some ⟨bo, 0, none⟩), (Value.int .i64) k] (.bool (inO m k)) := by
  refine L_enter Try.func24 rfl Try.ntmps24 rfl rfl ?_
  refine W_sr ?_
  refine W_assign rfl rfl ?_
  refine W_nil ?_
  refine W_sr ?_
  refine W_move rfl rfl ?_
  refine W_x (X_ptrNotNil rfl rfl ty24) (fun _ h => by cases h) rfl ?_
  refine W_move rfl rfl ?_
  refine W_gyes rfl rfl ?_
  refine W_move rfl rfl ?_
  refine W_gyes rfl rfl ?_
  refine W_nilCheck rfl rfl ?_
  refine W_gyes rfl rfl ?_
  refine W_fieldAddr rfl fld57_2 (by decide) rfl ?_
  refine W_gyes rfl rfl ?_
  refine W_load rfl ty55 rfl (Cell.own h1 rfl) rfl ?_
  refine W_gyes rfl rfl ?_
  refine W_move rfl rfl ?_
  refine W_gyes rfl rfl ?_
  refine W_lookup (a := k) (zE := .int .i64 0) rfl rfl keyI ty55 zE h2 rfl ?_
  simp only [Bool.false_eq_true, if_false]
  rw [hO.get]
  refine W_gyes rfl rfl ?_
  refine W_bin rfl rfl b_gtr rfl ?_
  rw [gt0 hO]
  first | refine W_pickt rfl rfl rfl ?_ | refine W_pickf rfl rfl rfl ?_
  refine W_assign rfl rfl ?_
  refine W_nil ?_
  refine W_ret1m (H2 := H) Try.results24 rfl (.nil _) (by repeat (first | with_reducible exact HSub.refl _ | refine HSub.cons (by repeat (first | exact Take.here _ | apply Take.next | apply Take.app)) ?_ | refine HSub.app (by repeat (first | with_reducible exact TakeS.here _ | apply TakeS.next | apply TakeS.app)) ?_ | exact HSub.nil _ | exact HSub.refl _ | refine HSub.drop ?_ | refine HSub.dropS ?_)) ?_
  exact ⟨rfl, rfl⟩
set_option maxHeartbeats 1000000 in
theorem hasI_nil (k : Int) : Pure Try.prog (fun _ => True) 24 [.pointer none, (Value.int .i64) k] (.bool false) := by
  intro w0 H hT
  refine L_enter Try.func24 rfl Try.ntmps24 rfl rfl ?_
  refine W_sr ?_
  refine W_assign rfl rfl ?_
  refine W_nil ?_
  refine W_sr ?_
  refine W_move rfl rfl ?_
  refine W_x (X_ptrNotNil rfl rfl ty24) (fun _ h => by cases h) rfl ?_
  refine W_move rfl rfl ?_
  refine W_gno rfl rfl rfl ?_
  refine W_gno rfl rfl rfl ?_
  refine W_gno rfl rfl rfl ?_
  refine W_gno rfl rfl rfl ?_
  refine W_gno rfl rfl rfl ?_
  refine W_gno rfl rfl rfl ?_
  refine W_gno rfl rfl rfl ?_
  first | refine W_pickt rfl rfl rfl ?_ | refine W_pickf rfl rfl rfl ?_
  refine W_assign rfl rfl ?_
  refine W_nil ?_
  refine W_ret1m (H2 := H) Try.results24 rfl (.nil _) (by repeat (first | with_reducible exact HSub.refl _ | refine HSub.cons (by repeat (first | exact Take.here _ | apply Take.next | apply Take.app)) ?_ | refine HSub.app (by repeat (first | with_reducible exact TakeS.here _ | apply TakeS.next | apply TakeS.app)) ?_ | exact HSub.nil _ | exact HSub.refl _ | refine HSub.drop ?_ | refine HSub.dropS ?_)) ?_
  exact ⟨rfl, rfl⟩
set_option maxHeartbeats 1000000 in
theorem lenI_q {w0 : World} {H : Heap} {room last c bo bm : Nat} {m : List Int} {l : Ents Int} {τ : Int → Nat} (hO : OrdIs room m last l c τ) (h1 : (bo, .cells 57 3 [.int .i64 (room : Int), .int .i64 ((last : Nat) : Int), .map (some bm)]) ∈ H) (h2 : (bm, .obj (mapO (Value.int .i64) l c)) ∈ H)  : PureAt Try.prog w0 H 23 [.pointer (some ⟨bo, 0, none⟩)] (.int .i64 (m.length : Int)) := by
  refine L_enter Try.func23 rfl Try.ntmps23 rfl rfl ?_
  refine W_sr ?_
  refine W_assign rfl rfl ?_
  refine W_nil ?_
  refine W_seq ?_
  refine W_sr ?_
  refine W_move rfl rfl ?_
  refine W_x (X_ptrNil rfl rfl ty24) (fun _ h => by cases h) rfl ?_
  refine W_nil ?_
  refine W_condF rfl rfl ?_
  refine W_skip ?_
  refine W_sr ?_
  refine W_move rfl rfl ?_
  refine W_nilCheck rfl rfl ?_
  refine W_fieldAddr rfl fld57_2 (by decide) rfl ?_
  refine W_load rfl ty55 rfl (Cell.own h1 rfl) rfl ?_
  refine W_lenMap rfl ty55 h2 rfl ?_
  rw [hO.len]
  refine W_assign rfl rfl ?_
  refine W_nil ?_
  refine W_ret1m (H2 := H) Try.results23 rfl (.nil _) (by repeat (first | with_reducible exact HSub.refl _ | refine HSub.cons (by repeat (first | exact Take.here _ | apply Take.next | apply Take.app)) ?_ | refine HSub.app (by repeat (first | with_reducible exact TakeS.here _ | apply TakeS.next | apply TakeS.app)) ?_ | exact HSub.nil _ | exact HSub.refl _ | refine HSub.drop ?_ | refine HSub.dropS ?_)) ?_
  exact ⟨rfl, rfl⟩
set_option maxHeartbeats 1000000 in
theorem lenI_nil  : Pure Try.prog (fun _ => True) 23 [.pointer none] (.int .i64 0) := by
  intro w0 H hT
  refine L_enter Try.func23 rfl Try.ntmps23 rfl rfl ?_
  refine W_sr ?_
  refine W_assign rfl rfl ?_
  refine W_nil ?_
  refine W_seq ?_
  refine W_sr ?_
  refine W_move rfl rfl ?_
  refine W_x (X_ptrNil rfl rfl ty24) (fun _ h => by cases h) rfl ?_
  refine W_nil ?_
  refine W_condT rfl rfl ?_
  refine W_sr ?_
  refine W_assign rfl rfl ?_
  refine W_nil ?_
  refine W_ret1m (H2 := H) Try.results23 rfl (.nil _) (by repeat (first | with_reducible exact HSub.refl _ | refine HSub.cons (by repeat (first | exact Take.here _ | apply Take.next | apply Take.app)) ?_ | refine HSub.app (by repeat (first | with_reducible exact TakeS.here _ | apply TakeS.next | apply TakeS.app)) ?_ | exact HSub.nil _ | exact HSub.refl _ | refine HSub.drop ?_ | refine HSub.dropS ?_)) ?_
  exact ⟨rfl, rfl⟩
set_option maxHeartbeats 1000000 in
theorem newI_bad {z : Int} (hz : z < 1 ∨ 64 < z) : Pure Try.prog (fun _ => True) 7 [.int .i64 z] (.tuple #[.pointer none, .int .i64 2]) := by
  intro w0 H hT
  refine L_enter Try.func7 rfl Try.ntmps7 rfl rfl ?_
  refine W_sr ?_
  refine W_assign rfl rfl ?_
  refine W_assign rfl rfl ?_
  refine W_nil ?_
  refine W_seq ?_
  refine W_sr ?_
  refine W_move rfl rfl ?_
  refine W_bin rfl rfl b_lss rfl ?_
  refine W_move rfl rfl ?_
  apply W_or
  iterate 4 exact rfl
  case h1 =>
    intro hg2
    refine W_gyes rfl rfl ?_
    refine W_move rfl rfl ?_
    refine W_gyes rfl rfl ?_
    refine W_bin rfl rfl b_gtr rfl ?_
    exact W_met rfl (by repeat (first | exact .refl | refine .cons rfl ?_))
  refine W_nil ?_
  refine W_condT rfl (by simp; omega) ?_
  refine W_sr ?_
  refine W_assign rfl rfl ?_
  refine W_assign rfl rfl ?_
  refine W_nil ?_
  refine W_ret2m (H2 := H) Try.results7 rfl rfl (.nil _) (by repeat (first | with_reducible exact HSub.refl _ | refine HSub.cons (by repeat (first | exact Take.here _ | apply Take.next | apply Take.app)) ?_ | refine HSub.app (by repeat (first | with_reducible exact TakeS.here _ | apply TakeS.next | apply TakeS.app)) ?_ | exact HSub.nil _ | exact HSub.refl _ | refine HSub.drop ?_ | refine HSub.dropS ?_)) ?_
  exact ⟨rfl, rfl⟩
set_option maxHeartbeats 1000000 in
theorem newI_L {w0 : World} {H : Heap} {room : Nat} (hz : 1 ≤ room ∧ room ≤ 64)  : LCalls Try.prog w0 7 #[.int .i64 (room : Int)] (H) (fun v H' => ∃ bo bm, v = .tuple #[.pointer (some ⟨bo, 0, none⟩), .int .i64 0] ∧ H' = (bo, .cells 57 3 [.int .i64 (room : Int), .int .i64 ((0 : Nat) : Int), .map (some bm)]) :: (bm, .obj (mapO (Value.int .i64) [] 0)) :: H) := by
  refine L_enter (l := [.int .i64 (room : Int)]) Try.func7 rfl Try.ntmps7 rfl rfl ?_
  refine W_sr ?_
  refine W_assign rfl rfl ?_
  refine W_assign rfl rfl ?_
  refine W_nil ?_
  refine W_seq ?_
  refine W_sr ?_
  refine W_move rfl rfl ?_
  refine W_bin rfl rfl b_lss rfl ?_
  refine W_move rfl rfl ?_
  apply W_or
  iterate 4 exact rfl
  case h1 =>
    intro hg2
    refine W_gyes rfl rfl ?_
    refine W_move rfl rfl ?_
    refine W_gyes rfl rfl ?_
    refine W_bin rfl rfl b_gtr rfl ?_
    exact W_met rfl (by repeat (first | exact .refl | refine .cons rfl ?_))
  refine W_nil ?_
  refine W_condF rfl (by simp; omega) ?_
  refine W_skip ?_
  refine W_sr ?_
  refine W_move rfl rfl ?_
  refine W_makeMap (kf := (Value.int .i64)) rfl (fun b11 => ?_)
  refine W_build (l := [.int .i64 (room : Int), .int .i64 0, .map (some b11)]) ty57 pl57 (.cons rfl rfl rfl rfl rfl (.cons rfl rfl rfl rfl rfl .nil)) rfl rfl rfl ?_
  refine W_box rfl rfl rfl (fun b13 => ?_)
  refine W_assign rfl rfl ?_
  refine W_assign rfl rfl ?_
  refine W_nil ?_
  refine W_ret2m Try.results7 rfl rfl (.nil _) (.refl _) ?_
  exact ⟨b13, b11, rfl, rfl⟩
set_option maxHeartbeats 1000000 in
theorem dropI_L {w0 : World} {H : Heap} {room last c bo bm : Nat} {m : List Int} {l : Ents Int} {τ : Int → Nat} (hO : OrdIs room m last l c τ) (k : Int)  : LCalls Try.prog w0 20 #[.pointer (some ⟨bo, 0, none⟩), (Value.int .i64) k] ((bo, .cells 57 3 [.int .i64 (room : Int), .int .i64 ((last : Nat) : Int), .map (some bm)]) :: (bm, .obj (mapO (Value.int .i64) l c)) :: H) (fun v H' => ∃ l', v = .bool (inO m k) ∧ OrdIs room (drop1 m k) last l' c τ ∧ H' = (bo, .cells 57 3 [.int .i64 (room : Int), .int .i64 ((last : Nat) : Int), .map (some bm)]) :: (bm, .obj (mapO (Value.int .i64) l' c)) :: H) := by
  refine L_enter (l := [.pointer (some ⟨bo, 0, none⟩), (Value.int .i64) k]) Try.func20 rfl Try.ntmps20 rfl rfl ?_
  refine W_sr ?_
  refine W_assign rfl rfl ?_
  refine W_nil ?_
  refine W_seq ?_
  refine W_sr ?_
  refine W_move rfl rfl ?_
  refine W_move rfl rfl ?_
  refine W_callq (.cons rfl (.cons rfl .nil)) Try.call24 rfl (hasI_q hO List.mem_cons_self (List.mem_cons_of_mem _ List.mem_cons_self) k) ?_
  refine W_not rfl rfl ?_
  refine W_nil ?_
  refine W_condPS (p := k ∉ m) rfl (by simp [← inO_iff]) (fun c0 => ?_) (fun c0 => ?_)
  · skip
    refine W_sr ?_
    refine W_assign rfl rfl ?_
    refine W_nil ?_
    refine W_ret1m Try.results20 rfl (.nil _) (.refl _) ?_
    exact ⟨l, by rw [inO_not.2 c0], by rw [drop1_not c0]; exact hO, rfl⟩
  · skip
    refine W_skip ?_
    refine W_sr ?_
    refine W_move rfl rfl ?_
    refine W_nilCheck rfl rfl ?_
    refine W_fieldAddr rfl fld57_2 (by decide) rfl ?_
    refine W_load rfl ty55 rfl (Cell.own (b := bo) (by repeat (first | exact List.mem_cons_self | apply List.mem_cons_of_mem | apply List.mem_append_right)) rfl) rfl ?_
    refine W_move rfl rfl ?_
    refine W_delete (a := k) rfl rfl keyI ty55 hO.ok (.tail (.head _)) rfl ?_
    refine W_nil ?_
    refine W_sr ?_
    refine W_assign rfl rfl ?_
    refine W_nil ?_
    refine W_ret1m Try.results20 rfl (.nil _) (.refl _) ?_
    exact ⟨mDel l k, by rw [inO_iff.2 (Classical.not_not.1 c0)], hO.del k, rfl⟩
set_option maxHeartbeats 1000000 in
theorem dropI_nil (k : Int) : Pure Try.prog (fun _ => True) 20 [.pointer none, (Value.int .i64) k] (.bool false) := by
  intro w0 H hT
  refine L_enter Try.func20 rfl Try.ntmps20 rfl rfl ?_
  refine W_sr ?_
  refine W_assign rfl rfl ?_
  refine W_nil ?_
  refine W_seq ?_
  refine W_sr ?_
  refine W_move rfl rfl ?_
  refine W_move rfl rfl ?_
  refine W_callp (.cons rfl (.cons rfl .nil)) Try.call24 rfl (T := fun _ => True) trivial (hasI_nil k) ?_
  refine W_not rfl rfl ?_
  refine W_nil ?_
  refine W_condT rfl rfl ?_
  refine W_sr ?_
  refine W_assign rfl rfl ?_
  refine W_nil ?_
  refine W_ret1m (H2 := H) Try.results20 rfl (.nil _) (by repeat (first | with_reducible exact HSub.refl _ | refine HSub.cons (by repeat (first | exact Take.here _ | apply Take.next | apply Take.app)) ?_ | refine HSub.app (by repeat (first | with_reducible exact TakeS.here _ | apply TakeS.next | apply TakeS.app)) ?_ | exact HSub.nil _ | exact HSub.refl _ | refine HSub.drop ?_ | refine HSub.dropS ?_)) ?_
  exact ⟨rfl, rfl⟩
theorem keyS : KeyKind Try.prog 9 Value.string := strKeys ty9.und
set_option maxHeartbeats 1000000 in
theorem hasS_q {w0 : World} {H : Heap} {room last c bo bm : Nat} {m : List ByteArray} {l : Ents ByteArray} {τ : ByteArray → Nat} (hO : OrdIs room m last l c τ) (h1 : (bo, .cells 63 3 [.int .i64 (room : Int), .int .i64 ((last : Nat) : Int), .map (some bm)]) ∈ H) (h2 : (bm, .obj (mapO Value.string l c)) ∈ H) (k : ByteArray)  : PureAt Try.prog w0 H 17 [.pointer (some ⟨bo, 0, none⟩), Value.string k] (.bool (inO m k)) := by
  refine L_enter Try.func17 rfl Try.ntmps17 rfl rfl ?_
  refine W_sr ?_
  refine W_assign rfl rfl ?_
  refine W_nil ?_
  refine W_sr ?_
  refine W_move rfl rfl ?_
  refine W_x (X_ptrNotNil rfl rfl ty37) (fun _ h => by cases h) rfl ?_
  refine W_move rfl rfl ?_
  refine W_gyes rfl rfl ?_
  refine W_move rfl rfl ?_
  refine W_gyes rfl rfl ?_
  refine W_nilCheck rfl rfl ?_
  refine W_gyes rfl rfl ?_
  refine W_fieldAddr rfl fld63_2 (by decide) rfl ?_
  refine W_gyes rfl rfl ?_
  refine W_load rfl ty61 rfl (Cell.own h1 rfl) rfl ?_
  refine W_gyes rfl rfl ?_
  refine W_move rfl rfl ?_
  refine W_gyes rfl rfl ?_
  refine W_lookup (a := k) (zE := .int .i64 0) rfl rfl keyS ty61 zE h2 rfl ?_
  simp only [Bool.false_eq_true, if_false]
  rw [hO.get]
  refine W_gyes rfl rfl ?_
  refine W_bin rfl rfl b_gtr rfl ?_
  rw [gt0 hO]
  first | refine W_pickt rfl rfl rfl ?_ | refine W_pickf rfl rfl rfl ?_
  refine W_assign rfl rfl ?_
  refine W_nil ?_
  refine W_ret1m (H2 := H) Try.results17 rfl (.nil _) (by repeat (first | with_reducible exact HSub.refl _ | refine HSub.cons (by repeat (first | exact Take.here _ | apply Take.next | apply Take.app)) ?_ | refine HSub.app (by repeat (first | with_reducible exact TakeS.here _ | apply TakeS.next | apply TakeS.app)) ?_ | exact HSub.nil _ | exact HSub.refl _ | refine HSub.drop ?_ | refine HSub.dropS ?_)) ?_
  exact ⟨rfl, rfl⟩
set_option maxHeartbeats 1000000 in
theorem hasS_nil (k : ByteArray) : Pure Try.prog (fun _ => True) 17 [.pointer none, Value.string k] (.bool false) := by
  intro w0 H hT
  refine L_enter Try.func17 rfl Try.ntmps17 rfl rfl ?_
  refine W_sr ?_
  refine W_assign rfl rfl ?_
  refine W_nil ?_
  refine W_sr ?_
  refine W_move rfl rfl ?_
  refine W_x (X_ptrNotNil rfl rfl ty37) (fun _ h => by cases h) rfl ?_
  refine W_move rfl rfl ?_
  refine W_gno rfl rfl rfl ?_
  refine W_gno rfl rfl rfl ?_
  refine W_gno rfl rfl rfl ?_
  refine W_gno rfl rfl rfl ?_
  refine W_gno rfl rfl rfl ?_
  refine W_gno rfl rfl rfl ?_
  refine W_gno rfl rfl rfl ?_
  first | refine W_pickt rfl rfl rfl ?_ | refine W_pickf rfl rfl rfl ?_
  refine W_assign rfl rfl ?_
  refine W_nil ?_
  refine W_ret1m (H2 := H) Try.results17 rfl (.nil _) (by repeat (first | with_reducible exact HSub.refl _ | refine HSub.cons (by repeat (first | exact Take.here _ | apply Take.next | apply Take.app)) ?_ | refine HSub.app (by repeat (first | with_reducible exact TakeS.here _ | apply TakeS.next | apply TakeS.app)) ?_ | exact HSub.nil _ | exact HSub.refl _ | refine HSub.drop ?_ | refine HSub.dropS ?_)) ?_
  exact ⟨rfl, rfl⟩
set_option maxHeartbeats 1000000 in
theorem lenS_q {w0 : World} {H : Heap} {room last c bo bm : Nat} {m : List ByteArray} {l : Ents ByteArray} {τ : ByteArray → Nat} (hO : OrdIs room m last l c τ) (h1 : (bo, .cells 63 3 [.int .i64 (room : Int), .int .i64 ((last : Nat) : Int), .map (some bm)]) ∈ H) (h2 : (bm, .obj (mapO Value.string l c)) ∈ H)  : PureAt Try.prog w0 H 18 [.pointer (some ⟨bo, 0, none⟩)] (.int .i64 (m.length : Int)) := by
  refine L_enter Try.func18 rfl Try.ntmps18 rfl rfl ?_
  refine W_sr ?_
  refine W_assign rfl rfl ?_
  refine W_nil ?_
  refine W_seq ?_
  refine W_sr ?_
  refine W_move rfl rfl ?_
  refine W_x (X_ptrNil rfl rfl ty37) (fun _ h => by cases h) rfl ?_
  refine W_nil ?_
  refine W_condF rfl rfl ?_
  refine W_skip ?_
  refine W_sr ?_
  refine W_move rfl rfl ?_
  refine W_nilCheck rfl rfl ?_
  refine W_fieldAddr rfl fld63_2 (by decide) rfl ?_
  refine W_load rfl ty61 rfl (Cell.own h1 rfl) rfl ?_
  refine W_lenMap rfl ty61 h2 rfl ?_
  rw [hO.len]
  refine W_assign rfl rfl ?_
  refine W_nil ?_
  refine W_ret1m (H2 := H) Try.results18 rfl (.nil _) (by repeat (first | with_reducible exact HSub.refl _ | refine HSub.cons (by repeat (first | exact Take.here _ | apply Take.next | apply Take.app)) ?_ | refine HSub.app (by repeat (first | with_reducible exact TakeS.here _ | apply TakeS.next | apply TakeS.app)) ?_ | exact HSub.nil _ | exact HSub.refl _ | refine HSub.drop ?_ | refine HSub.dropS ?_)) ?_
  exact ⟨rfl, rfl⟩
set_option maxHeartbeats 1000000 in
theorem lenS_nil  : Pure Try.prog (fun _ => True) 18 [.pointer none] (.int .i64 0) := by
  intro w0 H hT
  refine L_enter Try.func18 rfl Try.ntmps18 rfl rfl ?_
  refine W_sr ?_
  refine W_assign rfl rfl ?_
  refine W_nil ?_
  refine W_seq ?_
  refine W_sr ?_
  refine W_move rfl rfl ?_
  refine W_x (X_ptrNil rfl rfl ty37) (fun _ h => by cases h) rfl ?_
  refine W_nil ?_
  refine W_condT rfl rfl ?_
  refine W_sr ?_
  refine W_assign rfl rfl ?_
  refine W_nil ?_
  refine W_ret1m (H2 := H) Try.results18 rfl (.nil _) (by repeat (first | with_reducible exact HSub.refl _ | refine HSub.cons (by repeat (first | exact Take.here _ | apply Take.next | apply Take.app)) ?_ | refine HSub.app (by repeat (first | with_reducible exact TakeS.here _ | apply TakeS.next | apply TakeS.app)) ?_ | exact HSub.nil _ | exact HSub.refl _ | refine HSub.drop ?_ | refine HSub.dropS ?_)) ?_
  exact ⟨rfl, rfl⟩
set_option maxHeartbeats 1000000 in
theorem newS_bad {z : Int} (hz : z < 1 ∨ 64 < z) : Pure Try.prog (fun _ => True) 13 [.int .i64 z] (.tuple #[.pointer none, .int .i64 2]) := by
  intro w0 H hT
  refine L_enter Try.func13 rfl Try.ntmps13 rfl rfl ?_
  refine W_sr ?_
  refine W_assign rfl rfl ?_
  refine W_assign rfl rfl ?_
  refine W_nil ?_
  refine W_seq ?_
  refine W_sr ?_
  refine W_move rfl rfl ?_
  refine W_bin rfl rfl b_lss rfl ?_
  refine W_move rfl rfl ?_
  apply W_or
  iterate 4 exact rfl
  case h1 =>
    intro hg2
    refine W_gyes rfl rfl ?_
    refine W_move rfl rfl ?_
    refine W_gyes rfl rfl ?_
    refine W_bin rfl rfl b_gtr rfl ?_
    exact W_met rfl (by repeat (first | exact .refl | refine .cons rfl ?_))
  refine W_nil ?_
  refine W_condT rfl (by simp; omega) ?_
  refine W_sr ?_
  refine W_assign rfl rfl ?_
  refine W_assign rfl rfl ?_
  refine W_nil ?_
  refine W_ret2m (H2 := H) Try.results13 rfl rfl (.nil _) (by repeat (first | with_reducible exact HSub.refl _ | refine HSub.cons (by repeat (first | exact Take.here _ | apply Take.next | apply Take.app)) ?_ | refine HSub.app (by repeat (first | with_reducible exact TakeS.here _ | apply TakeS.next | apply TakeS.app)) ?_ | exact HSub.nil _ | exact HSub.refl _ | refine HSub.drop ?_ | refine HSub.dropS ?_)) ?_
  exact ⟨rfl, rfl⟩
set_option maxHeartbeats 1000000 in
theorem newS_L {w0 : World} {H : Heap} {room : Nat} (hz : 1 ≤ room ∧ room ≤ 64)  : LCalls Try.prog w0 13 #[.int .i64 (room : Int)] (H) (fun v H' => ∃ bo bm, v = .tuple #[.pointer (some ⟨bo, 0, none⟩), .int .i64 0] ∧ H' = (bo, .cells 63 3 [.int .i64 (room : Int), .int .i64 ((0 : Nat) : Int), .map (some bm)]) :: (bm, .obj (mapO Value.string [] 0)) :: H) := by
  refine L_enter (l := [.int .i64 (room : Int)]) Try.func13 rfl Try.ntmps13 rfl rfl ?_
  refine W_sr ?_
  refine W_assign rfl rfl ?_
  refine W_assign rfl rfl ?_
  refine W_nil ?_
  refine W_seq ?_
  refine W_sr ?_
  refine W_move rfl rfl ?_
  refine W_bin rfl rfl b_lss rfl ?_
  refine W_move rfl rfl ?_
  apply W_or
  iterate 4 exact rfl
  case h1 =>
    intro hg2
    refine W_gyes rfl rfl ?_
    refine W_move rfl rfl ?_
    refine W_gyes rfl rfl ?_
    refine W_bin rfl rfl b_gtr rfl ?_
    exact W_met rfl (by repeat (first | exact .refl | refine .cons rfl ?_))
  refine W_nil ?_
  refine W_condF rfl (by simp; omega) ?_
  refine W_skip ?_
  refine W_sr ?_
  refine W_move rfl rfl ?_
  refine W_makeMap (kf := Value.string) rfl (fun b11 => ?_)
  refine W_build (l := [.int .i64 (room : Int), .int .i64 0, .map (some b11)]) ty63 pl63 (.cons rfl rfl rfl rfl rfl (.cons rfl rfl rfl rfl rfl .nil)) rfl rfl rfl ?_
  refine W_box rfl rfl rfl (fun b13 => ?_)
  refine W_assign rfl rfl ?_
  refine W_assign rfl rfl ?_
  refine W_nil ?_
  refine W_ret2m Try.results13 rfl rfl (.nil _) (.refl _) ?_
  exact ⟨b13, b11, rfl, rfl⟩
set_option maxHeartbeats 1000000 in
theorem dropS_L {w0 : World} {H : Heap} {room last c bo bm : Nat} {m : List ByteArray} {l : Ents ByteArray} {τ : ByteArray → Nat} (hO : OrdIs room m last l c τ) (k : ByteArray)  : LCalls Try.prog w0 15 #[.pointer (some ⟨bo, 0, none⟩), Value.string k] ((bo, .cells 63 3 [.int .i64 (room : Int), .int .i64 ((last : Nat) : Int), .map (some bm)]) :: (bm, .obj (mapO Value.string l c)) :: H) (fun v H' => ∃ l', v = .bool (inO m k) ∧ OrdIs room (drop1 m k) last l' c τ ∧ H' = (bo, .cells 63 3 [.int .i64 (room : Int), .int .i64 ((last : Nat) : Int), .map (some bm)]) :: (bm, .obj (mapO Value.string l' c)) :: H) := by
  refine L_enter (l := [.pointer (some ⟨bo, 0, none⟩), Value.string k]) Try.func15 rfl Try.ntmps15 rfl rfl ?_
  refine W_sr ?_
  refine W_assign rfl rfl ?_
  refine W_nil ?_
  refine W_seq ?_
  refine W_sr ?_
  refine W_move rfl rfl ?_
  refine W_move rfl rfl ?_
  refine W_callq (.cons rfl (.cons rfl .nil)) Try.call17 rfl (hasS_q hO List.mem_cons_self (List.mem_cons_of_mem _ List.mem_cons_self) k) ?_
  refine W_not rfl rfl ?_
  refine W_nil ?_
  refine W_condPS (p := k ∉ m) rfl (by simp [← inO_iff]) (fun c0 => ?_) (fun c0 => ?_)
  · skip
    refine W_sr ?_
    refine W_assign rfl rfl ?_
    refine W_nil ?_
    refine W_ret1m Try.results15 rfl (.nil _) (.refl _) ?_
    exact ⟨l, by rw [inO_not.2 c0], by rw [drop1_not c0]; exact hO, rfl⟩
  · skip
    refine W_skip ?_
    refine W_sr ?_
    refine W_move rfl rfl ?_
    refine W_nilCheck rfl rfl ?_
    refine W_fieldAddr rfl fld63_2 (by decide) rfl ?_
    refine W_load rfl ty61 rfl (Cell.own (b := bo) (by repeat (first | exact List.mem_cons_self | apply List.mem_cons_of_mem | apply List.mem_append_right)) rfl) rfl ?_
    refine W_move rfl rfl ?_
    refine W_delete (a := k) rfl rfl keyS ty61 hO.ok (.tail (.head _)) rfl ?_
    refine W_nil ?_
    refine W_sr ?_
    refine W_assign rfl rfl ?_
    refine W_nil ?_
    refine W_ret1m Try.results15 rfl (.nil _) (.refl _) ?_
    exact ⟨mDel l k, by rw [inO_iff.2 (Classical.not_not.1 c0)], hO.del k, rfl⟩
set_option maxHeartbeats 1000000 in
theorem dropS_nil (k : ByteArray) : Pure Try.prog (fun _ => True) 15 [.pointer none, Value.string k] (.bool false) := by
  intro w0 H hT
  refine L_enter Try.func15 rfl Try.ntmps15 rfl rfl ?_
  refine W_sr ?_
  refine W_assign rfl rfl ?_
  refine W_nil ?_
  refine W_seq ?_
  refine W_sr ?_
  refine W_move rfl rfl ?_
  refine W_move rfl rfl ?_
  refine W_callp (.cons rfl (.cons rfl .nil)) Try.call17 rfl (T := fun _ => True) trivial (hasS_nil k) ?_
  refine W_not rfl rfl ?_
  refine W_nil ?_
  refine W_condT rfl rfl ?_
  refine W_sr ?_
  refine W_assign rfl rfl ?_
  refine W_nil ?_
  refine W_ret1m (H2 := H) Try.results15 rfl (.nil _) (by repeat (first | with_reducible exact HSub.refl _ | refine HSub.cons (by repeat (first | exact Take.here _ | apply Take.next | apply Take.app)) ?_ | refine HSub.app (by repeat (first | with_reducible exact TakeS.here _ | apply TakeS.next | apply TakeS.app)) ?_ | exact HSub.nil _ | exact HSub.refl _ | refine HSub.drop ?_ | refine HSub.dropS ?_)) ?_
  exact ⟨rfl, rfl⟩
end Go.Proofs.Ytknbohnoiigioaa
