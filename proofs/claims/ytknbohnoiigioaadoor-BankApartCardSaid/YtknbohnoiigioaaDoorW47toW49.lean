/-
  Own work: contracts of functions that the statement reaches, and plain facts on what they compute; each theorem says its conditions.
-/
import Derived.Test.YtknbohnoiigioaaDoorW42toW46
import Derived.Test.YtknbohnoiigioaaDoorSlRdtoSlFast
set_option linter.all false
set_option linter.unusedSimpArgs false
set_option linter.unusedVariables false
namespace Go.Proofs.YtknbohnoiigioaaDoor
open Go Go.Sl
attribute [local irreducible] W
/-- what a catching up does -/
def CatchIs (Ws : List Wl) (cpu : Int) (a : Nat) (Ws' : List Wl) (O : List Tm) : Prop :=
  (wlAt Ws cpu = none ∧ Ws' = Ws ∧ O = []) ∨ ∃ (k : Nat) (w : Wl) (Li : List Tm), cpu = (k : Int) ∧ Ws[k]? = some w ∧ Gone w.now (max w.now a) w.L Li O ∧ Ws' = Ws.set k ⟨w.bw, max w.now a, Li, w.turn⟩
theorem wlAt_at {Ws : List Wl} {cpu : Int} {w : Wl} (h : wlAt Ws cpu = some w) : ∃ k : Nat, cpu = (k : Int) ∧ Ws[k]? = some w := by
  unfold wlAt at h
  by_cases c : 0 ≤ cpu
  · rw [if_pos c] at h
    exact ⟨cpu.toNat, by omega, h⟩
  · rw [if_neg c] at h; cases h
theorem ofV_none {Ws : List Wl} {cpu : Int} (h : wlAt Ws cpu = none) : ofV Ws cpu = .pointer none := by unfold ofV; rw [h]
theorem ofV_some {Ws : List Wl} {cpu : Int} {w : Wl} (h : wlAt Ws cpu = some w) : ofV Ws cpu = w.p := by unfold ofV; rw [h]
/-- what Put does: the spot, the error -/
inductive PutIs (Ws : List Wl) (cpu id : Int) (a : Nat) : List Wl → Spot → Int → Prop
  | cpu (h : wlAt Ws cpu = none) : PutIs Ws cpu id a Ws zSpot 2
  | twice {w : Wl} {k : Nat} (h : wlAt Ws cpu = some w) (hf : findK Ws id = some k) : PutIs Ws cpu id a Ws zSpot 5
  | range {w : Wl} (h : wlAt Ws cpu = some w) (hf : findK Ws id = none) (hr : ¬ (0 ≤ id ∧ id < 256)) : PutIs Ws cpu id a Ws zSpot 2
  | late {w : Wl} (h : wlAt Ws cpu = some w) (hf : findK Ws id = none) (hr : 0 ≤ id ∧ id < 256) (hm : w.now = 18446744073709551615) : PutIs Ws cpu id a Ws zSpot 12
  | ok {k : Nat} {w : Wl} (hc : cpu = (k : Int)) (hk : Ws[k]? = some w) (hf : findK Ws id = none) (hr : 0 ≤ id ∧ id < 256) (hm : w.now < 18446744073709551615) : PutIs Ws cpu id a (Ws.set k ⟨w.bw, w.now, w.L ++ [tmOf w.now a w.turn id], w.turn + 1⟩) (placeT w.now a).1 0
theorem findK_no {Ws : List Wl} {id : Int} (h : findK Ws id = none) {w : Wl} (hw : w ∈ Ws) : id ∉ w.L.map (·.id) := fun hin => by
  unfold findK at h
  rw [List.findIdx?_eq_none_iff] at h
  have := h w hw
  rw [heldB_iff.2 hin] at this; cases this
set_option maxHeartbeats 1000000 in
theorem CatchB_L {w0 : World} {H : Heap} {HB : Heap} {bb : Nat} {Ws : List Wl} (hB : BankH bb Ws HB) {cpu : Int} {a : Nat} (ha : a ≤ 18446744073709551615) (hd : ∀ w ∈ Ws, ∀ t ∈ w.L, w.now < t.s.due) (hT : Tab w0) : LCalls Tryd.prog w0 24 #[.pointer (some ⟨bb, 0, none⟩), .int .i64 cpu, .int .u64 ((a : Nat) : Int)] (HB ++ H) (fun v H' => ∃ (Ws' : List Wl) (HB' : Heap) (O : List Tm) (XO : Heap), BankH bb Ws' HB' ∧ OwnS 3 1 v O.length ((O.map (·.id)).map (Value.int .i64)) XO ∧ CatchIs Ws cpu a Ws' O ∧ H' = XO ++ (HB' ++ H)) := by
  refine L_enter (l := [.pointer (some ⟨bb, 0, none⟩), .int .i64 cpu, .int .u64 ((a : Nat) : Int)]) Tryd.func24 rfl Tryd.ntmps24 rfl rfl ?_
  refine W_sr ?_
  refine W_assign rfl rfl ?_
  refine W_nil ?_
  refine W_sr ?_
  refine W_move rfl rfl ?_
  refine W_move rfl rfl ?_
  refine W_callq (.cons rfl (.cons rfl .nil)) Tryd.call54 rfl (of_q (cpu := cpu) hB (fun p hp => List.mem_append_left _ hp)) ?_
  rcases hwl : wlAt Ws cpu with _ | w
  · skip
    rw [ofV_none hwl]
    refine W_move rfl rfl ?_
    refine W_callp (.cons rfl (.cons rfl .nil)) Tryd.call18 rfl (T := fun _ => True) trivial To_nilp ?_
    refine W_assign rfl rfl ?_
    refine W_nil ?_
    refine W_ret1m Tryd.results24 rfl (.nil _) (.refl _) ?_
    exact ⟨Ws, HB, [], [], hB, .nil, .inl ⟨hwl, rfl, rfl⟩, rfl⟩
  · skip
    rw [ofV_some hwl]
    obtain ⟨k, hck, hwk⟩ := wlAt_at hwl
    obtain ⟨HW, HR, hW, hs1, hs2⟩ := hB.at hwk
    refine W_move rfl rfl ?_
    refine W_hsub (hs1 H) ?_
    refine W_call (.cons rfl (.cons rfl .nil)) Tryd.call18 rfl (To_any (a := a) hT hW (hd w (List.mem_of_getElem? hwk)) ha (H := HR ++ H)) ?_
    rintro v H' ⟨O, Li, HW', XO, hW', hG, hO, rfl⟩
    obtain ⟨HB', hB', hs3⟩ := hs2 ⟨w.bw, max w.now a, Li, w.turn⟩ HW' rfl hW'
    refine W_hsub (HSub.app (TakeS.here _) (hs3 H)) ?_
    refine W_assign rfl rfl ?_
    refine W_nil ?_
    refine W_ret1m Tryd.results24 rfl (.nil _) (.refl _) ?_
    exact ⟨_, HB', O, XO, hB', hO, .inr ⟨k, w, Li, hck, hwk, hG, rfl⟩, rfl⟩
set_option maxHeartbeats 1000000 in
theorem CatchB_nil {cpu z : Int} : Pure Tryd.prog (fun _ => True) 24 [.pointer none, .int .i64 cpu, .int .u64 z] (.slice none 0 0) := by
  intro w0 H hT
  refine L_enter Tryd.func24 rfl Tryd.ntmps24 rfl rfl ?_
  refine W_sr ?_
  refine W_assign rfl rfl ?_
  refine W_nil ?_
  refine W_sr ?_
  refine W_move rfl rfl ?_
  refine W_move rfl rfl ?_
  refine W_callp (.cons rfl (.cons rfl .nil)) Tryd.call54 rfl (T := fun _ => True) trivial (of_nil ) ?_
  refine W_move rfl rfl ?_
  refine W_callp (.cons rfl (.cons rfl .nil)) Tryd.call18 rfl (T := fun _ => True) trivial (To_nilp ) ?_
  refine W_assign rfl rfl ?_
  refine W_nil ?_
  refine W_ret1m (H2 := H) Tryd.results24 rfl (.nil _) (by first | exact hsubI | (repeat (first | with_reducible exact HSub.refl _ | refine HSub.cons (by repeat (first | exact Take.here _ | apply Take.next | apply Take.app)) ?_ | refine HSub.app (by repeat (first | with_reducible exact TakeS.here _ | apply TakeS.next | apply TakeS.app)) ?_ | exact HSub.nil _ | exact HSub.refl _ | refine HSub.drop ?_ | refine HSub.dropS ?_))) ?_
  exact ⟨rfl, rfl⟩
def nowK (Ws : List Wl) (cpu : Int) : Nat := match wlAt Ws cpu with
  | some w => w.now
  | none => 0
theorem now_q3 {w0 : World} {H HW : Heap} {bw now turn : Nat} {L : List Tm} (hW : WheelH bw now L turn HW) (hm : ∀ p ∈ HW, p ∈ H) : PureAt Tryd.prog w0 H 19 [.pointer (some ⟨bw, 0, none⟩)] (.int .u64 ((now : Nat) : Int)) := by
  cases hW with
  | @mk bm c sl XS bs l h => exact Now_q (sl := sl) (bs := bs) (bm := bm) (turn := turn) (hm _ List.mem_cons_self)
set_option maxHeartbeats 1000000 in
theorem NowB_q {w0 : World} {H : Heap} {HB : Heap} {bb : Nat} {Ws : List Wl} (hB : BankH bb Ws HB) (hm : ∀ p ∈ HB, p ∈ H) {cpu : Int}  : PureAt Tryd.prog w0 H 41 [.pointer (some ⟨bb, 0, none⟩), .int .i64 cpu] (.int .u64 ((nowK Ws cpu : Nat) : Int)) := by
  refine L_enter Tryd.func41 rfl Tryd.ntmps41 rfl rfl ?_
  refine W_sr ?_
  refine W_assign rfl rfl ?_
  refine W_nil ?_
  refine W_sr ?_
  refine W_move rfl rfl ?_
  refine W_move rfl rfl ?_
  refine W_callq (.cons rfl (.cons rfl .nil)) Tryd.call54 rfl (of_q (cpu := cpu) hB hm) ?_
  rcases hwl : wlAt Ws cpu with _ | w
  · skip
    rw [ofV_none hwl]
    refine W_callp (.cons rfl .nil) Tryd.call19 rfl (T := fun _ => True) trivial Now_nil ?_
    refine W_assign rfl rfl ?_
    refine W_nil ?_
    refine W_ret1m (H2 := H) Tryd.results41 rfl (.nil _) (by first | exact hsubI | (repeat (first | with_reducible exact HSub.refl _ | refine HSub.cons (by repeat (first | exact Take.here _ | apply Take.next | apply Take.app)) ?_ | refine HSub.app (by repeat (first | with_reducible exact TakeS.here _ | apply TakeS.next | apply TakeS.app)) ?_ | exact HSub.nil _ | exact HSub.refl _ | refine HSub.drop ?_ | refine HSub.dropS ?_))) ?_
    exact ⟨by unfold nowK; rw [hwl]; rfl, rfl⟩
  · skip
    rw [ofV_some hwl]
    obtain ⟨k, hck, hwk⟩ := wlAt_at hwl
    obtain ⟨HW, hW, hmw⟩ := hB.wheel hwk
    refine W_callq (.cons rfl .nil) Tryd.call19 rfl (now_q3 hW (fun p hp => hm p (hmw p hp))) ?_
    refine W_assign rfl rfl ?_
    refine W_nil ?_
    refine W_ret1m (H2 := H) Tryd.results41 rfl (.nil _) (by first | exact hsubI | (repeat (first | with_reducible exact HSub.refl _ | refine HSub.cons (by repeat (first | exact Take.here _ | apply Take.next | apply Take.app)) ?_ | refine HSub.app (by repeat (first | with_reducible exact TakeS.here _ | apply TakeS.next | apply TakeS.app)) ?_ | exact HSub.nil _ | exact HSub.refl _ | refine HSub.drop ?_ | refine HSub.dropS ?_))) ?_
    exact ⟨by unfold nowK; rw [hwl], rfl⟩
set_option maxHeartbeats 1000000 in
theorem NowB_nil {cpu : Int} : Pure Tryd.prog (fun _ => True) 41 [.pointer none, .int .i64 cpu] (.int .u64 0) := by
  intro w0 H hT
  refine L_enter Tryd.func41 rfl Tryd.ntmps41 rfl rfl ?_
  refine W_sr ?_
  refine W_assign rfl rfl ?_
  refine W_nil ?_
  refine W_sr ?_
  refine W_move rfl rfl ?_
  refine W_move rfl rfl ?_
  refine W_callp (.cons rfl (.cons rfl .nil)) Tryd.call54 rfl (T := fun _ => True) trivial (of_nil ) ?_
  refine W_callp (.cons rfl .nil) Tryd.call19 rfl (T := fun _ => True) trivial (Now_nil ) ?_
  refine W_assign rfl rfl ?_
  refine W_nil ?_
  refine W_ret1m (H2 := H) Tryd.results41 rfl (.nil _) (by first | exact hsubI | (repeat (first | with_reducible exact HSub.refl _ | refine HSub.cons (by repeat (first | exact Take.here _ | apply Take.next | apply Take.app)) ?_ | refine HSub.app (by repeat (first | with_reducible exact TakeS.here _ | apply TakeS.next | apply TakeS.app)) ?_ | exact HSub.nil _ | exact HSub.refl _ | refine HSub.drop ?_ | refine HSub.dropS ?_))) ?_
  exact ⟨rfl, rfl⟩
set_option maxHeartbeats 1000000 in
theorem PutB_nil {cpu id z : Int} : Pure Tryd.prog (fun _ => True) 22 [.pointer none, .int .i64 cpu, .int .i64 id, .int .u64 z] (.tuple #[.agg zSpot.v.toArray, .int .i64 6]) := by
  intro w0 H hT
  refine L_enter Tryd.func22 rfl Tryd.ntmps22 rfl rfl ?_
  refine W_sr ?_
  refine W_alloc (l := zSpot.v) ty27 rfl rfl (fun b8 => ?_)
  refine W_assign rfl rfl ?_
  refine W_nil ?_
  refine W_sr ?_
  refine W_move rfl rfl ?_
  refine W_move rfl rfl ?_
  refine W_callp (.cons rfl (.cons rfl .nil)) Tryd.call54 rfl (T := fun _ => True) trivial (of_nil ) ?_
  refine W_assign rfl rfl ?_
  refine W_nil ?_
  refine W_seq ?_
  refine W_block ?_
  refine W_sr ?_
  refine W_move rfl rfl ?_
  refine W_x (X_ptrNil rfl rfl ty45) (fun _ h => by cases h) rfl ?_
  refine W_assign rfl rfl ?_
  refine W_nil ?_
  refine W_condT rfl rfl ?_
  refine W_sr ?_
  refine W_build ty27 pl27 .nil rfl (by simp only [fillL, spliceL, Value.cells, List.take_zero, List.take_succ_cons, List.take_nil, List.drop_zero, List.drop_succ_cons, List.drop_nil, List.nil_append, List.cons_append, List.append_nil, List.length_cons, List.length_nil, Nat.zero_add, Nat.reduceAdd, List.toList_toArray]; rfl) rfl ?_
  refine W_storeA (l' := zSpot.v) rfl rfl ty27 rfl rfl (b := b8) (by repeat (first | exact List.mem_cons_self | apply List.mem_cons_of_mem | apply List.mem_append_right)) (by exact Nat.le_refl 4) rfl (by repeat (first | exact Upd.head _ | apply Upd.tail | apply Upd.app)) ?_
  refine W_assign rfl rfl ?_
  refine W_nil ?_
  refine W_ret2G (H2 := H) Tryd.results22 (.nil _) (.own rfl ty27 rfl (by repeat (first | exact List.mem_cons_self | apply List.mem_cons_of_mem | apply List.mem_append_right)) rfl) (.tmp rfl) (by first | exact hsubI | (repeat (first | with_reducible exact HSub.refl _ | refine HSub.cons (by repeat (first | exact Take.here _ | apply Take.next | apply Take.app)) ?_ | refine HSub.app (by repeat (first | with_reducible exact TakeS.here _ | apply TakeS.next | apply TakeS.app)) ?_ | exact HSub.nil _ | exact HSub.refl _ | refine HSub.drop ?_ | refine HSub.dropS ?_))) ?_
  exact ⟨rfl, rfl⟩
theorem findK_at {Ws : List Wl} {id : Int} {k : Nat} (h : findK Ws id = some k) : ∃ w, Ws[k]? = some w ∧ heldB w.L id = true := by
  unfold findK at h
  obtain ⟨h1, h2, _⟩ := List.findIdx?_eq_some_iff_getElem.1 h
  exact ⟨Ws[k], List.getElem?_eq_getElem h1, h2⟩
theorem wheel_now {bw now turn : Nat} {L : List Tm} {HW : Heap} (h : WheelH bw now L turn HW) : True := trivial
theorem put_ways3 (nw : Nat) (hn : nw ≤ 18446744073709551615) (id : Int) : ¬ (0 ≤ id ∧ id < 256) ∨ ((0 ≤ id ∧ id < 256) ∧ nw = 18446744073709551615) ∨ ((0 ≤ id ∧ id < 256) ∧ nw < 18446744073709551615) := by
  by_cases h1 : 0 ≤ id ∧ id < 256
  · rcases Nat.lt_or_eq_of_le hn with h3 | h3
    · exact .inr (.inr ⟨h1, h3⟩)
    · exact .inr (.inl ⟨h1, h3⟩)
  · exact .inl h1
theorem Put_late' {w0 : World} {H HW : Heap} {bw turn a nw : Nat} {L : List Tm} {id : Int} (hW : WheelH bw nw L turn HW) (hid : 0 ≤ id ∧ id < 256) (ha : a ≤ 18446744073709551615) (hnew : id ∉ L.map (·.id)) (hm : nw = 18446744073709551615) :
    LCalls Tryd.prog w0 14 #[.pointer (some ⟨bw, 0, none⟩), .int .i64 id, .int .u64 ((a : Nat) : Int)] (HW ++ H) (fun v H' => v = .tuple #[.agg zSpot.v.toArray, .int .i64 12] ∧ H' = HW ++ H) := by
  subst hm; exact Put_late hW hid ha hnew
set_option maxHeartbeats 4000000 in
theorem PutB_L {w0 : World} {H : Heap} {HB : Heap} {bb : Nat} {Ws : List Wl} (hB : BankH bb Ws HB) (hn64 : Ws.length ≤ 64) {cpu id : Int} {a : Nat} (ha : a ≤ 18446744073709551615) (hnow : ∀ w ∈ Ws, w.now ≤ 18446744073709551615) (htn : ∀ w ∈ Ws, w.turn ≤ 4611686018427387904)  : LCalls Tryd.prog w0 22 #[.pointer (some ⟨bb, 0, none⟩), .int .i64 cpu, .int .i64 id, .int .u64 ((a : Nat) : Int)] (HB ++ H) (fun v H' => ∃ (Ws' : List Wl) (HB' : Heap) (s : Spot) (e : Int), BankH bb Ws' HB' ∧ v = .tuple #[.agg s.v.toArray, .int .i64 e] ∧ PutIs Ws cpu id a Ws' s e ∧ H' = HB' ++ H) := by
  refine L_enter (l := [.pointer (some ⟨bb, 0, none⟩), .int .i64 cpu, .int .i64 id, .int .u64 ((a : Nat) : Int)]) Tryd.func22 rfl Tryd.ntmps22 rfl rfl ?_
  refine W_sr ?_
  refine W_alloc (l := zSpot.v) ty27 rfl rfl (fun b8 => ?_)
  refine W_assign rfl rfl ?_
  refine W_nil ?_
  refine W_sr ?_
  refine W_move rfl rfl ?_
  refine W_move rfl rfl ?_
  refine W_callq (.cons rfl (.cons rfl .nil)) Tryd.call54 rfl (of_q (cpu := cpu) hB (fun p hp => List.mem_cons_of_mem _ (List.mem_append_left _ hp))) ?_
  rcases hwl : wlAt Ws cpu with _ | w
  · skip
    rw [ofV_none hwl]
    refine W_assign rfl rfl ?_
    refine W_nil ?_
    refine W_seq ?_
    refine W_block ?_
    refine W_sr ?_
    refine W_move rfl rfl ?_
    refine W_x (X_ptrNil rfl rfl ty45) (fun _ h => by cases h) rfl ?_
    refine W_assign rfl rfl ?_
    refine W_nil ?_
    refine W_condF rfl rfl ?_
    refine W_sr ?_
    refine W_move rfl rfl ?_
    refine W_x (X_ptrNil rfl rfl ty24) (fun _ h => by cases h) rfl ?_
    refine W_assign rfl rfl ?_
    refine W_nil ?_
    refine W_condT rfl rfl ?_
    refine W_sr ?_
    refine W_build ty27 pl27 .nil rfl (by simp only [fillL, spliceL, Value.cells, List.take_zero, List.take_succ_cons, List.take_nil, List.drop_zero, List.drop_succ_cons, List.drop_nil, List.nil_append, List.cons_append, List.append_nil, List.length_cons, List.length_nil, Nat.zero_add, Nat.reduceAdd, List.toList_toArray]; rfl) rfl ?_
    refine W_storeA (l' := zSpot.v) rfl rfl ty27 rfl rfl (b := b8) (by repeat (first | exact List.mem_cons_self | apply List.mem_cons_of_mem | apply List.mem_append_right)) (by exact Nat.le_refl 4) rfl (by repeat (first | exact Upd.head _ | apply Upd.tail | apply Upd.app)) ?_
    refine W_assign rfl rfl ?_
    refine W_nil ?_
    refine W_ret2G (H2 := HB ++ H) Tryd.results22 (.nil _) (.own rfl ty27 rfl (by repeat (first | exact List.mem_cons_self | apply List.mem_cons_of_mem | apply List.mem_append_right)) rfl) (.tmp rfl) (by first | exact hsubI | (repeat (first | with_reducible exact HSub.refl _ | refine HSub.cons (by repeat (first | exact Take.here _ | apply Take.next | apply Take.app)) ?_ | refine HSub.app (by repeat (first | with_reducible exact TakeS.here _ | apply TakeS.next | apply TakeS.app)) ?_ | exact HSub.nil _ | exact HSub.refl _ | refine HSub.drop ?_ | refine HSub.dropS ?_))) ?_
    exact ⟨Ws, HB, zSpot, 2, hB, rfl, .cpu hwl, rfl⟩
  · skip
    rw [ofV_some hwl]
    obtain ⟨k, hck, hwk⟩ := wlAt_at hwl
    refine W_assign rfl rfl ?_
    refine W_nil ?_
    refine W_seq ?_
    refine W_block ?_
    refine W_sr ?_
    refine W_move rfl rfl ?_
    refine W_x (X_ptrNil rfl rfl ty45) (fun _ h => by cases h) rfl ?_
    refine W_assign rfl rfl ?_
    refine W_nil ?_
    refine W_condF rfl rfl ?_
    refine W_sr ?_
    refine W_move rfl rfl ?_
    refine W_x (X_ptrNil rfl rfl ty24) (fun _ h => by cases h) rfl ?_
    refine W_assign rfl rfl ?_
    refine W_nil ?_
    refine W_condF rfl rfl ?_
    refine W_skip ?_
    refine W_blk ?_
    refine W_seq ?_
    refine W_sr ?_
    refine W_move rfl rfl ?_
    refine W_move rfl rfl ?_
    refine W_call (.cons rfl (.cons rfl .nil)) Tryd.call27 rfl (LCalls.hsub (FindB_L (id := id) hB hn64 (H := (b8, .cells 27 4 zSpot.v) :: H)) (by first | exact hsubI | (repeat (first | with_reducible exact HSub.refl _ | refine HSub.cons (by repeat (first | exact Take.here _ | apply Take.next | apply Take.app)) ?_ | refine HSub.app (by repeat (first | with_reducible exact TakeS.here _ | apply TakeS.next | apply TakeS.app)) ?_ | exact HSub.nil _ | exact HSub.refl _ | refine HSub.drop ?_ | refine HSub.dropS ?_)))) ?_
    rintro v H' ⟨HB1, hB1, rfl, rfl⟩
    rcases hfk : findK Ws id with _ | kf
    · skip
      rw [show findV Ws id = .tuple #[.int .i64 0, .agg zSpot.v.toArray, .bool false] from by unfold findV; rw [hfk]]
      obtain ⟨HW1, HR1, hW1, hs3, hs4⟩ := hB1.at hwk
      have hno := findK_no hfk (List.mem_of_getElem? hwk)
      have hnm := wheel_now hW1
      refine W_move rfl rfl ?_
      refine W_extract rfl rfl rfl ?_
      refine W_extract rfl rfl rfl ?_
      refine W_extract rfl rfl rfl ?_
      refine W_alloc (l := zSpot.v) ty27 rfl rfl (fun b12 => ?_)
      refine W_assign rfl rfl ?_
      refine W_storeA (l' := zSpot.v) rfl rfl ty27 rfl rfl (b := b12) (by repeat (first | exact List.mem_cons_self | apply List.mem_cons_of_mem | apply List.mem_append_right)) (by exact Nat.le_refl 4) rfl (by repeat (first | exact Upd.head _ | apply Upd.tail | apply Upd.app)) ?_
      refine W_assign rfl rfl ?_
      refine W_nil ?_
      refine W_sr ?_
      refine W_move rfl rfl ?_
      refine W_nil ?_
      refine W_condF rfl rfl ?_
      refine W_skip ?_
      refine W_sr ?_
      refine W_hsub (H' := HB1 ++ ((b8, .cells 27 4 zSpot.v) :: H)) (by first | exact hsubI | (repeat (first | with_reducible exact HSub.refl _ | refine HSub.cons (by repeat (first | exact Take.here _ | apply Take.next | apply Take.app)) ?_ | refine HSub.app (by repeat (first | with_reducible exact TakeS.here _ | apply TakeS.next | apply TakeS.app)) ?_ | exact HSub.nil _ | exact HSub.refl _ | refine HSub.drop ?_ | refine HSub.dropS ?_))) ?_
      rcases put_ways3 w.now (hnow w (List.mem_of_getElem? hwk)) id with hr | ⟨hr, hnm2⟩ | ⟨hr, hlt⟩
      · skip
        refine W_move rfl rfl ?_
        refine W_move rfl rfl ?_
        refine W_move rfl rfl ?_
        refine W_callp (.cons rfl (.cons rfl (.cons rfl .nil))) Tryd.call14 rfl (T := fun _ => True) trivial (Put_range (bw := w.bw) (id := id) (z := (a : Int)) (by omega)) ?_
        refine W_extract rfl rfl rfl ?_
        refine W_extract rfl rfl rfl ?_
        refine W_storeA (l' := zSpot.v) rfl rfl ty27 rfl rfl (b := b8) (by repeat (first | exact List.mem_cons_self | apply List.mem_cons_of_mem | apply List.mem_append_right)) (by exact Nat.le_refl 4) rfl (by repeat (first | exact Upd.head _ | apply Upd.tail | apply Upd.app)) ?_
        refine W_assign rfl rfl ?_
        refine W_nil ?_
        refine W_ret2G (H2 := HB1 ++ H) Tryd.results22 (.nil _) (.own rfl ty27 rfl (by repeat (first | exact List.mem_cons_self | apply List.mem_cons_of_mem | apply List.mem_append_right)) rfl) (.tmp rfl) (by first | exact hsubI | (repeat (first | with_reducible exact HSub.refl _ | refine HSub.cons (by repeat (first | exact Take.here _ | apply Take.next | apply Take.app)) ?_ | refine HSub.app (by repeat (first | with_reducible exact TakeS.here _ | apply TakeS.next | apply TakeS.app)) ?_ | exact HSub.nil _ | exact HSub.refl _ | refine HSub.drop ?_ | refine HSub.dropS ?_))) ?_
        exact ⟨Ws, HB1, zSpot, 2, hB1, rfl, .range hwl hfk hr, rfl⟩
      · skip
        refine W_move rfl rfl ?_
        refine W_move rfl rfl ?_
        refine W_move rfl rfl ?_
        refine W_hsub (H' := HW1 ++ ((b8, .cells 27 4 zSpot.v) :: (HR1 ++ H))) ((hs3 ((b8, .cells 27 4 zSpot.v) :: H)).trans (by first | exact hsubI | (repeat (first | with_reducible exact HSub.refl _ | refine HSub.cons (by repeat (first | exact Take.here _ | apply Take.next | apply Take.app)) ?_ | refine HSub.app (by repeat (first | with_reducible exact TakeS.here _ | apply TakeS.next | apply TakeS.app)) ?_ | exact HSub.nil _ | exact HSub.refl _ | refine HSub.drop ?_ | refine HSub.dropS ?_)))) ?_
        refine W_call (.cons rfl (.cons rfl (.cons rfl .nil))) Tryd.call14 rfl (Put_late' (a := a) hW1 hr ha hno hnm2 (H := (b8, .cells 27 4 zSpot.v) :: (HR1 ++ H))) ?_
        rintro v H' ⟨rfl, rfl⟩
        obtain ⟨HB2, hB2, hs5⟩ := hs4 w HW1 rfl hW1
        rw [set_same hwk] at hB2
        refine W_hsub (H' := (b8, .cells 27 4 zSpot.v) :: (HB2 ++ H)) ((show HSub _ ((b8, .cells 27 4 zSpot.v) :: (HW1 ++ (HR1 ++ H))) from (by first | exact hsubI | (repeat (first | with_reducible exact HSub.refl _ | refine HSub.cons (by repeat (first | exact Take.here _ | apply Take.next | apply Take.app)) ?_ | refine HSub.app (by repeat (first | with_reducible exact TakeS.here _ | apply TakeS.next | apply TakeS.app)) ?_ | exact HSub.nil _ | exact HSub.refl _ | refine HSub.drop ?_ | refine HSub.dropS ?_)))).trans (.cons (.here _) (hs5 H))) ?_
        refine W_extract rfl rfl rfl ?_
        refine W_extract rfl rfl rfl ?_
        refine W_storeA (l' := zSpot.v) rfl rfl ty27 rfl rfl (b := b8) (by repeat (first | exact List.mem_cons_self | apply List.mem_cons_of_mem | apply List.mem_append_right)) (by exact Nat.le_refl 4) rfl (by repeat (first | exact Upd.head _ | apply Upd.tail | apply Upd.app)) ?_
        refine W_assign rfl rfl ?_
        refine W_nil ?_
        refine W_ret2G (H2 := HB2 ++ H) Tryd.results22 (.nil _) (.own rfl ty27 rfl (by repeat (first | exact List.mem_cons_self | apply List.mem_cons_of_mem | apply List.mem_append_right)) rfl) (.tmp rfl) (by first | exact hsubI | (repeat (first | with_reducible exact HSub.refl _ | refine HSub.cons (by repeat (first | exact Take.here _ | apply Take.next | apply Take.app)) ?_ | refine HSub.app (by repeat (first | with_reducible exact TakeS.here _ | apply TakeS.next | apply TakeS.app)) ?_ | exact HSub.nil _ | exact HSub.refl _ | refine HSub.drop ?_ | refine HSub.dropS ?_))) ?_
        exact ⟨Ws, HB2, zSpot, 12, hB2, rfl, .late hwl hfk hr hnm2, rfl⟩
      · skip
        refine W_move rfl rfl ?_
        refine W_move rfl rfl ?_
        refine W_move rfl rfl ?_
        refine W_hsub (H' := HW1 ++ ((b8, .cells 27 4 zSpot.v) :: (HR1 ++ H))) ((hs3 ((b8, .cells 27 4 zSpot.v) :: H)).trans (by first | exact hsubI | (repeat (first | with_reducible exact HSub.refl _ | refine HSub.cons (by repeat (first | exact Take.here _ | apply Take.next | apply Take.app)) ?_ | refine HSub.app (by repeat (first | with_reducible exact TakeS.here _ | apply TakeS.next | apply TakeS.app)) ?_ | exact HSub.nil _ | exact HSub.refl _ | refine HSub.drop ?_ | refine HSub.dropS ?_)))) ?_
        refine W_call (.cons rfl (.cons rfl (.cons rfl .nil))) Tryd.call14 rfl (Put_L (a := a) hW1 hlt ha hr hno (htn w (List.mem_of_getElem? hwk)) (H := (b8, .cells 27 4 zSpot.v) :: (HR1 ++ H))) ?_
        rintro v H' ⟨HW2, hW2, rfl, rfl⟩
        obtain ⟨HB2, hB2, hs5⟩ := hs4 ⟨w.bw, w.now, w.L ++ [tmOf w.now a w.turn id], w.turn + 1⟩ HW2 rfl hW2
        refine W_hsub (H' := (b8, .cells 27 4 zSpot.v) :: (HB2 ++ H)) ((show HSub _ ((b8, .cells 27 4 zSpot.v) :: (HW2 ++ (HR1 ++ H))) from (by first | exact hsubI | (repeat (first | with_reducible exact HSub.refl _ | refine HSub.cons (by repeat (first | exact Take.here _ | apply Take.next | apply Take.app)) ?_ | refine HSub.app (by repeat (first | with_reducible exact TakeS.here _ | apply TakeS.next | apply TakeS.app)) ?_ | exact HSub.nil _ | exact HSub.refl _ | refine HSub.drop ?_ | refine HSub.dropS ?_)))).trans (.cons (.here _) (hs5 H))) ?_
        refine W_extract rfl rfl rfl ?_
        refine W_extract rfl rfl rfl ?_
        refine W_storeA (l' := (placeT w.now a).1.v) rfl rfl ty27 rfl rfl (b := b8) (by repeat (first | exact List.mem_cons_self | apply List.mem_cons_of_mem | apply List.mem_append_right)) (by exact Nat.le_refl 4) rfl (by repeat (first | exact Upd.head _ | apply Upd.tail | apply Upd.app)) ?_
        refine W_assign rfl rfl ?_
        refine W_nil ?_
        refine W_ret2G (H2 := HB2 ++ H) Tryd.results22 (.nil _) (.own rfl ty27 rfl (by repeat (first | exact List.mem_cons_self | apply List.mem_cons_of_mem | apply List.mem_append_right)) rfl) (.tmp rfl) (by first | exact hsubI | (repeat (first | with_reducible exact HSub.refl _ | refine HSub.cons (by repeat (first | exact Take.here _ | apply Take.next | apply Take.app)) ?_ | refine HSub.app (by repeat (first | with_reducible exact TakeS.here _ | apply TakeS.next | apply TakeS.app)) ?_ | exact HSub.nil _ | exact HSub.refl _ | refine HSub.drop ?_ | refine HSub.dropS ?_))) ?_
        exact ⟨_, HB2, _, 0, hB2, rfl, .ok hck hwk hfk hr hlt, rfl⟩
    · skip
      obtain ⟨wf, hwf, hfh⟩ := findK_at hfk
      rw [show findV Ws id = .tuple #[.int .i64 (kf : Int), .agg (spotOf wf.L id).v.toArray, .bool true] from by unfold findV; rw [hfk]; dsimp only; rw [hwf]]
      refine W_move rfl rfl ?_
      refine W_extract rfl rfl rfl ?_
      refine W_extract rfl rfl rfl ?_
      refine W_extract rfl rfl rfl ?_
      refine W_alloc (l := zSpot.v) ty27 rfl rfl (fun b12 => ?_)
      refine W_assign rfl rfl ?_
      refine W_storeA (l' := (spotOf wf.L id).v) rfl rfl ty27 rfl rfl (b := b12) (by repeat (first | exact List.mem_cons_self | apply List.mem_cons_of_mem | apply List.mem_append_right)) (by exact Nat.le_refl 4) rfl (by repeat (first | exact Upd.head _ | apply Upd.tail | apply Upd.app)) ?_
      refine W_assign rfl rfl ?_
      refine W_nil ?_
      refine W_sr ?_
      refine W_move rfl rfl ?_
      refine W_nil ?_
      refine W_condT rfl rfl ?_
      refine W_sr ?_
      refine W_build ty27 pl27 .nil rfl (by simp only [fillL, spliceL, Value.cells, List.take_zero, List.take_succ_cons, List.take_nil, List.drop_zero, List.drop_succ_cons, List.drop_nil, List.nil_append, List.cons_append, List.append_nil, List.length_cons, List.length_nil, Nat.zero_add, Nat.reduceAdd, List.toList_toArray]; rfl) rfl ?_
      refine W_storeA (l' := zSpot.v) rfl rfl ty27 rfl rfl (b := b8) (by repeat (first | exact List.mem_cons_self | apply List.mem_cons_of_mem | apply List.mem_append_right)) (by exact Nat.le_refl 4) rfl (by repeat (first | exact Upd.head _ | apply Upd.tail | apply Upd.app)) ?_
      refine W_assign rfl rfl ?_
      refine W_nil ?_
      refine W_ret2G (H2 := HB1 ++ H) Tryd.results22 (.nil _) (.own rfl ty27 rfl (by repeat (first | exact List.mem_cons_self | apply List.mem_cons_of_mem | apply List.mem_append_right)) rfl) (.tmp rfl) (by first | exact hsubI | (repeat (first | with_reducible exact HSub.refl _ | refine HSub.cons (by repeat (first | exact Take.here _ | apply Take.next | apply Take.app)) ?_ | refine HSub.app (by repeat (first | with_reducible exact TakeS.here _ | apply TakeS.next | apply TakeS.app)) ?_ | exact HSub.nil _ | exact HSub.refl _ | refine HSub.drop ?_ | refine HSub.dropS ?_))) ?_
      exact ⟨Ws, HB1, zSpot, 5, hB1, rfl, .twice hwl hfk, rfl⟩
end Go.Proofs.YtknbohnoiigioaaDoor
namespace Go.Proofs.YtknbohnoiigioaaDoor
open Go Go.Sl
attribute [local irreducible] W
set_option maxHeartbeats 1000000 in
theorem lenc_pure {x y : Value} : Pure Tryd.prog (fun _ => True) 59 [x, y] (.bool true) := by
  intro w0 H hT
  refine L_enter Tryd.func59 rfl Tryd.ntmps59 rfl rfl ?_
  refine W_sr ?_
  refine W_assign rfl rfl ?_
  refine W_nil ?_
  refine W_sr ?_
  refine W_assign rfl rfl ?_
  refine W_nil ?_
  refine W_ret1m (H2 := H) Tryd.results59 rfl (.nil _) (by first | exact hsubI | (repeat (first | with_reducible exact HSub.refl _ | refine HSub.cons (by repeat (first | exact Take.here _ | apply Take.next | apply Take.app)) ?_ | refine HSub.app (by repeat (first | with_reducible exact TakeS.here _ | apply TakeS.next | apply TakeS.app)) ?_ | exact HSub.nil _ | exact HSub.refl _ | refine HSub.drop ?_ | refine HSub.dropS ?_))) ?_
  exact ⟨rfl, rfl⟩
set_option maxHeartbeats 1000000 in
theorem delc_pure {x y : Value} : Pure Tryd.prog (fun _ => True) 61 [x, y] (.bool true) := by
  intro w0 H hT
  refine L_enter Tryd.func61 rfl Tryd.ntmps61 rfl rfl ?_
  refine W_sr ?_
  refine W_assign rfl rfl ?_
  refine W_nil ?_
  refine W_sr ?_
  refine W_assign rfl rfl ?_
  refine W_nil ?_
  refine W_ret1m (H2 := H) Tryd.results61 rfl (.nil _) (by first | exact hsubI | (repeat (first | with_reducible exact HSub.refl _ | refine HSub.cons (by repeat (first | exact Take.here _ | apply Take.next | apply Take.app)) ?_ | refine HSub.app (by repeat (first | with_reducible exact TakeS.here _ | apply TakeS.next | apply TakeS.app)) ?_ | exact HSub.nil _ | exact HSub.refl _ | refine HSub.drop ?_ | refine HSub.dropS ?_))) ?_
  exact ⟨rfl, rfl⟩
theorem len_q2 {w0 : World} {H HW : Heap} {bw now turn : Nat} {L : List Tm} (hW : WheelH bw now L turn HW) (hm : ∀ p ∈ HW, p ∈ H) : PureAt Tryd.prog w0 H 17 [.pointer (some ⟨bw, 0, none⟩)] (.int .i64 (L.length : Int)) := by
  cases hW with
  | @mk bm c sl XS bs l h =>
    have := Len_q (w0 := w0) (H := H) (now := now) (turn := turn) (c := c) (l := l) h.row (hm _ List.mem_cons_self) (hm _ (List.mem_cons_of_mem _ List.mem_cons_self))
    have e : l.length = L.length := by have := h.keys.length_eq; rwa [List.length_map, List.length_map] at this
    rw [e] at this
    exact this
/-- how many the first wheels hold -/
def lenK (Ws : List Wl) : Nat → Nat
  | 0 => 0
  | k + 1 => lenK Ws k + match Ws[k]? with
    | some w => w.L.length
    | none => 0
theorem lenK_at {Ws : List Wl} {k : Nat} {w : Wl} (h : Ws[k]? = some w) : lenK Ws (k + 1) = lenK Ws k + w.L.length := by
  show lenK Ws k + (match Ws[k]? with | some w => w.L.length | none => 0) = _
  rw [h]
theorem lenK_le {Ws : List Wl} (h : ∀ w ∈ Ws, w.L.length ≤ 256) : ∀ k, lenK Ws k ≤ k * 256
  | 0 => Nat.zero_le _
  | k + 1 => by
    have ih := lenK_le h k
    rw [Nat.add_mul]
    show lenK Ws k + (match Ws[k]? with | some w => w.L.length | none => 0) ≤ _
    refine Nat.add_le_add ih ?_
    cases hk : Ws[k]? with
    | none => exact Nat.zero_le _
    | some w => exact Nat.le_trans (h w (List.mem_of_getElem? hk)) (Nat.le_of_eq (Nat.one_mul 256).symm)
theorem BankH.lens {bb : Nat} {Ws : List Wl} {HB : Heap} (h : BankH bb Ws HB) : ∀ w ∈ Ws, w.L.length ≤ 256 := fun w hw => by
  obtain ⟨k, hk, e⟩ := List.getElem_of_mem hw
  obtain ⟨HW, hW, _⟩ := h.wheel (k := k) (w := w) (by rw [List.getElem?_eq_getElem hk, e])
  exact hW.ids.2.2.2
set_option maxHeartbeats 4000000 in
theorem LenB_L {w0 : World} {H : Heap} {HB : Heap} {bb : Nat} {Ws : List Wl} (hB : BankH bb Ws HB) (hn64 : Ws.length ≤ 64)  : LCalls Tryd.prog w0 29 #[.pointer (some ⟨bb, 0, none⟩)] (HB ++ H) (fun v H' => ∃ HB', BankH bb Ws HB' ∧ v = .int .i64 (lenK Ws Ws.length : Nat) ∧ H' = HB' ++ H) := by
  refine L_enter (l := [.pointer (some ⟨bb, 0, none⟩)]) Tryd.func29 rfl Tryd.ntmps29 rfl rfl ?_
  refine W_sr ?_
  refine W_assign rfl rfl ?_
  refine W_nil ?_
  refine W_sr ?_
  refine W_alloc (l := [.int .i64 0]) ty3 rfl rfl (fun b3 => ?_)
  refine W_store (l' := [.int .i64 0]) rfl rfl ty3 rfl rfl (b := b3) (by repeat (first | exact List.mem_cons_self | apply List.mem_cons_of_mem | apply List.mem_append_right)) rfl rfl (by repeat (first | exact Upd.head _ | apply Upd.tail | apply Upd.app)) ?_
  refine W_nil ?_
  refine W_seq ?_
  refine W_sr ?_
  refine W_move rfl rfl ?_
  refine W_call (.cons rfl (.cons rfl .nil)) Tryd.call56 rfl (such_L (b := .pointer (some ⟨bb, 0, none⟩)) (f := (Value.func (.func 59) #[] #[])) rfl rfl) ?_
  rintro v H' ⟨b2_, b3_, rfl, rfl⟩
  refine W_nil ?_
  refine W_block ?_
  refine W_rangeFunc rfl Tryd.call78 ?_
  intro lp D r hst hpd hps hasg hbody hA
  have hr := loop_ready hst hpd
  show LCalls _ _ _ #[_, _, _] _ _
  refine ((such_iter (b2 := b2_) (b3 := b3_) (bb := bb) (n := Ws.length) (fi := 59) (ca := []) (Ws0 := Ws) (HB0 := HB) (H := (lp, .obj (.loop r)) :: (D, .obj (.deferred (some []))) :: (b3, .cells 3 1 [.int .i64 (0 : Int)]) :: H) (fun k Ws2 Hr => Ws2 = Ws ∧ Hr = (lp, .obj (.loop r)) :: (D, .obj (.deferred (some []))) :: (b3, .cells 3 1 [.int .i64 ((lenK Ws k : Nat) : Int)]) :: H) (fun _ _ => False) (fun _ _ => true) Tryd.call59 hn64 (fun k Ws' Hr hJ => by rw [hJ.1]) (fun k Ws2 HB2 Hr w hk hw hB2 hJ => lenc_pure.at trivial) (fun k Ws2 Hr w hk hw hJ hs => by cases hs) ?_ hB ⟨rfl, rfl⟩).hsub (by first | exact hsubI | (repeat (first | with_reducible exact HSub.refl _ | refine HSub.cons (by repeat (first | exact Take.here _ | apply Take.next | apply Take.app)) ?_ | refine HSub.app (by repeat (first | with_reducible exact TakeS.here _ | apply TakeS.next | apply TakeS.app)) ?_ | exact HSub.nil _ | exact HSub.refl _ | refine HSub.drop ?_ | refine HSub.dropS ?_)))).mono ?_
  · intro k Ws2 HB2 Hr w hk hw hB2 hJ hs
    obtain ⟨rfl, rfl⟩ := hJ
    obtain ⟨HW, hW, hmw⟩ := hB2.wheel hw
    have hl1 := lenK_le hB2.lens k
    have hl2 := hB2.lens w (List.mem_of_getElem? hw)
    have hl3 := lenK_at hw
    refine round_intro hst hpd hA hps rfl hasg rfl rfl rfl (by repeat (first | exact Take.here _ | apply Take.next | apply Take.app)) ?_
    refine W_region ?_
    refine W_assign rfl rfl ?_
    refine W_nil ?_
    refine W_begin hst hpd (by repeat (first | exact Take.here _ | apply Take.next | apply Take.app)) hbody ?_
    refine W_block ?_
    refine Rd.W_anyS [(b3, .cells 3 1 [.int .i64 ((lenK Ws2 k : Nat) : Int)])] 4 (by kernel_rfl) ?_
    refine Rd.WS_take 0 (l' := #[true, false, false, false, false]) rfl rfl (by decide +kernel) (by decide +kernel) (by decide +kernel) (by decide +kernel) (by decide +kernel) rfl (by decide +kernel) (X_load (v := .int .i64 (lenK Ws2 k : Nat)) rfl ty3 rfl (Cell.own (b := b3) (by repeat (first | exact List.mem_cons_self | apply List.mem_cons_of_mem | apply List.mem_append_right)) rfl)) rfl ?_
    refine Rd.WS_take 1 (l' := #[true, true, false, false, false]) rfl rfl (by decide +kernel) (by decide +kernel) (by decide +kernel) (by decide +kernel) (by decide +kernel) rfl (by decide +kernel) (X_move rfl) rfl ?_
    refine Rd.WS_one 2 (l' := #[true, true, true, false, false]) (by first | exact hsubI | (repeat (first | with_reducible exact HSub.refl _ | refine HSub.cons (by repeat (first | exact Take.here _ | apply Take.next | apply Take.app)) ?_ | refine HSub.app (by repeat (first | with_reducible exact TakeS.here _ | apply TakeS.next | apply TakeS.app)) ?_ | exact HSub.nil _ | exact HSub.refl _ | refine HSub.drop ?_ | refine HSub.dropS ?_))) rfl (by decide +kernel) rfl (by decide +kernel) ?_
    refine W_callq (.cons rfl .nil) Tryd.call17 rfl (len_q2 hW (fun p hp => (by repeat (first | exact List.mem_append_left _ (hmw p hp) | exact List.mem_cons_self | apply List.mem_cons_of_mem | apply List.mem_append_right)))) ?_
    refine W_nil ?_
    refine Rd.WS_goal ?_
    refine Rd.WS_take 3 (l' := #[true, true, true, true, false]) rfl rfl (by decide +kernel) (by decide +kernel) (by decide +kernel) (by decide +kernel) (by decide +kernel) rfl (by decide +kernel) (X_bin rfl rfl (b_add (m := ((lenK Ws2 (k + 1) : Nat) : Int)) (by rw [i64w (by omega)]; omega))) rfl ?_
    refine Rd.WS_last (l' := #[true, true, true, true, true]) (by first | exact hsubI | (repeat (first | with_reducible exact HSub.refl _ | refine HSub.cons (by repeat (first | exact Take.here _ | apply Take.next | apply Take.app)) ?_ | refine HSub.app (by repeat (first | with_reducible exact TakeS.here _ | apply TakeS.next | apply TakeS.app)) ?_ | exact HSub.nil _ | exact HSub.refl _ | refine HSub.drop ?_ | refine HSub.dropS ?_))) (by decide +kernel) rfl (by decide +kernel) ?_
    refine W_store (l' := [.int .i64 (lenK Ws2 (k + 1) : Nat)]) rfl rfl ty3 rfl rfl (b := b3) (by repeat (first | exact List.mem_cons_self | apply List.mem_cons_of_mem | apply List.mem_append_right)) rfl rfl (by repeat (first | exact Upd.head _ | apply Upd.tail | apply Upd.app)) ?_
    refine W_nil ?_
    refine Rd.WC_goal ?_
    refine Rd.WC_done (.nil _) (by decide +kernel) ?_
    refine W_blk ?_
    refine W_endround (by repeat (first | exact Take.here _ | apply Take.next | apply Take.app)) ?_
    rw [hr]
    exact ⟨Ws2, HB2, (lp, .obj (.loop r)) :: (D, .obj (.deferred (some []))) :: (b3, .cells 3 1 [.int .i64 ((lenK Ws2 (k + 1) : Nat) : Int)]) :: H, hB2, (by first | exact hsubI | (repeat (first | with_reducible exact HSub.refl _ | refine HSub.cons (by repeat (first | exact Take.here _ | apply Take.next | apply Take.app)) ?_ | refine HSub.app (by repeat (first | with_reducible exact TakeS.here _ | apply TakeS.next | apply TakeS.app)) ?_ | exact HSub.nil _ | exact HSub.refl _ | refine HSub.drop ?_ | refine HSub.dropS ?_))), .inl ⟨rfl, rfl, rfl⟩⟩
  · intro _ H' hp
    obtain ⟨Ws2, HB2, Hr, hB2, hs, hJS⟩ := hp
    obtain ⟨rfl, rfl⟩ := hJS.resolve_right (fun h => h)
    refine ⟨.ready, none, (b2_, .cells 45 1 [.pointer (some ⟨bb, 0, none⟩)]) :: (b3_, .cells 114 1 [(Value.func (.func 59) #[] #[])]) :: (HB2 ++ ((D, .obj (.deferred (some []))) :: (b3, .cells 3 1 [.int .i64 ((lenK Ws2 Ws2.length : Nat) : Int)]) :: H)), by rw [hr]; exact hs.trans (by first | exact hsubI | (repeat (first | with_reducible exact HSub.refl _ | refine HSub.cons (by repeat (first | exact Take.here _ | apply Take.next | apply Take.app)) ?_ | refine HSub.app (by repeat (first | with_reducible exact TakeS.here _ | apply TakeS.next | apply TakeS.app)) ?_ | exact HSub.nil _ | exact HSub.refl _ | refine HSub.drop ?_ | refine HSub.dropS ?_))), by decide, ?_⟩
    show W _ _ _ _ _ _ _ _ _
    refine W_blk ?_
    refine W_sr ?_
    refine W_load (v := .int .i64 (lenK Ws2 Ws2.length : Nat)) rfl ty3 rfl (Cell.own (b := b3) (by repeat (first | exact List.mem_cons_self | apply List.mem_cons_of_mem | apply List.mem_append_right)) rfl) rfl ?_
    refine W_assign rfl rfl ?_
    refine W_nil ?_
    refine W_ret1m (H2 := HB2 ++ H) Tryd.results29 rfl (.cons (by repeat (first | exact Take.here _ | apply Take.next | apply Take.app)) (.nil _)) (by first | exact hsubI | (repeat (first | with_reducible exact HSub.refl _ | refine HSub.cons (by repeat (first | exact Take.here _ | apply Take.next | apply Take.app)) ?_ | refine HSub.app (by repeat (first | with_reducible exact TakeS.here _ | apply TakeS.next | apply TakeS.app)) ?_ | exact HSub.nil _ | exact HSub.refl _ | refine HSub.drop ?_ | refine HSub.dropS ?_))) ?_
    exact ⟨HB2, hB2, rfl, rfl⟩
set_option maxHeartbeats 1000000 in
theorem LenB_nil  : Pure Tryd.prog (fun _ => True) 29 [.pointer none] (.int .i64 0) := by
  intro w0 H hT
  refine L_enter Tryd.func29 rfl Tryd.ntmps29 rfl rfl ?_
  refine W_sr ?_
  refine W_assign rfl rfl ?_
  refine W_nil ?_
  refine W_sr ?_
  refine W_alloc (l := [.int .i64 0]) ty3 rfl rfl (fun b3 => ?_)
  refine W_store (l' := [.int .i64 0]) rfl rfl ty3 rfl rfl (b := b3) (by repeat (first | exact List.mem_cons_self | apply List.mem_cons_of_mem | apply List.mem_append_right)) rfl rfl (by repeat (first | exact Upd.head _ | apply Upd.tail | apply Upd.app)) ?_
  refine W_nil ?_
  refine W_seq ?_
  refine W_sr ?_
  refine W_move rfl rfl ?_
  refine W_call (.cons rfl (.cons rfl .nil)) Tryd.call56 rfl (such_L (b := .pointer none) (f := (Value.func (.func 59) #[] #[])) rfl rfl) ?_
  rintro v H' ⟨b2_, b3_, rfl, rfl⟩
  refine W_nil ?_
  refine W_block ?_
  refine W_rangeFunc rfl Tryd.call78 ?_
  intro lp D r hst hpd hps hasg hbody hA
  have hr := loop_ready hst hpd
  show LCalls _ _ _ #[_, _, _] _ _
  refine ((such_none (b2 := b2_) (b3 := b3_) (cv := (Value.func (.func 59) #[] #[])) (H := (lp, .obj (.loop r)) :: (D, .obj (.deferred (some []))) :: (b3, .cells 3 1 [.int .i64 (0 : Int)]) :: H)).hsub (by first | exact hsubI | (repeat (first | with_reducible exact HSub.refl _ | refine HSub.cons (by repeat (first | exact Take.here _ | apply Take.next | apply Take.app)) ?_ | refine HSub.app (by repeat (first | with_reducible exact TakeS.here _ | apply TakeS.next | apply TakeS.app)) ?_ | exact HSub.nil _ | exact HSub.refl _ | refine HSub.drop ?_ | refine HSub.dropS ?_)))).mono ?_
  rintro _ H' rfl
  refine ⟨.ready, none, (b2_, .cells 45 1 [.pointer none]) :: (b3_, .cells 114 1 [(Value.func (.func 59) #[] #[])]) :: (D, .obj (.deferred (some []))) :: (b3, .cells 3 1 [.int .i64 (0 : Int)]) :: H, by rw [hr]; exact (by first | exact hsubI | (repeat (first | with_reducible exact HSub.refl _ | refine HSub.cons (by repeat (first | exact Take.here _ | apply Take.next | apply Take.app)) ?_ | refine HSub.app (by repeat (first | with_reducible exact TakeS.here _ | apply TakeS.next | apply TakeS.app)) ?_ | exact HSub.nil _ | exact HSub.refl _ | refine HSub.drop ?_ | refine HSub.dropS ?_))), by decide, ?_⟩
  show W _ _ _ _ _ _ _ _ _
  refine W_blk ?_
  refine W_sr ?_
  refine W_load (v := .int .i64 0) rfl ty3 rfl (Cell.own (b := b3) (by repeat (first | exact List.mem_cons_self | apply List.mem_cons_of_mem | apply List.mem_append_right)) rfl) rfl ?_
  refine W_assign rfl rfl ?_
  refine W_nil ?_
  refine W_ret1m (H2 := H) Tryd.results29 rfl (.cons (by repeat (first | exact Take.here _ | apply Take.next | apply Take.app)) (.nil _)) (by first | exact hsubI | (repeat (first | with_reducible exact HSub.refl _ | refine HSub.cons (by repeat (first | exact Take.here _ | apply Take.next | apply Take.app)) ?_ | refine HSub.app (by repeat (first | with_reducible exact TakeS.here _ | apply TakeS.next | apply TakeS.app)) ?_ | exact HSub.nil _ | exact HSub.refl _ | refine HSub.drop ?_ | refine HSub.dropS ?_))) ?_
  exact ⟨rfl, rfl⟩
/-- a wheel without some -/
def delW (l : List Int) (w : Wl) : Wl := ⟨w.bw, w.now, (delsT w.L l).1, w.turn⟩
def delK (Ws : List Wl) (l : List Int) (k : Nat) : List Wl := (Ws.take k).map (delW l) ++ Ws.drop k
theorem delK_len (Ws : List Wl) (l : List Int) (k : Nat) : (delK Ws l k).length = Ws.length := by
  unfold delK
  rw [List.length_append, List.length_map, List.length_take, List.length_drop]; omega
theorem delK_at {Ws : List Wl} {l : List Int} {k : Nat} {w : Wl} (h : Ws[k]? = some w) : (delK Ws l k)[k]? = some w := by
  have hk := (List.getElem?_eq_some_iff.1 h).1
  unfold delK
  rw [List.getElem?_append_right (by rw [List.length_map, List.length_take]; omega), List.length_map, List.length_take, Nat.min_eq_left (by omega), Nat.sub_self, List.getElem?_drop, Nat.add_zero, h]
theorem delK_set {Ws : List Wl} {l : List Int} {k : Nat} {w : Wl} (h : Ws[k]? = some w) : (delK Ws l k).set k (delW l w) = delK Ws l (k + 1) := by
  have hk := (List.getElem?_eq_some_iff.1 h).1
  have e : Ws.drop k = w :: Ws.drop (k + 1) := by
    rw [List.drop_eq_getElem_cons hk, (List.getElem?_eq_some_iff.1 h).2]
  unfold delK
  rw [takeAt h, List.map_append, e, List.set_append_right _ _ (by rw [List.length_map, List.length_take]; omega), List.length_map, List.length_take, Nat.min_eq_left (by omega), Nat.sub_self]
  simp
theorem delK_all (Ws : List Wl) (l : List Int) : delK Ws l Ws.length = Ws.map (delW l) := by
  unfold delK
  rw [List.take_length, List.drop_length, List.append_nil]
def cntK (Ws : List Wl) (l : List Int) : Nat → Nat
  | 0 => 0
  | k + 1 => cntK Ws l k + match Ws[k]? with
    | some w => (delsT w.L l).2
    | none => 0
theorem cntK_at {Ws : List Wl} {l : List Int} {k : Nat} {w : Wl} (h : Ws[k]? = some w) : cntK Ws l (k + 1) = cntK Ws l k + (delsT w.L l).2 := by
  show cntK Ws l k + (match Ws[k]? with | some w => (delsT w.L l).2 | none => 0) = _
  rw [h]
theorem delsT_le2 (L : List Tm) (l : List Int) : (delsT L l).2 ≤ l.length := by
  have := delsT_le L l l.length (Nat.le_refl _)
  rwa [List.take_length] at this
theorem cntK_le (Ws : List Wl) (l : List Int) : ∀ k, cntK Ws l k ≤ k * l.length
  | 0 => Nat.zero_le _
  | k + 1 => by
    have ih := cntK_le Ws l k
    rw [Nat.add_mul]
    show cntK Ws l k + (match Ws[k]? with | some w => (delsT w.L l).2 | none => 0) ≤ _
    refine Nat.add_le_add ih ?_
    cases hk : Ws[k]? with
    | none => exact Nat.zero_le _
    | some w => exact Nat.le_trans (delsT_le2 w.L l) (Nat.le_of_eq (Nat.one_mul _).symm)
set_option maxHeartbeats 4000000 in
theorem DelB_L {w0 : World} {H : Heap} {HB : Heap} {bb : Nat} {Ws : List Wl} (hB : BankH bb Ws HB) (hn64 : Ws.length ≤ 64) {l : List Int} {ad : Option Addr} {cap : Nat} (hl : l.length ≤ 4611686018427387904) (hl2 : l.length ≤ 1000000) (hrow : Holds w0 H ad (l.map (Value.int .i64)))  : LCalls Tryd.prog w0 35 #[.pointer (some ⟨bb, 0, none⟩), .slice ad l.length cap] (HB ++ H) (fun v H' => ∃ HB', BankH bb (Ws.map (delW l)) HB' ∧ v = .int .i64 (cntK Ws l Ws.length : Nat) ∧ H' = HB' ++ H) := by
  refine L_enter (l := [.pointer (some ⟨bb, 0, none⟩), .slice ad l.length cap]) Tryd.func35 rfl Tryd.ntmps35 rfl rfl ?_
  refine W_sr ?_
  refine W_box (l := [.slice ad l.length cap]) rfl rfl rfl (fun b3 => ?_)
  refine W_assign rfl rfl ?_
  refine W_nil ?_
  refine W_sr ?_
  refine W_alloc (l := [.int .i64 0]) ty3 rfl rfl (fun b5 => ?_)
  refine W_store (l' := [.int .i64 0]) rfl rfl ty3 rfl rfl (b := b5) (by repeat (first | exact List.mem_cons_self | apply List.mem_cons_of_mem | apply List.mem_append_right)) rfl rfl (by repeat (first | exact Upd.head _ | apply Upd.tail | apply Upd.app)) ?_
  refine W_nil ?_
  refine W_seq ?_
  refine W_sr ?_
  refine W_move rfl rfl ?_
  refine W_call (.cons rfl (.cons rfl .nil)) Tryd.call56 rfl (such_L (b := .pointer (some ⟨bb, 0, none⟩)) (f := (Value.func (.func 61) #[] #[])) rfl rfl) ?_
  rintro v H' ⟨b2_, b3_, rfl, rfl⟩
  refine W_nil ?_
  refine W_block ?_
  refine W_rangeFunc rfl Tryd.call78 ?_
  intro lp D r hst hpd hps hasg hbody hA
  have hr := loop_ready hst hpd
  show LCalls _ _ _ #[_, _, _] _ _
  refine ((such_iter (b2 := b2_) (b3 := b3_) (bb := bb) (n := Ws.length) (fi := 61) (ca := []) (Ws0 := Ws) (HB0 := HB) (H := (lp, .obj (.loop r)) :: (D, .obj (.deferred (some []))) :: (b5, .cells 3 1 [.int .i64 (0 : Int)]) :: (b3, .cells 35 1 [.slice ad l.length cap]) :: H) (fun k Ws2 Hr => Ws2 = delK Ws l k ∧ Hr = (lp, .obj (.loop r)) :: (D, .obj (.deferred (some []))) :: (b5, .cells 3 1 [.int .i64 ((cntK Ws l k : Nat) : Int)]) :: (b3, .cells 35 1 [.slice ad l.length cap]) :: H) (fun _ _ => False) (fun _ _ => true) Tryd.call61 hn64 (fun k Ws' Hr hJ => by rw [hJ.1, delK_len]) (fun k Ws2 HB2 Hr w hk hw hB2 hJ => delc_pure.at trivial) (fun k Ws2 Hr w hk hw hJ hs => by cases hs) ?_ hB ⟨by unfold delK; rw [List.take_zero, List.drop_zero]; rfl, rfl⟩).hsub (by first | exact hsubI | (repeat (first | with_reducible exact HSub.refl _ | refine HSub.cons (by repeat (first | exact Take.here _ | apply Take.next | apply Take.app)) ?_ | refine HSub.app (by repeat (first | with_reducible exact TakeS.here _ | apply TakeS.next | apply TakeS.app)) ?_ | exact HSub.nil _ | exact HSub.refl _ | refine HSub.drop ?_ | refine HSub.dropS ?_)))).mono ?_
  · intro k Ws2 HB2 Hr w hk hw hB2 hJ hs
    obtain ⟨rfl, rfl⟩ := hJ
    obtain ⟨w2, hw2⟩ : ∃ w2, Ws[k]? = some w2 := ⟨_, List.getElem?_eq_getElem hk⟩
    obtain rfl : w = w2 := Option.some.inj (hw.symm.trans (delK_at hw2))
    obtain ⟨HW, HR, hW, hs1, hs2⟩ := hB2.at hw
    have hc1 := cntK_le Ws l k
    have hc2 := delsT_le2 w.L l
    have hc3 := cntK_at (l := l) hw2
    have hc4 : k * l.length ≤ 64 * l.length := Nat.mul_le_mul_right _ (by omega)
    refine round_intro hst hpd hA hps rfl hasg rfl rfl rfl (by repeat (first | exact Take.here _ | apply Take.next | apply Take.app)) ?_
    refine W_region ?_
    refine W_assign rfl rfl ?_
    refine W_nil ?_
    refine W_begin hst hpd (by repeat (first | exact Take.here _ | apply Take.next | apply Take.app)) hbody ?_
    refine W_block ?_
    refine Rd.W_anyS [(b5, .cells 3 1 [.int .i64 ((cntK Ws l k : Nat) : Int)]), (b3, .cells 35 1 [.slice ad l.length cap])] 5 (by kernel_rfl) ?_
    refine Rd.WS_take 0 (l' := #[true, false, false, false, false, false]) rfl rfl (by decide +kernel) (by decide +kernel) (by decide +kernel) (by decide +kernel) (by decide +kernel) rfl (by decide +kernel) (X_load (v := .int .i64 (cntK Ws l k : Nat)) rfl ty3 rfl (Cell.own (b := b5) (by repeat (first | exact List.mem_cons_self | apply List.mem_cons_of_mem | apply List.mem_append_right)) rfl)) rfl ?_
    refine Rd.WS_take 1 (l' := #[true, true, false, false, false, false]) rfl rfl (by decide +kernel) (by decide +kernel) (by decide +kernel) (by decide +kernel) (by decide +kernel) rfl (by decide +kernel) (X_move rfl) rfl ?_
    refine Rd.WS_take 2 (l' := #[true, true, true, false, false, false]) rfl rfl (by decide +kernel) (by decide +kernel) (by decide +kernel) (by decide +kernel) (by decide +kernel) rfl (by decide +kernel) (X_load (v := .slice ad l.length cap) rfl ty35 rfl (Cell.own (b := b3) (by repeat (first | exact List.mem_cons_self | apply List.mem_cons_of_mem | apply List.mem_append_right)) rfl)) rfl ?_
    refine Rd.WS_one 3 (l' := #[true, true, true, true, false, false]) (by first | exact hsubI | (repeat (first | with_reducible exact HSub.refl _ | refine HSub.cons (by repeat (first | exact Take.here _ | apply Take.next | apply Take.app)) ?_ | refine HSub.app (by repeat (first | with_reducible exact TakeS.here _ | apply TakeS.next | apply TakeS.app)) ?_ | exact HSub.nil _ | exact HSub.refl _ | refine HSub.drop ?_ | refine HSub.dropS ?_))) rfl (by decide +kernel) rfl (by decide +kernel) ?_
    refine W_hsub (H' := HW ++ (HR ++ ((lp, .obj (.loop (Loop.at r .busy none))) :: (b2_, .cells 45 1 [.pointer (some ⟨bb, 0, none⟩)]) :: (b3_, .cells 114 1 [(Value.func (.func 61) #[] #[])]) :: (D, .obj (.deferred (some []))) :: (b5, .cells 3 1 [.int .i64 ((cntK Ws l k : Nat) : Int)]) :: (b3, .cells 35 1 [.slice ad l.length cap]) :: H))) ((show HSub _ (HB2 ++ ((lp, .obj (.loop (Loop.at r .busy none))) :: (b2_, .cells 45 1 [.pointer (some ⟨bb, 0, none⟩)]) :: (b3_, .cells 114 1 [(Value.func (.func 61) #[] #[])]) :: (D, .obj (.deferred (some []))) :: (b5, .cells 3 1 [.int .i64 ((cntK Ws l k : Nat) : Int)]) :: (b3, .cells 35 1 [.slice ad l.length cap]) :: H)) from (by first | exact hsubI | (repeat (first | with_reducible exact HSub.refl _ | refine HSub.cons (by repeat (first | exact Take.here _ | apply Take.next | apply Take.app)) ?_ | refine HSub.app (by repeat (first | with_reducible exact TakeS.here _ | apply TakeS.next | apply TakeS.app)) ?_ | exact HSub.nil _ | exact HSub.refl _ | refine HSub.drop ?_ | refine HSub.dropS ?_)))).trans (hs1 _)) ?_
    refine W_call (.cons rfl (.cons rfl .nil)) Tryd.call46 rfl (Del_L (l := l) hW hl (H := HR ++ ((lp, .obj (.loop (Loop.at r .busy none))) :: (b2_, .cells 45 1 [.pointer (some ⟨bb, 0, none⟩)]) :: (b3_, .cells 114 1 [(Value.func (.func 61) #[] #[])]) :: (D, .obj (.deferred (some []))) :: (b5, .cells 3 1 [.int .i64 ((cntK Ws l k : Nat) : Int)]) :: (b3, .cells 35 1 [.slice ad l.length cap]) :: H)) (hrow.up (by first | exact hsubI | (repeat (first | with_reducible exact HSub.refl _ | refine HSub.cons (by repeat (first | exact Take.here _ | apply Take.next | apply Take.app)) ?_ | refine HSub.app (by repeat (first | with_reducible exact TakeS.here _ | apply TakeS.next | apply TakeS.app)) ?_ | exact HSub.nil _ | exact HSub.refl _ | refine HSub.drop ?_ | refine HSub.dropS ?_))))) ?_
    rintro v H' ⟨HW', hW', rfl, rfl⟩
    obtain ⟨HB3, hB3, hs3⟩ := hs2 (delW l w) HW' rfl hW'
    rw [delK_set hw2] at hB3
    refine W_hsub (hs3 _) ?_
    refine W_nil ?_
    refine Rd.WS_goal ?_
    refine Rd.WS_take 4 (l' := #[true, true, true, true, true, false]) rfl rfl (by decide +kernel) (by decide +kernel) (by decide +kernel) (by decide +kernel) (by decide +kernel) rfl (by decide +kernel) (X_bin rfl rfl (b_add (m := ((cntK Ws l (k + 1) : Nat) : Int)) (by rw [i64w (by omega)]; omega))) rfl ?_
    refine Rd.WS_last (l' := #[true, true, true, true, true, true]) (by first | exact hsubI | (repeat (first | with_reducible exact HSub.refl _ | refine HSub.cons (by repeat (first | exact Take.here _ | apply Take.next | apply Take.app)) ?_ | refine HSub.app (by repeat (first | with_reducible exact TakeS.here _ | apply TakeS.next | apply TakeS.app)) ?_ | exact HSub.nil _ | exact HSub.refl _ | refine HSub.drop ?_ | refine HSub.dropS ?_))) (by decide +kernel) rfl (by decide +kernel) ?_
    refine W_store (l' := [.int .i64 (cntK Ws l (k + 1) : Nat)]) rfl rfl ty3 rfl rfl (b := b5) (by repeat (first | exact List.mem_cons_self | apply List.mem_cons_of_mem | apply List.mem_append_right)) rfl rfl (by repeat (first | exact Upd.head _ | apply Upd.tail | apply Upd.app)) ?_
    refine W_nil ?_
    refine Rd.WC_goal ?_
    refine Rd.WC_done (.nil _) (by decide +kernel) ?_
    refine W_blk ?_
    refine W_endround (by repeat (first | exact Take.here _ | apply Take.next | apply Take.app)) ?_
    rw [hr]
    exact ⟨delK Ws l (k + 1), HB3, (lp, .obj (.loop r)) :: (D, .obj (.deferred (some []))) :: (b5, .cells 3 1 [.int .i64 ((cntK Ws l (k + 1) : Nat) : Int)]) :: (b3, .cells 35 1 [.slice ad l.length cap]) :: H, hB3, (by first | exact hsubI | (repeat (first | with_reducible exact HSub.refl _ | refine HSub.cons (by repeat (first | exact Take.here _ | apply Take.next | apply Take.app)) ?_ | refine HSub.app (by repeat (first | with_reducible exact TakeS.here _ | apply TakeS.next | apply TakeS.app)) ?_ | exact HSub.nil _ | exact HSub.refl _ | refine HSub.drop ?_ | refine HSub.dropS ?_))), .inl ⟨rfl, rfl, rfl⟩⟩
  · intro _ H' hp
    obtain ⟨Ws2, HB2, Hr, hB2, hs, hJS⟩ := hp
    obtain ⟨rfl, rfl⟩ := hJS.resolve_right (fun h => h)
    rw [delK_all] at hB2
    refine ⟨.ready, none, (b2_, .cells 45 1 [.pointer (some ⟨bb, 0, none⟩)]) :: (b3_, .cells 114 1 [(Value.func (.func 61) #[] #[])]) :: (HB2 ++ ((D, .obj (.deferred (some []))) :: (b5, .cells 3 1 [.int .i64 ((cntK Ws l Ws.length : Nat) : Int)]) :: (b3, .cells 35 1 [.slice ad l.length cap]) :: H)), by rw [hr]; exact hs.trans (by first | exact hsubI | (repeat (first | with_reducible exact HSub.refl _ | refine HSub.cons (by repeat (first | exact Take.here _ | apply Take.next | apply Take.app)) ?_ | refine HSub.app (by repeat (first | with_reducible exact TakeS.here _ | apply TakeS.next | apply TakeS.app)) ?_ | exact HSub.nil _ | exact HSub.refl _ | refine HSub.drop ?_ | refine HSub.dropS ?_))), by decide, ?_⟩
    show W _ _ _ _ _ _ _ _ _
    refine W_blk ?_
    refine W_sr ?_
    refine W_load (v := .int .i64 (cntK Ws l Ws.length : Nat)) rfl ty3 rfl (Cell.own (b := b5) (by repeat (first | exact List.mem_cons_self | apply List.mem_cons_of_mem | apply List.mem_append_right)) rfl) rfl ?_
    refine W_assign rfl rfl ?_
    refine W_nil ?_
    refine W_ret1m (H2 := HB2 ++ H) Tryd.results35 rfl (.cons (by repeat (first | exact Take.here _ | apply Take.next | apply Take.app)) (.nil _)) (by first | exact hsubI | (repeat (first | with_reducible exact HSub.refl _ | refine HSub.cons (by repeat (first | exact Take.here _ | apply Take.next | apply Take.app)) ?_ | refine HSub.app (by repeat (first | with_reducible exact TakeS.here _ | apply TakeS.next | apply TakeS.app)) ?_ | exact HSub.nil _ | exact HSub.refl _ | refine HSub.drop ?_ | refine HSub.dropS ?_))) ?_
    exact ⟨HB2, hB2, rfl, rfl⟩
set_option maxHeartbeats 1000000 in
theorem DelB_nil {ad : Option Addr} {n cap : Nat} : Pure Tryd.prog (fun _ => True) 35 [.pointer none, .slice ad n cap] (.int .i64 0) := by
  intro w0 H hT
  refine L_enter Tryd.func35 rfl Tryd.ntmps35 rfl rfl ?_
  refine W_sr ?_
  refine W_box (l := [.slice ad n cap]) rfl rfl rfl (fun b3 => ?_)
  refine W_assign rfl rfl ?_
  refine W_nil ?_
  refine W_sr ?_
  refine W_alloc (l := [.int .i64 0]) ty3 rfl rfl (fun b5 => ?_)
  refine W_store (l' := [.int .i64 0]) rfl rfl ty3 rfl rfl (b := b5) (by repeat (first | exact List.mem_cons_self | apply List.mem_cons_of_mem | apply List.mem_append_right)) rfl rfl (by repeat (first | exact Upd.head _ | apply Upd.tail | apply Upd.app)) ?_
  refine W_nil ?_
  refine W_seq ?_
  refine W_sr ?_
  refine W_move rfl rfl ?_
  refine W_call (.cons rfl (.cons rfl .nil)) Tryd.call56 rfl (such_L (b := .pointer none) (f := (Value.func (.func 61) #[] #[])) rfl rfl) ?_
  rintro v H' ⟨b2_, b3_, rfl, rfl⟩
  refine W_nil ?_
  refine W_block ?_
  refine W_rangeFunc rfl Tryd.call78 ?_
  intro lp D r hst hpd hps hasg hbody hA
  have hr := loop_ready hst hpd
  show LCalls _ _ _ #[_, _, _] _ _
  refine ((such_none (b2 := b2_) (b3 := b3_) (cv := (Value.func (.func 61) #[] #[])) (H := (lp, .obj (.loop r)) :: (D, .obj (.deferred (some []))) :: (b5, .cells 3 1 [.int .i64 (0 : Int)]) :: (b3, .cells 35 1 [.slice ad n cap]) :: H)).hsub (by first | exact hsubI | (repeat (first | with_reducible exact HSub.refl _ | refine HSub.cons (by repeat (first | exact Take.here _ | apply Take.next | apply Take.app)) ?_ | refine HSub.app (by repeat (first | with_reducible exact TakeS.here _ | apply TakeS.next | apply TakeS.app)) ?_ | exact HSub.nil _ | exact HSub.refl _ | refine HSub.drop ?_ | refine HSub.dropS ?_)))).mono ?_
  rintro _ H' rfl
  refine ⟨.ready, none, (b2_, .cells 45 1 [.pointer none]) :: (b3_, .cells 114 1 [(Value.func (.func 61) #[] #[])]) :: (D, .obj (.deferred (some []))) :: (b5, .cells 3 1 [.int .i64 (0 : Int)]) :: (b3, .cells 35 1 [.slice ad n cap]) :: H, by rw [hr]; exact (by first | exact hsubI | (repeat (first | with_reducible exact HSub.refl _ | refine HSub.cons (by repeat (first | exact Take.here _ | apply Take.next | apply Take.app)) ?_ | refine HSub.app (by repeat (first | with_reducible exact TakeS.here _ | apply TakeS.next | apply TakeS.app)) ?_ | exact HSub.nil _ | exact HSub.refl _ | refine HSub.drop ?_ | refine HSub.dropS ?_))), by decide, ?_⟩
  show W _ _ _ _ _ _ _ _ _
  refine W_blk ?_
  refine W_sr ?_
  refine W_load (v := .int .i64 0) rfl ty3 rfl (Cell.own (b := b5) (by repeat (first | exact List.mem_cons_self | apply List.mem_cons_of_mem | apply List.mem_append_right)) rfl) rfl ?_
  refine W_assign rfl rfl ?_
  refine W_nil ?_
  refine W_ret1m (H2 := H) Tryd.results35 rfl (.cons (by repeat (first | exact Take.here _ | apply Take.next | apply Take.app)) (.nil _)) (by first | exact hsubI | (repeat (first | with_reducible exact HSub.refl _ | refine HSub.cons (by repeat (first | exact Take.here _ | apply Take.next | apply Take.app)) ?_ | refine HSub.app (by repeat (first | with_reducible exact TakeS.here _ | apply TakeS.next | apply TakeS.app)) ?_ | exact HSub.nil _ | exact HSub.refl _ | refine HSub.drop ?_ | refine HSub.dropS ?_))) ?_
  exact ⟨rfl, rfl⟩
end Go.Proofs.YtknbohnoiigioaaDoor
namespace Go.Proofs.YtknbohnoiigioaaDoor
open Go Go.Sl
attribute [local irreducible] W
/-- is a number in a set? -/
def hasM (m : Nat) (i : Int) : Bool := decide (m &&& bitN i ≠ 0)
theorem hasM_is {m j : Nat} (hj : j < 64) : hasM m (j : Int) = m.testBit j := by
  have e : bitN (j : Int) = 2 ^ j := by unfold bitN; rw [if_pos (by omega)]; rfl
  unfold hasM
  rw [e]
  have hb : ∀ i, (m &&& 2 ^ j).testBit i = (m.testBit i && decide (j = i)) := fun i => by rw [Nat.testBit_and, Nat.testBit_two_pow]
  cases h : m.testBit j with
  | true =>
    refine decide_eq_true (fun h0 => ?_)
    have := hb j
    rw [h0, h, decide_eq_true rfl] at this
    simp at this
  | false =>
    refine decide_eq_false (fun h0 => h0 (Nat.eq_of_testBit_eq fun i => ?_))
    rw [hb i, Nat.zero_testBit]
    by_cases c : j = i
    · subst c; rw [h]; rfl
    · rw [decide_eq_false c, Bool.and_false]
/-- is a wheel late? -/
def lateB (a : Nat) (w : Wl) : Bool := match leastT w.L with
  | some t => decide (t ≤ a)
  | none => false
def lateM (Ws : List Wl) (a : Nat) : Nat → Nat
  | 0 => 0
  | k + 1 => match Ws[k]? with
    | some w => if lateB a w = true then withL (lateM Ws a k) [(k : Int)] else lateM Ws a k
    | none => lateM Ws a k
theorem lateM_at {Ws : List Wl} {a k : Nat} {w : Wl} (h : Ws[k]? = some w) : lateM Ws a (k + 1) = if lateB a w = true then withL (lateM Ws a k) [(k : Int)] else lateM Ws a k := by
  show (match Ws[k]? with | some w => _ | none => _) = _
  rw [h]
theorem lateM_lt (Ws : List Wl) (a : Nat) : ∀ k, lateM Ws a k < 18446744073709551616
  | 0 => by show (0 : Nat) < _; decide
  | k + 1 => by
    have ih := lateM_lt Ws a k
    unfold lateM
    split
    · split
      · exact withL_ok _ ih
      · exact ih
    · exact ih
/-- the least of some wheels -/
def minO (x y : Option Nat) : Option Nat := match y with
  | none => x
  | some t => match x with
    | none => some t
    | some a => some (if t < a then t else a)
def nxK (sel : Nat → Bool) (Ws : List Wl) : Nat → Option Nat
  | 0 => none
  | k + 1 => match Ws[k]? with
    | some w => if sel k = true then minO (nxK sel Ws k) (leastT w.L) else nxK sel Ws k
    | none => nxK sel Ws k
theorem nxK_at {sel : Nat → Bool} {Ws : List Wl} {k : Nat} {w : Wl} (h : Ws[k]? = some w) : nxK sel Ws (k + 1) = if sel k = true then minO (nxK sel Ws k) (leastT w.L) else nxK sel Ws k := by
  show (match Ws[k]? with | some w => _ | none => _) = _
  rw [h]
def askB (l : List Int) (k : Nat) : Bool := decide (l.length = 0) || hasM (withL 0 l) (k : Int)
set_option maxHeartbeats 1000000 in
theorem has_pure {m : Nat} {i : Int} (hm : m < 18446744073709551616) : Pure Tryd.prog (fun _ => True) 25 [.int .u64 ((m : Nat) : Int), .int .i64 i] (.bool (hasM m i)) := by
  intro w0 H hT
  refine L_enter Tryd.func25 rfl Tryd.ntmps25 rfl rfl ?_
  refine W_sr ?_
  refine W_assign rfl rfl ?_
  refine W_nil ?_
  refine W_sr ?_
  refine W_move rfl rfl ?_
  refine W_move rfl rfl ?_
  refine W_callp (.cons rfl .nil) Tryd.call57 rfl (T := fun _ => True) trivial (bit_pure _) ?_
  refine W_bin rfl rfl (b_and (m := ((m &&& bitN i : Nat) : Int)) (and64 hm (bitN_lt i))) rfl ?_
  refine W_bin rfl rfl b_neq rfl ?_
  rw [show decide (((m &&& bitN i : Nat) : Int) ≠ 0) = hasM m i from decide_eq_decide.2 ⟨fun h e => h (by rw [e]; rfl), fun h e => h (Int.ofNat_inj.1 e)⟩]
  refine W_assign rfl rfl ?_
  refine W_nil ?_
  refine W_ret1m (H2 := H) Tryd.results25 rfl (.nil _) (by first | exact hsubI | (repeat (first | with_reducible exact HSub.refl _ | refine HSub.cons (by repeat (first | exact Take.here _ | apply Take.next | apply Take.app)) ?_ | refine HSub.app (by repeat (first | with_reducible exact TakeS.here _ | apply TakeS.next | apply TakeS.app)) ?_ | exact HSub.nil _ | exact HSub.refl _ | refine HSub.drop ?_ | refine HSub.dropS ?_))) ?_
  exact ⟨rfl, rfl⟩
set_option maxHeartbeats 1000000 in
theorem maskOf_q {w0 : World} {H : Heap} {l : List Int} {ad : Option Addr} {cap : Nat} (hn : l.length ≤ 4611686018427387904) (hrow : Holds w0 H ad (l.map (Value.int .i64)))  : PureAt Tryd.prog w0 H 62 [.slice ad l.length cap] (.int .u64 ((withL 0 l : Nat) : Int)) := by
  refine L_enter Tryd.func62 rfl Tryd.ntmps62 rfl rfl ?_
  refine W_sr ?_
  refine W_assign rfl rfl ?_
  refine W_nil ?_
  refine W_sr ?_
  refine W_move rfl rfl ?_
  refine W_callq (.cons rfl (.cons rfl .nil)) Tryd.call51 rfl (with_q (m := 0) (by decide) hn hrow) ?_
  refine W_assign rfl rfl ?_
  refine W_nil ?_
  refine W_ret1m (H2 := H) Tryd.results62 rfl (.nil _) (by first | exact hsubI | (repeat (first | with_reducible exact HSub.refl _ | refine HSub.cons (by repeat (first | exact Take.here _ | apply Take.next | apply Take.app)) ?_ | refine HSub.app (by repeat (first | with_reducible exact TakeS.here _ | apply TakeS.next | apply TakeS.app)) ?_ | exact HSub.nil _ | exact HSub.refl _ | refine HSub.drop ?_ | refine HSub.dropS ?_))) ?_
  exact ⟨rfl, rfl⟩
set_option maxHeartbeats 1000000 in
theorem latec_q {w0 : World} {H : Heap} {ba k a : Nat} {w : Wl} (hN : PureAt Tryd.prog w0 H 15 [w.p] (.tuple #[.int .u64 (((leastT w.L).getD 0 : Nat) : Int), .bool (leastT w.L).isSome])) (hb : (ba, .cells 22 1 [.int .u64 ((a : Nat) : Int)]) ∈ H)  : PureAt Tryd.prog w0 H 55 [.int .i64 (k : Int), w.p, .pointer (some ⟨ba, 0, none⟩)] (.bool (lateB a w)) := by
  refine L_enter Tryd.func55 rfl Tryd.ntmps55 rfl rfl ?_
  refine W_sr ?_
  refine W_assign rfl rfl ?_
  refine W_nil ?_
  refine W_sr ?_
  refine W_move rfl rfl ?_
  refine W_callq (.cons rfl .nil) Tryd.call15 rfl hN ?_
  have hlb : lateB a w = match leastT w.L with | some t => decide (t ≤ a) | none => false := rfl
  rcases hat : leastT w.L with _ | t
  · skip
    rw [hat] at hlb
    refine W_move rfl rfl ?_
    refine W_extract rfl rfl rfl ?_
    refine W_extract rfl rfl rfl ?_
    refine W_assign rfl rfl ?_
    refine W_assign rfl rfl ?_
    refine W_nil ?_
    refine W_sr ?_
    refine W_move rfl rfl ?_
    refine W_move rfl rfl ?_
    refine W_gno rfl rfl rfl ?_
    refine W_gno rfl rfl rfl ?_
    refine W_gno rfl rfl rfl ?_
    first | refine W_pickt rfl rfl rfl ?_ | refine W_pickf rfl rfl rfl ?_
    refine W_assign rfl rfl ?_
    refine W_nil ?_
    refine W_ret1m (H2 := H) Tryd.results55 rfl (.nil _) (by first | exact hsubI | (repeat (first | with_reducible exact HSub.refl _ | refine HSub.cons (by repeat (first | exact Take.here _ | apply Take.next | apply Take.app)) ?_ | refine HSub.app (by repeat (first | with_reducible exact TakeS.here _ | apply TakeS.next | apply TakeS.app)) ?_ | exact HSub.nil _ | exact HSub.refl _ | refine HSub.drop ?_ | refine HSub.dropS ?_))) ?_
    exact ⟨by rw [hlb], rfl⟩
  · skip
    rw [hat] at hlb
    refine W_move rfl rfl ?_
    refine W_extract rfl rfl rfl ?_
    refine W_extract rfl rfl rfl ?_
    refine W_assign rfl rfl ?_
    refine W_assign rfl rfl ?_
    refine W_nil ?_
    refine W_sr ?_
    refine W_move rfl rfl ?_
    refine W_move rfl rfl ?_
    refine W_gyes rfl rfl ?_
    refine W_move rfl rfl ?_
    refine W_gyes rfl rfl ?_
    refine W_load (v := .int .u64 ((a : Nat) : Int)) rfl ty22 rfl (Cell.own hb rfl) rfl ?_
    refine W_gyes rfl rfl ?_
    refine W_bin rfl rfl b_leq rfl ?_
    first | refine W_pickt rfl rfl rfl ?_ | refine W_pickf rfl rfl rfl ?_
    refine W_assign rfl rfl ?_
    refine W_nil ?_
    refine W_ret1m (H2 := H) Tryd.results55 rfl (.nil _) (by first | exact hsubI | (repeat (first | with_reducible exact HSub.refl _ | refine HSub.cons (by repeat (first | exact Take.here _ | apply Take.next | apply Take.app)) ?_ | refine HSub.app (by repeat (first | with_reducible exact TakeS.here _ | apply TakeS.next | apply TakeS.app)) ?_ | exact HSub.nil _ | exact HSub.refl _ | refine HSub.drop ?_ | refine HSub.dropS ?_))) ?_
    exact ⟨by rw [hlb]; exact congrArg Value.bool (decide_eq_decide.2 Int.ofNat_le), rfl⟩
set_option maxHeartbeats 4000000 in
theorem LateB_L {w0 : World} {H : Heap} {HB : Heap} {bb : Nat} {Ws : List Wl} (hB : BankH bb Ws HB) (hn64 : Ws.length ≤ 64) (hnow : ∀ w ∈ Ws, w.now ≤ 18446744073709551615) {a : Nat} (hT : Tab w0) : LCalls Tryd.prog w0 23 #[.pointer (some ⟨bb, 0, none⟩), .int .u64 ((a : Nat) : Int)] (HB ++ H) (fun v H' => ∃ HB', BankH bb Ws HB' ∧ v = .int .u64 ((lateM Ws a Ws.length : Nat) : Int) ∧ H' = HB' ++ H) := by
  refine L_enter (l := [.pointer (some ⟨bb, 0, none⟩), .int .u64 ((a : Nat) : Int)]) Tryd.func23 rfl Tryd.ntmps23 rfl rfl ?_
  refine W_sr ?_
  refine W_box (l := [.int .u64 ((a : Nat) : Int)]) rfl rfl rfl (fun b3 => ?_)
  refine W_assign rfl rfl ?_
  refine W_nil ?_
  refine W_sr ?_
  refine W_makeFunc .nil (.cons rfl .nil) rfl ?_
  refine W_assign rfl rfl ?_
  refine W_nil ?_
  refine W_sr ?_
  refine W_alloc (l := [.int .u64 0]) ty49 rfl rfl (fun b6 => ?_)
  refine W_nil ?_
  refine W_seq ?_
  refine W_sr ?_
  refine W_move rfl rfl ?_
  refine W_move rfl rfl ?_
  refine W_call (.cons rfl (.cons rfl .nil)) Tryd.call56 rfl (such_L (b := .pointer (some ⟨bb, 0, none⟩)) (f := (Value.func (.func 55) #[] #[.pointer (some ⟨b3, 0, none⟩)])) rfl rfl) ?_
  rintro v H' ⟨b2_, b3_, rfl, rfl⟩
  refine W_nil ?_
  refine W_block ?_
  refine W_rangeFunc rfl Tryd.call78 ?_
  intro lp D r hst hpd hps hasg hbody hA
  have hr := loop_ready hst hpd
  show LCalls _ _ _ #[_, _, _] _ _
  refine ((such_iter (b2 := b2_) (b3 := b3_) (bb := bb) (n := Ws.length) (fi := 55) (ca := [.pointer (some ⟨b3, 0, none⟩)]) (Ws0 := Ws) (HB0 := HB) (H := (lp, .obj (.loop r)) :: (D, .obj (.deferred (some []))) :: (b6, .cells 49 1 [.int .u64 ((0 : Nat) : Int)]) :: (b3, .cells 22 1 [.int .u64 ((a : Nat) : Int)]) :: H) (fun k Ws2 Hr => Ws2 = Ws ∧ Hr = (lp, .obj (.loop r)) :: (D, .obj (.deferred (some []))) :: (b6, .cells 49 1 [.int .u64 ((lateM Ws a k : Nat) : Int)]) :: (b3, .cells 22 1 [.int .u64 ((a : Nat) : Int)]) :: H) (fun _ _ => False) (fun _ w => lateB a w) Tryd.call55 hn64 (fun k Ws' Hr hJ => by rw [hJ.1]) (fun k Ws2 HB2 Hr w hk hw hB2 hJ => by obtain ⟨rfl, rfl⟩ := hJ; obtain ⟨HW, HR, hW, h1, h2⟩ := hB2.same hw; exact latec_q (ba := b3) (PureAt.via (H' := HW ++ ((b2_, .cells 45 1 [.pointer (some ⟨bb, 0, none⟩)]) :: (b3_, .cells 114 1 [(Value.func (.func 55) #[] #[.pointer (some ⟨b3, 0, none⟩)])]) :: (HR ++ ((lp, .obj (.loop r)) :: (D, .obj (.deferred (some []))) :: (b6, .cells 49 1 [.int .u64 ((lateM Ws2 a k : Nat) : Int)]) :: (b3, .cells 22 1 [.int .u64 ((a : Nat) : Int)]) :: H)))) (Next_W hT hW (hnow w (List.mem_of_getElem? hw))) ((show HSub _ ((b2_, .cells 45 1 [.pointer (some ⟨bb, 0, none⟩)]) :: (b3_, .cells 114 1 [(Value.func (.func 55) #[] #[.pointer (some ⟨b3, 0, none⟩)])]) :: (HW ++ (HR ++ ((lp, .obj (.loop r)) :: (D, .obj (.deferred (some []))) :: (b6, .cells 49 1 [.int .u64 ((lateM Ws2 a k : Nat) : Int)]) :: (b3, .cells 22 1 [.int .u64 ((a : Nat) : Int)]) :: H)))) from .cons (.here _) (.cons (.here _) (h1 _))).trans (by first | exact hsubI | (repeat (first | with_reducible exact HSub.refl _ | refine HSub.cons (by repeat (first | exact Take.here _ | apply Take.next | apply Take.app)) ?_ | refine HSub.app (by repeat (first | with_reducible exact TakeS.here _ | apply TakeS.next | apply TakeS.app)) ?_ | exact HSub.nil _ | exact HSub.refl _ | refine HSub.drop ?_ | refine HSub.dropS ?_)))) ((show HSub (HW ++ ((b2_, .cells 45 1 [.pointer (some ⟨bb, 0, none⟩)]) :: (b3_, .cells 114 1 [(Value.func (.func 55) #[] #[.pointer (some ⟨b3, 0, none⟩)])]) :: (HR ++ ((lp, .obj (.loop r)) :: (D, .obj (.deferred (some []))) :: (b6, .cells 49 1 [.int .u64 ((lateM Ws2 a k : Nat) : Int)]) :: (b3, .cells 22 1 [.int .u64 ((a : Nat) : Int)]) :: H)))) ((b2_, .cells 45 1 [.pointer (some ⟨bb, 0, none⟩)]) :: (b3_, .cells 114 1 [(Value.func (.func 55) #[] #[.pointer (some ⟨b3, 0, none⟩)])]) :: (HW ++ (HR ++ ((lp, .obj (.loop r)) :: (D, .obj (.deferred (some []))) :: (b6, .cells 49 1 [.int .u64 ((lateM Ws2 a k : Nat) : Int)]) :: (b3, .cells 22 1 [.int .u64 ((a : Nat) : Int)]) :: H)))) from (by first | exact hsubI | (repeat (first | with_reducible exact HSub.refl _ | refine HSub.cons (by repeat (first | exact Take.here _ | apply Take.next | apply Take.app)) ?_ | refine HSub.app (by repeat (first | with_reducible exact TakeS.here _ | apply TakeS.next | apply TakeS.app)) ?_ | exact HSub.nil _ | exact HSub.refl _ | refine HSub.drop ?_ | refine HSub.dropS ?_)))).trans (.cons (.here _) (.cons (.here _) (h2 _))))) (by repeat (first | exact List.mem_cons_self | apply List.mem_cons_of_mem | apply List.mem_append_right))) (fun k Ws2 Hr w hk hw hJ hs => by obtain ⟨rfl, h2⟩ := hJ; exact ⟨rfl, by rw [h2, lateM_at hw, if_neg (by rw [hs]; simp)]⟩) ?_ hB ⟨rfl, rfl⟩).hsub (by first | exact hsubI | (repeat (first | with_reducible exact HSub.refl _ | refine HSub.cons (by repeat (first | exact Take.here _ | apply Take.next | apply Take.app)) ?_ | refine HSub.app (by repeat (first | with_reducible exact TakeS.here _ | apply TakeS.next | apply TakeS.app)) ?_ | exact HSub.nil _ | exact HSub.refl _ | refine HSub.drop ?_ | refine HSub.dropS ?_)))).mono ?_
  · intro k Ws2 HB2 Hr w hk hw hB2 hJ hs
    obtain ⟨rfl, rfl⟩ := hJ
    have hl3 := lateM_at (a := a) hw
    rw [if_pos hs] at hl3
    have hlt := lateM_lt Ws2 a k
    refine round_intro hst hpd hA hps rfl hasg rfl rfl rfl (by repeat (first | exact Take.here _ | apply Take.next | apply Take.app)) ?_
    refine W_region ?_
    refine W_assign rfl rfl ?_
    refine W_nil ?_
    refine W_begin hst hpd (by repeat (first | exact Take.here _ | apply Take.next | apply Take.app)) hbody ?_
    refine W_block ?_
    refine W_region ?_
    refine W_load (v := .int .u64 ((lateM Ws2 a k : Nat) : Int)) rfl ty49 rfl (Cell.own (b := b6) (by repeat (first | exact List.mem_cons_self | apply List.mem_cons_of_mem | apply List.mem_append_right)) rfl) rfl ?_
    refine W_move rfl rfl ?_
    refine W_buildSlice ty35 ty3 (.cons rfl rfl rfl rfl rfl .nil) rfl rfl rfl rfl rfl rfl rfl (fun b16 => ?_)
    refine W_callq (.cons rfl (.cons rfl .nil)) Tryd.call51 rfl (with_q (l := [(k : Int)]) hlt (show 1 ≤ 4611686018427387904 by decide) (Holds.own (b := b16) (by repeat (first | exact List.mem_cons_self | apply List.mem_cons_of_mem | apply List.mem_append_right)))) ?_
    rw [← hl3]
    refine W_store (l' := [.int .u64 ((lateM Ws2 a (k + 1) : Nat) : Int)]) rfl rfl ty49 rfl rfl (b := b6) (by repeat (first | exact List.mem_cons_self | apply List.mem_cons_of_mem | apply List.mem_append_right)) rfl rfl (by repeat (first | exact Upd.head _ | apply Upd.tail | apply Upd.app)) ?_
    refine W_nil ?_
    refine W_blk ?_
    refine W_endround (by repeat (first | exact Take.here _ | apply Take.next | apply Take.app)) ?_
    rw [hr]
    exact ⟨Ws2, HB2, (lp, .obj (.loop r)) :: (D, .obj (.deferred (some []))) :: (b6, .cells 49 1 [.int .u64 ((lateM Ws2 a (k + 1) : Nat) : Int)]) :: (b3, .cells 22 1 [.int .u64 ((a : Nat) : Int)]) :: H, hB2, (by first | exact hsubI | (repeat (first | with_reducible exact HSub.refl _ | refine HSub.cons (by repeat (first | exact Take.here _ | apply Take.next | apply Take.app)) ?_ | refine HSub.app (by repeat (first | with_reducible exact TakeS.here _ | apply TakeS.next | apply TakeS.app)) ?_ | exact HSub.nil _ | exact HSub.refl _ | refine HSub.drop ?_ | refine HSub.dropS ?_))), .inl ⟨rfl, rfl, rfl⟩⟩
  · intro _ H' hp
    obtain ⟨Ws2, HB2, Hr, hB2, hs, hJS⟩ := hp
    obtain ⟨rfl, rfl⟩ := hJS.resolve_right (fun h => h)
    refine ⟨.ready, none, (b2_, .cells 45 1 [.pointer (some ⟨bb, 0, none⟩)]) :: (b3_, .cells 114 1 [(Value.func (.func 55) #[] #[.pointer (some ⟨b3, 0, none⟩)])]) :: (HB2 ++ ((D, .obj (.deferred (some []))) :: (b6, .cells 49 1 [.int .u64 ((lateM Ws2 a Ws2.length : Nat) : Int)]) :: (b3, .cells 22 1 [.int .u64 ((a : Nat) : Int)]) :: H)), by rw [hr]; exact hs.trans (by first | exact hsubI | (repeat (first | with_reducible exact HSub.refl _ | refine HSub.cons (by repeat (first | exact Take.here _ | apply Take.next | apply Take.app)) ?_ | refine HSub.app (by repeat (first | with_reducible exact TakeS.here _ | apply TakeS.next | apply TakeS.app)) ?_ | exact HSub.nil _ | exact HSub.refl _ | refine HSub.drop ?_ | refine HSub.dropS ?_))), by decide, ?_⟩
    show W _ _ _ _ _ _ _ _ _
    refine W_blk ?_
    refine W_sr ?_
    refine W_load (v := .int .u64 ((lateM Ws2 a Ws2.length : Nat) : Int)) rfl ty49 rfl (Cell.own (b := b6) (by repeat (first | exact List.mem_cons_self | apply List.mem_cons_of_mem | apply List.mem_append_right)) rfl) rfl ?_
    refine W_assign rfl rfl ?_
    refine W_nil ?_
    refine W_ret1m (H2 := HB2 ++ H) Tryd.results23 rfl (.cons (by repeat (first | exact Take.here _ | apply Take.next | apply Take.app)) (.nil _)) (by first | exact hsubI | (repeat (first | with_reducible exact HSub.refl _ | refine HSub.cons (by repeat (first | exact Take.here _ | apply Take.next | apply Take.app)) ?_ | refine HSub.app (by repeat (first | with_reducible exact TakeS.here _ | apply TakeS.next | apply TakeS.app)) ?_ | exact HSub.nil _ | exact HSub.refl _ | refine HSub.drop ?_ | refine HSub.dropS ?_))) ?_
    exact ⟨HB2, hB2, rfl, rfl⟩
set_option maxHeartbeats 1000000 in
theorem LateB_nil {a : Nat} : Pure Tryd.prog (fun _ => True) 23 [.pointer none, .int .u64 ((a : Nat) : Int)] (.int .u64 0) := by
  intro w0 H hT
  refine L_enter Tryd.func23 rfl Tryd.ntmps23 rfl rfl ?_
  refine W_sr ?_
  refine W_box (l := [.int .u64 ((a : Nat) : Int)]) rfl rfl rfl (fun b3 => ?_)
  refine W_assign rfl rfl ?_
  refine W_nil ?_
  refine W_sr ?_
  refine W_makeFunc .nil (.cons rfl .nil) rfl ?_
  refine W_assign rfl rfl ?_
  refine W_nil ?_
  refine W_sr ?_
  refine W_alloc (l := [.int .u64 0]) ty49 rfl rfl (fun b6 => ?_)
  refine W_nil ?_
  refine W_seq ?_
  refine W_sr ?_
  refine W_move rfl rfl ?_
  refine W_move rfl rfl ?_
  refine W_call (.cons rfl (.cons rfl .nil)) Tryd.call56 rfl (such_L (b := .pointer none) (f := (Value.func (.func 55) #[] #[.pointer (some ⟨b3, 0, none⟩)])) rfl rfl) ?_
  rintro v H' ⟨b2_, b3_, rfl, rfl⟩
  refine W_nil ?_
  refine W_block ?_
  refine W_rangeFunc rfl Tryd.call78 ?_
  intro lp D r hst hpd hps hasg hbody hA
  have hr := loop_ready hst hpd
  show LCalls _ _ _ #[_, _, _] _ _
  refine ((such_none (b2 := b2_) (b3 := b3_) (cv := (Value.func (.func 55) #[] #[.pointer (some ⟨b3, 0, none⟩)])) (H := (lp, .obj (.loop r)) :: (D, .obj (.deferred (some []))) :: (b6, .cells 49 1 [.int .u64 ((0 : Nat) : Int)]) :: (b3, .cells 22 1 [.int .u64 ((a : Nat) : Int)]) :: H)).hsub (by first | exact hsubI | (repeat (first | with_reducible exact HSub.refl _ | refine HSub.cons (by repeat (first | exact Take.here _ | apply Take.next | apply Take.app)) ?_ | refine HSub.app (by repeat (first | with_reducible exact TakeS.here _ | apply TakeS.next | apply TakeS.app)) ?_ | exact HSub.nil _ | exact HSub.refl _ | refine HSub.drop ?_ | refine HSub.dropS ?_)))).mono ?_
  rintro _ H' rfl
  refine ⟨.ready, none, (b2_, .cells 45 1 [.pointer none]) :: (b3_, .cells 114 1 [(Value.func (.func 55) #[] #[.pointer (some ⟨b3, 0, none⟩)])]) :: (D, .obj (.deferred (some []))) :: (b6, .cells 49 1 [.int .u64 ((0 : Nat) : Int)]) :: (b3, .cells 22 1 [.int .u64 ((a : Nat) : Int)]) :: H, by rw [hr]; exact (by first | exact hsubI | (repeat (first | with_reducible exact HSub.refl _ | refine HSub.cons (by repeat (first | exact Take.here _ | apply Take.next | apply Take.app)) ?_ | refine HSub.app (by repeat (first | with_reducible exact TakeS.here _ | apply TakeS.next | apply TakeS.app)) ?_ | exact HSub.nil _ | exact HSub.refl _ | refine HSub.drop ?_ | refine HSub.dropS ?_))), by decide, ?_⟩
  show W _ _ _ _ _ _ _ _ _
  refine W_blk ?_
  refine W_sr ?_
  refine W_load (v := .int .u64 0) rfl ty49 rfl (Cell.own (b := b6) (by repeat (first | exact List.mem_cons_self | apply List.mem_cons_of_mem | apply List.mem_append_right)) rfl) rfl ?_
  refine W_assign rfl rfl ?_
  refine W_nil ?_
  refine W_ret1m (H2 := H) Tryd.results23 rfl (.cons (by repeat (first | exact Take.here _ | apply Take.next | apply Take.app)) (.nil _)) (by first | exact hsubI | (repeat (first | with_reducible exact HSub.refl _ | refine HSub.cons (by repeat (first | exact Take.here _ | apply Take.next | apply Take.app)) ?_ | refine HSub.app (by repeat (first | with_reducible exact TakeS.here _ | apply TakeS.next | apply TakeS.app)) ?_ | exact HSub.nil _ | exact HSub.refl _ | refine HSub.drop ?_ | refine HSub.dropS ?_))) ?_
  exact ⟨rfl, rfl⟩
set_option maxHeartbeats 1000000 in
theorem askc_q {w0 : World} {H : Heap} {b3 b6 k cap : Nat} {l : List Int} {ad : Option Addr} {w : Wl} (h3 : (b3, .cells 35 1 [.slice ad l.length cap]) ∈ H) (h6 : (b6, .cells 49 1 [.int .u64 ((withL 0 l : Nat) : Int)]) ∈ H)  : PureAt Tryd.prog w0 H 63 [.int .i64 (k : Int), w.p, .pointer (some ⟨b3, 0, none⟩), .pointer (some ⟨b6, 0, none⟩)] (.bool (askB l k)) := by
  refine L_enter Tryd.func63 rfl Tryd.ntmps63 rfl rfl ?_
  refine W_sr ?_
  refine W_assign rfl rfl ?_
  refine W_nil ?_
  refine W_sr ?_
  refine W_load (v := .slice ad l.length cap) rfl ty35 rfl (Cell.own h3 rfl) rfl ?_
  refine W_len rfl ty35 rfl rfl ?_
  by_cases hl0 : (l.length : Int) = 0
  · skip
    have hak : askB l k = true := by unfold askB; rw [decide_eq_true (by omega)]; rfl
    refine W_bin rfl rfl b_eql rfl ?_
    rw [decide_eq_true hl0]
    refine W_move rfl rfl ?_
    refine W_gno rfl rfl rfl ?_
    refine W_gno rfl rfl rfl ?_
    refine W_gno rfl rfl rfl ?_
    first | refine W_pickt rfl rfl rfl ?_ | refine W_pickf rfl rfl rfl ?_
    refine W_assign rfl rfl ?_
    refine W_nil ?_
    refine W_ret1m (H2 := H) Tryd.results63 rfl (.nil _) (by first | exact hsubI | (repeat (first | with_reducible exact HSub.refl _ | refine HSub.cons (by repeat (first | exact Take.here _ | apply Take.next | apply Take.app)) ?_ | refine HSub.app (by repeat (first | with_reducible exact TakeS.here _ | apply TakeS.next | apply TakeS.app)) ?_ | exact HSub.nil _ | exact HSub.refl _ | refine HSub.drop ?_ | refine HSub.dropS ?_))) ?_
    exact ⟨by rw [hak], rfl⟩
  · skip
    have hak : askB l k = hasM (withL 0 l) (k : Int) := by unfold askB; rw [decide_eq_false (by omega)]; rfl
    refine W_bin rfl rfl b_eql rfl ?_
    rw [decide_eq_false hl0]
    refine W_move rfl rfl ?_
    refine W_gyes rfl rfl ?_
    refine W_load (v := .int .u64 ((withL 0 l : Nat) : Int)) rfl ty49 rfl (Cell.own h6 rfl) rfl ?_
    refine W_gyes rfl rfl ?_
    refine W_move rfl rfl ?_
    refine W_gyes rfl rfl ?_
    refine W_callp (.cons rfl (.cons rfl .nil)) Tryd.call25 rfl (T := fun _ => True) trivial (has_pure (m := withL 0 l) (i := (k : Int)) (withL_ok _ (by decide))) ?_
    first | refine W_pickt rfl rfl rfl ?_ | refine W_pickf rfl rfl rfl ?_
    refine W_assign rfl rfl ?_
    refine W_nil ?_
    refine W_ret1m (H2 := H) Tryd.results63 rfl (.nil _) (by first | exact hsubI | (repeat (first | with_reducible exact HSub.refl _ | refine HSub.cons (by repeat (first | exact Take.here _ | apply Take.next | apply Take.app)) ?_ | refine HSub.app (by repeat (first | with_reducible exact TakeS.here _ | apply TakeS.next | apply TakeS.app)) ?_ | exact HSub.nil _ | exact HSub.refl _ | refine HSub.drop ?_ | refine HSub.dropS ?_))) ?_
    exact ⟨by rw [hak], rfl⟩
theorem nx_cases (x y : Option Nat) : y = none ∨ (∃ t, y = some t ∧ x = none) ∨ (∃ t a, y = some t ∧ x = some a ∧ t < a) ∨ (∃ t a, y = some t ∧ x = some a ∧ ¬ t < a) := by
  cases y with
  | none => exact .inl rfl
  | some t => cases x with
    | none => exact .inr (.inl ⟨t, rfl, rfl⟩)
    | some a => by_cases h : t < a; exact .inr (.inr (.inl ⟨t, a, rfl, rfl, h⟩)); exact .inr (.inr (.inr ⟨t, a, rfl, rfl, h⟩))
set_option maxHeartbeats 4000000 in
theorem NextB_L {w0 : World} {H : Heap} {HB : Heap} {bb : Nat} {Ws : List Wl} (hB : BankH bb Ws HB) (hn64 : Ws.length ≤ 64) (hnow : ∀ w ∈ Ws, w.now ≤ 18446744073709551615) {l : List Int} {ad : Option Addr} {cap : Nat} (hl : l.length ≤ 4611686018427387904) (hrow : Holds w0 H ad (l.map (Value.int .i64))) (hT : Tab w0) : LCalls Tryd.prog w0 42 #[.pointer (some ⟨bb, 0, none⟩), .slice ad l.length cap] (HB ++ H) (fun v H' => ∃ HB', BankH bb Ws HB' ∧ v = .tuple #[.int .u64 (((nxK (askB l) Ws Ws.length).getD 0 : Nat) : Int), .bool (nxK (askB l) Ws Ws.length).isSome] ∧ H' = HB' ++ H) := by
  refine L_enter (l := [.pointer (some ⟨bb, 0, none⟩), .slice ad l.length cap]) Tryd.func42 rfl Tryd.ntmps42 rfl rfl ?_
  refine W_sr ?_
  refine W_box (l := [.slice ad l.length cap]) rfl rfl rfl (fun b3 => ?_)
  refine W_assign rfl rfl ?_
  refine W_assign rfl rfl ?_
  refine W_nil ?_
  refine W_sr ?_
  refine W_load (v := .slice ad l.length cap) rfl ty35 rfl (Cell.own (b := b3) (by repeat (first | exact List.mem_cons_self | apply List.mem_cons_of_mem | apply List.mem_append_right)) rfl) rfl ?_
  refine W_callq (.cons rfl .nil) Tryd.call62 rfl (maskOf_q hl (hrow.up (by first | exact hsubI | (repeat (first | with_reducible exact HSub.refl _ | refine HSub.cons (by repeat (first | exact Take.here _ | apply Take.next | apply Take.app)) ?_ | refine HSub.app (by repeat (first | with_reducible exact TakeS.here _ | apply TakeS.next | apply TakeS.app)) ?_ | exact HSub.nil _ | exact HSub.refl _ | refine HSub.drop ?_ | refine HSub.dropS ?_))))) ?_
  refine W_alloc (l := [.int .u64 0]) ty49 rfl rfl (fun b6 => ?_)
  refine W_store (l' := [.int .u64 ((withL 0 l : Nat) : Int)]) rfl rfl ty49 rfl rfl (b := b6) (by repeat (first | exact List.mem_cons_self | apply List.mem_cons_of_mem | apply List.mem_append_right)) rfl rfl (by repeat (first | exact Upd.head _ | apply Upd.tail | apply Upd.app)) ?_
  refine W_nil ?_
  refine W_sr ?_
  refine W_alloc (l := [.int .u64 0]) ty22 rfl rfl (fun b7 => ?_)
  refine W_alloc (l := [.bool false]) ty4 rfl rfl (fun b8 => ?_)
  refine W_store (l' := [.int .u64 0]) rfl rfl ty22 rfl rfl (b := b7) (by repeat (first | exact List.mem_cons_self | apply List.mem_cons_of_mem | apply List.mem_append_right)) rfl rfl (by repeat (first | exact Upd.head _ | apply Upd.tail | apply Upd.app)) ?_
  refine W_store (l' := [.bool false]) rfl rfl ty4 rfl rfl (b := b8) (by repeat (first | exact List.mem_cons_self | apply List.mem_cons_of_mem | apply List.mem_append_right)) rfl rfl (by repeat (first | exact Upd.head _ | apply Upd.tail | apply Upd.app)) ?_
  refine W_nil ?_
  refine W_seq ?_
  refine W_sr ?_
  refine W_move rfl rfl ?_
  refine W_makeFunc .nil (.cons rfl (.cons rfl .nil)) rfl ?_
  refine W_call (.cons rfl (.cons rfl .nil)) Tryd.call56 rfl (such_L (b := .pointer (some ⟨bb, 0, none⟩)) (f := (Value.func (.func 63) #[] #[.pointer (some ⟨b3, 0, none⟩), .pointer (some ⟨b6, 0, none⟩)])) rfl rfl) ?_
  rintro v H' ⟨b2_, b3_, rfl, rfl⟩
  refine W_nil ?_
  refine W_block ?_
  refine W_rangeFunc rfl Tryd.call78 ?_
  intro lp D r hst hpd hps hasg hbody hA
  have hr := loop_ready hst hpd
  show LCalls _ _ _ #[_, _, _] _ _
  refine ((such_iter (b2 := b2_) (b3 := b3_) (bb := bb) (n := Ws.length) (fi := 63) (ca := [.pointer (some ⟨b3, 0, none⟩), .pointer (some ⟨b6, 0, none⟩)]) (Ws0 := Ws) (HB0 := HB) (H := (lp, .obj (.loop r)) :: (D, .obj (.deferred (some []))) :: (b8, .cells 4 1 [.bool false]) :: (b7, .cells 22 1 [.int .u64 0]) :: (b6, .cells 49 1 [.int .u64 ((withL 0 l : Nat) : Int)]) :: (b3, .cells 35 1 [.slice ad l.length cap]) :: H) (fun k Ws2 Hr => Ws2 = Ws ∧ Hr = (lp, .obj (.loop r)) :: (D, .obj (.deferred (some []))) :: (b8, .cells 4 1 [.bool (nxK (askB l) Ws k).isSome]) :: (b7, .cells 22 1 [.int .u64 (((nxK (askB l) Ws k).getD 0 : Nat) : Int)]) :: (b6, .cells 49 1 [.int .u64 ((withL 0 l : Nat) : Int)]) :: (b3, .cells 35 1 [.slice ad l.length cap]) :: H) (fun _ _ => False) (fun k _ => askB l k) Tryd.call63 hn64 (fun k Ws' Hr hJ => by rw [hJ.1]) (fun k Ws2 HB2 Hr w hk hw hB2 hJ => by obtain ⟨rfl, rfl⟩ := hJ; exact askc_q (b3 := b3) (b6 := b6) (by repeat (first | exact List.mem_cons_self | apply List.mem_cons_of_mem | apply List.mem_append_right)) (by repeat (first | exact List.mem_cons_self | apply List.mem_cons_of_mem | apply List.mem_append_right))) (fun k Ws2 Hr w hk hw hJ hs => by obtain ⟨rfl, h2⟩ := hJ; exact ⟨rfl, by rw [h2, nxK_at hw, if_neg (by rw [hs]; simp)]⟩) ?_ hB ⟨rfl, rfl⟩).hsub (by first | exact hsubI | (repeat (first | with_reducible exact HSub.refl _ | refine HSub.cons (by repeat (first | exact Take.here _ | apply Take.next | apply Take.app)) ?_ | refine HSub.app (by repeat (first | with_reducible exact TakeS.here _ | apply TakeS.next | apply TakeS.app)) ?_ | exact HSub.nil _ | exact HSub.refl _ | refine HSub.drop ?_ | refine HSub.dropS ?_)))).mono ?_
  · intro k Ws2 HB2 Hr w hk hw hB2 hJ hs
    obtain ⟨rfl, rfl⟩ := hJ
    have hl3 := nxK_at (sel := askB l) hw
    rw [if_pos hs] at hl3
    obtain ⟨HW, HR, hW, h1, h2⟩ := hB2.same hw
    obtain ⟨x, hx⟩ : ∃ x, x = (nxK (askB l) Ws2 k) := ⟨_, rfl⟩
    rw [← hx] at hl3 ⊢
    refine round_intro hst hpd hA hps rfl hasg rfl rfl rfl (by repeat (first | exact Take.here _ | apply Take.next | apply Take.app)) ?_
    refine W_region ?_
    refine W_assign rfl rfl ?_
    refine W_nil ?_
    refine W_begin hst hpd (by repeat (first | exact Take.here _ | apply Take.next | apply Take.app)) hbody ?_
    refine W_block ?_
    refine W_sr ?_
    refine W_move rfl rfl ?_
    refine W_hsub (H' := HW ++ (HR ++ ((lp, .obj (.loop (Loop.at r .busy none))) :: (b2_, .cells 45 1 [.pointer (some ⟨bb, 0, none⟩)]) :: (b3_, .cells 114 1 [(Value.func (.func 63) #[] #[.pointer (some ⟨b3, 0, none⟩), .pointer (some ⟨b6, 0, none⟩)])]) :: (D, .obj (.deferred (some []))) :: (b8, .cells 4 1 [.bool x.isSome]) :: (b7, .cells 22 1 [.int .u64 ((x.getD 0 : Nat) : Int)]) :: (b6, .cells 49 1 [.int .u64 ((withL 0 l : Nat) : Int)]) :: (b3, .cells 35 1 [.slice ad l.length cap]) :: H))) ((show HSub _ (HB2 ++ ((lp, .obj (.loop (Loop.at r .busy none))) :: (b2_, .cells 45 1 [.pointer (some ⟨bb, 0, none⟩)]) :: (b3_, .cells 114 1 [(Value.func (.func 63) #[] #[.pointer (some ⟨b3, 0, none⟩), .pointer (some ⟨b6, 0, none⟩)])]) :: (D, .obj (.deferred (some []))) :: (b8, .cells 4 1 [.bool x.isSome]) :: (b7, .cells 22 1 [.int .u64 ((x.getD 0 : Nat) : Int)]) :: (b6, .cells 49 1 [.int .u64 ((withL 0 l : Nat) : Int)]) :: (b3, .cells 35 1 [.slice ad l.length cap]) :: H)) from (by first | exact hsubI | (repeat (first | with_reducible exact HSub.refl _ | refine HSub.cons (by repeat (first | exact Take.here _ | apply Take.next | apply Take.app)) ?_ | refine HSub.app (by repeat (first | with_reducible exact TakeS.here _ | apply TakeS.next | apply TakeS.app)) ?_ | exact HSub.nil _ | exact HSub.refl _ | refine HSub.drop ?_ | refine HSub.dropS ?_)))).trans (h1 _)) ?_
    refine W_call (.cons rfl .nil) Tryd.call15 rfl (Next_W hT hW (hnow w (List.mem_of_getElem? hw))) ?_
    rintro v H' ⟨rfl, rfl⟩
    refine W_hsub (h2 _) ?_
    rcases nx_cases x (leastT w.L) with h0 | ⟨t, h0, hx0⟩ | ⟨t, a0, h0, hx0, hlt⟩ | ⟨t, a0, h0, hx0, hge⟩
    · skip
      rw [h0] at hl3 ⊢
      replace hl3 : nxK (askB l) Ws2 (k + 1) = x := hl3
      refine W_move rfl rfl ?_
      refine W_extract rfl rfl rfl ?_
      refine W_extract rfl rfl rfl ?_
      refine W_assign rfl rfl ?_
      refine W_assign rfl rfl ?_
      refine W_nil ?_
      refine W_sr ?_
      refine W_move rfl rfl ?_
      refine W_move rfl rfl ?_
      refine W_gno rfl rfl rfl ?_
      refine W_gno rfl rfl rfl ?_
      refine W_gno rfl rfl rfl ?_
      refine W_gnou rfl rfl rfl ?_
      refine W_gnou rfl rfl rfl ?_
      refine W_gnou rfl rfl rfl ?_
      refine W_gno rfl rfl rfl ?_
      first | refine W_pickt rfl rfl rfl ?_ | refine W_pickf rfl rfl rfl ?_
      refine W_nil ?_
      refine W_condF rfl rfl ?_
      refine W_skip ?_
      refine W_blk ?_
      refine W_endround (by repeat (first | exact Take.here _ | apply Take.next | apply Take.app)) ?_
      rw [hr]
      exact ⟨Ws2, HB2, (lp, .obj (.loop r)) :: (D, .obj (.deferred (some []))) :: (b8, .cells 4 1 [.bool x.isSome]) :: (b7, .cells 22 1 [.int .u64 ((x.getD 0 : Nat) : Int)]) :: (b6, .cells 49 1 [.int .u64 ((withL 0 l : Nat) : Int)]) :: (b3, .cells 35 1 [.slice ad l.length cap]) :: H, hB2, (by first | exact hsubI | (repeat (first | with_reducible exact HSub.refl _ | refine HSub.cons (by repeat (first | exact Take.here _ | apply Take.next | apply Take.app)) ?_ | refine HSub.app (by repeat (first | with_reducible exact TakeS.here _ | apply TakeS.next | apply TakeS.app)) ?_ | exact HSub.nil _ | exact HSub.refl _ | refine HSub.drop ?_ | refine HSub.dropS ?_))), .inl ⟨rfl, rfl, by rw [hl3]⟩⟩
    · skip
      subst hx0
      rw [h0] at hl3 ⊢
      replace hl3 : nxK (askB l) Ws2 (k + 1) = some t := hl3
      rw [show (some t : Option Nat).getD 0 = t from rfl]
      refine W_move rfl rfl ?_
      refine W_extract rfl rfl rfl ?_
      refine W_extract rfl rfl rfl ?_
      refine W_assign rfl rfl ?_
      refine W_assign rfl rfl ?_
      refine W_nil ?_
      refine W_sr ?_
      refine W_move rfl rfl ?_
      refine W_move rfl rfl ?_
      refine W_gyes rfl rfl ?_
      refine W_load (v := .bool false) rfl ty4 rfl (Cell.own (b := b8) (by repeat (first | exact List.mem_cons_self | apply List.mem_cons_of_mem | apply List.mem_append_right)) rfl) rfl ?_
      refine W_gyes rfl rfl ?_
      refine W_not rfl rfl ?_
      refine W_gyes rfl rfl ?_
      refine W_move rfl rfl ?_
      refine W_gno rfl rfl rfl ?_
      refine W_gno rfl rfl rfl ?_
      refine W_gno rfl rfl rfl ?_
      refine W_gyes rfl rfl ?_
      first | refine W_pickt rfl rfl rfl ?_ | refine W_pickf rfl rfl rfl ?_
      first | refine W_pickt rfl rfl rfl ?_ | refine W_pickf rfl rfl rfl ?_
      refine W_nil ?_
      refine W_condT rfl rfl ?_
      refine W_region ?_
      refine W_move rfl rfl ?_
      refine W_store (l' := [.int .u64 ((t : Nat) : Int)]) rfl rfl ty22 rfl rfl (b := b7) (by repeat (first | exact List.mem_cons_self | apply List.mem_cons_of_mem | apply List.mem_append_right)) rfl rfl (by repeat (first | exact Upd.head _ | apply Upd.tail | apply Upd.app)) ?_
      refine W_store (l' := [.bool true]) rfl rfl ty4 rfl rfl (b := b8) (by repeat (first | exact List.mem_cons_self | apply List.mem_cons_of_mem | apply List.mem_append_right)) rfl rfl (by repeat (first | exact Upd.head _ | apply Upd.tail | apply Upd.app)) ?_
      refine W_nil ?_
      refine W_blk ?_
      refine W_endround (by repeat (first | exact Take.here _ | apply Take.next | apply Take.app)) ?_
      rw [hr]
      exact ⟨Ws2, HB2, (lp, .obj (.loop r)) :: (D, .obj (.deferred (some []))) :: (b8, .cells 4 1 [.bool (some t : Option Nat).isSome]) :: (b7, .cells 22 1 [.int .u64 (((some t : Option Nat).getD 0 : Nat) : Int)]) :: (b6, .cells 49 1 [.int .u64 ((withL 0 l : Nat) : Int)]) :: (b3, .cells 35 1 [.slice ad l.length cap]) :: H, hB2, (by first | exact hsubI | (repeat (first | with_reducible exact HSub.refl _ | refine HSub.cons (by repeat (first | exact Take.here _ | apply Take.next | apply Take.app)) ?_ | refine HSub.app (by repeat (first | with_reducible exact TakeS.here _ | apply TakeS.next | apply TakeS.app)) ?_ | exact HSub.nil _ | exact HSub.refl _ | refine HSub.drop ?_ | refine HSub.dropS ?_))), .inl ⟨rfl, rfl, by rw [hl3]⟩⟩
    · skip
      subst hx0
      rw [h0] at hl3 ⊢
      replace hl3 : nxK (askB l) Ws2 (k + 1) = some t := hl3.trans (by unfold minO; dsimp only; rw [if_pos hlt])
      rw [show (some t : Option Nat).getD 0 = t from rfl]
      refine W_move rfl rfl ?_
      refine W_extract rfl rfl rfl ?_
      refine W_extract rfl rfl rfl ?_
      refine W_assign rfl rfl ?_
      refine W_assign rfl rfl ?_
      refine W_nil ?_
      refine W_sr ?_
      refine W_move rfl rfl ?_
      refine W_move rfl rfl ?_
      refine W_gyes rfl rfl ?_
      refine W_load (v := .bool true) rfl ty4 rfl (Cell.own (b := b8) (by repeat (first | exact List.mem_cons_self | apply List.mem_cons_of_mem | apply List.mem_append_right)) rfl) rfl ?_
      refine W_gyes rfl rfl ?_
      refine W_not rfl rfl ?_
      refine W_gyes rfl rfl ?_
      refine W_move rfl rfl ?_
      refine W_gyes rfl rfl ?_
      refine W_move rfl rfl ?_
      refine W_gyes rfl rfl ?_
      refine W_load (v := .int .u64 ((a0 : Nat) : Int)) rfl ty22 rfl (Cell.own (b := b7) (by repeat (first | exact List.mem_cons_self | apply List.mem_cons_of_mem | apply List.mem_append_right)) rfl) rfl ?_
      refine W_gyes rfl rfl ?_
      refine W_bin rfl rfl b_lss rfl ?_
      rw [decide_eq_true (by omega)]
      refine W_gyes rfl rfl ?_
      first | refine W_pickt rfl rfl rfl ?_ | refine W_pickf rfl rfl rfl ?_
      first | refine W_pickt rfl rfl rfl ?_ | refine W_pickf rfl rfl rfl ?_
      refine W_nil ?_
      refine W_condT rfl rfl ?_
      refine W_region ?_
      refine W_move rfl rfl ?_
      refine W_store (l' := [.int .u64 ((t : Nat) : Int)]) rfl rfl ty22 rfl rfl (b := b7) (by repeat (first | exact List.mem_cons_self | apply List.mem_cons_of_mem | apply List.mem_append_right)) rfl rfl (by repeat (first | exact Upd.head _ | apply Upd.tail | apply Upd.app)) ?_
      refine W_store (l' := [.bool true]) rfl rfl ty4 rfl rfl (b := b8) (by repeat (first | exact List.mem_cons_self | apply List.mem_cons_of_mem | apply List.mem_append_right)) rfl rfl (by repeat (first | exact Upd.head _ | apply Upd.tail | apply Upd.app)) ?_
      refine W_nil ?_
      refine W_blk ?_
      refine W_endround (by repeat (first | exact Take.here _ | apply Take.next | apply Take.app)) ?_
      rw [hr]
      exact ⟨Ws2, HB2, (lp, .obj (.loop r)) :: (D, .obj (.deferred (some []))) :: (b8, .cells 4 1 [.bool (some t : Option Nat).isSome]) :: (b7, .cells 22 1 [.int .u64 (((some t : Option Nat).getD 0 : Nat) : Int)]) :: (b6, .cells 49 1 [.int .u64 ((withL 0 l : Nat) : Int)]) :: (b3, .cells 35 1 [.slice ad l.length cap]) :: H, hB2, (by first | exact hsubI | (repeat (first | with_reducible exact HSub.refl _ | refine HSub.cons (by repeat (first | exact Take.here _ | apply Take.next | apply Take.app)) ?_ | refine HSub.app (by repeat (first | with_reducible exact TakeS.here _ | apply TakeS.next | apply TakeS.app)) ?_ | exact HSub.nil _ | exact HSub.refl _ | refine HSub.drop ?_ | refine HSub.dropS ?_))), .inl ⟨rfl, rfl, by rw [hl3]⟩⟩
    · skip
      subst hx0
      rw [h0] at hl3 ⊢
      replace hl3 : nxK (askB l) Ws2 (k + 1) = some a0 := hl3.trans (by unfold minO; dsimp only; rw [if_neg hge])
      rw [show (some t : Option Nat).getD 0 = t from rfl]
      refine W_move rfl rfl ?_
      refine W_extract rfl rfl rfl ?_
      refine W_extract rfl rfl rfl ?_
      refine W_assign rfl rfl ?_
      refine W_assign rfl rfl ?_
      refine W_nil ?_
      refine W_sr ?_
      refine W_move rfl rfl ?_
      refine W_move rfl rfl ?_
      refine W_gyes rfl rfl ?_
      refine W_load (v := .bool true) rfl ty4 rfl (Cell.own (b := b8) (by repeat (first | exact List.mem_cons_self | apply List.mem_cons_of_mem | apply List.mem_append_right)) rfl) rfl ?_
      refine W_gyes rfl rfl ?_
      refine W_not rfl rfl ?_
      refine W_gyes rfl rfl ?_
      refine W_move rfl rfl ?_
      refine W_gyes rfl rfl ?_
      refine W_move rfl rfl ?_
      refine W_gyes rfl rfl ?_
      refine W_load (v := .int .u64 ((a0 : Nat) : Int)) rfl ty22 rfl (Cell.own (b := b7) (by repeat (first | exact List.mem_cons_self | apply List.mem_cons_of_mem | apply List.mem_append_right)) rfl) rfl ?_
      refine W_gyes rfl rfl ?_
      refine W_bin rfl rfl b_lss rfl ?_
      rw [decide_eq_false (by omega)]
      refine W_gyes rfl rfl ?_
      first | refine W_pickt rfl rfl rfl ?_ | refine W_pickf rfl rfl rfl ?_
      first | refine W_pickt rfl rfl rfl ?_ | refine W_pickf rfl rfl rfl ?_
      refine W_nil ?_
      refine W_condF rfl rfl ?_
      refine W_skip ?_
      refine W_blk ?_
      refine W_endround (by repeat (first | exact Take.here _ | apply Take.next | apply Take.app)) ?_
      rw [hr]
      exact ⟨Ws2, HB2, (lp, .obj (.loop r)) :: (D, .obj (.deferred (some []))) :: (b8, .cells 4 1 [.bool (some a0 : Option Nat).isSome]) :: (b7, .cells 22 1 [.int .u64 (((some a0 : Option Nat).getD 0 : Nat) : Int)]) :: (b6, .cells 49 1 [.int .u64 ((withL 0 l : Nat) : Int)]) :: (b3, .cells 35 1 [.slice ad l.length cap]) :: H, hB2, (by first | exact hsubI | (repeat (first | with_reducible exact HSub.refl _ | refine HSub.cons (by repeat (first | exact Take.here _ | apply Take.next | apply Take.app)) ?_ | refine HSub.app (by repeat (first | with_reducible exact TakeS.here _ | apply TakeS.next | apply TakeS.app)) ?_ | exact HSub.nil _ | exact HSub.refl _ | refine HSub.drop ?_ | refine HSub.dropS ?_))), .inl ⟨rfl, rfl, by rw [hl3]⟩⟩
  · intro _ H' hp
    obtain ⟨Ws2, HB2, Hr, hB2, hs, hJS⟩ := hp
    obtain ⟨rfl, rfl⟩ := hJS.resolve_right (fun h => h)
    refine ⟨.ready, none, (b2_, .cells 45 1 [.pointer (some ⟨bb, 0, none⟩)]) :: (b3_, .cells 114 1 [(Value.func (.func 63) #[] #[.pointer (some ⟨b3, 0, none⟩), .pointer (some ⟨b6, 0, none⟩)])]) :: (HB2 ++ ((D, .obj (.deferred (some []))) :: (b8, .cells 4 1 [.bool (nxK (askB l) Ws2 Ws2.length).isSome]) :: (b7, .cells 22 1 [.int .u64 (((nxK (askB l) Ws2 Ws2.length).getD 0 : Nat) : Int)]) :: (b6, .cells 49 1 [.int .u64 ((withL 0 l : Nat) : Int)]) :: (b3, .cells 35 1 [.slice ad l.length cap]) :: H)), by rw [hr]; exact hs.trans (by first | exact hsubI | (repeat (first | with_reducible exact HSub.refl _ | refine HSub.cons (by repeat (first | exact Take.here _ | apply Take.next | apply Take.app)) ?_ | refine HSub.app (by repeat (first | with_reducible exact TakeS.here _ | apply TakeS.next | apply TakeS.app)) ?_ | exact HSub.nil _ | exact HSub.refl _ | refine HSub.drop ?_ | refine HSub.dropS ?_))), by decide, ?_⟩
    show W _ _ _ _ _ _ _ _ _
    refine W_blk ?_
    refine W_quietsr (by kernel_rfl) (by decide +kernel) ?_
    refine WQ_x (X_load (v := .int .u64 (((nxK (askB l) Ws2 Ws2.length).getD 0 : Nat) : Int)) rfl ty22 rfl (Cell.own (b := b7) (by repeat (first | exact List.mem_cons_self | apply List.mem_cons_of_mem | apply List.mem_append_right)) rfl)) rfl ?_
    refine WQ_x (X_load (v := .bool (nxK (askB l) Ws2 Ws2.length).isSome) rfl ty4 rfl (Cell.own (b := b8) (by repeat (first | exact List.mem_cons_self | apply List.mem_cons_of_mem | apply List.mem_append_right)) rfl)) rfl ?_
    refine WQ_x (X_assign rfl) rfl ?_
    refine WQ_x (X_assign rfl) rfl ?_
    refine WQ_nil ?_
    refine W_ret2m (H2 := HB2 ++ H) Tryd.results42 rfl rfl (.cons (by repeat (first | exact Take.here _ | apply Take.next | apply Take.app)) (.nil _)) (by first | exact hsubI | (repeat (first | with_reducible exact HSub.refl _ | refine HSub.cons (by repeat (first | exact Take.here _ | apply Take.next | apply Take.app)) ?_ | refine HSub.app (by repeat (first | with_reducible exact TakeS.here _ | apply TakeS.next | apply TakeS.app)) ?_ | exact HSub.nil _ | exact HSub.refl _ | refine HSub.drop ?_ | refine HSub.dropS ?_))) ?_
    exact ⟨HB2, hB2, rfl, rfl⟩
set_option maxHeartbeats 1000000 in
theorem NextB_nil {w0 : World} {H : Heap} {l : List Int} {ad : Option Addr} {cap : Nat} (hl : l.length ≤ 4611686018427387904) (hrow : Holds w0 H ad (l.map (Value.int .i64)))  : PureAt Tryd.prog w0 H 42 [.pointer none, .slice ad l.length cap] (.tuple #[.int .u64 0, .bool false]) := by
  refine L_enter Tryd.func42 rfl Tryd.ntmps42 rfl rfl ?_
  refine W_sr ?_
  refine W_box (l := [.slice ad l.length cap]) rfl rfl rfl (fun b3 => ?_)
  refine W_assign rfl rfl ?_
  refine W_assign rfl rfl ?_
  refine W_nil ?_
  refine W_sr ?_
  refine W_load (v := .slice ad l.length cap) rfl ty35 rfl (Cell.own (b := b3) (by repeat (first | exact List.mem_cons_self | apply List.mem_cons_of_mem | apply List.mem_append_right)) rfl) rfl ?_
  refine W_callq (.cons rfl .nil) Tryd.call62 rfl (maskOf_q hl (hrow.up (by first | exact hsubI | (repeat (first | with_reducible exact HSub.refl _ | refine HSub.cons (by repeat (first | exact Take.here _ | apply Take.next | apply Take.app)) ?_ | refine HSub.app (by repeat (first | with_reducible exact TakeS.here _ | apply TakeS.next | apply TakeS.app)) ?_ | exact HSub.nil _ | exact HSub.refl _ | refine HSub.drop ?_ | refine HSub.dropS ?_))))) ?_
  refine W_alloc (l := [.int .u64 0]) ty49 rfl rfl (fun b6 => ?_)
  refine W_store (l' := [.int .u64 ((withL 0 l : Nat) : Int)]) rfl rfl ty49 rfl rfl (b := b6) (by repeat (first | exact List.mem_cons_self | apply List.mem_cons_of_mem | apply List.mem_append_right)) rfl rfl (by repeat (first | exact Upd.head _ | apply Upd.tail | apply Upd.app)) ?_
  refine W_nil ?_
  refine W_sr ?_
  refine W_alloc (l := [.int .u64 0]) ty22 rfl rfl (fun b7 => ?_)
  refine W_alloc (l := [.bool false]) ty4 rfl rfl (fun b8 => ?_)
  refine W_store (l' := [.int .u64 0]) rfl rfl ty22 rfl rfl (b := b7) (by repeat (first | exact List.mem_cons_self | apply List.mem_cons_of_mem | apply List.mem_append_right)) rfl rfl (by repeat (first | exact Upd.head _ | apply Upd.tail | apply Upd.app)) ?_
  refine W_store (l' := [.bool false]) rfl rfl ty4 rfl rfl (b := b8) (by repeat (first | exact List.mem_cons_self | apply List.mem_cons_of_mem | apply List.mem_append_right)) rfl rfl (by repeat (first | exact Upd.head _ | apply Upd.tail | apply Upd.app)) ?_
  refine W_nil ?_
  refine W_seq ?_
  refine W_sr ?_
  refine W_move rfl rfl ?_
  refine W_makeFunc .nil (.cons rfl (.cons rfl .nil)) rfl ?_
  refine W_call (.cons rfl (.cons rfl .nil)) Tryd.call56 rfl (such_L (b := .pointer none) (f := (Value.func (.func 63) #[] #[.pointer (some ⟨b3, 0, none⟩), .pointer (some ⟨b6, 0, none⟩)])) rfl rfl) ?_
  rintro v H' ⟨b2_, b3_, rfl, rfl⟩
  refine W_nil ?_
  refine W_block ?_
  refine W_rangeFunc rfl Tryd.call78 ?_
  intro lp D r hst hpd hps hasg hbody hA
  have hr := loop_ready hst hpd
  show LCalls _ _ _ #[_, _, _] _ _
  refine ((such_none (b2 := b2_) (b3 := b3_) (cv := (Value.func (.func 63) #[] #[.pointer (some ⟨b3, 0, none⟩), .pointer (some ⟨b6, 0, none⟩)])) (H := (lp, .obj (.loop r)) :: (D, .obj (.deferred (some []))) :: (b8, .cells 4 1 [.bool false]) :: (b7, .cells 22 1 [.int .u64 0]) :: (b6, .cells 49 1 [.int .u64 ((withL 0 l : Nat) : Int)]) :: (b3, .cells 35 1 [.slice ad l.length cap]) :: H)).hsub (by first | exact hsubI | (repeat (first | with_reducible exact HSub.refl _ | refine HSub.cons (by repeat (first | exact Take.here _ | apply Take.next | apply Take.app)) ?_ | refine HSub.app (by repeat (first | with_reducible exact TakeS.here _ | apply TakeS.next | apply TakeS.app)) ?_ | exact HSub.nil _ | exact HSub.refl _ | refine HSub.drop ?_ | refine HSub.dropS ?_)))).mono ?_
  rintro _ H' rfl
  refine ⟨.ready, none, (b2_, .cells 45 1 [.pointer none]) :: (b3_, .cells 114 1 [(Value.func (.func 63) #[] #[.pointer (some ⟨b3, 0, none⟩), .pointer (some ⟨b6, 0, none⟩)])]) :: (D, .obj (.deferred (some []))) :: (b8, .cells 4 1 [.bool false]) :: (b7, .cells 22 1 [.int .u64 0]) :: (b6, .cells 49 1 [.int .u64 ((withL 0 l : Nat) : Int)]) :: (b3, .cells 35 1 [.slice ad l.length cap]) :: H, by rw [hr]; exact (by first | exact hsubI | (repeat (first | with_reducible exact HSub.refl _ | refine HSub.cons (by repeat (first | exact Take.here _ | apply Take.next | apply Take.app)) ?_ | refine HSub.app (by repeat (first | with_reducible exact TakeS.here _ | apply TakeS.next | apply TakeS.app)) ?_ | exact HSub.nil _ | exact HSub.refl _ | refine HSub.drop ?_ | refine HSub.dropS ?_))), by decide, ?_⟩
  show W _ _ _ _ _ _ _ _ _
  refine W_blk ?_
  refine W_quietsr (by kernel_rfl) (by decide +kernel) ?_
  refine WQ_x (X_load (v := .int .u64 ((0 : Nat) : Int)) rfl ty22 rfl (Cell.own (b := b7) (by repeat (first | exact List.mem_cons_self | apply List.mem_cons_of_mem | apply List.mem_append_right)) rfl)) rfl ?_
  refine WQ_x (X_load (v := .bool false) rfl ty4 rfl (Cell.own (b := b8) (by repeat (first | exact List.mem_cons_self | apply List.mem_cons_of_mem | apply List.mem_append_right)) rfl)) rfl ?_
  refine WQ_x (X_assign rfl) rfl ?_
  refine WQ_x (X_assign rfl) rfl ?_
  refine WQ_nil ?_
  refine W_ret2m (H2 := H) Tryd.results42 rfl rfl (.cons (by repeat (first | exact Take.here _ | apply Take.next | apply Take.app)) (.nil _)) (by first | exact hsubI | (repeat (first | with_reducible exact HSub.refl _ | refine HSub.cons (by repeat (first | exact Take.here _ | apply Take.next | apply Take.app)) ?_ | refine HSub.app (by repeat (first | with_reducible exact TakeS.here _ | apply TakeS.next | apply TakeS.app)) ?_ | exact HSub.nil _ | exact HSub.refl _ | refine HSub.drop ?_ | refine HSub.dropS ?_))) ?_
  exact ⟨rfl, rfl⟩
end Go.Proofs.YtknbohnoiigioaaDoor
