/-
  Own work: contracts of functions that the statement reaches, and plain facts on what they compute; each theorem says its conditions.
-/
import Derived.Test.YtcggkokeggfdkaaGreatDoorWnS2
import Derived.Test.YtcggkokeggfdkaaGreatDoorWnT1
import Derived.Test.YtcggkokeggfdkaaGreatDoorWnS1
import Derived.ChangeKeysEq
import Derived.Test.YtcggkokeggfdkaaGreatDoorShelf
import Derived.Test.YtcggkokeggfdkaaGreatDoorWnS4
import Derived.WalkSmall
import Derived.IntWalk
import Derived.Test.YtcggkokeggfdkaaGreatDoorWnA
set_option linter.all false
set_option linter.unusedSimpArgs false
set_option linter.unusedVariables false
set_option maxHeartbeats 16000000
namespace Go.Proofs.YtcggkokeggfdkaaGreatDoor
open Go Go.Sl
attribute [local irreducible] W
structure Gr where
 S : Sct
 Q : List (List (Int × Int))
 last : Int
 sc : Option (Nat × Int × Int)
 began : Int
 done : Int
 want : Int
inductive ScH (sb : Nat) : Option (Nat × Int × Int) → Value → Heap → Prop
 | none : ScH sb none (.pointer none) []
 | some {xb left : Nat} {bst place : Int} : ScH sb (some (left, bst, place)) (.pointer (some ⟨xb, 0, none⟩)) [(xb, .cells 566 4 [.pointer (some ⟨sb, 0, none⟩), .int .u64 ((left : Nat) : Int), .int .i64 bst, .int .i64 place])]
inductive GrH (gb n : Nat) (G : Gr) : Heap → Prop
 | mk {sb lb : Nat} {sv : Value} {HX HL : Heap} (hS : ScH sb G.sc sv HX) (hL : ListsH lb n G.Q G.last HL) : GrH gb n G ((gb, .cells 276 6 [.pointer (some ⟨sb, 0, none⟩), .pointer (some ⟨lb, 0, none⟩), sv, .int .i64 G.began, .int .i64 G.done, .int .i64 G.want]) :: (sb, .cells 298 130 (scC G.S)) :: (HX ++ HL))
structure GrOk (n : Nat) (G : Gr) : Prop where
 sok : SctOk G.S
 n : 0 < n ∧ n ≤ 64
 left : ∀ l b p, G.sc = some (l, b, p) → l < 18446744073709551616
 last : G.last ≤ G.began
 beg : 0 ≤ G.began ∧ G.began ≤ 1000000000
 st : G.S.st ≤ 1000000000
def gr0 (n : Nat) : Gr := ⟨⟨List.replicate 64 (0, 0), 0, 0⟩, List.replicate n [], 0, none, 0, 0, 0⟩
set_option maxRecDepth 100000
theorem gNew_L {w0 : World} {H : Heap} {n : Nat} (hn : 1 ≤ n ∧ n ≤ 64)  : LCalls Tryz.prog w0 113 #[.int .i64 (n : Int)] (H) (fun v H' => ∃ gb HG, v = .tuple #[.pointer (some ⟨gb, 0, none⟩), .int .i64 0] ∧ GrH gb n (gr0 n) HG ∧ H' = HG ++ H) := by
 refine L_enter (l := [.int .i64 (n : Int)]) Tryz.func113 rfl Tryz.ntmps113 rfl rfl ?_
 refine W_sr ?_
 refine W_assign rfl rfl ?_
 refine W_assign rfl rfl ?_
 refine W_nil (W_sr ?_)
 refine W_move rfl rfl ?_
 refine W_call (.cons rfl .nil) Tryz.call180 rfl (lNew_L hn) ?_
 rintro v H' ⟨lb, HL, rfl, hL, rfl⟩
 refine W_move rfl rfl ?_
 refine W_extract rfl rfl rfl ?_
 refine W_extract rfl rfl rfl ?_
 refine W_assign rfl rfl ?_
 refine W_assign rfl rfl ?_
 refine W_nil (W_seq (W_sr ?_))
 refine W_move rfl rfl ?_
 refine W_bin rfl rfl b_neq rfl ?_
 refine W_nil ?_
 refine W_condF rfl rfl ?_
 refine W_skip (W_sr ?_)
 refine W_build (l := (scC ⟨List.replicate 64 (0, 0), 0, 0⟩)) ty298 pl298 .nil rfl zk rfl ?_
 refine W_box (l := (scC ⟨List.replicate 64 (0, 0), 0, 0⟩)) rfl rfl rfl (fun sb => ?_)
 refine W_move rfl rfl ?_
 refine W_build (l := [.pointer (some ⟨sb, 0, none⟩), .pointer (some ⟨lb, 0, none⟩), .pointer none, .int .i64 0, .int .i64 0, .int .i64 0]) ty276 pl276 (.cons rfl rfl rfl rfl rfl (.cons rfl rfl rfl rfl rfl .nil)) rfl rfl rfl ?_
 refine W_box (l := [.pointer (some ⟨sb, 0, none⟩), .pointer (some ⟨lb, 0, none⟩), .pointer none, .int .i64 0, .int .i64 0, .int .i64 0]) rfl rfl rfl (fun gb => ?_)
 refine W_assign rfl rfl ?_
 refine W_assign rfl rfl ?_
 refine W_nil ?_
 refine W_ret2m Tryz.results113 rfl rfl (.nil _) (.refl _) ?_
 exact ⟨gb, _, rfl, .mk (G := gr0 n) (.none) hL, rfl⟩
def rdyQ (Q Rs : List (Int × Int)) (cpu : Int) : Int × Bool := match quOf Q cpu with
 | [] => (0, false)
 | x :: _ => (x, (inR Rs x).isNone)
theorem quOf_none {n : Nat} {Q : List (Int × Int)} (h : QOk n Q) {cpu : Int} (hc : cpu < 0 ∨ (n : Int) ≤ cpu) : quOf Q cpu = [] := by
 cases e : quOf Q cpu with
 | nil => rfl
 | cons x l =>
  have h1 := (h.rng _ (mem_quOf.1 (e ▸ List.mem_cons_self : x ∈ quOf Q cpu))).2
  dsimp only at h1; omega
theorem optV_ways (o : Option Int) : (o = none ∧ optV o = .tuple #[.int .i64 0, .bool false]) ∨ ∃ x, o = some x ∧ optV o = .tuple #[.int .i64 x, .bool true] := by
 cases o with
 | none => exact .inl ⟨rfl, rfl⟩
 | some x => exact .inr ⟨x, rfl, rfl⟩
theorem RingH.reads {R rb : Nat} {l : List Int} {X : Heap} (h : RingH R rb l X) {w0 : World} {H : Heap} (hm : ∀ p ∈ X, p ∈ H) : (∀ z : Int, PureAt Tryz.prog w0 H 183 [.pointer (some ⟨rb, 0, none⟩), .int .i64 z] (atV l z)) ∧ PureAt Tryz.prog w0 H 362 [.pointer (some ⟨rb, 0, none⟩)] (.int .i64 (l.length : Int)) := by
 cases h with
 | mk hI => exact ⟨fun z => rAt_q hI (hm _ List.mem_cons_self) (hm _ (List.mem_cons_of_mem _ List.mem_cons_self)), rLen_q (hm _ List.mem_cons_self)⟩
theorem PendH.ring {pb n k : Nat} {Q Rs : List (Int × Int)} {HB : Heap} (h : PendH pb n Q Rs HB) (hn : n ≤ 64) (hk : k < n) : ∃ rb X, RingH 256 rb (quOf Q (k : Int)) X ∧ (∀ p ∈ X, p ∈ HB) ∧ (∀ {w0 : World} {H : Heap}, (∀ p ∈ HB, p ∈ H) → PureAt Tryz.prog w0 H 182 [.pointer (some ⟨pb, 0, none⟩), .int .i64 (k : Int)] (rbP rb)) := by
 cases h with
 | @mk v XQ XS rbs rn of_ hv hl hr hrun hq =>
  have hvl := hv.length
  rw [List.length_map, Nat.mul_one] at hvl
  obtain ⟨rb, hrb⟩ : ∃ rb, rbs[k]? = some rb := ⟨_, List.getElem?_eq_getElem zO⟩
  obtain ⟨X, hX⟩ : ∃ X, XS[k]? = some X := ⟨_, List.getElem?_eq_getElem zO⟩
  refine ⟨rb, X, hr k rb X hrb hX, fun p hp => List.mem_cons_of_mem _ (List.mem_append_right _ (List.mem_flatten.2 ⟨X, List.mem_of_getElem? hX, hp⟩)), fun {w0 H} hm => ?_⟩
  obtain ⟨ad, cap, rfl, _, _, hrow⟩ := Holds.of_own (w0 := w0) (H := H) hv (fun p hp => hm p (List.mem_cons_of_mem _ (List.mem_append_left _ hp)))
  exact queue_at (n := n) (hm _ List.mem_cons_self) hrow zO hn hrb
theorem Ready_no {w0 : World} {H : Heap} {HB : Heap} {pb n : Nat} {Q Rs : List (Int × Int)} (hP : PendH pb n Q Rs HB) (hn : n ≤ 64) {cpu : Int} (hm : ∀ p ∈ HB, p ∈ H) (hc : cpu < 0 ∨ (n : Int) ≤ cpu)  : PureAt Tryz.prog w0 H 117 [.pointer (some ⟨pb, 0, none⟩), .int .i64 cpu] (.tuple #[.int .i64 (rdyQ Q Rs cpu).1, .bool (rdyQ Q Rs cpu).2]) := by
 refine L_enter Tryz.func117 rfl Tryz.ntmps117 rfl rfl ?_
 refine W_sr ?_
 refine W_assign rfl rfl ?_
 refine W_assign rfl rfl ?_
 refine W_nil (W_sr ?_)
 refine W_move rfl rfl ?_
 refine W_move rfl rfl ?_
 refine W_callq (.cons rfl (.cons rfl .nil)) Tryz.call182 rfl (hP.noq hn hc hm) ?_
 refine W_callp (.cons rfl (.cons rfl .nil)) Tryz.call183 rfl (T := fun _ => True) trivial rAt_nil ?_
 refine W_move rfl rfl ?_
 refine W_extract rfl rfl rfl ?_
 refine W_extract rfl rfl rfl ?_
 refine W_assign rfl rfl ?_
 refine W_assign rfl rfl ?_
 refine W_nil (W_sr ?_)
 refine W_move rfl rfl ?_
 refine W_move rfl rfl ?_
 refine W_callq (.cons rfl (.cons rfl .nil)) Tryz.call184 rfl (hP.Runs_q (id := 0) hm) ?_
 rcases optV_ways (inR Rs (0)) with ⟨hir, e⟩ | ⟨cx, hir, e⟩
 ·skip
  rw [e]
  refine W_move rfl rfl ?_
  refine W_extract rfl rfl rfl ?_
  refine W_extract rfl rfl rfl ?_
  refine W_assign rfl rfl ?_
  refine W_assign rfl rfl ?_
  refine W_nil (W_sr ?_)
  refine W_move rfl rfl ?_
  refine W_move rfl rfl ?_
  refine W_move rfl rfl ?_
  refine W_gno rfl rfl rfl ?_
  refine W_gno rfl rfl rfl ?_
  first | refine W_pickt rfl rfl rfl ?_ | refine W_pickf rfl rfl rfl ?_
  refine W_assign rfl rfl ?_
  refine W_assign rfl rfl ?_
  refine W_nil ?_
  refine W_ret2m (H2 := H) Tryz.results117 rfl rfl (.nil _) zH ?_
  exact ⟨by unfold rdyQ; rw [quOf_none hP.ok hc]; rfl, rfl⟩
 ·skip
  rw [e]
  refine W_move rfl rfl ?_
  refine W_extract rfl rfl rfl ?_
  refine W_extract rfl rfl rfl ?_
  refine W_assign rfl rfl ?_
  refine W_assign rfl rfl ?_
  refine W_nil (W_sr ?_)
  refine W_move rfl rfl ?_
  refine W_move rfl rfl ?_
  refine W_move rfl rfl ?_
  refine W_gno rfl rfl rfl ?_
  refine W_gno rfl rfl rfl ?_
  first | refine W_pickt rfl rfl rfl ?_ | refine W_pickf rfl rfl rfl ?_
  refine W_assign rfl rfl ?_
  refine W_assign rfl rfl ?_
  refine W_nil ?_
  refine W_ret2m (H2 := H) Tryz.results117 rfl rfl (.nil _) zH ?_
  exact ⟨by unfold rdyQ; rw [quOf_none hP.ok hc]; rfl, rfl⟩
theorem Ready_nil {w0 : World} {H : Heap} {HB : Heap} {pb n : Nat} {Q Rs : List (Int × Int)} (hP : PendH pb n Q Rs HB) (hn : n ≤ 64) {k : Nat} (hm : ∀ p ∈ HB, p ∈ H) (hk : k < n) (he : quOf Q (k : Int) = [])  : PureAt Tryz.prog w0 H 117 [.pointer (some ⟨pb, 0, none⟩), .int .i64 (k : Int)] (.tuple #[.int .i64 (rdyQ Q Rs (k : Int)).1, .bool (rdyQ Q Rs (k : Int)).2]) := by
 obtain ⟨rb, X, hR, hXm, hqu⟩ := hP.ring hn hk
 obtain ⟨hat, hle⟩ := hR.reads (w0 := w0) (fun p hp => hm p (hXm p hp))
 refine L_enter Tryz.func117 rfl Tryz.ntmps117 rfl rfl ?_
 refine W_sr ?_
 refine W_assign rfl rfl ?_
 refine W_assign rfl rfl ?_
 refine W_nil (W_sr ?_)
 refine W_move rfl rfl ?_
 refine W_move rfl rfl ?_
 refine W_callq (.cons rfl (.cons rfl .nil)) Tryz.call182 rfl (hqu hm) ?_
 refine W_callq (.cons rfl (.cons rfl .nil)) Tryz.call183 rfl (hat 0) ?_
 rw [he, show atV [] 0 = .tuple #[.int .i64 0, .bool false] from rfl]
 refine W_move rfl rfl ?_
 refine W_extract rfl rfl rfl ?_
 refine W_extract rfl rfl rfl ?_
 refine W_assign rfl rfl ?_
 refine W_assign rfl rfl ?_
 refine W_nil (W_sr ?_)
 refine W_move rfl rfl ?_
 refine W_move rfl rfl ?_
 refine W_callq (.cons rfl (.cons rfl .nil)) Tryz.call184 rfl (hP.Runs_q (id := 0) hm) ?_
 rcases optV_ways (inR Rs (0)) with ⟨hir, e⟩ | ⟨cx, hir, e⟩
 ·skip
  rw [e]
  refine W_move rfl rfl ?_
  refine W_extract rfl rfl rfl ?_
  refine W_extract rfl rfl rfl ?_
  refine W_assign rfl rfl ?_
  refine W_assign rfl rfl ?_
  refine W_nil (W_sr ?_)
  refine W_move rfl rfl ?_
  refine W_move rfl rfl ?_
  refine W_move rfl rfl ?_
  refine W_gno rfl rfl rfl ?_
  refine W_gno rfl rfl rfl ?_
  first | refine W_pickt rfl rfl rfl ?_ | refine W_pickf rfl rfl rfl ?_
  refine W_assign rfl rfl ?_
  refine W_assign rfl rfl ?_
  refine W_nil ?_
  refine W_ret2m (H2 := H) Tryz.results117 rfl rfl (.nil _) zH ?_
  exact ⟨by unfold rdyQ; rw [he]; rfl, rfl⟩
 ·skip
  rw [e]
  refine W_move rfl rfl ?_
  refine W_extract rfl rfl rfl ?_
  refine W_extract rfl rfl rfl ?_
  refine W_assign rfl rfl ?_
  refine W_assign rfl rfl ?_
  refine W_nil (W_sr ?_)
  refine W_move rfl rfl ?_
  refine W_move rfl rfl ?_
  refine W_move rfl rfl ?_
  refine W_gno rfl rfl rfl ?_
  refine W_gno rfl rfl rfl ?_
  first | refine W_pickt rfl rfl rfl ?_ | refine W_pickf rfl rfl rfl ?_
  refine W_assign rfl rfl ?_
  refine W_assign rfl rfl ?_
  refine W_nil ?_
  refine W_ret2m (H2 := H) Tryz.results117 rfl rfl (.nil _) zH ?_
  exact ⟨by unfold rdyQ; rw [he]; rfl, rfl⟩
theorem Ready_at {w0 : World} {H : Heap} {HB : Heap} {pb n : Nat} {Q Rs : List (Int × Int)} (hP : PendH pb n Q Rs HB) (hn : n ≤ 64) {k : Nat} {x : Int} {l : List Int} (hm : ∀ p ∈ HB, p ∈ H) (hk : k < n) (he : quOf Q (k : Int) = x :: l)  : PureAt Tryz.prog w0 H 117 [.pointer (some ⟨pb, 0, none⟩), .int .i64 (k : Int)] (.tuple #[.int .i64 (rdyQ Q Rs (k : Int)).1, .bool (rdyQ Q Rs (k : Int)).2]) := by
 obtain ⟨rb, X, hR, hXm, hqu⟩ := hP.ring hn hk
 obtain ⟨hat, hle⟩ := hR.reads (w0 := w0) (fun p hp => hm p (hXm p hp))
 refine L_enter Tryz.func117 rfl Tryz.ntmps117 rfl rfl ?_
 refine W_sr ?_
 refine W_assign rfl rfl ?_
 refine W_assign rfl rfl ?_
 refine W_nil (W_sr ?_)
 refine W_move rfl rfl ?_
 refine W_move rfl rfl ?_
 refine W_callq (.cons rfl (.cons rfl .nil)) Tryz.call182 rfl (hqu hm) ?_
 refine W_callq (.cons rfl (.cons rfl .nil)) Tryz.call183 rfl (hat 0) ?_
 rw [he, show atV (x :: l) 0 = .tuple #[.int .i64 x, .bool true] from rfl]
 refine W_move rfl rfl ?_
 refine W_extract rfl rfl rfl ?_
 refine W_extract rfl rfl rfl ?_
 refine W_assign rfl rfl ?_
 refine W_assign rfl rfl ?_
 refine W_nil (W_sr ?_)
 refine W_move rfl rfl ?_
 refine W_move rfl rfl ?_
 refine W_callq (.cons rfl (.cons rfl .nil)) Tryz.call184 rfl (hP.Runs_q (id := x) hm) ?_
 rcases optV_ways (inR Rs (x)) with ⟨hir, e⟩ | ⟨cx, hir, e⟩
 ·skip
  rw [e]
  refine W_move rfl rfl ?_
  refine W_extract rfl rfl rfl ?_
  refine W_extract rfl rfl rfl ?_
  refine W_assign rfl rfl ?_
  refine W_assign rfl rfl ?_
  refine W_nil (W_sr ?_)
  refine W_move rfl rfl ?_
  refine W_move rfl rfl ?_
  refine W_move rfl rfl ?_
  refine W_gyes rfl rfl ?_
  refine W_move rfl rfl ?_
  refine W_gyes rfl rfl ?_
  refine W_not rfl rfl ?_
  first | refine W_pickt rfl rfl rfl ?_ | refine W_pickf rfl rfl rfl ?_
  refine W_assign rfl rfl ?_
  refine W_assign rfl rfl ?_
  refine W_nil ?_
  refine W_ret2m (H2 := H) Tryz.results117 rfl rfl (.nil _) zH ?_
  exact ⟨by unfold rdyQ; rw [he]; dsimp only; rw [hir]; rfl, rfl⟩
 ·skip
  rw [e]
  refine W_move rfl rfl ?_
  refine W_extract rfl rfl rfl ?_
  refine W_extract rfl rfl rfl ?_
  refine W_assign rfl rfl ?_
  refine W_assign rfl rfl ?_
  refine W_nil (W_sr ?_)
  refine W_move rfl rfl ?_
  refine W_move rfl rfl ?_
  refine W_move rfl rfl ?_
  refine W_gyes rfl rfl ?_
  refine W_move rfl rfl ?_
  refine W_gyes rfl rfl ?_
  refine W_not rfl rfl ?_
  first | refine W_pickt rfl rfl rfl ?_ | refine W_pickf rfl rfl rfl ?_
  refine W_assign rfl rfl ?_
  refine W_assign rfl rfl ?_
  refine W_nil ?_
  refine W_ret2m (H2 := H) Tryz.results117 rfl rfl (.nil _) zH ?_
  exact ⟨by unfold rdyQ; rw [he]; dsimp only; rw [hir]; rfl, rfl⟩
theorem PendH.Ready_q {HB : Heap} {pb n : Nat} {Q Rs : List (Int × Int)} (hP : PendH pb n Q Rs HB) (hn : n ≤ 64) {w0 : World} {H : Heap} (hm : ∀ p ∈ HB, p ∈ H) {cpu : Int} : PureAt Tryz.prog w0 H 117 [.pointer (some ⟨pb, 0, none⟩), .int .i64 cpu] (.tuple #[.int .i64 (rdyQ Q Rs cpu).1, .bool (rdyQ Q Rs cpu).2]) := by
 by_cases h : cpu < 0 ∨ (n : Int) ≤ cpu
 ·exact Ready_no hP hn hm h
 ·obtain ⟨k, rfl⟩ : ∃ k : Nat, cpu = (k : Int) := ⟨cpu.toNat, by omega⟩
  cases he : quOf Q (k : Int) with
  | nil => exact Ready_nil hP hn hm zO he
  | cons x l => exact Ready_at hP hn hm zO he
set_option maxRecDepth 100000
abbrev rn0 : List Int := List.replicate 256 0
abbrev of0 : List Int := List.replicate 32 0
theorem runs0 : RunsIs rn0 of0 [] := by
 refine ⟨List.length_replicate, List.length_replicate, fun x hx => ?_, fun x hx => ?_, fun i c => ?_, fun i c => ?_, fun p hp => (by cases hp), List.nodup_nil⟩
 ·rw [List.eq_of_mem_replicate hx]; decide
 ·rw [List.eq_of_mem_replicate hx]; decide
 ·refine ⟨fun h => ?_, fun h => by cases h⟩
  have := List.eq_of_mem_replicate (List.mem_of_getElem? h); omega
 ·refine ⟨fun h => ?_, fun h => by cases h⟩
  have := List.eq_of_mem_replicate (List.mem_of_getElem? h); omega
theorem quok0 (n : Nat) : QOk n [] := ⟨List.nodup_nil, fun p hp => by cases hp⟩
structure NpS where
 i : Nat
 v : Value
 XQ : Heap
 XS : List Heap
 rbs : List Nat
theorem rings_snoc {XS : List Heap} {rbs : List Nat} {rb : Nat} {X : Heap} (hl : XS.length = rbs.length) (h : ∀ (k : Nat) r Y, rbs[k]? = some r → XS[k]? = some Y → RingH 256 r [] Y) (hx : RingH 256 rb [] X) : ∀ (k : Nat) r Y, (rbs ++ [rb])[k]? = some r → (XS ++ [X])[k]? = some Y → RingH 256 r [] Y := fun k r Y h1 h2 => by
 by_cases c : k < rbs.length
 ·rw [List.getElem?_append_left c] at h1
  rw [List.getElem?_append_left (by omega)] at h2
  exact h k r Y h1 h2
 ·rw [List.getElem?_append_right (by omega)] at h1 h2
  rw [hl] at h2
  cases hk : k - rbs.length with
  | zero =>
   rw [hk] at h1 h2
   obtain rfl : rb = r := by simpa using h1
   obtain rfl : X = Y := by simpa using h2
   exact hx
  | succ j => rw [hk] at h1; simp at h1
theorem pNew_L {w0 : World} {H : Heap} {n : Nat} (hn : 1 ≤ n ∧ n ≤ 64)  : LCalls Tryz.prog w0 178 #[.int .i64 (n : Int)] (H) (fun v H' => ∃ pb HB, v = .tuple #[.pointer (some ⟨pb, 0, none⟩), .int .i64 0] ∧ PendH pb n [] [] HB ∧ H' = HB ++ H) := by
 refine L_enter (l := [.int .i64 (n : Int)]) Tryz.func178 rfl Tryz.ntmps178 rfl rfl ?_
 refine W_sr ?_
 refine W_assign rfl rfl ?_
 refine W_assign rfl rfl ?_
 refine W_nil (W_seq (W_sr ?_))
 refine W_move rfl rfl ?_
 refine W_bin rfl rfl b_lss rfl ?_
 rw [decide_eq_false (by omega)]
 refine W_move rfl rfl ?_
 refine W_gyes rfl rfl ?_
 refine W_move rfl rfl ?_
 refine W_gyes rfl rfl ?_
 refine W_bin rfl rfl b_gtr rfl ?_
 rw [decide_eq_false (by omega)]
 first | refine W_pickt rfl rfl rfl ?_ | refine W_pickf rfl rfl rfl ?_
 refine W_nil ?_
 refine W_condF rfl rfl ?_
 refine W_skip (W_sr ?_)
 refine W_build (l := (peRow (.slice none 0 0) rn0 of0)) ty386 pl386 .nil rfl zk rfl ?_
 refine W_box (l := (peRow (.slice none 0 0) rn0 of0)) rfl rfl rfl (fun b14 => ?_)
 refine W_assign rfl rfl ?_
 refine W_nil (W_seq (W_sr ?_))
 refine W_move rfl rfl ?_
 refine W_move rfl rfl ?_
 refine W_nil (W_block ?_)
 refine W_loopC (X := NpS) [(4, _), (15, _)] (fun (x : NpS) => [(16, .int .i64 (x.i : Int))]) (fun _ => _) (fun (x : NpS) => (b14, .cells 386 289 (peRow x.v rn0 of0)) :: (x.XQ ++ (x.XS.flatten ++ H))) (fun (x : NpS) => x.i ≤ n ∧ x.rbs.length = x.i ∧ OwnS 303 1 x.v x.rbs.length (x.rbs.map rbP) x.XQ ∧ x.XS.length = x.rbs.length ∧ (∀ (k : Nat) r Y, x.rbs[k]? = some r → x.XS[k]? = some Y → RingH 256 r [] Y)) (fun (x : NpS) => n - x.i) ⟨0, .slice none 0 0, [], [], []⟩ ⟨Nat.zero_le _, rfl, .nil, rfl, fun k r Y h => (by cases h)⟩ (sub_cons rfl (sub_cons rfl (sub_nil _))) (sub_cons rfl (sub_nil _)) rfl (.refl _) ?_
 rintro ⟨i, v, XQ, XS, rbs⟩ ⟨hi, hlen, hv, hl, hw⟩
 dsimp only at hi hlen hv hl hw ⊢
 simp only [List.cons_append, List.nil_append]
 refine W_sr ?_
 refine W_bin rfl rfl b_lss rfl ?_
 refine W_nil (W_seq ?_)
 refine W_condPS (p := (i : Int) < (n : Int)) rfl (by simp) (fun q0 => ?_) (fun q0 => ?_)
 ·skip
  refine W_skip (W_seq ?_)
  refine W_block (W_sr ?_)
  refine W_call (.cons rfl .nil) Tryz.call248 rfl (rNew_L (R := 256) zd zd) ?_
  rintro w2 H' ⟨rb, HX, rfl, hX, rfl⟩
  refine W_move rfl rfl ?_
  refine W_extract rfl rfl rfl ?_
  refine W_extract rfl rfl rfl ?_
  refine W_assign rfl rfl ?_
  refine W_assign rfl rfl ?_
  refine W_nil (W_seq (W_sr ?_))
  refine W_move rfl rfl ?_
  refine W_bin rfl rfl b_neq rfl ?_
  refine W_nil ?_
  refine W_condF rfl rfl ?_
  refine W_skip ?_
  refine W_region ?_
  refine W_move rfl rfl ?_
  refine W_move rfl rfl ?_
  refine W_nilCheck rfl rfl ?_
  refine W_fieldAddr rfl fld386_0 zd rfl ?_
  refine W_load (v := v) rfl ty383 rfl (Cell.own (b := b14) zM rfl) rfl ?_
  refine W_move rfl rfl ?_
  refine W_buildSlice (l := [rbP rb]) ty383 ty303 (.cons rfl rfl rfl rfl rfl .nil) rfl rfl rfl rfl rfl rfl rfl (fun b31 => ?_)
  refine W_append (news := [rbP rb]) (m := 1) (HB := XQ) (H0 := (b31, .cells 303 1 [rbP rb]) :: (HX ++ ((b14, .cells 386 289 (peRow v rn0 of0)) :: (XS.flatten ++ H)))) rfl rfl ty383 ty303 rfl (by decide) hv rfl (Holds.own (b := b31) zM) rfl (by simp only [maxLen]; omega) (by omega) zH rfl (fun v' X' hv' => ?_)
  refine W_nilCheck rfl rfl ?_
  refine W_fieldAddr rfl fld386_0 zd rfl ?_
  have hv1 : v'.oneCell' = true := by obtain ⟨_, _, rfl, _⟩ := hv'.shape; rfl
  refine W_store (l' := (peRow v' rn0 of0)) rfl rfl ty383 hv1 rfl (b := b14) zM (by rw [peRow_len List.length_replicate List.length_replicate]; rfl) rfl zU ?_
  refine W_nil ?_
  refine W_blk ?_
  refine W_region ?_
  refine W_bin rfl rfl (b_add (m := ((i + 1 : Nat) : Int)) ((i64w zO).trans zO)) rfl ?_
  refine W_move rfl rfl ?_
  refine W_nil ?_
  refine W_again ⟨i + 1, v', X', XS ++ [HX], rbs ++ [rb]⟩ ⟨by show i + 1 ≤ n; omega, by show (rbs ++ [rb]).length = i + 1; rw [List.length_append, hlen]; rfl, by show OwnS 303 1 v' (rbs ++ [rb]).length ((rbs ++ [rb]).map rbP) X'; rw [List.length_append, List.map_append]; exact hv', by show (XS ++ [HX]).length = (rbs ++ [rb]).length; rw [List.length_append, List.length_append, hl]; rfl, rings_snoc hl hw hX⟩ (by show n - (i + 1) < n - i; omega) (sub_cons rfl (sub_cons rfl (sub_cons rfl (sub_nil _)))) rfl (by show HSub _ ((b14, .cells 386 289 (peRow v' rn0 of0)) :: (X' ++ ((XS ++ [HX]).flatten ++ H))); rw [List.flatten_append, List.flatten_singleton, List.append_assoc]; first | exact hsubI | (repeat (first | with_reducible exact HSub.refl _ | refine HSub.cons zT ?_ | refine HSub.app zS ?_ | exact HSub.nil _ | exact HSub.refl _ | refine HSub.drop ?_ | refine HSub.dropS ?_)))
 ·skip
  refine W_exit rfl ?_
  refine W_sr ?_
  refine W_move rfl rfl ?_
  refine W_assign rfl rfl ?_
  refine W_assign rfl rfl ?_
  refine W_nil ?_
  refine W_ret2m (H2 := (b14, .cells 386 289 (peRow v rn0 of0)) :: (XQ ++ (XS.flatten ++ H))) Tryz.results178 rfl rfl (.nil _) zH ?_
  obtain rfl : i = n := by omega
  exact ⟨b14, (b14, .cells 386 289 (peRow v rn0 of0)) :: (XQ ++ XS.flatten), rfl, .mk (rbs := rbs) (by rw [← hlen]; exact hv) (by omega) hw runs0 (quok0 _), by show _ = _ :: ((XQ ++ XS.flatten) ++ H); rw [List.append_assoc]⟩
theorem pNew_range {z : Int} (h : z < 1 ∨ 64 < z) : Pure Tryz.prog (fun _ => True) 178 [.int .i64 z] (.tuple #[.pointer none, .int .i64 2]) := by
 intro w0 H hT
 refine L_enter Tryz.func178 rfl Tryz.ntmps178 rfl rfl ?_
 refine W_sr ?_
 refine W_assign rfl rfl ?_
 refine W_assign rfl rfl ?_
 refine W_nil (W_seq (W_sr ?_))
 refine W_move rfl rfl ?_
 refine W_bin rfl rfl b_lss rfl ?_
 refine W_move rfl rfl ?_
 apply W_or
 iterate 4 exact rfl
 case h1 =>
  intro hg2
  refine W_gyes rfl rfl ?_
  refine W_move rfl rfl ?_
  refine W_gyes rfl rfl ?_
  refine W_bin rfl rfl b_gtr rfl ?_
  exact W_met rfl zR
 refine W_nil ?_
 refine W_condT rfl (by simp; omega) ?_
 refine W_sr ?_
 refine W_assign rfl rfl ?_
 refine W_assign rfl rfl ?_
 refine W_nil ?_
 refine W_ret2m (H2 := H) Tryz.results178 rfl rfl (.nil _) zH ?_
 exact ⟨rfl, rfl⟩
structure Wone where
 shut : Bool
 prog : Int
def woC (o : Wone) : List Value := [.bool o.shut, .int .i64 o.prog]
def wkRow (pb n : Nat) (A : List Wone) (on : List Int) : List Value := .pointer (some ⟨pb, 0, none⟩) :: .int .i64 ((n : Nat) : Int) :: (A.flatMap woC ++ on.map (Value.int .i64))
def zWone : Wone := ⟨false, 0⟩
structure WkOk (n : Nat) (A : List Wone) (on : List Int) : Prop where
 len : A.length = 256
 rng : ∀ o ∈ A, 0 ≤ o.prog ∧ o.prog ≤ 16
 on32 : on.length = 32
 onr : ∀ x ∈ on, 0 ≤ x ∧ x ≤ (n : Int)
inductive WorkH (wb n : Nat) (Q Rs : List (Int × Int)) (As : List Wone) (on : List Int) : Heap → Prop
 | mk {pb : Nat} {HP : Heap} (hP : PendH pb n Q Rs HP) (hA : WkOk n As on) (hn : n ≤ 64) : WorkH wb n Q Rs As on ((wb, .cells 291 546 (wkRow pb n As on)) :: HP)
theorem winner_q {w0 : World} {H : Heap} {wb pb n : Nat} {As : List Wone} {on : List Int} (hm : (wb, .cells 291 546 (wkRow pb n As on)) ∈ H)  : PureAt Tryz.prog w0 H 118 [.pointer (some ⟨wb, 0, none⟩)] (.pointer (some ⟨pb, 0, none⟩)) := by
 refine L_enter Tryz.func118 rfl Tryz.ntmps118 rfl rfl ?_
 refine W_sr ?_
 refine W_assign rfl rfl ?_
 refine W_nil (W_seq (W_sr ?_))
 refine W_move rfl rfl ?_
 refine W_x (X_ptrNil rfl rfl ty131) (fun _ h => by cases h) rfl ?_
 refine W_nil ?_
 refine W_condF rfl rfl ?_
 refine W_skip (W_sr ?_)
 refine W_move rfl rfl ?_
 refine W_nilCheck rfl rfl ?_
 refine W_fieldAddr rfl fld291_0 zd rfl ?_
 refine W_load (v := .pointer (some ⟨pb, 0, none⟩)) rfl ty215 rfl (Cell.own (b := wb) hm rfl) rfl ?_
 refine W_assign rfl rfl ?_
 refine W_nil ?_
 refine W_ret1m (H2 := H) Tryz.results118 rfl (.nil _) zH ?_
 exact ⟨rfl, rfl⟩
set_option maxRecDepth 100000
theorem wNew_L {w0 : World} {H : Heap} {n : Nat} (hn : 1 ≤ n ∧ n ≤ 64)  : LCalls Tryz.prog w0 112 #[.int .i64 (n : Int)] (H) (fun v H' => ∃ wb HW, v = .tuple #[.pointer (some ⟨wb, 0, none⟩), .int .i64 0] ∧ WorkH wb n [] [] (List.replicate 256 zWone) (List.replicate 32 0) HW ∧ H' = HW ++ H) := by
 refine L_enter (l := [.int .i64 (n : Int)]) Tryz.func112 rfl Tryz.ntmps112 rfl rfl ?_
 refine W_sr ?_
 refine W_assign rfl rfl ?_
 refine W_assign rfl rfl ?_
 refine W_nil (W_sr ?_)
 refine W_move rfl rfl ?_
 refine W_call (.cons rfl .nil) Tryz.call178 rfl (pNew_L hn) ?_
 rintro v H' ⟨pb, HP, rfl, hP, rfl⟩
 refine W_move rfl rfl ?_
 refine W_extract rfl rfl rfl ?_
 refine W_extract rfl rfl rfl ?_
 refine W_assign rfl rfl ?_
 refine W_assign rfl rfl ?_
 refine W_nil (W_seq (W_sr ?_))
 refine W_move rfl rfl ?_
 refine W_bin rfl rfl b_neq rfl ?_
 refine W_nil ?_
 refine W_condF rfl rfl ?_
 refine W_skip (W_sr ?_)
 refine W_move rfl rfl ?_
 refine W_move rfl rfl ?_
 refine W_build (l := wkRow pb n (List.replicate 256 zWone) (List.replicate 32 0)) ty291 pl291 (.cons rfl rfl rfl rfl rfl (.cons rfl rfl rfl rfl rfl .nil)) rfl zk rfl ?_
 refine W_box (l := wkRow pb n (List.replicate 256 zWone) (List.replicate 32 0)) rfl rfl rfl (fun wb => ?_)
 refine W_assign rfl rfl ?_
 refine W_assign rfl rfl ?_
 refine W_nil ?_
 refine W_ret2m Tryz.results112 rfl rfl (.nil _) (.refl _) ?_
 exact ⟨wb, _, rfl, .mk hP ⟨List.length_replicate, fun o ho => by rw [List.eq_of_mem_replicate ho]; decide, List.length_replicate, fun x hx => by rw [List.eq_of_mem_replicate hx]; omega⟩ hn.2, rfl⟩
theorem new_heap (a b : Nat × Blk) (H : Heap) : a :: b :: H = (a :: b :: (List.replicate 512 ([] : Heap)).flatten) ++ H := by
 rw [List.flatten_replicate_nil]; rfl
theorem New_W {w0 : World} {H : Heap} {now : Nat} : LCalls Tryz.prog w0 249 #[.int .u64 ((now : Nat) : Int)] H (fun v H' => ∃ bw HW, v = .pointer (some ⟨bw, 0, none⟩) ∧ WheelH bw now [] 0 HW ∧ H' = HW ++ H) :=
 by
 refine New_L.mono ?_
 rintro v H' ⟨bw, bm, rfl, rfl⟩
 refine ⟨bw, _, rfl, .mk (bm := bm) .new, ?_⟩
 exact new_heap _ _ _
def ahead (a b : Tm) : Prop := a.s.due < b.s.due ∨ (a.s.due = b.s.due ∧ a.turn < b.turn)
open Go.Proofs
theorem own_or {e : TypeId} {s : Nat} {v : Value} {n : Nat} {xs : List Value} {HB : Heap} (h : OwnS e s v n xs HB) : (v = .slice none 0 0 ∧ n = 0 ∧ xs = [] ∧ HB = []) ∨ ∃ b cap, v = .slice (some ⟨b, 0, none⟩) n cap ∧ HB = [(b, .cells e (cap * s) xs)] ∧ n ≤ cap ∧ cap ≤ maxLen := by
 cases h with
 | nil => exact .inl ⟨rfl, rfl, rfl, rfl⟩
 | own h1 h2 h3 => exact .inr ⟨_, _, rfl, rfl, h2, h3⟩
def sortI (l : List Int) : List Int := l.mergeSort fun x y => decide (x ≤ y)
theorem sortI_perm (l : List Int) : (sortI l).Perm l := List.mergeSort_perm _ _
theorem sortI_asc {l : List Int} (hn : l.Nodup) : (sortI l).Pairwise (· < ·) := by
 have h1 : (sortI l).Pairwise (fun x y => decide (x ≤ y) = true) := List.pairwise_mergeSort (fun a b c h1 h2 => by simp only [decide_eq_true_eq] at *; omega) (fun a b => by simp only [Bool.or_eq_true, decide_eq_true_eq]; omega) l
 have h2 : (sortI l).Nodup := (sortI_perm l).nodup_iff.2 hn
 have h3 := List.pairwise_and_iff.2 ⟨h1, h2⟩
 refine h3.imp ?_
 rintro a b ⟨h4, h5⟩
 have := of_decide_eq_true h4
 have h6 : a ≠ b := h5
 omega
open Go.Proofs in
theorem sortI_L {w0 : World} {H : Heap} {b tot cap : Nat} {d : List Int} (hd : d.length < 4611686018427387904) :
  LCalls Tryz.prog w0 195 #[.slice (some ⟨b, 0, none⟩) d.length cap] ((b, .cells 3 tot (d.map (Value.int .i64))) :: H) (fun v H' => v = .tuple #[] ∧ H' = (b, .cells 3 tot ((sortI d).map (Value.int .i64))) :: H) := fun w hs => by
 have hlt : b < w.heap.size := (hs.own _ List.mem_cons_self).2.lt
 have hc := Tryz.slices_Sort_int b 0 cap d w (holds_row (d := d) (enc := (Value.int .i64)) hs) hlt hd
 refine (callsIn_wide.2 hc).mono ?_
 rintro en w' ⟨rfl, n, os, rfl⟩
 refine ⟨_, _, rfl, ⟨rfl, rfl⟩, ?_⟩
 have hS : Sat w0 ((b, .cells 3 tot (((sortI d).toArray).toList.map (Value.int .i64))) :: H) (sortWorld (Value.int .i64) w b 0 n (sortI d).toArray os) := sat_sortWorld hs (by simp [(sortI_perm d).length_eq])
 exact hS
theorem asc_int : ∀ {a b : List Int}, a.Perm b → a.Pairwise (· < ·) → b.Pairwise (· < ·) → a = b
 | [], b, hp, _, _ => (List.Perm.nil_eq hp)
 | x :: a, b, hp, ha, hb => by
  cases b with
  | nil => exact absurd hp.length_eq (by simp)
  | cons y b =>
   have ha' := List.pairwise_cons.1 ha
   have hb' := List.pairwise_cons.1 hb
   have hxy : x = y := by
    rcases List.mem_cons.1 (hp.mem_iff.1 List.mem_cons_self) with h | h
    ·exact h
    ·rcases List.mem_cons.1 (hp.mem_iff.2 List.mem_cons_self) with h' | h'
     ·exact h'.symm
     ·have := hb'.1 x h; have := ha'.1 y h'; omega
   subst hxy
   rw [asc_int (List.Perm.cons_inv hp) ha'.2 hb'.2]
instance : DecidableEq Tm := fun a b => by
 cases a; cases b
 rename_i i s t i2 s2 t2
 exact if h : i = i2 ∧ s = s2 ∧ t = t2 then isTrue (by obtain ⟨rfl, rfl, rfl⟩ := h; rfl) else isFalse (fun e => h (by cases e; exact ⟨rfl, rfl, rfl⟩))
instance (a b : Tm) : Decidable (ahead a b) := inferInstanceAs (Decidable (_ ∨ _))
structure Wl where
 bw : Nat
 now : Nat
 L : List Tm
 turn : Nat
abbrev Wl.p (w : Wl) : Value := .pointer (some ⟨w.bw, 0, none⟩)
inductive BankH (bb : Nat) (Ws : List Wl) : Heap → Prop
 | mk {v : Value} {XS : Heap} {HWs : List Heap} (hv : OwnS 309 1 v Ws.length (Ws.map Wl.p) XS) (hl : HWs.length = Ws.length) (hw : ∀ (k : Nat) w HW, Ws[k]? = some w → HWs[k]? = some HW → WheelH w.bw w.now w.L w.turn HW) : BankH bb Ws ((bb, .cells 391 1 [v]) :: (XS ++ HWs.flatten))
structure NbS where
 i : Nat
 Ws : List Wl
 v : Value
 XS : Heap
 HWs : List Heap
def FreshW (now : Nat) (w : Wl) : Prop := w.now = now ∧ w.L = [] ∧ w.turn = 0
theorem all_snoc {Ws : List Wl} {HWs : List Heap} {u : Wl} {HU : Heap} (hl : HWs.length = Ws.length) (hw : ∀ (k : Nat) w HW, Ws[k]? = some w → HWs[k]? = some HW → WheelH w.bw w.now w.L w.turn HW) (hu : WheelH u.bw u.now u.L u.turn HU) : ∀ (k : Nat) w HW, (Ws ++ [u])[k]? = some w → (HWs ++ [HU])[k]? = some HW → WheelH w.bw w.now w.L w.turn HW := fun k w HW h1 h2 => by
 by_cases c : k < Ws.length
 ·rw [List.getElem?_append_left c] at h1
  rw [List.getElem?_append_left (by omega)] at h2
  exact hw k w HW h1 h2
 ·rw [List.getElem?_append_right (by omega)] at h1 h2
  rw [hl] at h2
  cases hk : k - Ws.length with
  | zero =>
   rw [hk] at h1 h2
   obtain rfl : u = w := by simpa using h1
   obtain rfl : HU = HW := by simpa using h2
   exact hu
  | succ j => rw [hk] at h1; simp at h1
theorem NewB_L {w0 : World} {H : Heap} {n now : Nat} (hn : 1 ≤ n ∧ n ≤ 64)  : LCalls Tryz.prog w0 179 #[.int .i64 (n : Int), .int .u64 ((now : Nat) : Int)] (H) (fun v H' => ∃ bb Ws HB, v = .tuple #[.pointer (some ⟨bb, 0, none⟩), .int .i64 0] ∧ BankH bb Ws HB ∧ Ws.length = n ∧ (∀ w ∈ Ws, FreshW now w) ∧ H' = HB ++ H) := by
 refine L_enter (l := [.int .i64 (n : Int), .int .u64 ((now : Nat) : Int)]) Tryz.func179 rfl Tryz.ntmps179 rfl rfl ?_
 refine W_sr ?_
 refine W_assign rfl rfl ?_
 refine W_assign rfl rfl ?_
 refine W_nil (W_seq (W_sr ?_))
 refine W_move rfl rfl ?_
 refine W_bin rfl rfl b_lss rfl ?_
 rw [decide_eq_false (by omega)]
 refine W_move rfl rfl ?_
 refine W_gyes rfl rfl ?_
 refine W_move rfl rfl ?_
 refine W_gyes rfl rfl ?_
 refine W_bin rfl rfl b_gtr rfl ?_
 rw [decide_eq_false (by omega)]
 first | refine W_pickt rfl rfl rfl ?_ | refine W_pickf rfl rfl rfl ?_
 refine W_nil ?_
 refine W_condF rfl rfl ?_
 refine W_skip (W_sr ?_)
 refine W_build (l := [.slice none 0 0]) ty391 pl391 .nil rfl rfl rfl ?_
 refine W_box (l := [.slice none 0 0]) rfl rfl rfl (fun b14 => ?_)
 refine W_assign rfl rfl ?_
 refine W_nil (W_seq (W_sr ?_))
 refine W_move rfl rfl ?_
 refine W_move rfl rfl ?_
 refine W_nil (W_block ?_)
 refine W_loopC (X := NbS) [(1, _), (6, _), (15, _)] (fun (x : NbS) => [(16, .int .i64 (x.i : Int))]) (fun _ => _) (fun (x : NbS) => (b14, .cells 391 1 [x.v]) :: (x.XS ++ (x.HWs.flatten ++ H))) (fun (x : NbS) => x.i ≤ n ∧ x.Ws.length = x.i ∧ OwnS 309 1 x.v x.Ws.length (x.Ws.map Wl.p) x.XS ∧ x.HWs.length = x.Ws.length ∧ (∀ (k : Nat) w HW, x.Ws[k]? = some w → x.HWs[k]? = some HW → WheelH w.bw w.now w.L w.turn HW) ∧ ∀ w ∈ x.Ws, FreshW now w) (fun (x : NbS) => n - x.i) ⟨0, [], .slice none 0 0, [], []⟩ ⟨Nat.zero_le _, rfl, .nil, rfl, fun k w HW h => (by cases h), fun w h => (by cases h)⟩ (sub_cons rfl (sub_cons rfl (sub_cons rfl (sub_nil _)))) (sub_cons rfl (sub_nil _)) rfl (.refl _) ?_
 rintro ⟨i, Ws, v, XS, HWs⟩ ⟨hi, hlen, hv, hl, hw, hf⟩
 dsimp only at hi hlen hv hl hw hf ⊢
 simp only [List.cons_append, List.nil_append]
 refine W_sr ?_
 refine W_bin rfl rfl b_lss rfl ?_
 refine W_nil (W_seq ?_)
 refine W_condPS (p := (i : Int) < (n : Int)) rfl (by simp) (fun q0 => ?_) (fun q0 => ?_)
 ·skip
  refine W_skip (W_seq (W_block ?_))
  refine W_anyS [(b14, .cells 391 1 [v])] 11 zk ?_
  refine WS_take 0 (l' := #[true, false, false, false, false, false, false, false, false, false, false, false]) rfl rfl zK zK zK zK rfl zK (X_move rfl) rfl ?_
  refine WS_take 1 (l' := #[true, true, false, false, false, false, false, false, false, false, false, false]) rfl rfl zK zK zK zK rfl zK (X_move rfl) rfl ?_
  refine WS_take 2 (l' := #[true, true, true, false, false, false, false, false, false, false, false, false]) rfl rfl zK zK zK zK rfl zK (X_nilCheck rfl) rfl ?_
  refine WS_take 3 (l' := #[true, true, true, true, false, false, false, false, false, false, false, false]) rfl rfl zK zK zK zK rfl zK (X_fieldAddr rfl fld391_0 zd) rfl ?_
  refine WS_take 4 (l' := #[true, true, true, true, true, false, false, false, false, false, false, false]) rfl rfl zK zK zK zK rfl zK (X_load (v := v) rfl ty389 rfl (Cell.own (b := b14) zM rfl)) rfl ?_
  refine WS_take 5 (l' := #[true, true, true, true, true, true, false, false, false, false, false, false]) rfl rfl zK zK zK zK rfl zK (X_move rfl) rfl ?_
  refine WS_one 6 (l' := #[true, true, true, true, true, true, true, false, false, false, false, false]) zH rfl zK rfl zK ?_
  refine W_call (.cons rfl .nil) Tryz.call249 rfl (New_W (now := now)) ?_
  rintro w2 H' ⟨bw, HW, rfl, hW, rfl⟩
  refine W_nil ?_
  refine WS_goal ?_
  refine WS_one 7 (l' := #[true, true, true, true, true, true, true, true, false, false, false, false]) zH rfl zK rfl zK ?_
  refine W_buildSlice (l := [.pointer (some ⟨bw, 0, none⟩)]) ty389 ty309 (.cons rfl rfl rfl rfl rfl .nil) rfl rfl rfl rfl rfl rfl rfl (fun b25 => ?_)
  refine W_nil ?_
  refine WS_goal ?_
  refine WS_one 8 (l' := #[true, true, true, true, true, true, true, true, true, false, false, false]) zH rfl zK rfl zK ?_
  refine W_append (news := [.pointer (some ⟨bw, 0, none⟩)]) (m := 1) (HB := XS) (H0 := (b25, .cells 309 1 [.pointer (some ⟨bw, 0, none⟩)]) :: (HW ++ ((b14, .cells 391 1 [v]) :: (HWs.flatten ++ H)))) rfl rfl ty389 ty309 rfl (by decide) hv rfl (Holds.own (b := b25) zM) rfl (by simp only [maxLen]; omega) (by omega) zH rfl (fun v' X' hv' => ?_)
  refine W_nil ?_
  refine WS_goal ?_
  refine WS_takeP 9 (l' := #[true, true, true, true, true, true, true, true, true, true, false, false]) rfl rfl zK zK zK rfl zK (X_nilCheck rfl) rfl ?_
  refine WS_take 10 (l' := #[true, true, true, true, true, true, true, true, true, true, true, false]) rfl rfl zK zK zK zK rfl zK (X_fieldAddr rfl fld391_0 zd) rfl ?_
  refine WS_last (l' := #[true, true, true, true, true, true, true, true, true, true, true, true]) zH zK rfl zK ?_
  have hv1 : v'.oneCell' = true := by obtain ⟨_, _, rfl, _⟩ := hv'.shape; rfl
  refine W_store (l' := [v']) rfl rfl ty389 hv1 rfl (b := b14) zM rfl rfl zU ?_
  refine W_nil ?_
  refine WC_goal ?_
  refine WC_done (.nil _) zK ?_
  refine W_blk ?_
  refine W_region ?_
  refine W_bin rfl rfl (b_add (m := ((i + 1 : Nat) : Int)) ((i64w zO).trans zO)) rfl ?_
  refine W_move rfl rfl ?_
  refine W_nil ?_
  refine W_again ⟨i + 1, Ws ++ [⟨bw, now, [], 0⟩], v', X', HWs ++ [HW]⟩ ⟨by show i + 1 ≤ n; omega, by show (Ws ++ [_]).length = i + 1; rw [List.length_append, hlen]; rfl, by show OwnS 309 1 v' (Ws ++ [_]).length ((Ws ++ [_]).map Wl.p) X'; rw [List.length_append, List.map_append]; exact hv', by show (HWs ++ [HW]).length = (Ws ++ [_]).length; rw [List.length_append, List.length_append, hl]; rfl, all_snoc hl hw hW, fun w h => (List.mem_append.1 h).elim (hf w) (fun h => by rw [List.mem_singleton.1 h]; exact ⟨rfl, rfl, rfl⟩)⟩ (by show n - (i + 1) < n - i; omega) (sub_cons rfl (sub_cons rfl (sub_cons rfl (sub_cons rfl (sub_nil _))))) rfl (by show HSub _ ((b14, .cells 391 1 [v']) :: (X' ++ ((HWs ++ [HW]).flatten ++ H))); rw [List.flatten_append, List.flatten_singleton, List.append_assoc]; first | exact hsubI | (repeat (first | with_reducible exact HSub.refl _ | refine HSub.cons zT ?_ | refine HSub.app zS ?_ | exact HSub.nil _ | exact HSub.refl _ | refine HSub.drop ?_ | refine HSub.dropS ?_)))
 ·skip
  refine W_exit rfl ?_
  refine W_sr ?_
  refine W_move rfl rfl ?_
  refine W_assign rfl rfl ?_
  refine W_assign rfl rfl ?_
  refine W_nil ?_
  refine W_ret2m (H2 := (b14, .cells 391 1 [v]) :: (XS ++ (HWs.flatten ++ H))) Tryz.results179 rfl rfl (.nil _) zH ?_
  exact ⟨b14, Ws, (b14, .cells 391 1 [v]) :: (XS ++ HWs.flatten), rfl, .mk hv hl hw, by omega, hf, by show _ = _ :: ((XS ++ HWs.flatten) ++ H); rw [List.append_assoc]⟩
structure Tone where
 made : Bool
 shut : Bool
 prog : Int
 starts : Int
def oneC (o : Tone) : List Value := [.bool o.made, .bool o.shut, .int .i64 o.prog, .int .i64 o.starts]
def tmRow (pb bb : Nat) (A : List Tone) : List Value := .pointer (some ⟨pb, 0, none⟩) :: .pointer (some ⟨bb, 0, none⟩) :: A.flatMap oneC
def zTone : Tone := ⟨false, false, 0, 0⟩
structure AsOk (A : List Tone) : Prop where
 len : A.length = 256
 rng : ∀ o ∈ A, 0 ≤ o.prog ∧ o.prog ≤ 16
inductive TimerH (tb n : Nat) (Ws : List Wl) (Q Rs : List (Int × Int)) (As : List Tone) : Heap → Prop
 | mk {pb bb : Nat} {HP HB : Heap} (hP : PendH pb n Q Rs HP) (hB : BankH bb Ws HB) (hA : AsOk As) (hn : Ws.length = n ∧ n ≤ 64) : TimerH tb n Ws Q Rs As ((tb, .cells 232 1026 (tmRow pb bb As)) :: (HP ++ HB))
abbrev St := List (Nat × List Tm)
structure Rw where
 now : Nat
 L : List Tm
 ad : Option Addr
 cap : Nat
def Rw.nl (d : Rw) : Nat × List Tm := (d.now, d.L)
def Wl.nl (w : Wl) : Nat × List Tm := (w.now, w.L)
abbrev stW (Ws : List Wl) : St := Ws.map Wl.nl
def UniS (S : St) : Prop := ∀ (i j : Nat) x y, S[i]? = some x → S[j]? = some y → ∀ t ∈ x.2, ∀ u ∈ y.2, t.id = u.id → i = j
structure BOk (T : Nat) (Ws : List Wl) : Prop where
 now : ∀ w ∈ Ws, w.now ≤ 18446744073709551615
 later : ∀ w ∈ Ws, ∀ t ∈ w.L, w.now < t.s.due
 turn : ∀ w ∈ Ws, w.turn ≤ T
 uni : UniS (stW Ws)
theorem BOk.start {now : Nat} {Ws : List Wl} (hn : now ≤ 18446744073709551615) (hf : ∀ w ∈ Ws, FreshW now w) : BOk 0 Ws := by
 refine ⟨fun w hw => ?_, fun w hw t ht => ?_, fun w hw => ?_, fun i j x y hx _ t ht => ?_⟩
 ·rw [(hf w hw).1]; exact hn
 ·rw [(hf w hw).2.1] at ht; cases ht
 ·rw [(hf w hw).2.2]; exact Nat.le_refl _
 ·obtain ⟨w, hw, rfl⟩ := List.mem_map.1 (List.mem_of_getElem? hx)
  have ht2 : t ∈ w.L := ht
  rw [(hf w hw).2.1] at ht2; cases ht2
theorem BOk.up {T T' : Nat} {Ws : List Wl} (h : BOk T Ws) (hl : T ≤ T') : BOk T' Ws := ⟨h.now, h.later, fun w hw => Nat.le_trans (h.turn w hw) hl, h.uni⟩
def setO (prog : Int) (o : Tone) : Tone × Int := if o.shut = true then (o, 22) else if o.made = false then (o, 1) else ({ o with prog := prog + 1 }, 0)
structure TOk (T : Nat) (Ws : List Wl) (As : List Tone) : Prop where
 bank : BOk T Ws
 starts : ∀ o ∈ As, 0 ≤ o.starts ∧ o.starts ≤ (T : Int)
theorem TOk.up {T T' : Nat} {Ws : List Wl} {As : List Tone} (h : TOk T Ws As) (hl : T ≤ T') : TOk T' Ws As := ⟨h.bank.up hl, fun o ho => by have := h.starts o ho; omega⟩
theorem inner_q {w0 : World} {H : Heap} {tb pb bb : Nat} {As : List Tone} (hm : (tb, .cells 232 1026 (tmRow pb bb As)) ∈ H)  : PureAt Tryz.prog w0 H 116 [.pointer (some ⟨tb, 0, none⟩)] (.pointer (some ⟨pb, 0, none⟩)) := by
 refine L_enter Tryz.func116 rfl Tryz.ntmps116 rfl rfl ?_
 refine W_sr ?_
 refine W_assign rfl rfl ?_
 refine W_nil (W_seq (W_sr ?_))
 refine W_move rfl rfl ?_
 refine W_x (X_ptrNil rfl rfl ty129) (fun _ h => by cases h) rfl ?_
 refine W_nil ?_
 refine W_condF rfl rfl ?_
 refine W_skip (W_sr ?_)
 refine W_move rfl rfl ?_
 refine W_nilCheck rfl rfl ?_
 refine W_fieldAddr rfl fld232_0 zd rfl ?_
 refine W_load (v := .pointer (some ⟨pb, 0, none⟩)) rfl ty215 rfl (Cell.own (b := tb) hm rfl) rfl ?_
 refine W_assign rfl rfl ?_
 refine W_nil ?_
 refine W_ret1m (H2 := H) Tryz.results116 rfl (.nil _) zH ?_
 exact ⟨rfl, rfl⟩
theorem tReady_at {w0 : World} {H : Heap} {tb pb bb n : Nat} {HP HBk : Heap} {Ws : List Wl} {Q Rs : List (Int × Int)} {As : List Tone} (hP : PendH pb n Q Rs HP) (hn : Ws.length = n ∧ n ≤ 64) (hm : ∀ p ∈ ((tb, .cells 232 1026 (tmRow pb bb As)) :: (HP ++ HBk)), p ∈ H) {cpu : Int}  : PureAt Tryz.prog w0 H 61 [.pointer (some ⟨tb, 0, none⟩), .int .i64 cpu] (.tuple #[.int .i64 (rdyQ Q Rs cpu).1, .bool (rdyQ Q Rs cpu).2]) := by
 refine L_enter Tryz.func61 rfl Tryz.ntmps61 rfl rfl ?_
 refine W_sr ?_
 refine W_assign rfl rfl ?_
 refine W_assign rfl rfl ?_
 refine W_nil (W_sr ?_)
 refine W_move rfl rfl ?_
 refine W_callq (.cons rfl .nil) Tryz.call116 rfl (inner_q (pb := pb) (bb := bb) (As := As) (hm _ List.mem_cons_self)) ?_
 refine W_move rfl rfl ?_
 refine W_callq (.cons rfl (.cons rfl .nil)) Tryz.call117 rfl (hP.Ready_q zO (cpu := cpu) (fun p hp => hm p (List.mem_cons_of_mem _ (List.mem_append_left _ hp)))) ?_
 refine W_extract rfl rfl rfl ?_
 refine W_extract rfl rfl rfl ?_
 refine W_assign rfl rfl ?_
 refine W_assign rfl rfl ?_
 refine W_nil ?_
 refine W_ret2m (H2 := H) Tryz.results61 rfl rfl (.nil _) zH ?_
 exact ⟨rfl, rfl⟩
set_option maxRecDepth 100000
theorem tNew_at {w0 : World} {H : Heap} {n now : Nat} (hn : 1 ≤ n ∧ n ≤ 64)  : LCalls Tryz.prog w0 111 #[.int .i64 (n : Int), .int .u64 ((now : Nat) : Int)] (H) (fun v H' => ∃ tb Ws HB, v = .tuple #[.pointer (some ⟨tb, 0, none⟩), .int .i64 0] ∧ TimerH tb n Ws [] [] (List.replicate 256 zTone) HB ∧ Ws.length = n ∧ (∀ w ∈ Ws, FreshW now w) ∧ H' = HB ++ H) := by
 refine L_enter (l := [.int .i64 (n : Int), .int .u64 ((now : Nat) : Int)]) Tryz.func111 rfl Tryz.ntmps111 rfl rfl ?_
 refine W_sr ?_
 refine W_assign rfl rfl ?_
 refine W_assign rfl rfl ?_
 refine W_nil (W_sr ?_)
 refine W_move rfl rfl ?_
 refine W_call (.cons rfl .nil) Tryz.call178 rfl (pNew_L hn) ?_
 rintro v H' ⟨pb, HP, rfl, hP, rfl⟩
 refine W_move rfl rfl ?_
 refine W_extract rfl rfl rfl ?_
 refine W_extract rfl rfl rfl ?_
 refine W_assign rfl rfl ?_
 refine W_assign rfl rfl ?_
 refine W_nil (W_seq (W_sr ?_))
 refine W_move rfl rfl ?_
 refine W_bin rfl rfl b_neq rfl ?_
 refine W_nil ?_
 refine W_condF rfl rfl ?_
 refine W_skip (W_sr ?_)
 refine W_move rfl rfl ?_
 refine W_move rfl rfl ?_
 refine W_call (.cons rfl (.cons rfl .nil)) Tryz.call179 rfl (NewB_L (now := now) hn) ?_
 rintro v H' ⟨bb, Ws, HBk, rfl, hB, hWl, hfr, rfl⟩
 refine W_move rfl rfl ?_
 refine W_extract rfl rfl rfl ?_
 refine W_extract rfl rfl rfl ?_
 refine W_assign rfl rfl ?_
 refine W_assign rfl rfl ?_
 refine W_nil (W_seq (W_sr ?_))
 refine W_move rfl rfl ?_
 refine W_bin rfl rfl b_neq rfl ?_
 refine W_nil ?_
 refine W_condF rfl rfl ?_
 refine W_skip (W_sr ?_)
 refine W_move rfl rfl ?_
 refine W_move rfl rfl ?_
 refine W_build (l := tmRow pb bb (List.replicate 256 zTone)) ty232 pl232 (.cons rfl rfl rfl rfl rfl (.cons rfl rfl rfl rfl rfl .nil)) rfl zk rfl ?_
 refine W_box (l := tmRow pb bb (List.replicate 256 zTone)) rfl rfl rfl (fun b29 => ?_)
 refine W_assign rfl rfl ?_
 refine W_assign rfl rfl ?_
 refine W_nil ?_
 refine W_ret2m (H2 := (b29, .cells 232 1026 (tmRow pb bb (List.replicate 256 zTone))) :: (HP ++ (HBk ++ H))) Tryz.results111 rfl rfl (.nil _) zH ?_
 exact ⟨b29, Ws, (b29, .cells 232 1026 (tmRow pb bb (List.replicate 256 zTone))) :: (HP ++ HBk), rfl, .mk hP hB ⟨List.length_replicate, fun o ho => by rw [List.eq_of_mem_replicate ho]; decide⟩ ⟨hWl, hn.2⟩, hWl, hfr, by show _ = (b29, .cells 232 1026 (tmRow pb bb (List.replicate 256 zTone))) :: ((HP ++ HBk) ++ H); rw [List.append_assoc]⟩
theorem tReady_q {w0 : World} {H HB : Heap} {tb n : Nat} {Ws : List Wl} {Q Rs : List (Int × Int)} {As : List Tone} (hT : TimerH tb n Ws Q Rs As HB) (hm : ∀ p ∈ HB, p ∈ H) {cpu : Int} : PureAt Tryz.prog w0 H 61 [.pointer (some ⟨tb, 0, none⟩), .int .i64 cpu] (.tuple #[.int .i64 (rdyQ Q Rs cpu).1, .bool (rdyQ Q Rs cpu).2]) := by
 cases hT with
 | @mk pb bb HP HBk hP hB hA hn => exact tReady_at (bb := bb) (As := As) hP hn hm
theorem tok0 {now : Nat} {Ws : List Wl} (hn : now ≤ 18446744073709551615) (hf : ∀ w ∈ Ws, FreshW now w) : TOk 0 Ws (List.replicate 256 zTone) := ⟨BOk.start hn hf, fun o ho => by rw [List.eq_of_mem_replicate ho]; decide⟩
instance : Inhabited Hd := ⟨⟨0, 0⟩⟩
structure TabIs (C : List (Int × Hd)) (vs : List Value) (Hs : List Heap) : Prop where
 vl : vs.length = 8
 hl : Hs.length = 8
 nd : (keyL C).Nodup
 len : C.length ≤ 64
 own : ∀ b, b < 8 → ∃ v HB, vs[b]? = some v ∧ Hs[b]? = some HB ∧ OwnS 590 3 v (inB C b).length ((inB C b).reverse.flatMap entC) HB
def newS (i : Nat) : Slt := ⟨⟨(i : Int), 1⟩, 0, zCel⟩
section
variable {K : Type} [DecidableEq K]
def drop1O (m : List K) (k : K) : List K := m.filter (fun x => decide (x ≠ k))
structure OrdIs (room : Nat) (m : List K) (last : Nat) (l : Ents K) (c : Nat) (τ : K → Nat) : Prop where
 ok : MapOk l c
 keys : (l.map (·.1)).Perm m
 val : ∀ p ∈ l, p.2.1 = .int .i64 (τ p.1 : Int)
 asc : m.Pairwise (fun x y => τ x < τ y)
 bd : ∀ k ∈ m, 0 < τ k ∧ τ k ≤ last
 le : m.length ≤ room
variable {room last c : Nat} {m : List K} {l : Ents K} {τ : K → Nat}
end
inductive AreH (ab : Nat) (L : List Slt) : Heap → Prop
 | mk {sb u f : Nat} (hu : TellsA 1 L u) (hf : TellsA 0 L f) (hk : AreOk L) : AreH ab L [(ab, .cells 514 3 [.slice (some ⟨sb, 0, none⟩) L.length L.length, .int .u64 ((u : Nat) : Int), .int .u64 ((f : Nat) : Int)]), (sb, .cells 538 (L.length * 7) ((L).flatMap sltC))]
inductive TabH (tb room : Nat) (C : List (Int × Hd)) : Heap → Prop
 | mk {cb : Nat} {vs : List Value} {Hs : List Heap} (hT : TabIs C vs Hs) : TabH tb room C ((tb, .cells 541 3 [.slice (some ⟨cb, 0, none⟩) 8 8, .int .i64 (room : Int), .int .i64 ((C.length : Nat) : Int)]) :: (cb, .cells 591 8 vs) :: Hs.flatten)
inductive OrdH (bo room T : Nat) (m : List Int) : Heap → Prop
 | mk {bm last c : Nat} {l : Ents Int} {τ : Int → Nat} (hO : OrdIs room m last l c τ) (hl : last ≤ T) : OrdH bo room T m [(bo, .cells 544 3 [.int .i64 (room : Int), .int .i64 ((last : Nat) : Int), .map (some bm)]), (bm, .obj (mapO (Value.int .u64) l c))]
section
variable {w0 : World} {H HA HT HO : Heap} {ab tb bo room T : Nat} {L : List Slt} {C : List (Int × Hd)} {m : List Int}
end
structure Xm where
 kind : Nat
 entries : Nat
 words : Nat
 closed : Bool
 L : List Slt
 C : List (Int × Hd)
 used : List Int
structure Xm.Ok (x : Xm) : Prop where
 knd : x.kind ≤ 2
 ent : 1 ≤ x.entries ∧ x.entries ≤ 8
 wrd : 1 ≤ x.words ∧ x.words ≤ 4
 len : x.L.length = 2 * x.entries
 are : AreOk x.L
 nd : (keyL x.C).Nodup
 perm : x.used.Perm (keyL x.C)
 le : x.C.length ≤ x.entries
 lk : ∀ p ∈ x.C, ∃ (i : Nat) (s : Slt), p.2.slot = (i : Int) ∧ x.L[i]? = some s ∧ s.st = 1 ∧ s.own = p.2 ∧ s.cel.key = p.1
 rng : ∀ k ∈ keyL x.C, 0 ≤ k ∧ k < 18446744073709551616
def Xm.use (x : Xm) (k : Int) : Xm := { x with used := drop1O x.used k ++ [k] }
def Xm.link (x : Xm) (c : Cel) : Xm × Hd := match firstF x.L with
 | some i => match x.L[i]? with
  | some s => ({ x with L := x.L.set i { s with st := 1, cel := c }, C := (c.key, s.own) :: x.C, used := drop1O x.used c.key ++ [c.key] }, s.own)
  | none => (x, zHd)
 | none => (x, zHd)
def Xm.unlink (x : Xm) (k : Int) : Xm × Hd := ({ x with C := delC x.C k, used := drop1O x.used k }, (fndC x.C k).getD zHd)
def Xm.refE (x : Xm) (how : Int) : Int := if x.kind = 0 then 2 else if how = 2 then 4 else if x.kind = 1 ∧ x.C.length = x.entries then 3 else if cntA 0 x.L = 0 then 20 else 0
structure Putt where
 h : Hd
 gone : Hd
 out : Bool
deriving DecidableEq
def zPutt : Putt := ⟨zHd, zHd, false⟩
def Xm.put (x : Xm) (how k : Int) (ws : List Int) : Xm × Putt × Int :=
 if (how < 0 ∨ 2 < how) ∨ x.words < ws.length then (x, zPutt, 1)
 else if x.closed = true then (x, zPutt, 22)
 else match fndC x.C k with
  | some g => if how = 1 then (x, zPutt, 5) else ({ x.use k with L := setAX x.L g (fun s => { s with cel := ⟨k, W4.of ws⟩ }) }, ⟨g, zHd, false⟩, errA x.L g)
  | none => if x.refE how ≠ 0 then (x, zPutt, x.refE how)
   else if x.C.length = x.entries then
    (((x.unlink (x.used.headD 0)).1.link ⟨k, W4.of ws⟩).1, ⟨((x.unlink (x.used.headD 0)).1.link ⟨k, W4.of ws⟩).2, (x.unlink (x.used.headD 0)).2, true⟩, 0)
   else ((x.link ⟨k, W4.of ws⟩).1, ⟨(x.link ⟨k, W4.of ws⟩).2, zHd, false⟩, 0)
def Xm.linked (x : Xm) (h : Hd) : Bool := decide (errA x.L h = 0) && decide (fndC x.C (celA x.L h).key = some h)
def Xm.free (x : Xm) (h : Hd) : Xm × Int := if errA x.L h ≠ 0 then (x, errA x.L h) else if x.linked h = true then (x, 21) else ({ x with L := setAX x.L h relS }, 0)
def Xm.load (x : Xm) (h : Hd) (at_ : Int) : Int × Int := if errA x.L h ≠ 0 then (0, errA x.L h) else if at_ < 0 ∨ (x.words : Int) ≤ at_ then (0, 1) else ((celA x.L h).w.get at_.toNat, 0)
def Xm.store (x : Xm) (h : Hd) (at_ v : Int) : Xm × Int := if errA x.L h ≠ 0 then (x, errA x.L h) else if at_ < 0 ∨ (x.words : Int) ≤ at_ then (x, 1) else ({ x with L := setAX x.L h (fun s => { s with cel := ⟨s.cel.key, s.cel.w.put at_.toNat v⟩ }) }, 0)
def Xm.key (x : Xm) (h : Hd) : Int × Int := ((celA x.L h).key, errA x.L h)
def sortU (l : List Int) : List Int := l.mergeSort (fun a b => decide (a ≤ b))
noncomputable def Xm.keys (x : Xm) : List Int := if x.kind = 2 then x.used else if x.kind = 0 then sortU (keysC x.C) else keysC x.C
def arrS (i : Nat) : Slt := ⟨⟨(i : Int), 1⟩, 1, ⟨(i : Int), zW⟩⟩
def arrL (n k : Nat) : List Slt := (List.range n).map fun i => if i < k then arrS i else newS i
def arrC (k : Nat) : List (Int × Hd) := ((List.range k).map fun i : Nat => (((i : Int), ⟨(i : Int), 1⟩) : Int × Hd)).reverse
def arrU (k : Nat) : List Int := (List.range k).map fun i : Nat => (i : Int)
def Xm.new (kind entries words : Nat) : Xm := ⟨kind, entries, words, false, arrL (2 * entries) (if kind = 0 then entries else 0), arrC (if kind = 0 then entries else 0), arrU (if kind = 0 then entries else 0)⟩
inductive XmH (mb T : Nat) (x : Xm) : Heap → Prop
 | mk {ab tb bo : Nat} {HA HT HO : Heap} (hA : AreH ab x.L HA) (hB : TabH tb x.entries x.C HT) (hO : OrdH bo x.entries T x.used HO) (hx : x.Ok) : XmH mb T x ((mb, .cells 435 7 [.int .i64 (x.kind : Int), .int .i64 (x.entries : Int), .int .i64 (x.words : Int), .pointer (some ⟨ab, 0, none⟩), .pointer (some ⟨tb, 0, none⟩), .pointer (some ⟨bo, 0, none⟩), .bool x.closed]) :: (HA ++ (HT ++ HO)))
section
variable {w0 : World} {H HX : Heap} {mb T : Nat} {x : Xm}
end
def mcC (c : Option Nat × Bool) : List Value := [.pointer (c.1.map fun mb => ⟨mb, 0, none⟩), .bool c.2]
theorem mcC_len (c : Option Nat × Bool) : (mcC c).length = 2 := rfl
def lfRow (n : Nat) (M : List (Option Nat × Bool)) (tb wb g1 g2 rb db : Nat) : List Value := .int .i64 ((n : Nat) : Int) :: (M.flatMap mcC ++ [.pointer (some ⟨tb, 0, none⟩), .pointer (some ⟨wb, 0, none⟩), .pointer (some ⟨g1, 0, none⟩), .pointer (some ⟨g2, 0, none⟩), .pointer (some ⟨rb, 0, none⟩), .map (some db)])
theorem lf_tl {n : Nat} {M : List (Option Nat × Bool)} {tb wb g1 g2 rb db j : Nat} (h : M.length = 4) : (lfRow n M tb wb g1 g2 rb db)[9 + j]? = [.pointer (some ⟨tb, 0, none⟩), .pointer (some ⟨wb, 0, none⟩), .pointer (some ⟨g1, 0, none⟩), .pointer (some ⟨g2, 0, none⟩), .pointer (some ⟨rb, 0, none⟩), Value.map (some db)][j]? := by
 unfold lfRow
 rw [show 9 + j = (8 + j) + 1 by omega, List.getElem?_cons_succ, List.getElem?_append_right (by rw [rows_len mcC_len, h]; omega), rows_len mcC_len, h, Nat.add_sub_cancel_left]
structure Dye where
 key : Int
 h : Hd
 clk : Nat
def Dye.ent (e : Dye) : Int × Value × Nat := (e.key, .agg (List.toArray (hdC e.h)), e.clk)
def Dye.p (e : Dye) : Int × Hd := (e.key, e.h)
inductive DyH (db : Nat) (dy : List (Int × Hd)) : Heap → Prop
 | mk {E : List Dye} {cl : Nat} (hok : MapOk (E.map Dye.ent) cl) (he : E.map Dye.p = dy) : DyH db dy [(db, .obj (mapO (Value.int .i64) ((E).map Dye.ent) cl))]
inductive MpH (T : Nat) : (Option Nat × Bool) → Option (Xm × Bool) → Heap → Prop
 | none : MpH T (none, false) none []
 | some {mb : Nat} {x : Xm} {b : Bool} {X : Heap} (h : XmH mb T x X) : MpH T (some mb, b) (some (x, b)) X
structure MsOk (T : Nat) (M : List (Option Nat × Bool)) (ms : List (Option (Xm × Bool))) (HM : List Heap) : Prop where
 m4 : M.length = 4
 s4 : ms.length = 4
 h4 : HM.length = 4
 at_ : ∀ (k : Nat) c y X, M[k]? = some c → ms[k]? = some y → HM[k]? = some X → MpH T c y X
structure Lf where
 n : Nat
 ms : List (Option (Xm × Bool))
 Ws : List Wl
 Qt : List (Int × Int)
 Rt : List (Int × Int)
 At : List Tone
 Qw : List (Int × Int)
 Rw : List (Int × Int)
 Aw : List Wone
 on : List Int
 tr : Gr
 cl : Gr
 us : List (Int × Cnt)
 dy : List (Int × Hd)
structure UsOk (R : List (Int × Cnt)) : Prop where
 rng : ∀ p ∈ R, 1 ≤ p.2.n ∧ p.2.n ≤ 8 ∧ p.2.top = 8 ∧ 0 ≤ p.1 ∧ p.1 < 16
 nd : (R.map (·.1)).Nodup
inductive LifeH (lb T : Nat) (F : Lf) : Heap → Prop
 | mk {tb wb g1 g2 rb db : Nat} {M : List (Option Nat × Bool)} {HT HW H1 H2 HR HD : Heap} {HM : List Heap}
  (hT : TimerH tb F.n F.Ws F.Qt F.Rt F.At HT) (hO : TOk T F.Ws F.At) (hW : WorkH wb F.n F.Qw F.Rw F.Aw F.on HW)
  (h1 : GrH g1 F.n F.tr H1) (o1 : GrOk F.n F.tr) (h2 : GrH g2 F.n F.cl H2) (o2 : GrOk F.n F.cl)
  (hR : RefH rb 8 F.us HR) (hU : UsOk F.us) (hD : DyH db F.dy HD) (hM : MsOk T M F.ms HM) :
  LifeH lb T F ((lb, .cells 197 15 (lfRow F.n M tb wb g1 g2 rb db)) :: (HT ++ (HW ++ (H1 ++ (H2 ++ (HR ++ (HD ++ HM.flatten)))))))
theorem lTimers_q {w0 : World} {H : Heap} {n lb tb wb g1 g2 rb db : Nat} {M : List (Option Nat × Bool)} (hm : (lb, .cells 197 15 (lfRow n M tb wb g1 g2 rb db)) ∈ H) (hM4 : M.length = 4)  : PureAt Tryz.prog w0 H 60 [.pointer (some ⟨lb, 0, none⟩)] (.pointer (some ⟨tb, 0, none⟩)) := by
 refine L_enter Tryz.func60 rfl Tryz.ntmps60 rfl rfl ?_
 refine W_sr ?_
 refine W_assign rfl rfl ?_
 refine W_nil (W_seq (W_sr ?_))
 refine W_move rfl rfl ?_
 refine W_x (X_ptrNil rfl rfl ty64) (fun _ h => by cases h) rfl ?_
 refine W_nil ?_
 refine W_condF rfl rfl ?_
 refine W_skip (W_sr ?_)
 refine W_move rfl rfl ?_
 refine W_nilCheck rfl rfl ?_
 refine W_fieldAddr rfl fld197_2 zd rfl ?_
 refine W_load (v := .pointer (some ⟨tb, 0, none⟩)) rfl ty129 rfl (Cell.own (b := lb) hm (lf_tl (j := 0) hM4)) rfl ?_
 refine W_assign rfl rfl ?_
 refine W_nil ?_
 refine W_ret1m (H2 := H) Tryz.results60 rfl (.nil _) zH ?_
 exact ⟨rfl, rfl⟩
theorem lWorks_q {w0 : World} {H : Heap} {n lb tb wb g1 g2 rb db : Nat} {M : List (Option Nat × Bool)} (hm : (lb, .cells 197 15 (lfRow n M tb wb g1 g2 rb db)) ∈ H) (hM4 : M.length = 4)  : PureAt Tryz.prog w0 H 62 [.pointer (some ⟨lb, 0, none⟩)] (.pointer (some ⟨wb, 0, none⟩)) := by
 refine L_enter Tryz.func62 rfl Tryz.ntmps62 rfl rfl ?_
 refine W_sr ?_
 refine W_assign rfl rfl ?_
 refine W_nil (W_seq (W_sr ?_))
 refine W_move rfl rfl ?_
 refine W_x (X_ptrNil rfl rfl ty64) (fun _ h => by cases h) rfl ?_
 refine W_nil ?_
 refine W_condF rfl rfl ?_
 refine W_skip (W_sr ?_)
 refine W_move rfl rfl ?_
 refine W_nilCheck rfl rfl ?_
 refine W_fieldAddr rfl fld197_3 zd rfl ?_
 refine W_load (v := .pointer (some ⟨wb, 0, none⟩)) rfl ty131 rfl (Cell.own (b := lb) hm (lf_tl (j := 1) hM4)) rfl ?_
 refine W_assign rfl rfl ?_
 refine W_nil ?_
 refine W_ret1m (H2 := H) Tryz.results62 rfl (.nil _) zH ?_
 exact ⟨rfl, rfl⟩
def lf0 (n : Nat) (Ws : List Wl) : Lf := ⟨n, [none, none, none, none], Ws, [], [], List.replicate 256 zTone, [], [], List.replicate 256 zWone, List.replicate 32 0, gr0 n, gr0 n, [], []⟩
theorem gr0_ok {n : Nat} (h : 1 ≤ n ∧ n ≤ 64) : GrOk n (gr0 n) := ⟨SctOk.start, by omega, fun l b p e => (by cases e), Int.le_refl 0, (by show (0 : Int) ≤ 0 ∧ (0 : Int) ≤ 1000000000; decide), (by show (0 : Int) ≤ 1000000000; decide)⟩
theorem us0 : UsOk [] := ⟨fun p hp => (by cases hp), List.nodup_nil⟩
theorem ms0 (T : Nat) : MsOk T [(none, false), (none, false), (none, false), (none, false)] [none, none, none, none] [[], [], [], []] := ⟨rfl, rfl, rfl, fun k c y X e1 e2 e3 => by
 have hk := (List.getElem?_eq_some_iff.1 e1).1
 have : k = 0 ∨ k = 1 ∨ k = 2 ∨ k = 3 := by simp at hk; omega
 rcases this with rfl | rfl | rfl | rfl <;> (cases e1; cases e2; cases e3; exact .none)⟩
set_option maxRecDepth 100000
theorem lfNew_L {w0 : World} {H : Heap} {n now : Nat} (hn : 1 ≤ n ∧ n ≤ 64) (hnow : now ≤ 18446744073709551615)  : LCalls Tryz.prog w0 49 #[.int .i64 (n : Int), .int .u64 ((now : Nat) : Int)] (H) (fun v H' => ∃ lb Ws HF, v = .tuple #[.pointer (some ⟨lb, 0, none⟩), .int .i64 0] ∧ LifeH lb 8 (lf0 n Ws) HF ∧ Ws.length = n ∧ (∀ w ∈ Ws, FreshW now w) ∧ H' = HF ++ H) := by
 refine L_enter (l := [.int .i64 (n : Int), .int .u64 ((now : Nat) : Int)]) Tryz.func49 rfl Tryz.ntmps49 rfl rfl ?_
 refine W_sr ?_
 refine W_assign rfl rfl ?_
 refine W_assign rfl rfl ?_
 refine W_nil (W_sr ?_)
 refine W_move rfl rfl ?_
 refine W_move rfl rfl ?_
 refine W_call (.cons rfl (.cons rfl .nil)) Tryz.call111 rfl (tNew_at (now := now) hn) ?_
 rintro v H' ⟨tb, Ws, HT, rfl, hT, hWl, hfr, rfl⟩
 refine W_move rfl rfl ?_
 refine W_extract rfl rfl rfl ?_
 refine W_extract rfl rfl rfl ?_
 refine W_assign rfl rfl ?_
 refine W_assign rfl rfl ?_
 refine W_nil (W_seq (W_sr ?_))
 refine W_move rfl rfl ?_
 refine W_bin rfl rfl b_neq rfl ?_
 refine W_nil ?_
 refine W_condF rfl rfl ?_
 refine W_skip (W_sr ?_)
 refine W_move rfl rfl ?_
 refine W_move rfl rfl ?_
 refine W_makeMap (kf := (Value.int .i64)) rfl (fun b20 => ?_)
 refine W_build (l := [.int .i64 ((n : Nat) : Int), .pointer none, .bool false, .pointer none, .bool false, .pointer none, .bool false, .pointer none, .bool false, .pointer (some ⟨tb, 0, none⟩), .pointer none, .pointer none, .pointer none, .pointer none, .map (some b20)]) ty197 pl197 (.cons rfl rfl rfl rfl rfl (.cons rfl rfl rfl rfl rfl (.cons rfl rfl rfl rfl rfl .nil))) rfl rfl rfl ?_
 refine W_box (l := [.int .i64 ((n : Nat) : Int), .pointer none, .bool false, .pointer none, .bool false, .pointer none, .bool false, .pointer none, .bool false, .pointer (some ⟨tb, 0, none⟩), .pointer none, .pointer none, .pointer none, .pointer none, .map (some b20)]) rfl rfl rfl (fun b22 => ?_)
 refine W_assign rfl rfl ?_
 refine W_nil (W_sr ?_)
 refine W_move rfl rfl ?_
 refine W_move rfl rfl ?_
 refine W_call (.cons rfl .nil) Tryz.call112 rfl (wNew_L hn) ?_
 rintro v H' ⟨wb, HW, rfl, hW, rfl⟩
 refine W_move rfl rfl ?_
 refine W_extract rfl rfl rfl ?_
 refine W_extract rfl rfl rfl ?_
 refine W_nilCheck rfl rfl ?_
 refine W_fieldAddr rfl fld197_3 zd rfl ?_
 refine W_store (l' := [.int .i64 ((n : Nat) : Int), .pointer none, .bool false, .pointer none, .bool false, .pointer none, .bool false, .pointer none, .bool false, .pointer (some ⟨tb, 0, none⟩), .pointer (some ⟨wb, 0, none⟩), .pointer none, .pointer none, .pointer none, .map (some b20)]) rfl rfl ty131 rfl rfl (b := b22) zM rfl rfl zU ?_
 refine W_nil (W_sr ?_)
 refine W_move rfl rfl ?_
 refine W_move rfl rfl ?_
 refine W_call (.cons rfl .nil) Tryz.call113 rfl (gNew_L hn) ?_
 rintro v H' ⟨g1, H1_, rfl, hg1, rfl⟩
 refine W_move rfl rfl ?_
 refine W_extract rfl rfl rfl ?_
 refine W_extract rfl rfl rfl ?_
 refine W_nilCheck rfl rfl ?_
 refine W_fieldAddr rfl fld197_4 zd rfl ?_
 refine W_store (l' := [.int .i64 ((n : Nat) : Int), .pointer none, .bool false, .pointer none, .bool false, .pointer none, .bool false, .pointer none, .bool false, .pointer (some ⟨tb, 0, none⟩), .pointer (some ⟨wb, 0, none⟩), .pointer (some ⟨g1, 0, none⟩), .pointer none, .pointer none, .map (some b20)]) rfl rfl ty175 rfl rfl (b := b22) zM rfl rfl zU ?_
 refine W_nil (W_sr ?_)
 refine W_move rfl rfl ?_
 refine W_move rfl rfl ?_
 refine W_call (.cons rfl .nil) Tryz.call113 rfl (gNew_L hn) ?_
 rintro v H' ⟨g2, H2_, rfl, hg2, rfl⟩
 refine W_move rfl rfl ?_
 refine W_extract rfl rfl rfl ?_
 refine W_extract rfl rfl rfl ?_
 refine W_nilCheck rfl rfl ?_
 refine W_fieldAddr rfl fld197_5 zd rfl ?_
 refine W_store (l' := [.int .i64 ((n : Nat) : Int), .pointer none, .bool false, .pointer none, .bool false, .pointer none, .bool false, .pointer none, .bool false, .pointer (some ⟨tb, 0, none⟩), .pointer (some ⟨wb, 0, none⟩), .pointer (some ⟨g1, 0, none⟩), .pointer (some ⟨g2, 0, none⟩), .pointer none, .map (some b20)]) rfl rfl ty175 rfl rfl (b := b22) zM rfl rfl zU ?_
 refine W_nil (W_sr ?_)
 refine W_move rfl rfl ?_
 refine W_call (.cons rfl .nil) Tryz.call114 rfl (refNew_L (top := 8) zd) ?_
 rintro v H' ⟨rb, HR, hR, rfl, rfl⟩
 refine W_move rfl rfl ?_
 refine W_extract rfl rfl rfl ?_
 refine W_extract rfl rfl rfl ?_
 refine W_nilCheck rfl rfl ?_
 refine W_fieldAddr rfl fld197_6 zd rfl ?_
 refine W_store (l' := [.int .i64 ((n : Nat) : Int), .pointer none, .bool false, .pointer none, .bool false, .pointer none, .bool false, .pointer none, .bool false, .pointer (some ⟨tb, 0, none⟩), .pointer (some ⟨wb, 0, none⟩), .pointer (some ⟨g1, 0, none⟩), .pointer (some ⟨g2, 0, none⟩), .pointer (some ⟨rb, 0, none⟩), .map (some b20)]) rfl rfl ty195 rfl rfl (b := b22) zM rfl rfl zU ?_
 refine W_nil (W_sr ?_)
 refine W_move rfl rfl ?_
 refine W_assign rfl rfl ?_
 refine W_assign rfl rfl ?_
 refine W_nil ?_
 refine W_ret2m (H2 := (b22, .cells 197 15 [.int .i64 ((n : Nat) : Int), .pointer none, .bool false, .pointer none, .bool false, .pointer none, .bool false, .pointer none, .bool false, .pointer (some ⟨tb, 0, none⟩), .pointer (some ⟨wb, 0, none⟩), .pointer (some ⟨g1, 0, none⟩), .pointer (some ⟨g2, 0, none⟩), .pointer (some ⟨rb, 0, none⟩), .map (some b20)]) :: (HT ++ (HW ++ (H1_ ++ (H2_ ++ (HR ++ ((b20, .obj (mapO (Value.int .i64) [] 0)) :: H))))))) Tryz.results49 rfl rfl (.nil _) zH ?_
 exact ⟨b22, Ws, (b22, .cells 197 15 [.int .i64 ((n : Nat) : Int), .pointer none, .bool false, .pointer none, .bool false, .pointer none, .bool false, .pointer none, .bool false, .pointer (some ⟨tb, 0, none⟩), .pointer (some ⟨wb, 0, none⟩), .pointer (some ⟨g1, 0, none⟩), .pointer (some ⟨g2, 0, none⟩), .pointer (some ⟨rb, 0, none⟩), .map (some b20)]) :: (HT ++ (HW ++ (H1_ ++ (H2_ ++ (HR ++ ([(b20, .obj (mapO (Value.int .i64) [] 0))] ++ ([[], [], [], []] : List Heap).flatten)))))), rfl, .mk (F := lf0 n Ws) hT ((tok0 hnow hfr).up (Nat.zero_le _)) hW hg1 (gr0_ok hn) hg2 (gr0_ok hn) hR us0 (.mk (E := []) (MapOk.nil 0) rfl) (ms0 8), hWl, hfr, by simp only [List.cons_append, List.append_assoc]; rfl⟩
theorem tNew_range {z now : Int} (h : z < 1 ∨ 64 < z) : Pure Tryz.prog (fun _ => True) 111 [.int .i64 z, .int .u64 now] (.tuple #[.pointer none, .int .i64 2]) := by
 intro w0 H hT
 refine L_enter Tryz.func111 rfl Tryz.ntmps111 rfl rfl ?_
 refine W_sr ?_
 refine W_assign rfl rfl ?_
 refine W_assign rfl rfl ?_
 refine W_nil (W_sr ?_)
 refine W_move rfl rfl ?_
 refine W_callp (.cons rfl .nil) Tryz.call178 rfl (T := fun _ => True) trivial (pNew_range h) ?_
 refine W_move rfl rfl ?_
 refine W_extract rfl rfl rfl ?_
 refine W_extract rfl rfl rfl ?_
 refine W_assign rfl rfl ?_
 refine W_assign rfl rfl ?_
 refine W_nil (W_seq (W_sr ?_))
 refine W_move rfl rfl ?_
 refine W_bin rfl rfl b_neq rfl ?_
 refine W_nil ?_
 refine W_condT rfl rfl ?_
 refine W_sr ?_
 refine W_move rfl rfl ?_
 refine W_assign rfl rfl ?_
 refine W_assign rfl rfl ?_
 refine W_nil ?_
 refine W_ret2m (H2 := H) Tryz.results111 rfl rfl (.nil _) zH ?_
 exact ⟨rfl, rfl⟩
theorem lfNew_range {z now : Int} (h : z < 1 ∨ 64 < z) : Pure Tryz.prog (fun _ => True) 49 [.int .i64 z, .int .u64 now] (.tuple #[.pointer none, .int .i64 2]) := by
 intro w0 H hT
 refine L_enter Tryz.func49 rfl Tryz.ntmps49 rfl rfl ?_
 refine W_sr ?_
 refine W_assign rfl rfl ?_
 refine W_assign rfl rfl ?_
 refine W_nil (W_sr ?_)
 refine W_move rfl rfl ?_
 refine W_move rfl rfl ?_
 refine W_callp (.cons rfl (.cons rfl .nil)) Tryz.call111 rfl (T := fun _ => True) trivial (tNew_range h) ?_
 refine W_move rfl rfl ?_
 refine W_extract rfl rfl rfl ?_
 refine W_extract rfl rfl rfl ?_
 refine W_assign rfl rfl ?_
 refine W_assign rfl rfl ?_
 refine W_nil (W_seq (W_sr ?_))
 refine W_move rfl rfl ?_
 refine W_bin rfl rfl b_neq rfl ?_
 refine W_nil ?_
 refine W_condT rfl rfl ?_
 refine W_sr ?_
 refine W_move rfl rfl ?_
 refine W_assign rfl rfl ?_
 refine W_assign rfl rfl ?_
 refine W_nil ?_
 refine W_ret2m (H2 := H) Tryz.results49 rfl rfl (.nil _) zH ?_
 exact ⟨rfl, rfl⟩
theorem mmNew_range {z : Int} (h : z < 1 ∨ 16 < z) : Pure Tryz.prog (fun _ => True) 50 [.int .i64 z] (.tuple #[.pointer none, .int .i64 2]) := by
 intro w0 H hT
 refine L_enter Tryz.func50 rfl Tryz.ntmps50 rfl rfl ?_
 refine W_sr ?_
 refine W_assign rfl rfl ?_
 refine W_assign rfl rfl ?_
 refine W_nil (W_seq (W_sr ?_))
 refine W_move rfl rfl ?_
 refine W_bin rfl rfl b_lss rfl ?_
 refine W_move rfl rfl ?_
 apply W_or
 iterate 4 exact rfl
 case h1 =>
  intro hg2
  refine W_gyes rfl rfl ?_
  refine W_move rfl rfl ?_
  refine W_gyes rfl rfl ?_
  refine W_bin rfl rfl b_gtr rfl ?_
  exact W_met rfl zR
 refine W_nil ?_
 refine W_condT rfl (by simp; omega) ?_
 refine W_sr ?_
 refine W_assign rfl rfl ?_
 refine W_assign rfl rfl ?_
 refine W_nil ?_
 refine W_ret2m (H2 := H) Tryz.results50 rfl rfl (.nil _) zH ?_
 exact ⟨rfl, rfl⟩
theorem knNew_range {z q now : Int} (h : z < 1 ∨ 64 < z) : Pure Tryz.prog (fun _ => True) 14 [.int .i64 z, .int .i64 q, .int .u64 now] (.tuple #[.pointer none, .int .i64 2]) := by
 intro w0 H hT
 refine L_enter Tryz.func14 rfl Tryz.ntmps14 rfl rfl ?_
 refine W_sr ?_
 refine W_assign rfl rfl ?_
 refine W_assign rfl rfl ?_
 refine W_nil (W_sr ?_)
 refine W_move rfl rfl ?_
 refine W_move rfl rfl ?_
 refine W_callp (.cons rfl (.cons rfl .nil)) Tryz.call49 rfl (T := fun _ => True) trivial (lfNew_range h) ?_
 refine W_move rfl rfl ?_
 refine W_extract rfl rfl rfl ?_
 refine W_extract rfl rfl rfl ?_
 refine W_assign rfl rfl ?_
 refine W_assign rfl rfl ?_
 refine W_nil (W_seq (W_sr ?_))
 refine W_move rfl rfl ?_
 refine W_bin rfl rfl b_neq rfl ?_
 refine W_nil ?_
 refine W_condT rfl rfl ?_
 refine W_sr ?_
 refine W_move rfl rfl ?_
 refine W_assign rfl rfl ?_
 refine W_assign rfl rfl ?_
 refine W_nil ?_
 refine W_ret2m (H2 := H) Tryz.results14 rfl rfl (.nil _) zH ?_
 exact ⟨rfl, rfl⟩
theorem knNew_page {w0 : World} {H : Heap} {n now : Nat} {q : Int} (hn : 1 ≤ n ∧ n ≤ 64) (hnow : now ≤ 18446744073709551615) (h : q < 1 ∨ 16 < q)  : LCalls Tryz.prog w0 14 #[.int .i64 (n : Int), .int .i64 q, .int .u64 ((now : Nat) : Int)] (H) (fun v H' => v = .tuple #[.pointer none, .int .i64 2] ∧ H' = H) := by
 refine L_enter (l := [.int .i64 (n : Int), .int .i64 q, .int .u64 ((now : Nat) : Int)]) Tryz.func14 rfl Tryz.ntmps14 rfl rfl ?_
 refine W_sr ?_
 refine W_assign rfl rfl ?_
 refine W_assign rfl rfl ?_
 refine W_nil (W_sr ?_)
 refine W_move rfl rfl ?_
 refine W_move rfl rfl ?_
 refine W_call (.cons rfl (.cons rfl .nil)) Tryz.call49 rfl (lfNew_L (now := now) hn hnow) ?_
 rintro v H' ⟨lb, Ws, HF, rfl, hF, hWl, hfr, rfl⟩
 refine W_move rfl rfl ?_
 refine W_extract rfl rfl rfl ?_
 refine W_extract rfl rfl rfl ?_
 refine W_assign rfl rfl ?_
 refine W_assign rfl rfl ?_
 refine W_nil (W_seq (W_sr ?_))
 refine W_move rfl rfl ?_
 refine W_bin rfl rfl b_neq rfl ?_
 refine W_nil ?_
 refine W_condF rfl rfl ?_
 refine W_skip (W_sr ?_)
 refine W_move rfl rfl ?_
 refine W_callp (.cons rfl .nil) Tryz.call50 rfl (T := fun _ => True) trivial (mmNew_range h) ?_
 refine W_move rfl rfl ?_
 refine W_extract rfl rfl rfl ?_
 refine W_extract rfl rfl rfl ?_
 refine W_assign rfl rfl ?_
 refine W_assign rfl rfl ?_
 refine W_nil (W_seq (W_sr ?_))
 refine W_move rfl rfl ?_
 refine W_bin rfl rfl b_neq rfl ?_
 refine W_nil ?_
 refine W_condT rfl rfl ?_
 refine W_sr ?_
 refine W_move rfl rfl ?_
 refine W_assign rfl rfl ?_
 refine W_assign rfl rfl ?_
 refine W_nil ?_
 refine W_ret2m (H2 := H) Tryz.results14 rfl rfl (.nil _) zH ?_
 exact ⟨rfl, rfl⟩
def kr0 (cb lb gb mb n : Nat) : Kr := ⟨cb, lb, List.replicate 16 none, gb, .map none, mb, .slice none 0 0, 0, List.replicate 32 none, .slice none 0 0, n⟩
theorem kr0_ok (cb lb gb mb n : Nat) : (kr0 cb lb gb mb n).Ok := ⟨rfl, rfl⟩
set_option maxRecDepth 100000
theorem knNew_L {w0 : World} {H : Heap} {n p now : Nat} (hn : 1 ≤ n ∧ n ≤ 64) (hp : 1 ≤ p ∧ p ≤ 16) (hnow : now ≤ 18446744073709551615)  : LCalls Tryz.prog w0 14 #[.int .i64 (n : Int), .int .i64 (p : Int), .int .u64 ((now : Nat) : Int)] (H) (fun v H' => ∃ kb cb lb gb mb Ws HF HG HM, v = .tuple #[.pointer (some ⟨kb, 0, none⟩), .int .i64 0] ∧ LifeH lb 8 (lf0 n Ws) HF ∧ Ws.length = n ∧ (∀ w ∈ Ws, FreshW now w) ∧ GdH gb n ⟨List.replicate n 0, List.replicate 16 0⟩ HG ∧ MmH mb p ⟨List.replicate (16 * p) 0, List.replicate 16 0⟩ HM ∧ H' = (kb, .cells 113 57 (knC (kr0 cb lb gb mb n))) :: ((cb, .cells 211 1 [.int .u64 ((now : Nat) : Int)]) :: (HG ++ (HM ++ (HF ++ H))))) := by
 refine L_enter (l := [.int .i64 (n : Int), .int .i64 (p : Int), .int .u64 ((now : Nat) : Int)]) Tryz.func14 rfl Tryz.ntmps14 rfl rfl ?_
 refine W_sr ?_
 refine W_assign rfl rfl ?_
 refine W_assign rfl rfl ?_
 refine W_nil (W_sr ?_)
 refine W_move rfl rfl ?_
 refine W_move rfl rfl ?_
 refine W_call (.cons rfl (.cons rfl .nil)) Tryz.call49 rfl (lfNew_L (now := now) hn hnow) ?_
 rintro v H' ⟨lb, Ws, HF, rfl, hF, hWl, hfr, rfl⟩
 refine W_move rfl rfl ?_
 refine W_extract rfl rfl rfl ?_
 refine W_extract rfl rfl rfl ?_
 refine W_assign rfl rfl ?_
 refine W_assign rfl rfl ?_
 refine W_nil (W_seq (W_sr ?_))
 refine W_move rfl rfl ?_
 refine W_bin rfl rfl b_neq rfl ?_
 refine W_nil ?_
 refine W_condF rfl rfl ?_
 refine W_skip (W_sr ?_)
 refine W_move rfl rfl ?_
 refine W_call (.cons rfl .nil) Tryz.call50 rfl (mmNew_L hp) ?_
 rintro v H' ⟨mb, HM, rfl, hM, rfl⟩
 refine W_move rfl rfl ?_
 refine W_extract rfl rfl rfl ?_
 refine W_extract rfl rfl rfl ?_
 refine W_assign rfl rfl ?_
 refine W_assign rfl rfl ?_
 refine W_nil (W_seq (W_sr ?_))
 refine W_move rfl rfl ?_
 refine W_bin rfl rfl b_neq rfl ?_
 refine W_nil ?_
 refine W_condF rfl rfl ?_
 refine W_skip (W_sr ?_)
 refine W_move rfl rfl ?_
 refine W_call (.cons rfl .nil) Tryz.call51 rfl (gdNew_L hn) ?_
 rintro v H' ⟨gb, HG, rfl, hG, rfl⟩
 refine W_move rfl rfl ?_
 refine W_extract rfl rfl rfl ?_
 refine W_extract rfl rfl rfl ?_
 refine W_assign rfl rfl ?_
 refine W_assign rfl rfl ?_
 refine W_nil (W_sr ?_)
 refine W_move rfl rfl ?_
 refine W_call (.cons rfl .nil) Tryz.call52 rfl (cAt_L (now := now)) ?_
 rintro v H' ⟨cb, rfl, rfl⟩
 refine W_move rfl rfl ?_
 refine W_move rfl rfl ?_
 refine W_move rfl rfl ?_
 refine W_move rfl rfl ?_
 refine W_build (l := knC (kr0 cb lb gb mb n)) ty113 pl113 (.cons rfl rfl rfl rfl rfl (.cons rfl rfl rfl rfl rfl (.cons rfl rfl rfl rfl rfl (.cons rfl rfl rfl rfl rfl (.cons rfl rfl rfl rfl rfl .nil))))) rfl zk rfl ?_
 refine W_box (l := knC (kr0 cb lb gb mb n)) rfl rfl rfl (fun kb => ?_)
 refine W_assign rfl rfl ?_
 refine W_assign rfl rfl ?_
 refine W_nil ?_
 refine W_ret2m (H2 := (kb, .cells 113 57 (knC (kr0 cb lb gb mb n))) :: ((cb, .cells 211 1 [.int .u64 ((now : Nat) : Int)]) :: (HG ++ (HM ++ (HF ++ H))))) Tryz.results14 rfl rfl (.nil _) zH ?_
 exact ⟨kb, cb, lb, gb, mb, Ws, HF, HG, HM, rfl, hF, hWl, hfr, hG, hM, rfl⟩
theorem kCPUs_q {w0 : World} {H : Heap} {kb : Nat} {r : Kr} (hr : r.Ok) (hm : (kb, .cells 113 57 (knC r)) ∈ H)  : PureAt Tryz.prog w0 H 15 [.pointer (some ⟨kb, 0, none⟩)] (.int .i64 (r.n : Int)) := by
 refine L_enter Tryz.func15 rfl Tryz.ntmps15 rfl rfl ?_
 refine W_sr ?_
 refine W_assign rfl rfl ?_
 refine W_nil (W_seq (W_sr ?_))
 refine W_move rfl rfl ?_
 refine W_x (X_ptrNil rfl rfl ty23) (fun _ h => by cases h) rfl ?_
 refine W_nil ?_
 refine W_condF rfl rfl ?_
 refine W_skip (W_sr ?_)
 refine W_move rfl rfl ?_
 refine W_nilCheck rfl rfl ?_
 refine W_fieldAddr rfl fld113_9 zd rfl ?_
 refine W_load (v := .int .i64 (r.n : Int)) rfl ty3 rfl (Cell.own (b := kb) hm (kn_end hr 1)) rfl ?_
 refine W_assign rfl rfl ?_
 refine W_nil ?_
 refine W_ret1m (H2 := H) Tryz.results15 rfl (.nil _) zH ?_
 exact ⟨rfl, rfl⟩
theorem kNow_q {w0 : World} {H : Heap} {kb : Nat} {r : Kr} (hr : r.Ok) (hm : (kb, .cells 113 57 (knC r)) ∈ H) {now : Nat} (hc : (r.clk, .cells 211 1 [.int .u64 ((now : Nat) : Int)]) ∈ H)  : PureAt Tryz.prog w0 H 16 [.pointer (some ⟨kb, 0, none⟩)] (.int .u64 ((now : Nat) : Int)) := by
 refine L_enter Tryz.func16 rfl Tryz.ntmps16 rfl rfl ?_
 refine W_sr ?_
 refine W_assign rfl rfl ?_
 refine W_nil (W_seq (W_sr ?_))
 refine W_move rfl rfl ?_
 refine W_x (X_ptrNil rfl rfl ty23) (fun _ h => by cases h) rfl ?_
 refine W_nil ?_
 refine W_condF rfl rfl ?_
 refine W_skip (W_sr ?_)
 refine W_move rfl rfl ?_
 refine W_nilCheck rfl rfl ?_
 refine W_fieldAddr rfl fld113_0 zd rfl ?_
 refine W_load (v := .pointer (some ⟨r.clk, 0, none⟩)) rfl ty100 rfl (Cell.own (b := kb) hm rfl) rfl ?_
 refine W_callq (.cons rfl .nil) Tryz.call53 rfl (cNow_q hc) ?_
 refine W_assign rfl rfl ?_
 refine W_nil ?_
 refine W_ret1m (H2 := H) Tryz.results16 rfl (.nil _) zH ?_
 exact ⟨rfl, rfl⟩
theorem kLive1_q {w0 : World} {H : Heap} {v : Value}  : PureAt Tryz.prog w0 H 56 [v] (.bool true) := by
 refine L_enter Tryz.func56 rfl Tryz.ntmps56 rfl rfl ?_
 refine W_sr ?_
 refine W_assign rfl rfl ?_
 refine W_nil (W_sr ?_)
 refine W_assign rfl rfl ?_
 refine W_nil ?_
 refine W_ret1m (H2 := H) Tryz.results56 rfl (.nil _) zH ?_
 exact ⟨rfl, rfl⟩
theorem mOf_q {w0 : World} {H : Heap} {l : List Int} {ad : Option Addr} {cap : Nat} (hl : l.length ≤ 4611686018427387904) (hrow : Holds w0 H ad (l.map (Value.int .i64)))  : PureAt Tryz.prog w0 H 54 [.slice ad l.length cap] (.int .u64 (((withL 0 l) : Nat) : Int)) := by
 refine L_enter Tryz.func54 rfl Tryz.ntmps54 rfl rfl ?_
 refine W_sr ?_
 refine W_assign rfl rfl ?_
 refine W_nil (W_sr ?_)
 refine W_move rfl rfl ?_
 refine W_callq (.cons rfl (.cons rfl .nil)) Tryz.call88 rfl (with_q (m := 0) (l := l) zd hl hrow) ?_
 refine W_assign rfl rfl ?_
 refine W_nil ?_
 refine W_ret1m (H2 := H) Tryz.results54 rfl (.nil _) zH ?_
 exact ⟨rfl, rfl⟩
theorem kLive_q {w0 : World} {H : Heap} {kb : Nat} {r : Kr} (hr : r.Ok) (hm : (kb, .cells 113 57 (knC r)) ∈ H)  : PureAt Tryz.prog w0 H 17 [.pointer (some ⟨kb, 0, none⟩)] (.int .u64 (((withL 0 (selL r.C (fun _ => true) 32)) : Nat) : Int)) := by
 refine L_enter Tryz.func17 rfl Tryz.ntmps17 rfl rfl ?_
 refine W_sr ?_
 refine W_assign rfl rfl ?_
 refine W_nil (W_sr ?_)
 refine W_move rfl rfl ?_
 refine W_call (.cons rfl (.cons rfl .nil)) Tryz.call55 rfl (klist_L (fi := 56) (ca := []) (fun _ => true) Tryz.call56 hr hm (fun k b HZ hb hz => kLive1_q)) ?_
 rintro v H' ⟨XB, hO, rfl⟩
 obtain ⟨ad, cap, rfl, -, -⟩ := hO.shape
 refine W_callq (.cons rfl .nil) Tryz.call54 rfl (mOf_q (l := selL r.C (fun _ => true) 32) (by have := selL_len r.C (fun _ => true) 32; omega) (hO.toHolds (fun p hp => List.mem_append_left _ hp))) ?_
 refine W_assign rfl rfl ?_
 refine W_nil ?_
 refine W_ret1m (H2 := H) Tryz.results17 rfl (.nil _) zH ?_
 exact ⟨rfl, rfl⟩
open Go.Proofs
theorem mkeys_iter {w0 : World} {H : Heap} {lp b1 db cl : Nat} {E : List Dye} (hok : MapOk (E.map Dye.ent) cl) (J : List Int → Heap → Prop)
  (hround : ∀ ks z Hi (HZ : Heap), ks.length < E.length → J ks Hi → RoundC Tryz.prog w0 lp #[.int .i64 z] (HZ ++ Hi) (fun v H' => ∃ Hi', HSub H' (HZ ++ Hi') ∧ v = .bool true ∧ J (ks ++ [z]) Hi')) (hJ : J [] H) :
  LCalls Tryz.prog w0 196 #[.func (.yield lp) #[] #[], .pointer (some ⟨b1, 0, none⟩)] ((b1, .cells 190 1 [.map (some db)]) :: (db, .obj (mapO (Value.int .i64) ((E).map Dye.ent) cl)) :: H) (fun _ H' => ∃ (Hi' : Heap) (ks : List Int), HSub H' ((b1, .cells 190 1 [.map (some db)]) :: (db, .obj (mapO (Value.int .i64) ((E).map Dye.ent) cl)) :: Hi') ∧ ks.Perm (E.map Dye.key) ∧ J ks Hi') := by
 refine L_enter (l := [.func (.yield lp) #[] #[], .pointer (some ⟨b1, 0, none⟩)]) Tryz.func196 rfl Tryz.ntmps196 rfl rfl ?_
 refine W_sr ?_
 refine W_load (v := .map (some db)) rfl ty190 rfl (Cell.own (b := b1) zM rfl) rfl ?_
 refine W_range (kf := (Value.int .i64)) (l := E.map Dye.ent) (cl := cl) rfl ty190 zM rfl (fun r => ?_)
 refine W_nil (W_block ?_)
 refine W_loopC (X := (Ents Int × Heap)) [(0, _), (5, _)] (fun (x : (Ents Int × Heap)) => []) (fun _ => _) (fun (x : (Ents Int × Heap)) => (r, .obj (iterO db cl (x.1.map (·.2.2)) cl)) :: (b1, .cells 190 1 [.map (some db)]) :: (db, .obj (mapO (Value.int .i64) ((E).map Dye.ent) cl)) :: x.2) (fun (x : (Ents Int × Heap)) => (x.1.map (·.2.2)).Nodup ∧ (∀ p ∈ x.1, p ∈ E.map Dye.ent) ∧ J (x.1.map (·.1)) x.2) (fun (x : (Ents Int × Heap)) => E.length - x.1.length) ([], H) ⟨.nil, (fun p hp => (by cases hp)), hJ⟩ (sub_cons rfl (sub_cons rfl (sub_nil _))) (sub_nil _) rfl (HSub.refl _) ?_
 rintro ⟨vs, Hi⟩ ⟨hnd, hin, hJi⟩
 dsimp only at hnd hin hJi ⊢
 simp only [List.cons_append, List.nil_append]
 refine W_sr ?_
 refine W_next (kf := (Value.int .i64)) (l := E.map Dye.ent) (cl := cl) (b := db) (r := r) (since := cl) (c0 := cl) (sl := vs.map (·.2.2)) (HN := fun p => (r, .obj (iterO db cl (vs.map (·.2.2) ++ [p.2.2]) cl)) :: (b1, .cells 190 1 [.map (some db)]) :: (db, .obj (mapO (Value.int .i64) ((E).map Dye.ent) cl)) :: Hi) rfl zM zM hok.lt (Nat.le_refl _) (fun p => .head _) rfl (fun hall => ?_) (fun p hp hnp => ?_)
 ·skip
  refine W_extract rfl rfl rfl ?_
  refine W_nil (W_seq ?_)
  refine W_condF rfl rfl ?_
  refine W_exit rfl ?_
  refine W_end0m Tryz.results196 (.nil _) (.refl _) ?_
  have hpm := visit_perm hok hnd hin hall
  exact ⟨Hi, vs.map (·.1), .drop (.refl _), by have := hpm.map (·.1); rwa [List.map_map] at this, hJi⟩
 ·skip
  refine W_extract rfl rfl rfl ?_
  refine W_nil (W_seq ?_)
  refine W_condT rfl rfl ?_
  refine W_skip (W_block (W_sr ?_))
  refine W_entry (kf := (Value.int .i64)) (l := E.map Dye.ent) (cl := cl) (b := db) (r := r) (since := cl) (sl := vs.map (·.2.2)) (p := p) rfl zM zM hp hok rfl ?_
  refine W_extract rfl rfl rfl ?_
  refine W_assign rfl rfl ?_
  refine W_nil (W_sr ?_)
  refine W_move rfl rfl ?_
  refine W_move rfl rfl ?_
  have hvl := visit_lt hnd hin hp hnp
  rw [List.length_map] at hvl
  refine W_yield rfl (.cons rfl .nil) rfl (hround (vs.map (·.1)) p.1 Hi [(r, .obj (iterO db cl (vs.map (·.2.2) ++ [p.2.2]) cl)), (b1, .cells 190 1 [.map (some db)]), (db, .obj (mapO (Value.int .i64) ((E).map Dye.ent) cl))] (by rw [List.length_map]; exact hvl) hJi) ?_
  rintro v H' ⟨Hi', hsub, rfl, hJ'⟩
  refine W_hsub hsub ?_
  rw [show [(r, .obj (iterO db cl (vs.map (·.2.2) ++ [p.2.2]) cl)), (b1, .cells 190 1 [.map (some db)]), (db, .obj (mapO (Value.int .i64) ((E).map Dye.ent) cl))] ++ Hi' = (r, .obj (iterO db cl (vs.map (·.2.2) ++ [p.2.2]) cl)) :: (b1, .cells 190 1 [.map (some db)]) :: (db, .obj (mapO (Value.int .i64) ((E).map Dye.ent) cl)) :: Hi' from rfl]
  refine W_not rfl rfl ?_
  refine W_nil ?_
  refine W_condF rfl rfl ?_
  refine W_skip ?_
  refine W_blk ?_
  refine W_again (vs ++ [p], Hi') ⟨by show ((vs ++ [p]).map (·.2.2)).Nodup; rw [List.map_append]; exact List.nodup_append.2 ⟨hnd, by simp, fun x hx y hy e => hnp (by obtain rfl : y = p.2.2 := (by simpa using hy); exact e ▸ hx)⟩, fun q hq => (List.mem_append.1 hq).elim (hin q) (fun h => by obtain rfl : q = p := (by simpa using h); exact hp), by show J ((vs ++ [p]).map (·.1)) Hi'; rw [List.map_append]; exact hJ'⟩ (by show E.length - (vs ++ [p]).length < E.length - vs.length; rw [List.length_append, List.length_singleton]; omega) (sub_cons rfl (sub_cons rfl (sub_nil _))) rfl (by simp only [List.map_append, List.map_cons, List.map_nil]; exact .refl _)
theorem appSeq_L {w0 : World} {H : Heap} {b1 db cl : Nat} {E : List Dye} (hok : MapOk (E.map Dye.ent) cl) (hEl : E.length ≤ 1000)  : LCalls Tryz.prog w0 131 #[.slice none 0 0, .func (.func 196) #[] #[.pointer (some ⟨b1, 0, none⟩)]] ((b1, .cells 190 1 [.map (some db)]) :: (db, .obj (mapO (Value.int .i64) ((E).map Dye.ent) cl)) :: H) (fun v H' => ∃ (ks : List Int) (XB : Heap), ks.Perm (E.map Dye.key) ∧ OwnS 3 1 v ks.length (ks.map (Value.int .i64)) XB ∧ H' = XB ++ ((b1, .cells 190 1 [.map (some db)]) :: (db, .obj (mapO (Value.int .i64) ((E).map Dye.ent) cl)) :: H)) := by
 refine L_enter (l := [.slice none 0 0, .func (.func 196) #[] #[.pointer (some ⟨b1, 0, none⟩)]]) Tryz.func131 rfl Tryz.ntmps131 rfl rfl ?_
 refine W_sr ?_
 refine W_box (l := [.slice none 0 0]) rfl rfl rfl (fun b2 => ?_)
 refine W_assign rfl rfl ?_
 refine W_nil (W_seq (W_sr ?_))
 refine W_move rfl rfl ?_
 refine W_nil (W_block ?_)
 refine W_rangeFunc rfl Tryz.call196 ?_
 intro lp D r hst hpd hps hasg hbody hA
 have hr := loop_ready hst hpd
 show LCalls _ _ _ #[_, _] _ _
 refine ((mkeys_iter (b1 := b1) (H := (lp, .obj (.loop r)) :: (D, .obj (.deferred (some []))) :: (b2, .cells 55 1 [.slice none 0 0]) :: H) hok (fun ks Hi => ∃ xv XB, OwnS 3 1 xv ks.length (ks.map (Value.int .i64)) XB ∧ Hi = (lp, .obj (.loop r)) :: (D, .obj (.deferred (some []))) :: (b2, .cells 55 1 [xv]) :: (XB ++ H)) ?_ ⟨_, [], .nil, rfl⟩).hsub zH).mono ?_
 ·intro ks z Hi HZ hkl hJ
  obtain ⟨xv, XB, hX, rfl⟩ := hJ
  refine round_intro hst hpd hA hps rfl hasg rfl rfl rfl zT ?_
  refine W_region ?_
  refine W_assign rfl rfl ?_
  refine W_nil ?_
  refine W_begin hst hpd zT hbody ?_
  refine W_block ?_
  refine W_region ?_
  refine W_load (v := xv) rfl ty55 rfl (Cell.own (b := b2) zM rfl) rfl ?_
  refine W_move rfl rfl ?_
  refine W_buildSlice (l := [.int .i64 z]) ty55 ty3 (.cons rfl rfl rfl rfl rfl .nil) rfl rfl rfl rfl rfl rfl rfl (fun b10 => ?_)
  refine W_append (news := [.int .i64 z]) (m := 1) (HB := XB) (H0 := (b10, .cells 3 1 [.int .i64 z]) :: (lp, .obj (.loop (Loop.at r .busy none))) :: (HZ ++ ((D, .obj (.deferred (some []))) :: (b2, .cells 55 1 [xv]) :: H))) rfl rfl ty55 ty3 rfl (by decide) hX rfl (Holds.own List.mem_cons_self) rfl (by simp only [maxLen]; omega) (by omega) zH rfl (fun v' HB' hO' => ?_)
  refine W_store (l' := [v']) rfl rfl ty55 (by obtain ⟨a0, c0', e0, _⟩ := hO'.shape; rw [e0]; rfl) rfl (b := b2) zM rfl rfl zU ?_
  refine W_nil ?_
  refine W_blk ?_
  refine W_endround zT ?_
  rw [hr]
  exact ⟨(lp, .obj (.loop r)) :: (D, .obj (.deferred (some []))) :: (b2, .cells 55 1 [v']) :: (HB' ++ H), zH, rfl, v', HB', by rw [List.length_append, List.map_append]; exact hO', rfl⟩
 ·intro _ H' hp
  obtain ⟨Hi', ks, hs, hpm, xv, XB, hX, rfl⟩ := hp
  refine ⟨.ready, none, (b1, .cells 190 1 [.map (some db)]) :: (db, .obj (mapO (Value.int .i64) ((E).map Dye.ent) cl)) :: (D, .obj (.deferred (some []))) :: (b2, .cells 55 1 [xv]) :: (XB ++ H), by rw [hr]; exact hs.trans zH, by decide, ?_⟩
  show W _ _ _ _ _ _ _ _ _
  refine W_blk ?_
  refine W_sr ?_
  refine W_load (v := xv) rfl ty55 rfl (Cell.own (b := b2) zM rfl) rfl ?_
  refine W_assign rfl rfl ?_
  refine W_nil ?_
  refine W_ret1m (H2 := XB ++ ((b1, .cells 190 1 [.map (some db)]) :: (db, .obj (mapO (Value.int .i64) ((E).map Dye.ent) cl)) :: H)) Tryz.results131 rfl (.cons zT (.nil _)) zH ?_
  exact ⟨ks, XB, hpm, hX, rfl⟩
theorem collect_L {w0 : World} {H : Heap} {b1 db cl : Nat} {E : List Dye} (hok : MapOk (E.map Dye.ent) cl) (hEl : E.length ≤ 1000)  : LCalls Tryz.prog w0 73 #[.func (.func 196) #[] #[.pointer (some ⟨b1, 0, none⟩)]] ((b1, .cells 190 1 [.map (some db)]) :: (db, .obj (mapO (Value.int .i64) ((E).map Dye.ent) cl)) :: H) (fun v H' => ∃ (ks : List Int) (XB : Heap), ks.Perm (E.map Dye.key) ∧ OwnS 3 1 v ks.length (ks.map (Value.int .i64)) XB ∧ H' = XB ++ ((b1, .cells 190 1 [.map (some db)]) :: (db, .obj (mapO (Value.int .i64) ((E).map Dye.ent) cl)) :: H)) := by
 refine L_enter (l := [.func (.func 196) #[] #[.pointer (some ⟨b1, 0, none⟩)]]) Tryz.func73 rfl Tryz.ntmps73 rfl rfl ?_
 refine W_sr ?_
 refine W_assign rfl rfl ?_
 refine W_nil (W_sr ?_)
 refine W_move rfl rfl ?_
 refine W_call (.cons rfl (.cons rfl .nil)) Tryz.call131 rfl (appSeq_L hok hEl (H := H)) ?_
 rintro v H' ⟨ks, XB, hpm, hX, rfl⟩
 refine W_assign rfl rfl ?_
 refine W_nil ?_
 refine W_ret1m (H2 := XB ++ ((b1, .cells 190 1 [.map (some db)]) :: (db, .obj (mapO (Value.int .i64) ((E).map Dye.ent) cl)) :: H)) Tryz.results73 rfl (.nil _) zH ?_
 exact ⟨ks, XB, hpm, hX, rfl⟩
theorem sortedK_L {w0 : World} {H : Heap} {b1 db cl : Nat} {E : List Dye} (hok : MapOk (E.map Dye.ent) cl) (hEl : E.length ≤ 1000) (hEn : (E.map Dye.key).Nodup)  : LCalls Tryz.prog w0 129 #[.func (.func 196) #[] #[.pointer (some ⟨b1, 0, none⟩)]] ((b1, .cells 190 1 [.map (some db)]) :: (db, .obj (mapO (Value.int .i64) ((E).map Dye.ent) cl)) :: H) (fun v H' => ∃ XB, OwnS 3 1 v (sortI (E.map Dye.key)).length ((sortI (E.map Dye.key)).map (Value.int .i64)) XB ∧ H' = XB ++ ((b1, .cells 190 1 [.map (some db)]) :: (db, .obj (mapO (Value.int .i64) ((E).map Dye.ent) cl)) :: H)) := by
 refine L_enter (l := [.func (.func 196) #[] #[.pointer (some ⟨b1, 0, none⟩)]]) Tryz.func129 rfl Tryz.ntmps129 rfl rfl ?_
 refine W_sr ?_
 refine W_assign rfl rfl ?_
 refine W_nil (W_sr ?_)
 refine W_move rfl rfl ?_
 refine W_call (.cons rfl .nil) Tryz.call73 rfl (collect_L hok hEl (H := H)) ?_
 rintro v H' ⟨ks, XB, hpm, hX, rfl⟩
 have hkl : ks.length ≤ 1000 := by rw [hpm.length_eq, List.length_map]; exact hEl
 rcases own_or hX with ⟨rfl, hn0, -, rfl⟩ | ⟨b, cap, rfl, rfl, hcap, hmax⟩
 ·skip
  refine W_assign rfl rfl ?_
  refine W_nil (W_sr ?_)
  refine W_move rfl rfl ?_
  refine W_callp (.cons rfl .nil) Tryz.call195 rfl (T := fun _ => True) trivial (fun w0 H _ w hs => (callsIn_wide.2 (Tryz.slices_Sort_int_none none 0 w)).mono (by rintro en w2 ⟨rfl, rfl⟩; exact ⟨_, _, rfl, ⟨rfl, rfl⟩, hs⟩)) ?_
  refine W_nil (W_sr ?_)
  refine W_move rfl rfl ?_
  refine W_assign rfl rfl ?_
  refine W_nil ?_
  refine W_ret1m (H2 := [] ++ ((b1, .cells 190 1 [.map (some db)]) :: (db, .obj (mapO (Value.int .i64) ((E).map Dye.ent) cl)) :: H)) Tryz.results129 rfl (.nil _) zH ?_
  obtain rfl := List.eq_nil_of_length_eq_zero hn0
  have hE0 : E.map Dye.key = [] := List.Perm.nil_eq hpm |>.symm
  refine ⟨[], ?_, rfl⟩
  rw [hE0, show sortI ([] : List Int) = [] from List.mergeSort_nil]
  exact .nil
 ·skip
  refine W_assign rfl rfl ?_
  refine W_nil (W_sr ?_)
  refine W_move rfl rfl ?_
  refine W_hsub (H' := (b, .cells 3 (cap * 1) (ks.map (Value.int .i64))) :: ((b1, .cells 190 1 [.map (some db)]) :: (db, .obj (mapO (Value.int .i64) ((E).map Dye.ent) cl)) :: H)) (.refl _) ?_
  refine W_call (.cons rfl .nil) Tryz.call195 rfl (sortI_L zO) ?_
  rintro v H' ⟨rfl, rfl⟩
  refine W_nil (W_sr ?_)
  refine W_move rfl rfl ?_
  refine W_assign rfl rfl ?_
  refine W_nil ?_
  refine W_ret1m (H2 := [(b, .cells 3 (cap * 1) ((sortI ks).map (Value.int .i64)))] ++ ((b1, .cells 190 1 [.map (some db)]) :: (db, .obj (mapO (Value.int .i64) ((E).map Dye.ent) cl)) :: H)) Tryz.results129 rfl (.nil _) zH ?_
  have hsi : sortI ks = sortI (E.map Dye.key) := asc_int ((sortI_perm _).trans (hpm.trans (sortI_perm _).symm)) (sortI_asc (hpm.nodup_iff.2 hEn)) (sortI_asc hEn)
  have hl2 : ks.length = (sortI ks).length := (sortI_perm _).length_eq.symm
  refine ⟨_, ?_, rfl⟩
  rw [← hsi, hl2]
  exact OwnS.own (by simp) (by omega) hmax
theorem mkeys_L {w0 : World} {H : Heap} {db : Nat}  : LCalls Tryz.prog w0 130 #[.map (some db)] (H) (fun v H' => ∃ b1, v = .func (.func 196) #[] #[.pointer (some ⟨b1, 0, none⟩)] ∧ H' = (b1, .cells 190 1 [.map (some db)]) :: H) := by
 refine L_enter (l := [.map (some db)]) Tryz.func130 rfl Tryz.ntmps130 rfl rfl ?_
 refine W_sr ?_
 refine W_box (l := [.map (some db)]) rfl rfl rfl (fun b1 => ?_)
 refine W_assign rfl rfl ?_
 refine W_nil (W_sr ?_)
 refine W_makeFunc .nil (.cons rfl .nil) rfl ?_
 refine W_assign rfl rfl ?_
 refine W_nil ?_
 refine W_ret1m Tryz.results130 rfl (.nil _) (.refl _) ?_
 exact ⟨b1, rfl, rfl⟩
def dyK (dy : List (Int × Hd)) : List Int := sortI (dy.map (·.1))
theorem dyK_is (E : List Dye) : sortI (E.map Dye.key) = dyK (E.map Dye.p) := by unfold dyK; rw [List.map_map]; rfl
theorem LifeH.dying {w0 : World} {H : Heap} {HF : Heap} {lb T : Nat} {F : Lf} (hF : LifeH lb T F HF) (hl : F.dy.length ≤ 1000) (hnd : (F.dy.map (·.1)).Nodup)  : LCalls Tryz.prog w0 72 #[.pointer (some ⟨lb, 0, none⟩)] (HF ++ H) (fun v H' => ∃ XB, OwnS 3 1 v (dyK F.dy).length ((dyK F.dy).map (Value.int .i64)) XB ∧ H' = XB ++ (HF ++ H)) := by
 cases hF with
 | @mk tb wb g1 g2 rb db M HT HW H1 H2 HR HD HM hT hO hW h1 o1 h2 o2 hR hU hD hM =>
 cases hD with
 | @mk E cl hok hdy =>
 have e0 : ((lb, .cells 197 15 (lfRow F.n M tb wb g1 g2 rb db)) :: (HT ++ (HW ++ (H1 ++ (H2 ++ (HR ++ ([(db, .obj (mapO (Value.int .i64) ((E).map Dye.ent) cl))] ++ HM.flatten))))))) ++ H = (lb, .cells 197 15 (lfRow F.n M tb wb g1 g2 rb db)) :: (HT ++ (HW ++ (H1 ++ (H2 ++ (HR ++ ((db, .obj (mapO (Value.int .i64) ((E).map Dye.ent) cl)) :: (HM.flatten ++ H))))))) := by simp only [List.cons_append, List.append_assoc, List.nil_append]
 rw [e0]
 have hEl : E.length ≤ 1000 := by have := congrArg List.length hdy; rw [List.length_map] at this; omega
 have hEn : (E.map Dye.key).Nodup := by rw [← hdy, List.map_map] at hnd; exact hnd
 refine L_enter (l := [.pointer (some ⟨lb, 0, none⟩)]) Tryz.func72 rfl Tryz.ntmps72 rfl rfl ?_
 refine W_sr ?_
 refine W_assign rfl rfl ?_
 refine W_nil (W_seq (W_sr ?_))
 refine W_move rfl rfl ?_
 refine W_x (X_ptrNil rfl rfl ty64) (fun _ h => by cases h) rfl ?_
 refine W_nil ?_
 refine W_condF rfl rfl ?_
 refine W_skip (W_sr ?_)
 refine W_move rfl rfl ?_
 refine W_nilCheck rfl rfl ?_
 refine W_fieldAddr rfl fld197_7 zd rfl ?_
 refine W_load (v := .map (some db)) rfl ty190 rfl (Cell.own (b := lb) zM (lf_tl (j := 5) hM.m4)) rfl ?_
 refine W_call (.cons rfl .nil) Tryz.call130 rfl mkeys_L ?_
 rintro v H' ⟨b1, rfl, rfl⟩
 refine W_call (.cons rfl .nil) Tryz.call129 rfl ((sortedK_L hok hEl hEn (b1 := b1) (H := (lb, .cells 197 15 (lfRow F.n M tb wb g1 g2 rb db)) :: (HT ++ (HW ++ (H1 ++ (H2 ++ (HR ++ (HM.flatten ++ H)))))))).hsub zH) ?_
 rintro v H' ⟨XB, hX, rfl⟩
 refine W_assign rfl rfl ?_
 refine W_nil ?_
 refine W_ret1m (H2 := XB ++ ((lb, .cells 197 15 (lfRow F.n M tb wb g1 g2 rb db)) :: (HT ++ (HW ++ (H1 ++ (H2 ++ (HR ++ ((db, .obj (mapO (Value.int .i64) ((E).map Dye.ent) cl)) :: (HM.flatten ++ H))))))))) Tryz.results72 rfl (.nil _) zH ?_
 rw [← e0, ← hdy, ← dyK_is]
 exact ⟨XB, hX, rfl⟩
theorem LifeH.tReady {lb T : Nat} {F : Lf} {HF : Heap} (hF : LifeH lb T F HF) : ∃ tb : Nat, (∀ (w0 : World) (H : Heap), (∀ p ∈ HF, p ∈ H) → PureAt Tryz.prog w0 H 60 [.pointer (some ⟨lb, 0, none⟩)] (.pointer (some ⟨tb, 0, none⟩))) ∧ ∀ (w0 : World) (H : Heap) (cpu : Int), (∀ p ∈ HF, p ∈ H) → PureAt Tryz.prog w0 H 61 [.pointer (some ⟨tb, 0, none⟩), .int .i64 cpu] (.tuple #[.int .i64 (rdyQ F.Qt F.Rt cpu).1, .bool (rdyQ F.Qt F.Rt cpu).2]) := by
 cases hF with
 | @mk tb wb g1 g2 rb db M HT HW H1 H2 HR HD HM hT hO hW h1 o1 h2 o2 hR hU hD hM =>
 exact ⟨tb, fun w0 H hs => lTimers_q (hs _ List.mem_cons_self) hM.m4, fun w0 H cpu hs => tReady_q hT (fun p hp => hs p (List.mem_cons_of_mem _ (List.mem_append_left _ hp)))⟩
theorem wReady0_q {w0 : World} {H : Heap} {HP : Heap} {wb pb n : Nat} {As : List Wone} {on : List Int} (hP : PendH pb n [] [] HP) (hn : n ≤ 64) (hm : (wb, .cells 291 546 (wkRow pb n As on)) ∈ H) (hq : ∀ p ∈ HP, p ∈ H) {cpu : Int}  : PureAt Tryz.prog w0 H 63 [.pointer (some ⟨wb, 0, none⟩), .int .i64 cpu] (.tuple #[.int .i64 0, .bool false]) := by
 refine L_enter Tryz.func63 rfl Tryz.ntmps63 rfl rfl ?_
 refine W_sr ?_
 refine W_assign rfl rfl ?_
 refine W_assign rfl rfl ?_
 refine W_nil (W_sr ?_)
 refine W_move rfl rfl ?_
 refine W_callq (.cons rfl .nil) Tryz.call118 rfl (winner_q hm) ?_
 refine W_move rfl rfl ?_
 refine W_callq (v := .tuple #[.int .i64 0, .bool false]) (.cons rfl (.cons rfl .nil)) Tryz.call117 rfl (hP.Ready_q hn hq (cpu := cpu)) ?_
 refine W_move rfl rfl ?_
 refine W_extract rfl rfl rfl ?_
 refine W_extract rfl rfl rfl ?_
 refine W_assign rfl rfl ?_
 refine W_assign rfl rfl ?_
 refine W_nil (W_sr ?_)
 refine W_move rfl rfl ?_
 refine W_move rfl rfl ?_
 refine W_move rfl rfl ?_
 refine W_gno rfl rfl rfl ?_
 refine W_gno rfl rfl rfl ?_
 refine W_gno rfl rfl rfl ?_
 refine W_gno rfl rfl rfl ?_
 first | refine W_pickt rfl rfl rfl ?_ | refine W_pickf rfl rfl rfl ?_
 refine W_assign rfl rfl ?_
 refine W_assign rfl rfl ?_
 refine W_nil ?_
 refine W_ret2m (H2 := H) Tryz.results63 rfl rfl (.nil _) zH ?_
 exact ⟨rfl, rfl⟩
theorem LifeH.wReady {lb T : Nat} {F : Lf} {HF : Heap} (hF : LifeH lb T F HF) (hq : F.Qw = []) (hr : F.Rw = []) : ∃ wb : Nat, (∀ (w0 : World) (H : Heap), (∀ p ∈ HF, p ∈ H) → PureAt Tryz.prog w0 H 62 [.pointer (some ⟨lb, 0, none⟩)] (.pointer (some ⟨wb, 0, none⟩))) ∧ ∀ (w0 : World) (H : Heap) (cpu : Int), (∀ p ∈ HF, p ∈ H) → PureAt Tryz.prog w0 H 63 [.pointer (some ⟨wb, 0, none⟩), .int .i64 cpu] (.tuple #[.int .i64 0, .bool false]) := by
 cases hF with
 | @mk tb wb g1 g2 rb db M HT HW H1 H2 HR HD HM hT hO hW h1 o1 h2 o2 hR hU hD hM =>
 cases hW with
 | @mk pb HP hP hA hn =>
 rw [hq, hr] at hP
 exact ⟨wb, fun w0 H hs => lWorks_q (hs _ List.mem_cons_self) hM.m4, fun w0 H cpu hs => wReady0_q hP hn (hs _ (List.mem_cons_of_mem _ (List.mem_append_right _ (List.mem_append_left _ List.mem_cons_self)))) (fun p hp => hs p (List.mem_cons_of_mem _ (List.mem_append_right _ (List.mem_append_left _ (List.mem_cons_of_mem _ hp)))))⟩
theorem kr0_C {cb lb gb mb n k b : Nat} (h : (kr0 cb lb gb mb n).C[k]? = some (some b)) : False := by
 rw [show (kr0 cb lb gb mb n).C = List.replicate 32 none from rfl, List.getElem?_replicate] at h
 split at h <;> cases h
theorem sel0 {cb lb gb mb n : Nat} : selL (kr0 cb lb gb mb n).C (fun _ => true) 32 = [] := by show selL (List.replicate 32 none) (fun _ => true) 32 = []; decide
theorem kLife_q {w0 : World} {H : Heap} {kb : Nat} {r : Kr} (hr : r.Ok) (hm : (kb, .cells 113 57 (knC r)) ∈ H)  : PureAt Tryz.prog w0 H 24 [.pointer (some ⟨kb, 0, none⟩)] (.pointer (some ⟨r.lf, 0, none⟩)) := by
 refine L_enter Tryz.func24 rfl Tryz.ntmps24 rfl rfl ?_
 refine W_sr ?_
 refine W_assign rfl rfl ?_
 refine W_nil (W_seq (W_sr ?_))
 refine W_move rfl rfl ?_
 refine W_x (X_ptrNil rfl rfl ty23) (fun _ h => by cases h) rfl ?_
 refine W_nil ?_
 refine W_condF rfl rfl ?_
 refine W_skip (W_sr ?_)
 refine W_move rfl rfl ?_
 refine W_nilCheck rfl rfl ?_
 refine W_fieldAddr rfl fld113_1 zd rfl ?_
 refine W_load (v := .pointer (some ⟨r.lf, 0, none⟩)) rfl ty64 rfl (Cell.own (b := kb) hm rfl) rfl ?_
 refine W_assign rfl rfl ?_
 refine W_nil ?_
 refine W_ret1m (H2 := H) Tryz.results24 rfl (.nil _) zH ?_
 exact ⟨rfl, rfl⟩
set_option maxRecDepth 100000
theorem kRun1_L {w0 : World} {H : Heap} {kb cb lb gb mb n : Nat} (hm : (kb, .cells 113 57 (knC (kr0 cb lb gb mb n))) ∈ H) {d2 d3 : Nat} {kd : Int} (h2 : (d2, .cells 23 1 [.pointer (some ⟨kb, 0, none⟩)]) ∈ H)  : LCalls Tryz.prog w0 57 #[.int .i64 kd, .pointer (some ⟨d2, 0, none⟩), .pointer (some ⟨d3, 0, none⟩)] (H) (fun v H' => ∃ XB, OwnS 3 1 v 0 ([]) XB ∧ H' = XB ++ H) := by
 have hr := kr0_ok cb lb gb mb n
 refine L_enter (l := [.int .i64 kd, .pointer (some ⟨d2, 0, none⟩), .pointer (some ⟨d3, 0, none⟩)]) Tryz.func57 rfl Tryz.ntmps57 rfl rfl ?_
 refine W_sr ?_
 refine W_box (l := [.int .i64 kd]) rfl rfl rfl (fun d4 => ?_)
 refine W_assign rfl rfl ?_
 refine W_nil (W_sr ?_)
 refine W_load (v := .pointer (some ⟨kb, 0, none⟩)) rfl ty23 rfl (Cell.own (b := d2) (List.mem_cons_of_mem _ h2) rfl) rfl ?_
 refine W_makeFunc .nil (.cons rfl (.cons rfl .nil)) rfl ?_
 refine W_call (.cons rfl (.cons rfl .nil)) Tryz.call55 rfl (klist_L (fi := 58) (ca := [.pointer (some ⟨d3, 0, none⟩), .pointer (some ⟨d4, 0, none⟩)]) (fun _ => true) Tryz.call58 hr (List.mem_cons_of_mem _ hm) (fun k b HZ hb hz => absurd hb (fun h => kr0_C h))) ?_
 rintro v H' ⟨XB, hO, rfl⟩
 rw [sel0] at hO
 change OwnS 3 1 v 0 ([]) XB at hO
 obtain ⟨ad, cap, rfl, -, -⟩ := hO.shape
 refine W_assign rfl rfl ?_
 refine W_nil ?_
 refine W_ret1m (H2 := XB ++ H) Tryz.results57 rfl (.nil _) zH ?_
 exact ⟨XB, hO, rfl⟩
theorem kRun0_L {w0 : World} {H : Heap} {kb cb lb gb mb n : Nat} (hm : (kb, .cells 113 57 (knC (kr0 cb lb gb mb n))) ∈ H) {Ws : List Wl} {HF : Heap} {cpu : Int} (hF : LifeH lb 8 (lf0 n Ws) HF) (hs : ∀ p ∈ HF, p ∈ H)  : LCalls Tryz.prog w0 18 #[.pointer (some ⟨kb, 0, none⟩), .int .i64 cpu] (H) (fun v H' => ∃ ad cap, v = .slice ad 0 cap ∧ H' = H) := by
 have hr := kr0_ok cb lb gb mb n
 obtain ⟨tb, hTi, hRd⟩ := hF.tReady
 obtain ⟨wb, hWo, hWr⟩ := hF.wReady rfl rfl
 refine L_enter (l := [.pointer (some ⟨kb, 0, none⟩), .int .i64 cpu]) Tryz.func18 rfl Tryz.ntmps18 rfl rfl ?_
 refine W_sr ?_
 refine W_box (l := [.pointer (some ⟨kb, 0, none⟩)]) rfl rfl rfl (fun d2 => ?_)
 refine W_box (l := [.int .i64 cpu]) rfl rfl rfl (fun d3 => ?_)
 refine W_assign rfl rfl ?_
 refine W_nil (W_seq (W_sr ?_))
 refine W_load (v := .pointer (some ⟨kb, 0, none⟩)) rfl ty23 rfl (Cell.own (b := d2) zM rfl) rfl ?_
 refine W_x (X_ptrNil rfl rfl ty23) (fun _ h => by cases h) rfl ?_
 refine W_nil ?_
 refine W_condF rfl rfl ?_
 refine W_skip (W_sr ?_)
 refine W_makeFunc .nil (.cons rfl (.cons rfl .nil)) rfl ?_
 refine W_assign rfl rfl ?_
 refine W_nil (W_sr ?_)
 refine W_move rfl rfl ?_
 refine W_callv (fa := #[]) (ca := #[.pointer (some ⟨d2, 0, none⟩), .pointer (some ⟨d3, 0, none⟩)]) rfl (.cons rfl .nil) Tryz.call57 rfl (kRun1_L (by repeat (first | exact hm | apply List.mem_cons_of_mem | apply List.mem_append_right)) zM) ?_
 rintro v H' ⟨XB, hO, rfl⟩
 obtain ⟨ad, cap, rfl, -, -⟩ := hO.shape
 refine W_assign rfl rfl ?_
 refine W_nil (W_sr ?_)
 refine W_load (v := .pointer (some ⟨kb, 0, none⟩)) rfl ty23 rfl (Cell.own (b := d2) zM rfl) rfl ?_
 refine W_makeFunc .nil (.cons rfl .nil) rfl ?_
 refine W_call (.cons rfl (.cons rfl .nil)) Tryz.call55 rfl (klist_L (fi := 59) (ca := [.pointer (some ⟨d3, 0, none⟩)]) (fun _ => true) Tryz.call59 hr (by repeat (first | exact hm | apply List.mem_cons_of_mem | apply List.mem_append_right)) (fun k b HZ hb hz => absurd hb (fun h => kr0_C h))) ?_
 rintro v H' ⟨XB2, hO2, rfl⟩
 rw [sel0] at hO2
 change OwnS 3 1 v 0 ([]) XB2 at hO2
 obtain ⟨ad2, cap2, rfl, -, -⟩ := hO2.shape
 refine W_assign rfl rfl ?_
 refine W_nil (W_seq ?_)
 refine W_quietsr zk zK ?_
 refine WQ_x (X_load (v := .pointer (some ⟨kb, 0, none⟩)) rfl ty23 rfl (Cell.own (b := d2) zM rfl)) rfl ?_
 refine WQ_x (X_nilCheck rfl) rfl ?_
 refine WQ_x (X_fieldAddr rfl fld113_1 zd) rfl ?_
 refine WQ_x (X_load (v := .pointer (some ⟨lb, 0, none⟩)) rfl ty64 rfl (Cell.own (b := kb) (by repeat (first | exact hm | apply List.mem_cons_of_mem | apply List.mem_append_right)) rfl)) rfl ?_
 refine WQ_callq (.cons rfl .nil) Tryz.call60 rfl (hTi _ _ (fun p hp => by repeat (first | exact hs p hp | apply List.mem_cons_of_mem | apply List.mem_append_right))) ?_
 refine WQ_x (X_load (v := .int .i64 cpu) rfl ty3 rfl (Cell.own (b := d3) zM rfl)) rfl ?_
 refine WQ_callq (v := .tuple #[.int .i64 0, .bool false]) (.cons rfl (.cons rfl .nil)) Tryz.call61 rfl (hRd _ _ cpu (fun p hp => by repeat (first | exact hs p hp | apply List.mem_cons_of_mem | apply List.mem_append_right))) ?_
 refine WQ_x (X_move rfl) rfl ?_
 refine WQ_x (X_extract rfl rfl) rfl ?_
 refine WQ_x (X_extract rfl rfl) rfl ?_
 refine WQ_x (X_assign rfl) rfl ?_
 refine WQ_x (X_assign rfl) rfl ?_
 refine WQ_nil ?_
 refine W_sr ?_
 refine W_move rfl rfl ?_
 refine W_move rfl rfl ?_
 refine W_gno rfl rfl rfl ?_
 refine W_gno rfl rfl rfl ?_
 refine W_gno rfl rfl rfl ?_
 first | refine W_pickt rfl rfl rfl ?_ | refine W_pickf rfl rfl rfl ?_
 refine W_nil ?_
 refine W_condF rfl rfl ?_
 refine W_skip (W_sr ?_)
 refine W_move rfl rfl ?_
 refine W_move rfl rfl ?_
 refine W_callv (fa := #[]) (ca := #[.pointer (some ⟨d2, 0, none⟩), .pointer (some ⟨d3, 0, none⟩)]) rfl (.cons rfl .nil) Tryz.call57 rfl (kRun1_L (by repeat (first | exact hm | apply List.mem_cons_of_mem | apply List.mem_append_right)) zM) ?_
 rintro v H' ⟨XB3, hO3, rfl⟩
 obtain ⟨ad3, cap3, rfl, -, -⟩ := hO3.shape
 refine W_append (news := []) (m := 0) (HB := XB) (H0 := XB3 ++ (XB2 ++ ((d3, .cells 3 1 [.int .i64 cpu]) :: (d2, .cells 23 1 [.pointer (some ⟨kb, 0, none⟩)]) :: H))) rfl rfl ty55 ty3 rfl zd hO rfl (fun j x hx => by cases hx) rfl zd zd zH rfl (fun v' XB4 hO4 => ?_)
 obtain ⟨ad4, cap4, rfl, -, -⟩ := hO4.shape
 refine W_assign rfl rfl ?_
 refine W_nil (W_sr ?_)
 refine W_move rfl rfl ?_
 refine W_move rfl rfl ?_
 refine W_callv (fa := #[]) (ca := #[.pointer (some ⟨d2, 0, none⟩), .pointer (some ⟨d3, 0, none⟩)]) rfl (.cons rfl .nil) Tryz.call57 rfl (kRun1_L (by repeat (first | exact hm | apply List.mem_cons_of_mem | apply List.mem_append_right)) zM) ?_
 rintro v H' ⟨XB5, hO5, rfl⟩
 obtain ⟨ad5, cap5, rfl, -, -⟩ := hO5.shape
 refine W_append (news := []) (m := 0) (HB := XB4) (H0 := XB5 ++ (XB3 ++ (XB2 ++ ((d3, .cells 3 1 [.int .i64 cpu]) :: (d2, .cells 23 1 [.pointer (some ⟨kb, 0, none⟩)]) :: H)))) rfl rfl ty55 ty3 rfl zd hO4 rfl (fun j x hx => by cases hx) rfl zd zd zH rfl (fun v' XB6 hO6 => ?_)
 obtain ⟨ad6, cap6, rfl, -, -⟩ := hO6.shape
 refine W_assign rfl rfl ?_
 refine W_nil (W_seq ?_)
 refine W_quietsr zk zK ?_
 refine WQ_x (X_load (v := .pointer (some ⟨kb, 0, none⟩)) rfl ty23 rfl (Cell.own (b := d2) zM rfl)) rfl ?_
 refine WQ_x (X_nilCheck rfl) rfl ?_
 refine WQ_x (X_fieldAddr rfl fld113_1 zd) rfl ?_
 refine WQ_x (X_load (v := .pointer (some ⟨lb, 0, none⟩)) rfl ty64 rfl (Cell.own (b := kb) (by repeat (first | exact hm | apply List.mem_cons_of_mem | apply List.mem_append_right)) rfl)) rfl ?_
 refine WQ_callq (.cons rfl .nil) Tryz.call62 rfl (hWo _ _ (fun p hp => by repeat (first | exact hs p hp | apply List.mem_cons_of_mem | apply List.mem_append_right))) ?_
 refine WQ_x (X_load (v := .int .i64 cpu) rfl ty3 rfl (Cell.own (b := d3) zM rfl)) rfl ?_
 refine WQ_callq (.cons rfl (.cons rfl .nil)) Tryz.call63 rfl (hWr _ _ cpu (fun p hp => by repeat (first | exact hs p hp | apply List.mem_cons_of_mem | apply List.mem_append_right))) ?_
 refine WQ_x (X_move rfl) rfl ?_
 refine WQ_x (X_extract rfl rfl) rfl ?_
 refine WQ_x (X_extract rfl rfl) rfl ?_
 refine WQ_x (X_assign rfl) rfl ?_
 refine WQ_x (X_assign rfl) rfl ?_
 refine WQ_nil ?_
 refine W_sr ?_
 refine W_move rfl rfl ?_
 refine W_nil ?_
 refine W_condF rfl rfl ?_
 refine W_skip (W_sr ?_)
 refine W_move rfl rfl ?_
 refine W_assign rfl rfl ?_
 refine W_nil ?_
 refine W_ret1m (H2 := H) Tryz.results18 rfl (.nil _) zH ?_
 exact ⟨_, _, rfl, rfl⟩
theorem live2 (cb lb gb mb n : Nat) : withL 0 (selL (kr0 cb lb gb mb n).C (fun _ => true) 32) = 0 := by show withL 0 (selL (List.replicate 32 none) (fun _ => true) 32) = 0; decide
theorem wdNew_range {z q now : Int} (h : z < 1 ∨ 64 < z) : Pure Tryz.prog (fun _ => True) 26 [.int .i64 z, .int .i64 q, .int .u64 now] (.tuple #[.pointer none, .int .i64 2]) := by
 intro w0 H hT
 refine L_enter Tryz.func26 rfl Tryz.ntmps26 rfl rfl ?_
 refine W_sr ?_
 refine W_assign rfl rfl ?_
 refine W_assign rfl rfl ?_
 refine W_nil (W_sr ?_)
 refine W_move rfl rfl ?_
 refine W_move rfl rfl ?_
 refine W_move rfl rfl ?_
 refine W_callp (.cons rfl (.cons rfl (.cons rfl .nil))) Tryz.call14 rfl (T := fun _ => True) trivial (knNew_range h) ?_
 refine W_move rfl rfl ?_
 refine W_extract rfl rfl rfl ?_
 refine W_extract rfl rfl rfl ?_
 refine W_assign rfl rfl ?_
 refine W_assign rfl rfl ?_
 refine W_nil (W_seq (W_sr ?_))
 refine W_move rfl rfl ?_
 refine W_bin rfl rfl b_neq rfl ?_
 refine W_nil ?_
 refine W_condT rfl rfl ?_
 refine W_sr ?_
 refine W_move rfl rfl ?_
 refine W_assign rfl rfl ?_
 refine W_assign rfl rfl ?_
 refine W_nil ?_
 refine W_ret2m (H2 := H) Tryz.results26 rfl rfl (.nil _) zH ?_
 exact ⟨rfl, rfl⟩
theorem wdNew_page {w0 : World} {H : Heap} {n now : Nat} {q : Int} (hn : 1 ≤ n ∧ n ≤ 64) (hnow : now ≤ 18446744073709551615) (h : q < 1 ∨ 16 < q)  : LCalls Tryz.prog w0 26 #[.int .i64 (n : Int), .int .i64 q, .int .u64 ((now : Nat) : Int)] (H) (fun v H' => v = .tuple #[.pointer none, .int .i64 2] ∧ H' = H) := by
 refine L_enter (l := [.int .i64 (n : Int), .int .i64 q, .int .u64 ((now : Nat) : Int)]) Tryz.func26 rfl Tryz.ntmps26 rfl rfl ?_
 refine W_sr ?_
 refine W_assign rfl rfl ?_
 refine W_assign rfl rfl ?_
 refine W_nil (W_sr ?_)
 refine W_move rfl rfl ?_
 refine W_move rfl rfl ?_
 refine W_move rfl rfl ?_
 refine W_call (.cons rfl (.cons rfl (.cons rfl .nil))) Tryz.call14 rfl ((knNew_page hn hnow h).hsub (.refl _)) ?_
 rintro v H' ⟨rfl, e⟩
 have e := e.symm
 subst e
 refine W_move rfl rfl ?_
 refine W_extract rfl rfl rfl ?_
 refine W_extract rfl rfl rfl ?_
 refine W_assign rfl rfl ?_
 refine W_assign rfl rfl ?_
 refine W_nil (W_seq (W_sr ?_))
 refine W_move rfl rfl ?_
 refine W_bin rfl rfl b_neq rfl ?_
 refine W_nil ?_
 refine W_condT rfl rfl ?_
 refine W_sr ?_
 refine W_move rfl rfl ?_
 refine W_assign rfl rfl ?_
 refine W_assign rfl rfl ?_
 refine W_nil ?_
 refine W_ret2m (H2 := H) Tryz.results26 rfl rfl (.nil _) zH ?_
 exact ⟨rfl, rfl⟩
theorem wdNew_L {w0 : World} {H : Heap} {n p now : Nat} (hn : 1 ≤ n ∧ n ≤ 64) (hp : 1 ≤ p ∧ p ≤ 16) (hnow : now ≤ 18446744073709551615)  : LCalls Tryz.prog w0 26 #[.int .i64 (n : Int), .int .i64 (p : Int), .int .u64 ((now : Nat) : Int)] (H) (fun v H' => ∃ wb kb cb lb gb mb Ws HF HG HM, v = .tuple #[.pointer (some ⟨wb, 0, none⟩), .int .i64 0] ∧ LifeH lb 8 (lf0 n Ws) HF ∧ H' = (wb, .cells 135 1 [.pointer (some ⟨kb, 0, none⟩)]) :: (kb, .cells 113 57 (knC (kr0 cb lb gb mb n))) :: ((cb, .cells 211 1 [.int .u64 ((now : Nat) : Int)]) :: (HG ++ (HM ++ (HF ++ H))))) := by
 refine L_enter (l := [.int .i64 (n : Int), .int .i64 (p : Int), .int .u64 ((now : Nat) : Int)]) Tryz.func26 rfl Tryz.ntmps26 rfl rfl ?_
 refine W_sr ?_
 refine W_assign rfl rfl ?_
 refine W_assign rfl rfl ?_
 refine W_nil (W_sr ?_)
 refine W_move rfl rfl ?_
 refine W_move rfl rfl ?_
 refine W_move rfl rfl ?_
 refine W_call (.cons rfl (.cons rfl (.cons rfl .nil))) Tryz.call14 rfl ((knNew_L (now := now) hn hp hnow).hsub (.refl _)) ?_
 rintro v H' ⟨kb, cb, lb, gb, mb, Ws, HF, HG, HM, rfl, hF, hWl, hfr, hG, hM, rfl⟩
 refine W_move rfl rfl ?_
 refine W_extract rfl rfl rfl ?_
 refine W_extract rfl rfl rfl ?_
 refine W_assign rfl rfl ?_
 refine W_assign rfl rfl ?_
 refine W_nil (W_seq (W_sr ?_))
 refine W_move rfl rfl ?_
 refine W_bin rfl rfl b_neq rfl ?_
 refine W_nil ?_
 refine W_condF rfl rfl ?_
 refine W_skip (W_sr ?_)
 refine W_move rfl rfl ?_
 refine W_build (l := [.pointer (some ⟨kb, 0, none⟩)]) ty135 pl135 (.cons rfl rfl rfl rfl rfl .nil) rfl zk rfl ?_
 refine W_box (l := [.pointer (some ⟨kb, 0, none⟩)]) rfl rfl rfl (fun wb => ?_)
 refine W_assign rfl rfl ?_
 refine W_assign rfl rfl ?_
 refine W_nil ?_
 refine W_ret2m (H2 := (wb, .cells 135 1 [.pointer (some ⟨kb, 0, none⟩)]) :: (kb, .cells 113 57 (knC (kr0 cb lb gb mb n))) :: ((cb, .cells 211 1 [.int .u64 ((now : Nat) : Int)]) :: (HG ++ (HM ++ (HF ++ H))))) Tryz.results26 rfl rfl (.nil _) zH ?_
 exact ⟨wb, kb, cb, lb, gb, mb, Ws, HF, HG, HM, rfl, hF, rfl⟩
theorem wMachine_q {w0 : World} {H : Heap} {wb kb : Nat} (hw : (wb, .cells 135 1 [.pointer (some ⟨kb, 0, none⟩)]) ∈ H)  : PureAt Tryz.prog w0 H 27 [.pointer (some ⟨wb, 0, none⟩)] (.pointer (some ⟨kb, 0, none⟩)) := by
 refine L_enter Tryz.func27 rfl Tryz.ntmps27 rfl rfl ?_
 refine W_sr ?_
 refine W_assign rfl rfl ?_
 refine W_nil (W_seq (W_sr ?_))
 refine W_move rfl rfl ?_
 refine W_x (X_ptrNil rfl rfl ty67) (fun _ h => by cases h) rfl ?_
 refine W_nil ?_
 refine W_condF rfl rfl ?_
 refine W_skip (W_sr ?_)
 refine W_move rfl rfl ?_
 refine W_nilCheck rfl rfl ?_
 refine W_fieldAddr rfl fld135_0 zd rfl ?_
 refine W_load (v := .pointer (some ⟨kb, 0, none⟩)) rfl ty23 rfl (Cell.own (b := wb) hw rfl) rfl ?_
 refine W_assign rfl rfl ?_
 refine W_nil ?_
 refine W_ret1m (H2 := H) Tryz.results27 rfl (.nil _) zH ?_
 exact ⟨rfl, rfl⟩
theorem wQuiet1_L {w0 : World} {H : Heap} {b1 wb kb cb lb gb mb n : Nat} {Ws : List Wl} {HF : Heap} {cpu : Int} (h1 : (b1, .cells 67 1 [.pointer (some ⟨wb, 0, none⟩)]) ∈ H) (hw : (wb, .cells 135 1 [.pointer (some ⟨kb, 0, none⟩)]) ∈ H) (hm : (kb, .cells 113 57 (knC (kr0 cb lb gb mb n))) ∈ H) (hF : LifeH lb 8 (lf0 n Ws) HF) (hs : ∀ p ∈ HF, p ∈ H)  : LCalls Tryz.prog w0 71 #[.int .i64 cpu, .pointer (some ⟨b1, 0, none⟩)] (H) (fun v H' => v = .bool true ∧ H' = H) := by
 refine L_enter (l := [.int .i64 cpu, .pointer (some ⟨b1, 0, none⟩)]) Tryz.func71 rfl Tryz.ntmps71 rfl rfl ?_
 refine W_sr ?_
 refine W_assign rfl rfl ?_
 refine W_nil (W_sr ?_)
 refine W_load (v := .pointer (some ⟨wb, 0, none⟩)) rfl ty67 rfl (Cell.own (b := b1) h1 rfl) rfl ?_
 refine W_nilCheck rfl rfl ?_
 refine W_fieldAddr rfl fld135_0 zd rfl ?_
 refine W_load (v := .pointer (some ⟨kb, 0, none⟩)) rfl ty23 rfl (Cell.own (b := wb) hw rfl) rfl ?_
 refine W_move rfl rfl ?_
 refine W_call (.cons rfl (.cons rfl .nil)) Tryz.call18 rfl (kRun0_L (cpu := cpu) hm hF hs) ?_
 rintro v H' ⟨ad, cap, rfl, e⟩
 have e := e.symm
 subst e
 refine W_len rfl ty55 rfl rfl ?_
 refine W_bin rfl rfl b_eql rfl ?_
 refine W_assign rfl rfl ?_
 refine W_nil ?_
 refine W_ret1m (H2 := H) Tryz.results71 rfl (.nil _) zH ?_
 exact ⟨rfl, rfl⟩
set_option maxRecDepth 100000
theorem wQuiet_L {w0 : World} {H : Heap} {wb kb cb lb gb mb n : Nat} {Ws : List Wl} {HF : Heap} (hw : (wb, .cells 135 1 [.pointer (some ⟨kb, 0, none⟩)]) ∈ H) (hm : (kb, .cells 113 57 (knC (kr0 cb lb gb mb n))) ∈ H) (hF : LifeH lb 8 (lf0 n Ws) HF) (hn : n ≤ 64)  : LCalls Tryz.prog w0 28 #[.pointer (some ⟨wb, 0, none⟩)] (HF ++ H) (fun v H' => v = .bool true ∧ H' = HF ++ H) := by
 have hr := kr0_ok cb lb gb mb n
 refine L_enter (l := [.pointer (some ⟨wb, 0, none⟩)]) Tryz.func28 rfl Tryz.ntmps28 rfl rfl ?_
 refine W_sr ?_
 refine W_box (l := [.pointer (some ⟨wb, 0, none⟩)]) rfl rfl rfl (fun b1 => ?_)
 refine W_assign rfl rfl ?_
 refine W_nil (W_seq (W_sr ?_))
 refine W_load (v := .pointer (some ⟨wb, 0, none⟩)) rfl ty67 rfl (Cell.own (b := b1) zM rfl) rfl ?_
 refine W_x (X_ptrNil rfl rfl ty67) (fun _ h => by cases h) rfl ?_
 refine W_nil ?_
 refine W_condF rfl rfl ?_
 refine W_skip (W_sr ?_)
 refine W_makeFunc .nil (.cons rfl .nil) rfl ?_
 refine W_assign rfl rfl ?_
 refine W_nil (W_seq (W_sr ?_))
 refine W_load (v := .pointer (some ⟨wb, 0, none⟩)) rfl ty67 rfl (Cell.own (b := b1) zM rfl) rfl ?_
 refine W_nilCheck rfl rfl ?_
 refine W_fieldAddr rfl fld135_0 zd rfl ?_
 refine W_load (v := .pointer (some ⟨kb, 0, none⟩)) rfl ty23 rfl (Cell.own (b := wb) (List.mem_cons_of_mem _ (List.mem_append_right _ hw)) rfl) rfl ?_
 refine W_callq (v := .int .i64 (n : Int)) (.cons rfl .nil) Tryz.call15 rfl (kCPUs_q hr (List.mem_cons_of_mem _ (List.mem_append_right _ hm))) ?_
 refine W_move rfl rfl ?_
 refine W_nil (W_block ?_)
 refine W_loopC (X := Nat) [(1, _), (3, _), (12, _)] (fun (i : Nat) => [(13, .int .i64 (i : Int))]) (fun _ => _) (fun (i : Nat) => (b1, .cells 67 1 [.pointer (some ⟨wb, 0, none⟩)]) :: (HF ++ H)) (fun (i : Nat) => i ≤ n) (fun (i : Nat) => n - i) 0 (Nat.zero_le _) (sub_cons rfl (sub_cons rfl (sub_cons rfl (sub_nil _)))) (sub_cons rfl (sub_nil _)) rfl zH ?_
 rintro i hi
 simp only [List.cons_append, List.nil_append]
 refine W_sr ?_
 refine W_bin rfl rfl b_lss rfl ?_
 refine W_nil (W_seq ?_)
 refine W_condPS (p := (i : Int) < (n : Int)) rfl (by simp) (fun q0 => ?_) (fun q0 => ?_)
 ·skip
  refine W_skip (W_seq ?_)
  refine W_block (W_sr ?_)
  refine W_move rfl rfl ?_
  refine W_assign rfl rfl ?_
  refine W_nil (W_sr ?_)
  refine W_move rfl rfl ?_
  refine W_move rfl rfl ?_
  refine W_callv (fa := #[]) (ca := #[.pointer (some ⟨b1, 0, none⟩)]) rfl (.cons rfl .nil) Tryz.call71 rfl (wQuiet1_L (cpu := (i : Int)) List.mem_cons_self (List.mem_cons_of_mem _ (List.mem_append_right _ hw)) (List.mem_cons_of_mem _ (List.mem_append_right _ hm)) hF (fun p hp => List.mem_cons_of_mem _ (List.mem_append_left _ hp))) ?_
  rintro v H' ⟨rfl, rfl⟩
  refine W_not rfl rfl ?_
  refine W_nil ?_
  refine W_condF rfl rfl ?_
  refine W_skip ?_
  refine W_blk ?_
  refine W_region ?_
  refine W_bin rfl rfl (b_add (m := ((i + 1 : Nat) : Int)) ((i64w zO).trans zO)) rfl ?_
  refine W_move rfl rfl ?_
  refine W_nil ?_
  refine W_again (i + 1) zO zO (sub_cons rfl (sub_cons rfl (sub_cons rfl (sub_cons rfl (sub_nil _))))) rfl zH
 ·skip
  refine W_exit rfl ?_
  refine W_sr ?_
  refine W_load (v := .pointer (some ⟨wb, 0, none⟩)) rfl ty67 rfl (Cell.own (b := b1) zM rfl) rfl ?_
  refine W_nilCheck rfl rfl ?_
  refine W_fieldAddr rfl fld135_0 zd rfl ?_
  refine W_load (v := .pointer (some ⟨kb, 0, none⟩)) rfl ty23 rfl (Cell.own (b := wb) (List.mem_cons_of_mem _ (List.mem_append_right _ hw)) rfl) rfl ?_
  have hlv := kLive_q (w0 := w0) hr (show (kb, .cells 113 57 (knC (kr0 cb lb gb mb n))) ∈ (b1, .cells 67 1 [.pointer (some ⟨wb, 0, none⟩)]) :: (HF ++ H) from (List.mem_cons_of_mem _ (List.mem_append_right _ hm)))
  rw [live2] at hlv
  refine W_callq (.cons rfl .nil) Tryz.call17 rfl hlv ?_
  refine W_bin rfl rfl b_eql rfl ?_
  refine W_move rfl rfl ?_
  refine W_gyes rfl rfl ?_
  refine W_load (v := .pointer (some ⟨wb, 0, none⟩)) rfl ty67 rfl (Cell.own (b := b1) zM rfl) rfl ?_
  refine W_gyes rfl rfl ?_
  refine W_nilCheck rfl rfl ?_
  refine W_gyes rfl rfl ?_
  refine W_fieldAddr rfl fld135_0 zd rfl ?_
  refine W_gyes rfl rfl ?_
  refine W_load (v := .pointer (some ⟨kb, 0, none⟩)) rfl ty23 rfl (Cell.own (b := wb) (List.mem_cons_of_mem _ (List.mem_append_right _ hw)) rfl) rfl ?_
  refine W_gyes rfl rfl ?_
  refine W_callq (v := .pointer (some ⟨lb, 0, none⟩)) (.cons rfl .nil) Tryz.call24 rfl (kLife_q hr (List.mem_cons_of_mem _ (List.mem_append_right _ hm))) ?_
  refine W_gyes rfl rfl ?_
  refine W_call (.cons rfl .nil) Tryz.call72 rfl ((LifeH.dying hF (Nat.zero_le _) List.nodup_nil (H := (b1, .cells 67 1 [.pointer (some ⟨wb, 0, none⟩)]) :: H)).hsub zH) ?_
  rintro v H' ⟨XB, hX, rfl⟩
  rw [show dyK (lf0 n Ws).dy = [] from List.mergeSort_nil] at hX
  obtain ⟨ad, cap, rfl, -, -⟩ := hX.shape
  refine W_gyes rfl rfl ?_
  refine W_len rfl ty55 rfl rfl ?_
  refine W_gyes rfl rfl ?_
  refine W_bin rfl rfl b_eql rfl ?_
  first | refine W_pickt rfl rfl rfl ?_ | refine W_pickf rfl rfl rfl ?_
  refine W_assign rfl rfl ?_
  refine W_nil ?_
  refine W_ret1m (H2 := HF ++ H) Tryz.results28 rfl (.nil _) zH ?_
  exact ⟨rfl, rfl⟩
theorem wRun_nil {w0 : World} {H : Heap} {b : Nat} {ad : Option Addr} {n cap : Nat} (hm : (b, .cells 28 1 [.slice ad n cap]) ∈ H)  : PureAt Tryz.prog w0 H 30 [.pointer none, .slice (some ⟨b, 0, none⟩) 1 1] (.slice none 0 0) := by
 refine L_enter Tryz.func30 rfl Tryz.ntmps30 rfl rfl ?_
 refine W_sr ?_
 refine W_assign rfl rfl ?_
 refine W_nil (W_sr ?_)
 refine W_assign rfl rfl ?_
 refine W_nil (W_seq (W_sr ?_))
 refine W_move rfl rfl ?_
 refine W_len rfl ty142 rfl rfl ?_
 refine W_move rfl rfl ?_
 refine W_nil (W_block ?_)
 refine W_loopC (X := Nat) [(0, _), (11, _), (12, _)] (fun (i : Nat) => [(13, .int .i64 0), (5, .slice none 0 0)]) (fun _ => _) (fun (i : Nat) => H) (fun (i : Nat) => i = 0) (fun (i : Nat) => 0) 0 rfl (sub_cons rfl (sub_cons rfl (sub_cons rfl (sub_nil _)))) (sub_cons rfl (sub_cons rfl (sub_nil _))) rfl zH ?_
 rintro i hi
 simp only [List.cons_append, List.nil_append]
 refine W_sr ?_
 refine W_bin rfl rfl b_lss rfl ?_
 refine W_nil (W_seq ?_)
 refine W_condT rfl rfl ?_
 refine W_skip (W_seq ?_)
 refine W_block (W_sr ?_)
 refine W_indexAddr (j := 0) rfl rfl ty142 ty28 zd zd rfl rfl ?_
 refine W_load (v := .slice ad n cap) rfl ty28 rfl (Cell.own (b := b) hm rfl) rfl ?_
 refine W_assign rfl rfl ?_
 refine W_nil (W_seq (W_sr ?_))
 refine W_move rfl rfl ?_
 refine W_x (X_ptrNil rfl rfl ty67) (fun _ h => by cases h) rfl ?_
 refine W_nil ?_
 refine W_condT rfl rfl ?_
 refine W_exit rfl ?_
 refine W_sr ?_
 refine W_move rfl rfl ?_
 refine W_assign rfl rfl ?_
 refine W_nil ?_
 refine W_ret1m (H2 := H) Tryz.results30 rfl (.nil _) zH ?_
 exact ⟨rfl, rfl⟩
open Go.Sl.Ev
theorem wBound_nil_ev {z : Int} : evG Tryz.prog (fun _ _ _ => none) 1000 25 [.vl (.pointer none), .vl (.int .i64 z)] = some (.tuple #[.int .i64 0, .bool false]) := by kernel_rfl
theorem wBound_nil {z : Int} : Pure Tryz.prog (fun _ => True) 25 [.pointer none, .int .i64 z] (.tuple #[.int .i64 0, .bool false]) := evG_pure mixed names (fun _ w _ _ => exts_none _ w) (show AV.Rs [] [.vl (.pointer none), .vl (.int .i64 z)] [.pointer none, .int .i64 z] from ⟨rfl, rfl, trivial⟩) wBound_nil_ev
theorem wRound_nil_ev  : evG Tryz.prog (fun _ _ _ => none) 1000 32 [.vl (.pointer none)] = some (.int .i64 0) := by kernel_rfl
theorem wRound_nil  : Pure Tryz.prog (fun _ => True) 32 [.pointer none] (.int .i64 0) := evG_pure mixed names (fun _ w _ _ => exts_none _ w) (show AV.Rs [] [.vl (.pointer none)] [.pointer none] from ⟨rfl, trivial⟩) wRound_nil_ev
theorem wQuiet_nil_ev  : evG Tryz.prog (fun _ _ _ => none) 1000 28 [.vl (.pointer none)] = some (.bool true) := by kernel_rfl
theorem wQuiet_nil  : Pure Tryz.prog (fun _ => True) 28 [.pointer none] (.bool true) := evG_pure mixed names (fun _ w _ _ => exts_none _ w) (show AV.Rs [] [.vl (.pointer none)] [.pointer none] from ⟨rfl, trivial⟩) wQuiet_nil_ev
theorem wLines_nil_ev {z : Int} : evG Tryz.prog (fun _ _ _ => none) 1000 33 [.vl (.pointer none), .vl (.int .i64 z)] = some (.slice none 0 0) := by kernel_rfl
theorem wLines_nil {z : Int} : Pure Tryz.prog (fun _ => True) 33 [.pointer none, .int .i64 z] (.slice none 0 0) := evG_pure mixed names (fun _ w _ _ => exts_none _ w) (show AV.Rs [] [.vl (.pointer none), .vl (.int .i64 z)] [.pointer none, .int .i64 z] from ⟨rfl, rfl, trivial⟩) wLines_nil_ev
theorem wMachine_nil_ev  : evG Tryz.prog (fun _ _ _ => none) 1000 27 [.vl (.pointer none)] = some (.pointer none) := by kernel_rfl
theorem wMachine_nil  : Pure Tryz.prog (fun _ => True) 27 [.pointer none] (.pointer none) := evG_pure mixed names (fun _ w _ _ => exts_none _ w) (show AV.Rs [] [.vl (.pointer none)] [.pointer none] from ⟨rfl, trivial⟩) wMachine_nil_ev
theorem sParse_nil_ev  : evG Tryz.prog (fun _ _ _ => none) 1000 34 [.vl (.slice none 0 0)] = some (.slice none 0 0) := by kernel_rfl
theorem sParse_nil  : Pure Tryz.prog (fun _ => True) 34 [.slice none 0 0] (.slice none 0 0) := evG_pure mixed names (fun _ w _ _ => exts_none _ w) (show AV.Rs [] [.vl (.slice none 0 0)] [.slice none 0 0] from ⟨rfl, trivial⟩) sParse_nil_ev
theorem wStep_nil {s0 s1 s2 s3 s4 s5 : Int} {ad : Option Addr} {n cap : Nat} : Pure Tryz.prog (fun _ => True) 31 [.pointer none, .agg (List.toArray [.int .i64 s0, .int .i64 s1, .int .i64 s2, .int .i64 s3, .int .u64 s4, .int .u64 s5, .slice ad n cap])] (.agg (List.toArray [.int .i64 0, .int .i64 s0, .int .u64 0, .int .i64 6])) := by
 intro w0 H hT
 refine L_enter Tryz.func31 rfl Tryz.ntmps31 rfl rfl ?_
 refine W_sr ?_
 refine W_box (l := [.int .i64 s0, .int .i64 s1, .int .i64 s2, .int .i64 s3, .int .u64 s4, .int .u64 s5, .slice ad n cap]) rfl rfl rfl (fun b3 => ?_)
 refine W_alloc (l := [.int .i64 0, .int .i64 0, .int .u64 0, .int .i64 0]) ty76 rfl rfl (fun b4 => ?_)
 refine W_nil ?_
 refine W_quietsr zk zK ?_
 refine WQ_x (X_move rfl) rfl ?_
 refine WQ_callp (.cons rfl .nil) Tryz.call27 rfl (T := fun _ => True) trivial (wMachine_nil) ?_
 refine WQ_x (X_loadB (vs := [.int .i64 s0, .int .i64 s1, .int .i64 s2, .int .i64 s3, .int .u64 s4, .int .u64 s5, .slice ad n cap]) rfl ty35 rfl (b := b3) zM rfl rfl) rfl ?_
 refine WQ_callp (.cons rfl (.cons rfl .nil)) Tryz.call11 rfl (T := fun _ => True) trivial (kDo_nil) ?_
 refine WQ_x (X_move rfl) rfl ?_
 refine WQ_x (X_extract rfl rfl) rfl ?_
 refine WQ_x (X_extract rfl rfl) rfl ?_
 refine WQ_x (X_assign rfl) rfl ?_
 refine WQ_x (X_assign rfl) rfl ?_
 refine WQ_nil ?_
 refine W_sr ?_
 refine W_fieldAddr rfl fld35_0 zd rfl ?_
 refine W_load (v := .int .i64 s0) rfl ty3 rfl (Cell.own (b := b3) zM rfl) rfl ?_
 refine W_move rfl rfl ?_
 refine W_move rfl rfl ?_
 refine W_build (l := [.int .i64 0, .int .i64 s0, .int .u64 0, .int .i64 6]) ty76 pl76 (.cons rfl rfl rfl rfl rfl (.cons rfl rfl rfl rfl rfl (.cons rfl rfl rfl rfl rfl .nil))) rfl zk rfl ?_
 refine W_storeA (l' := [.int .i64 0, .int .i64 s0, .int .u64 0, .int .i64 6]) rfl rfl ty76 rfl rfl (b := b4) zM (by exact Nat.le_refl 4) rfl zU ?_
 refine W_nil ?_
 refine W_ret1cO (H2 := H) Tryz.results31 rfl (.nil _) ty76 rfl zM rfl zH ?_
 exact ⟨rfl, rfl⟩
open Go.Sl.Ev
theorem wknown_ev : evT Tryz.prog (xFields 145 9) 100000 29 = true := by kernel_rfl
theorem wknown_pure : Pure Tryz.prog TabS 29 [] (.bool true) := evT_pure mixed names (fun w0 w h hb => extsF (tabS_of hb h)) wknown_ev
end Go.Proofs.YtcggkokeggfdkaaGreatDoor
