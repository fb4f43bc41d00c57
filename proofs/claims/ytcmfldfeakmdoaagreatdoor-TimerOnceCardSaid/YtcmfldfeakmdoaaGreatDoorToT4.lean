/-
  Own work: contracts of functions that the statement reaches, and plain facts on what they compute; each theorem says its conditions.
-/
import Derived.Test.YtcmfldfeakmdoaaGreatDoorToT3
import Derived.Test.YtcmfldfeakmdoaaGreatDoorToS2
import Derived.Test.YtcmfldfeakmdoaaGreatDoorToT2
import Derived.Test.YtcmfldfeakmdoaaGreatDoorToA
set_option linter.all false
set_option linter.unusedSimpArgs false
set_option linter.unusedVariables false
namespace Go.Proofs.YtcmfldfeakmdoaaGreatDoor
open Go Go.Sl
attribute [local irreducible] W
def rdyQ (Q Rs : List (Int × Int)) (cpu : Int) : Int × Bool := match quOf Q cpu with
  | [] => (0, false)
  | x :: _ => (x, (inR Rs x).isNone)
theorem quOf_none {n : Nat} {Q : List (Int × Int)} (h : QOk n Q) {cpu : Int} (hc : cpu < 0 ∨ (n : Int) ≤ cpu) : quOf Q cpu = [] := by
  cases e : quOf Q cpu with
  | nil => rfl
  | cons x l =>
    have h1 := (h.rng _ (mem_quOf.1 (e ▸ List.mem_cons_self : x ∈ quOf Q cpu))).2
    dsimp only at h1; omega
theorem optV_ways (o : Option Int) : (o = none ∧ optV o = .tuple #[.int .i64 0, .bool false]) ∨ ∃ x, o = some x ∧ optV o = .tuple #[.int .i64 x, .bool true] := by
  cases o with
  | none => exact .inl ⟨rfl, rfl⟩
  | some x => exact .inr ⟨x, rfl, rfl⟩
def begQ (n : Nat) (Q Rs : List (Int × Int)) (cpu c : Int) : List (Int × Int) × List (Int × Int) × Int × Int :=
  if (cpu < 0 ∨ (n : Int) ≤ cpu) ∨ c < 0 ∨ 32 ≤ c then (Q, Rs, 0, 2)
  else if (ofR Rs c).isSome = true then (Q, Rs, 0, 5)
  else match quOf Q cpu with
    | [] => (Q, Rs, 0, 4)
    | x :: _ => if (inR Rs x).isSome = true then (Q, Rs, 0, 21) else (delQ Q x, Rs ++ [(x, c)], x, 0)
def endQ (Rs : List (Int × Int)) (c : Int) : List (Int × Int) × Int × Int := match ofR Rs c with
  | none => (Rs, 0, 4)
  | some x => (Rs.filter (fun p => decide (p.1 ≠ x)), x, 0)
theorem RunsIs.begin {rn of_ : List Int} {Rs : List (Int × Int)} (h : RunsIs rn of_ Rs) {i c : Nat} (hi : i < 256) (hc : c < 32) (h1 : inR Rs (i : Int) = none) (h2 : ofR Rs (c : Int) = none) : RunsIs (rn.set i ((c : Int) + 1)) (of_.set c ((i : Int) + 1)) (Rs ++ [((i : Int), (c : Int))]) := by
  have n1 : ∀ x, ((i : Int), x) ∉ Rs := fun x hx => by rw [(inR_some h).2 hx] at h1; cases h1
  have n2 : ∀ x, (x, (c : Int)) ∉ Rs := fun x hx => by rw [(ofR_some h).2 hx] at h2; cases h2
  refine ⟨by rw [List.length_set, h.len1], by rw [List.length_set, h.len2], fun x hx => ?_, fun x hx => ?_, fun j d => ?_, fun j d => ?_, fun p hp => ?_, ?_⟩
  · rcases List.mem_or_eq_of_mem_set hx with hx | rfl
    · exact h.b1 x hx
    · omega
  · rcases List.mem_or_eq_of_mem_set hx with hx | rfl
    · exact h.b2 x hx
    · omega
  · rw [List.mem_append, List.mem_singleton]
    by_cases e : i = j
    · subst e
      rw [List.getElem?_set_self (by rw [h.len1]; exact hi)]
      constructor
      · intro e; have := Option.some.inj e; exact .inr (by rw [show d = c by omega])
      · rintro (h3 | h3)
        · exact absurd h3 (n1 _)
        · have := (Prod.mk.inj h3).2; congr 1; omega
    · rw [List.getElem?_set_ne e, h.r1 j d]
      constructor
      · exact .inl
      · rintro (h3 | h3)
        · exact h3
        · have := (Prod.mk.inj h3).1; exact absurd (show i = j by omega) e
  · rw [List.mem_append, List.mem_singleton]
    by_cases e : c = d
    · subst e
      rw [List.getElem?_set_self (by rw [h.len2]; exact hc)]
      constructor
      · intro e; have := Option.some.inj e; exact .inr (by rw [show j = i by omega])
      · rintro (h3 | h3)
        · exact absurd h3 (n2 _)
        · have := (Prod.mk.inj h3).1; congr 1; omega
    · rw [List.getElem?_set_ne e, h.r2 j d]
      constructor
      · exact .inl
      · rintro (h3 | h3)
        · exact h3
        · have := (Prod.mk.inj h3).2; exact absurd (show c = d by omega) e
  · rcases List.mem_append.1 hp with hp | hp
    · exact h.rng p hp
    · rw [List.mem_singleton.1 hp]; dsimp only; omega
  · rw [List.nodup_append]
    exact ⟨h.nd, by simp, fun x hx y hy e => n1 (c : Int) (by rw [List.mem_singleton] at hy; rw [← hy, ← e]; exact hx)⟩
theorem RunsIs.over {rn of_ : List Int} {Rs : List (Int × Int)} (h : RunsIs rn of_ Rs) {i c : Nat} (hm : ((i : Int), (c : Int)) ∈ Rs) : RunsIs (rn.set i 0) (of_.set c 0) (Rs.filter (fun p => decide (p.1 ≠ (i : Int)))) := by
  have hr := h.rng _ hm
  dsimp only at hr
  refine ⟨by rw [List.length_set, h.len1], by rw [List.length_set, h.len2], fun x hx => ?_, fun x hx => ?_, fun j d => ?_, fun j d => ?_, fun p hp => h.rng p (List.mem_filter.1 hp).1, h.nd.filter _⟩
  · rcases List.mem_or_eq_of_mem_set hx with hx | rfl
    · exact h.b1 x hx
    · omega
  · rcases List.mem_or_eq_of_mem_set hx with hx | rfl
    · exact h.b2 x hx
    · omega
  · rw [List.mem_filter]
    by_cases e : i = j
    · subst e
      rw [List.getElem?_set_self (by rw [h.len1]; omega)]
      constructor
      · intro e; have := Option.some.inj e; omega
      · rintro ⟨_, h4⟩; exact absurd rfl (of_decide_eq_true h4)
    · rw [List.getElem?_set_ne e, h.r1 j d]
      exact ⟨fun h3 => ⟨h3, decide_eq_true (by dsimp only; omega)⟩, fun h3 => h3.1⟩
  · rw [List.mem_filter]
    by_cases e : c = d
    · subst e
      rw [List.getElem?_set_self (by rw [h.len2]; omega)]
      constructor
      · intro e; have := Option.some.inj e; omega
      · rintro ⟨h3, h4⟩
        have := h.idn h3 hm (.inr rfl)
        have := (Prod.mk.inj this).1
        exact absurd this (of_decide_eq_true h4)
    · rw [List.getElem?_set_ne e, h.r2 j d]
      refine ⟨fun h3 => ⟨h3, decide_eq_true (fun e2 => e ?_)⟩, fun h3 => h3.1⟩
      have := h.idn h3 hm (.inl e2)
      have := (Prod.mk.inj this).2
      omega
theorem RingH.reads {R rb : Nat} {l : List Int} {X : Heap} (h : RingH R rb l X) {w0 : World} {H : Heap} (hm : ∀ p ∈ X, p ∈ H) : (∀ z : Int, PureAt Tryz.prog w0 H 100 [.pointer (some ⟨rb, 0, none⟩), .int .i64 z] (atV l z)) ∧ PureAt Tryz.prog w0 H 90 [.pointer (some ⟨rb, 0, none⟩)] (.int .i64 (l.length : Int)) := by
  cases h with
  | mk hI => exact ⟨fun z => rAt_q hI (hm _ List.mem_cons_self) (hm _ (List.mem_cons_of_mem _ List.mem_cons_self)), rLen_q (hm _ List.mem_cons_self)⟩
theorem PendH.ring {pb n k : Nat} {Q Rs : List (Int × Int)} {HB : Heap} (h : PendH pb n Q Rs HB) (hn : n ≤ 64) (hk : k < n) : ∃ rb X, RingH 256 rb (quOf Q (k : Int)) X ∧ (∀ p ∈ X, p ∈ HB) ∧ (∀ {w0 : World} {H : Heap}, (∀ p ∈ HB, p ∈ H) → PureAt Tryz.prog w0 H 87 [.pointer (some ⟨pb, 0, none⟩), .int .i64 (k : Int)] (rbP rb)) := by
  cases h with
  | @mk v XQ XS rbs rn of_ hv hl hr hrun hq =>
    have hvl := hv.length
    rw [List.length_map, Nat.mul_one] at hvl
    obtain ⟨rb, hrb⟩ : ∃ rb, rbs[k]? = some rb := ⟨_, List.getElem?_eq_getElem (by omega)⟩
    obtain ⟨X, hX⟩ : ∃ X, XS[k]? = some X := ⟨_, List.getElem?_eq_getElem (by omega)⟩
    refine ⟨rb, X, hr k rb X hrb hX, fun p hp => List.mem_cons_of_mem _ (List.mem_append_right _ (List.mem_flatten.2 ⟨X, List.mem_of_getElem? hX, hp⟩)), fun {w0 H} hm => ?_⟩
    obtain ⟨ad, cap, rfl, _, _, hrow⟩ := Holds.of_own (w0 := w0) (H := H) hv (fun p hp => hm p (List.mem_cons_of_mem _ (List.mem_append_left _ hp)))
    exact queue_at (n := n) (hm _ List.mem_cons_self) hrow (by omega) hn hrb
set_option maxHeartbeats 1000000 in
theorem Ready_no {w0 : World} {H : Heap} {HB : Heap} {pb n : Nat} {Q Rs : List (Int × Int)} (hP : PendH pb n Q Rs HB) (hn : n ≤ 64) {cpu : Int} (hm : ∀ p ∈ HB, p ∈ H) (hc : cpu < 0 ∨ (n : Int) ≤ cpu)  : PureAt Tryz.prog w0 H 66 [.pointer (some ⟨pb, 0, none⟩), .int .i64 cpu] (.tuple #[.int .i64 (rdyQ Q Rs cpu).1, .bool (rdyQ Q Rs cpu).2]) := by
  refine L_enter Tryz.func66 rfl Tryz.ntmps66 rfl rfl ?_
  refine W_sr ?_
  refine W_assign rfl rfl ?_
  refine W_assign rfl rfl ?_
  refine W_nil ?_
  refine W_sr ?_
  refine W_move rfl rfl ?_
  refine W_move rfl rfl ?_
  refine W_callq (.cons rfl (.cons rfl .nil)) Tryz.call87 rfl (hP.noq hn hc hm) ?_
  refine W_callp (.cons rfl (.cons rfl .nil)) Tryz.call100 rfl (T := fun _ => True) trivial rAt_nil ?_
  refine W_move rfl rfl ?_
  refine W_extract rfl rfl rfl ?_
  refine W_extract rfl rfl rfl ?_
  refine W_assign rfl rfl ?_
  refine W_assign rfl rfl ?_
  refine W_nil ?_
  refine W_sr ?_
  refine W_move rfl rfl ?_
  refine W_move rfl rfl ?_
  refine W_callq (.cons rfl (.cons rfl .nil)) Tryz.call68 rfl (hP.Runs_q (id := 0) hm) ?_
  rcases optV_ways (inR Rs (0)) with ⟨hir, e⟩ | ⟨cx, hir, e⟩
  · skip
    rw [e]
    refine W_move rfl rfl ?_
    refine W_extract rfl rfl rfl ?_
    refine W_extract rfl rfl rfl ?_
    refine W_assign rfl rfl ?_
    refine W_assign rfl rfl ?_
    refine W_nil ?_
    refine W_sr ?_
    refine W_move rfl rfl ?_
    refine W_move rfl rfl ?_
    refine W_move rfl rfl ?_
    refine W_gno rfl rfl rfl ?_
    refine W_gno rfl rfl rfl ?_
    first | refine W_pickt rfl rfl rfl ?_ | refine W_pickf rfl rfl rfl ?_
    refine W_assign rfl rfl ?_
    refine W_assign rfl rfl ?_
    refine W_nil ?_
    refine W_ret2m (H2 := H) Tryz.results66 rfl rfl (.nil _) zH ?_
    exact ⟨by unfold rdyQ; rw [quOf_none hP.ok hc]; rfl, rfl⟩
  · skip
    rw [e]
    refine W_move rfl rfl ?_
    refine W_extract rfl rfl rfl ?_
    refine W_extract rfl rfl rfl ?_
    refine W_assign rfl rfl ?_
    refine W_assign rfl rfl ?_
    refine W_nil ?_
    refine W_sr ?_
    refine W_move rfl rfl ?_
    refine W_move rfl rfl ?_
    refine W_move rfl rfl ?_
    refine W_gno rfl rfl rfl ?_
    refine W_gno rfl rfl rfl ?_
    first | refine W_pickt rfl rfl rfl ?_ | refine W_pickf rfl rfl rfl ?_
    refine W_assign rfl rfl ?_
    refine W_assign rfl rfl ?_
    refine W_nil ?_
    refine W_ret2m (H2 := H) Tryz.results66 rfl rfl (.nil _) zH ?_
    exact ⟨by unfold rdyQ; rw [quOf_none hP.ok hc]; rfl, rfl⟩
set_option maxHeartbeats 1000000 in
theorem Ready_nil {w0 : World} {H : Heap} {HB : Heap} {pb n : Nat} {Q Rs : List (Int × Int)} (hP : PendH pb n Q Rs HB) (hn : n ≤ 64) {k : Nat} (hm : ∀ p ∈ HB, p ∈ H) (hk : k < n) (he : quOf Q (k : Int) = [])  : PureAt Tryz.prog w0 H 66 [.pointer (some ⟨pb, 0, none⟩), .int .i64 (k : Int)] (.tuple #[.int .i64 (rdyQ Q Rs (k : Int)).1, .bool (rdyQ Q Rs (k : Int)).2]) := by
  obtain ⟨rb, X, hR, hXm, hqu⟩ := hP.ring hn hk
  obtain ⟨hat, hle⟩ := hR.reads (w0 := w0) (fun p hp => hm p (hXm p hp))
  refine L_enter Tryz.func66 rfl Tryz.ntmps66 rfl rfl ?_
  refine W_sr ?_
  refine W_assign rfl rfl ?_
  refine W_assign rfl rfl ?_
  refine W_nil ?_
  refine W_sr ?_
  refine W_move rfl rfl ?_
  refine W_move rfl rfl ?_
  refine W_callq (.cons rfl (.cons rfl .nil)) Tryz.call87 rfl (hqu hm) ?_
  refine W_callq (.cons rfl (.cons rfl .nil)) Tryz.call100 rfl (hat 0) ?_
  rw [he, show atV [] 0 = .tuple #[.int .i64 0, .bool false] from rfl]
  refine W_move rfl rfl ?_
  refine W_extract rfl rfl rfl ?_
  refine W_extract rfl rfl rfl ?_
  refine W_assign rfl rfl ?_
  refine W_assign rfl rfl ?_
  refine W_nil ?_
  refine W_sr ?_
  refine W_move rfl rfl ?_
  refine W_move rfl rfl ?_
  refine W_callq (.cons rfl (.cons rfl .nil)) Tryz.call68 rfl (hP.Runs_q (id := 0) hm) ?_
  rcases optV_ways (inR Rs (0)) with ⟨hir, e⟩ | ⟨cx, hir, e⟩
  · skip
    rw [e]
    refine W_move rfl rfl ?_
    refine W_extract rfl rfl rfl ?_
    refine W_extract rfl rfl rfl ?_
    refine W_assign rfl rfl ?_
    refine W_assign rfl rfl ?_
    refine W_nil ?_
    refine W_sr ?_
    refine W_move rfl rfl ?_
    refine W_move rfl rfl ?_
    refine W_move rfl rfl ?_
    refine W_gno rfl rfl rfl ?_
    refine W_gno rfl rfl rfl ?_
    first | refine W_pickt rfl rfl rfl ?_ | refine W_pickf rfl rfl rfl ?_
    refine W_assign rfl rfl ?_
    refine W_assign rfl rfl ?_
    refine W_nil ?_
    refine W_ret2m (H2 := H) Tryz.results66 rfl rfl (.nil _) zH ?_
    exact ⟨by unfold rdyQ; rw [he]; rfl, rfl⟩
  · skip
    rw [e]
    refine W_move rfl rfl ?_
    refine W_extract rfl rfl rfl ?_
    refine W_extract rfl rfl rfl ?_
    refine W_assign rfl rfl ?_
    refine W_assign rfl rfl ?_
    refine W_nil ?_
    refine W_sr ?_
    refine W_move rfl rfl ?_
    refine W_move rfl rfl ?_
    refine W_move rfl rfl ?_
    refine W_gno rfl rfl rfl ?_
    refine W_gno rfl rfl rfl ?_
    first | refine W_pickt rfl rfl rfl ?_ | refine W_pickf rfl rfl rfl ?_
    refine W_assign rfl rfl ?_
    refine W_assign rfl rfl ?_
    refine W_nil ?_
    refine W_ret2m (H2 := H) Tryz.results66 rfl rfl (.nil _) zH ?_
    exact ⟨by unfold rdyQ; rw [he]; rfl, rfl⟩
set_option maxHeartbeats 1000000 in
theorem Ready_at {w0 : World} {H : Heap} {HB : Heap} {pb n : Nat} {Q Rs : List (Int × Int)} (hP : PendH pb n Q Rs HB) (hn : n ≤ 64) {k : Nat} {x : Int} {l : List Int} (hm : ∀ p ∈ HB, p ∈ H) (hk : k < n) (he : quOf Q (k : Int) = x :: l)  : PureAt Tryz.prog w0 H 66 [.pointer (some ⟨pb, 0, none⟩), .int .i64 (k : Int)] (.tuple #[.int .i64 (rdyQ Q Rs (k : Int)).1, .bool (rdyQ Q Rs (k : Int)).2]) := by
  obtain ⟨rb, X, hR, hXm, hqu⟩ := hP.ring hn hk
  obtain ⟨hat, hle⟩ := hR.reads (w0 := w0) (fun p hp => hm p (hXm p hp))
  refine L_enter Tryz.func66 rfl Tryz.ntmps66 rfl rfl ?_
  refine W_sr ?_
  refine W_assign rfl rfl ?_
  refine W_assign rfl rfl ?_
  refine W_nil ?_
  refine W_sr ?_
  refine W_move rfl rfl ?_
  refine W_move rfl rfl ?_
  refine W_callq (.cons rfl (.cons rfl .nil)) Tryz.call87 rfl (hqu hm) ?_
  refine W_callq (.cons rfl (.cons rfl .nil)) Tryz.call100 rfl (hat 0) ?_
  rw [he, show atV (x :: l) 0 = .tuple #[.int .i64 x, .bool true] from rfl]
  refine W_move rfl rfl ?_
  refine W_extract rfl rfl rfl ?_
  refine W_extract rfl rfl rfl ?_
  refine W_assign rfl rfl ?_
  refine W_assign rfl rfl ?_
  refine W_nil ?_
  refine W_sr ?_
  refine W_move rfl rfl ?_
  refine W_move rfl rfl ?_
  refine W_callq (.cons rfl (.cons rfl .nil)) Tryz.call68 rfl (hP.Runs_q (id := x) hm) ?_
  rcases optV_ways (inR Rs (x)) with ⟨hir, e⟩ | ⟨cx, hir, e⟩
  · skip
    rw [e]
    refine W_move rfl rfl ?_
    refine W_extract rfl rfl rfl ?_
    refine W_extract rfl rfl rfl ?_
    refine W_assign rfl rfl ?_
    refine W_assign rfl rfl ?_
    refine W_nil ?_
    refine W_sr ?_
    refine W_move rfl rfl ?_
    refine W_move rfl rfl ?_
    refine W_move rfl rfl ?_
    refine W_gyes rfl rfl ?_
    refine W_move rfl rfl ?_
    refine W_gyes rfl rfl ?_
    refine W_not rfl rfl ?_
    first | refine W_pickt rfl rfl rfl ?_ | refine W_pickf rfl rfl rfl ?_
    refine W_assign rfl rfl ?_
    refine W_assign rfl rfl ?_
    refine W_nil ?_
    refine W_ret2m (H2 := H) Tryz.results66 rfl rfl (.nil _) zH ?_
    exact ⟨by unfold rdyQ; rw [he]; dsimp only; rw [hir]; rfl, rfl⟩
  · skip
    rw [e]
    refine W_move rfl rfl ?_
    refine W_extract rfl rfl rfl ?_
    refine W_extract rfl rfl rfl ?_
    refine W_assign rfl rfl ?_
    refine W_assign rfl rfl ?_
    refine W_nil ?_
    refine W_sr ?_
    refine W_move rfl rfl ?_
    refine W_move rfl rfl ?_
    refine W_move rfl rfl ?_
    refine W_gyes rfl rfl ?_
    refine W_move rfl rfl ?_
    refine W_gyes rfl rfl ?_
    refine W_not rfl rfl ?_
    first | refine W_pickt rfl rfl rfl ?_ | refine W_pickf rfl rfl rfl ?_
    refine W_assign rfl rfl ?_
    refine W_assign rfl rfl ?_
    refine W_nil ?_
    refine W_ret2m (H2 := H) Tryz.results66 rfl rfl (.nil _) zH ?_
    exact ⟨by unfold rdyQ; rw [he]; dsimp only; rw [hir]; rfl, rfl⟩
theorem PendH.Ready_q {HB : Heap} {pb n : Nat} {Q Rs : List (Int × Int)} (hP : PendH pb n Q Rs HB) (hn : n ≤ 64) {w0 : World} {H : Heap} (hm : ∀ p ∈ HB, p ∈ H) {cpu : Int} : PureAt Tryz.prog w0 H 66 [.pointer (some ⟨pb, 0, none⟩), .int .i64 cpu] (.tuple #[.int .i64 (rdyQ Q Rs cpu).1, .bool (rdyQ Q Rs cpu).2]) := by
  by_cases h : cpu < 0 ∨ (n : Int) ≤ cpu
  · exact Ready_no hP hn hm h
  · obtain ⟨k, rfl⟩ : ∃ k : Nat, cpu = (k : Int) := ⟨cpu.toNat, by omega⟩
    cases he : quOf Q (k : Int) with
    | nil => exact Ready_nil hP hn hm (by omega) he
    | cons x l => exact Ready_at hP hn hm (by omega) he
set_option maxHeartbeats 1000000 in
theorem Begin_cpu {w0 : World} {H : Heap} {HB : Heap} {pb n : Nat} {Q Rs : List (Int × Int)} (hP : PendH pb n Q Rs HB) (hn : n ≤ 64) {cpu c : Int} (hc : cpu < 0 ∨ (n : Int) ≤ cpu)  : LCalls Tryz.prog w0 52 #[.pointer (some ⟨pb, 0, none⟩), .int .i64 cpu, .int .i64 c] (HB ++ H) (fun v H' => ∃ HB', PendH pb n (begQ n Q Rs cpu c).1 (begQ n Q Rs cpu c).2.1 HB' ∧ v = .tuple #[.int .i64 (begQ n Q Rs cpu c).2.2.1, .int .i64 (begQ n Q Rs cpu c).2.2.2] ∧ H' = HB' ++ H) := by
  refine L_enter (l := [.pointer (some ⟨pb, 0, none⟩), .int .i64 cpu, .int .i64 c]) Tryz.func52 rfl Tryz.ntmps52 rfl rfl ?_
  refine W_sr ?_
  refine W_assign rfl rfl ?_
  refine W_assign rfl rfl ?_
  refine W_nil ?_
  refine W_seq ?_
  refine W_block ?_
  refine W_sr ?_
  refine W_move rfl rfl ?_
  refine W_x (X_ptrNil rfl rfl ty81) (fun _ h => by cases h) rfl ?_
  refine W_assign rfl rfl ?_
  refine W_nil ?_
  refine W_condF rfl rfl ?_
  refine W_sr ?_
  refine W_move rfl rfl ?_
  refine W_move rfl rfl ?_
  refine W_callq (.cons rfl (.cons rfl .nil)) Tryz.call87 rfl (hP.noq hn hc (fun p hp => List.mem_append_left _ hp)) ?_
  refine W_x (X_ptrNil rfl rfl ty127) (fun _ h => by cases h) rfl ?_
  refine W_move rfl rfl ?_
  refine W_gno rfl rfl rfl ?_
  refine W_gno rfl rfl rfl ?_
  first | refine W_pickt rfl rfl rfl ?_ | refine W_pickf rfl rfl rfl ?_
  refine W_move rfl rfl ?_
  refine W_gno rfl rfl rfl ?_
  refine W_gno rfl rfl rfl ?_
  first | refine W_pickt rfl rfl rfl ?_ | refine W_pickf rfl rfl rfl ?_
  refine W_assign rfl rfl ?_
  refine W_nil ?_
  refine W_condT rfl rfl ?_
  refine W_sr ?_
  refine W_assign rfl rfl ?_
  refine W_assign rfl rfl ?_
  refine W_nil ?_
  refine W_ret2m (H2 := HB ++ H) Tryz.results52 rfl rfl (.nil _) zH ?_
  have e : begQ n Q Rs cpu c = (Q, Rs, 0, 2) := if_pos (.inl hc)
  rw [e]
  exact ⟨HB, hP, rfl, rfl⟩
set_option maxHeartbeats 1000000 in
theorem Begin_lo {w0 : World} {H : Heap} {HB : Heap} {pb n : Nat} {Q Rs : List (Int × Int)} (hP : PendH pb n Q Rs HB) (hn : n ≤ 64) {k : Nat} {c : Int} (hk : k < n) (hc : c < 0)  : LCalls Tryz.prog w0 52 #[.pointer (some ⟨pb, 0, none⟩), .int .i64 (k : Int), .int .i64 c] (HB ++ H) (fun v H' => ∃ HB', PendH pb n (begQ n Q Rs (k : Int) c).1 (begQ n Q Rs (k : Int) c).2.1 HB' ∧ v = .tuple #[.int .i64 (begQ n Q Rs (k : Int) c).2.2.1, .int .i64 (begQ n Q Rs (k : Int) c).2.2.2] ∧ H' = HB' ++ H) := by
  obtain ⟨rb, X, hR, hXm, hqu⟩ := hP.ring hn hk
  refine L_enter (l := [.pointer (some ⟨pb, 0, none⟩), .int .i64 (k : Int), .int .i64 c]) Tryz.func52 rfl Tryz.ntmps52 rfl rfl ?_
  refine W_sr ?_
  refine W_assign rfl rfl ?_
  refine W_assign rfl rfl ?_
  refine W_nil ?_
  refine W_seq ?_
  refine W_block ?_
  refine W_sr ?_
  refine W_move rfl rfl ?_
  refine W_x (X_ptrNil rfl rfl ty81) (fun _ h => by cases h) rfl ?_
  refine W_assign rfl rfl ?_
  refine W_nil ?_
  refine W_condF rfl rfl ?_
  refine W_sr ?_
  refine W_move rfl rfl ?_
  refine W_move rfl rfl ?_
  refine W_callq (.cons rfl (.cons rfl .nil)) Tryz.call87 rfl (hqu (fun p hp => List.mem_append_left _ hp)) ?_
  refine W_x (X_ptrNil rfl rfl ty127) (fun _ h => by cases h) rfl ?_
  refine W_move rfl rfl ?_
  refine W_gyes rfl rfl ?_
  refine W_move rfl rfl ?_
  refine W_gyes rfl rfl ?_
  refine W_bin rfl rfl b_lss rfl ?_
  first | rw [decide_eq_true (by omega)] | rw [decide_eq_false (by omega)]
  first | refine W_pickt rfl rfl rfl ?_ | refine W_pickf rfl rfl rfl ?_
  refine W_move rfl rfl ?_
  refine W_gno rfl rfl rfl ?_
  refine W_gno rfl rfl rfl ?_
  first | refine W_pickt rfl rfl rfl ?_ | refine W_pickf rfl rfl rfl ?_
  refine W_assign rfl rfl ?_
  refine W_nil ?_
  refine W_condT rfl rfl ?_
  refine W_sr ?_
  refine W_assign rfl rfl ?_
  refine W_assign rfl rfl ?_
  refine W_nil ?_
  refine W_ret2m (H2 := HB ++ H) Tryz.results52 rfl rfl (.nil _) zH ?_
  have e : begQ n Q Rs (k : Int) c = (Q, Rs, 0, 2) := if_pos (.inr (.inl hc))
  rw [e]
  exact ⟨HB, hP, rfl, rfl⟩
set_option maxHeartbeats 1000000 in
theorem Begin_hi {w0 : World} {H : Heap} {HB : Heap} {pb n : Nat} {Q Rs : List (Int × Int)} (hP : PendH pb n Q Rs HB) (hn : n ≤ 64) {k : Nat} {c : Int} (hk : k < n) (hc : 32 ≤ c)  : LCalls Tryz.prog w0 52 #[.pointer (some ⟨pb, 0, none⟩), .int .i64 (k : Int), .int .i64 c] (HB ++ H) (fun v H' => ∃ HB', PendH pb n (begQ n Q Rs (k : Int) c).1 (begQ n Q Rs (k : Int) c).2.1 HB' ∧ v = .tuple #[.int .i64 (begQ n Q Rs (k : Int) c).2.2.1, .int .i64 (begQ n Q Rs (k : Int) c).2.2.2] ∧ H' = HB' ++ H) := by
  obtain ⟨rb, X, hR, hXm, hqu⟩ := hP.ring hn hk
  refine L_enter (l := [.pointer (some ⟨pb, 0, none⟩), .int .i64 (k : Int), .int .i64 c]) Tryz.func52 rfl Tryz.ntmps52 rfl rfl ?_
  refine W_sr ?_
  refine W_assign rfl rfl ?_
  refine W_assign rfl rfl ?_
  refine W_nil ?_
  refine W_seq ?_
  refine W_block ?_
  refine W_sr ?_
  refine W_move rfl rfl ?_
  refine W_x (X_ptrNil rfl rfl ty81) (fun _ h => by cases h) rfl ?_
  refine W_assign rfl rfl ?_
  refine W_nil ?_
  refine W_condF rfl rfl ?_
  refine W_sr ?_
  refine W_move rfl rfl ?_
  refine W_move rfl rfl ?_
  refine W_callq (.cons rfl (.cons rfl .nil)) Tryz.call87 rfl (hqu (fun p hp => List.mem_append_left _ hp)) ?_
  refine W_x (X_ptrNil rfl rfl ty127) (fun _ h => by cases h) rfl ?_
  refine W_move rfl rfl ?_
  refine W_gyes rfl rfl ?_
  refine W_move rfl rfl ?_
  refine W_gyes rfl rfl ?_
  refine W_bin rfl rfl b_lss rfl ?_
  first | rw [decide_eq_true (by omega)] | rw [decide_eq_false (by omega)]
  first | refine W_pickt rfl rfl rfl ?_ | refine W_pickf rfl rfl rfl ?_
  refine W_move rfl rfl ?_
  refine W_gyes rfl rfl ?_
  refine W_move rfl rfl ?_
  refine W_gyes rfl rfl ?_
  refine W_bin rfl rfl b_geq rfl ?_
  first | rw [decide_eq_true (by omega)] | rw [decide_eq_false (by omega)]
  first | refine W_pickt rfl rfl rfl ?_ | refine W_pickf rfl rfl rfl ?_
  refine W_assign rfl rfl ?_
  refine W_nil ?_
  refine W_condT rfl rfl ?_
  refine W_sr ?_
  refine W_assign rfl rfl ?_
  refine W_assign rfl rfl ?_
  refine W_nil ?_
  refine W_ret2m (H2 := HB ++ H) Tryz.results52 rfl rfl (.nil _) zH ?_
  have e : begQ n Q Rs (k : Int) c = (Q, Rs, 0, 2) := if_pos (.inr (.inr hc))
  rw [e]
  exact ⟨HB, hP, rfl, rfl⟩
set_option maxHeartbeats 1000000 in
theorem Begin_busy {w0 : World} {H : Heap} {HB : Heap} {pb n : Nat} {Q Rs : List (Int × Int)} (hP : PendH pb n Q Rs HB) (hn : n ≤ 64) {k j : Nat} (hk : k < n) (hj : j < 32) {z : Int} (ho : ofR Rs (j : Int) = some z)  : LCalls Tryz.prog w0 52 #[.pointer (some ⟨pb, 0, none⟩), .int .i64 (k : Int), .int .i64 (j : Int)] (HB ++ H) (fun v H' => ∃ HB', PendH pb n (begQ n Q Rs (k : Int) (j : Int)).1 (begQ n Q Rs (k : Int) (j : Int)).2.1 HB' ∧ v = .tuple #[.int .i64 (begQ n Q Rs (k : Int) (j : Int)).2.2.1, .int .i64 (begQ n Q Rs (k : Int) (j : Int)).2.2.2] ∧ H' = HB' ++ H) := by
  obtain ⟨v0, XX, rn, of_, rfl, hRun, hRup⟩ := hP.runs
  obtain ⟨y, hy⟩ : ∃ y, of_[j]? = some y := ⟨_, List.getElem?_eq_getElem (by rw [hRun.len2]; exact hj)⟩
  have hyb := hRun.b2 y (List.mem_of_getElem? hy)
  have hoj := ofR_at hRun hy
  obtain ⟨rb, X, hR, hXm, hqu⟩ := hP.ring hn hk
  have hy0 : y ≠ 0 := fun e => by rw [ho, if_pos e] at hoj; cases hoj
  refine L_enter (l := [.pointer (some ⟨pb, 0, none⟩), .int .i64 (k : Int), .int .i64 (j : Int)]) Tryz.func52 rfl Tryz.ntmps52 rfl rfl ?_
  refine W_sr ?_
  refine W_assign rfl rfl ?_
  refine W_assign rfl rfl ?_
  refine W_nil ?_
  refine W_seq ?_
  refine W_block ?_
  refine W_sr ?_
  refine W_move rfl rfl ?_
  refine W_x (X_ptrNil rfl rfl ty81) (fun _ h => by cases h) rfl ?_
  refine W_assign rfl rfl ?_
  refine W_nil ?_
  refine W_condF rfl rfl ?_
  refine W_sr ?_
  refine W_move rfl rfl ?_
  refine W_move rfl rfl ?_
  refine W_callq (.cons rfl (.cons rfl .nil)) Tryz.call87 rfl (hqu (fun p hp => List.mem_append_left _ hp)) ?_
  refine W_x (X_ptrNil rfl rfl ty127) (fun _ h => by cases h) rfl ?_
  refine W_move rfl rfl ?_
  refine W_gyes rfl rfl ?_
  refine W_move rfl rfl ?_
  refine W_gyes rfl rfl ?_
  refine W_bin rfl rfl b_lss rfl ?_
  first | rw [decide_eq_true (by omega)] | rw [decide_eq_false (by omega)]
  first | refine W_pickt rfl rfl rfl ?_ | refine W_pickf rfl rfl rfl ?_
  refine W_move rfl rfl ?_
  refine W_gyes rfl rfl ?_
  refine W_move rfl rfl ?_
  refine W_gyes rfl rfl ?_
  refine W_bin rfl rfl b_geq rfl ?_
  first | rw [decide_eq_true (by omega)] | rw [decide_eq_false (by omega)]
  first | refine W_pickt rfl rfl rfl ?_ | refine W_pickf rfl rfl rfl ?_
  refine W_assign rfl rfl ?_
  refine W_nil ?_
  refine W_condF rfl rfl ?_
  refine W_sr ?_
  refine W_move rfl rfl ?_
  refine W_move rfl rfl ?_
  refine W_nilCheck rfl rfl ?_
  refine W_fieldAddr rfl fld126_2 (by decide) rfl ?_
  refine W_indexAddrA (j := j) rfl rfl ty124 ty3 (by first | rfl | omega) (by first | decide | omega | simp) rfl rfl ?_
  refine W_load (v := .int .i64 y) rfl ty3 rfl (Cell.own (b := pb) List.mem_cons_self (by simpa using peRow_of hRun.len1 hy)) rfl ?_
  refine W_bin rfl rfl b_gtr rfl ?_
  rw [decide_eq_true (by omega)]
  refine W_assign rfl rfl ?_
  refine W_nil ?_
  refine W_condT rfl rfl ?_
  refine W_sr ?_
  refine W_assign rfl rfl ?_
  refine W_assign rfl rfl ?_
  refine W_nil ?_
  refine W_ret2m (H2 := ((pb, .cells 126 289 (peRow v0 rn of_)) :: XX) ++ H) Tryz.results52 rfl rfl (.nil _) zH ?_
  have h0 : ¬ (((k : Int) < 0 ∨ (n : Int) ≤ (k : Int)) ∨ (j : Int) < 0 ∨ 32 ≤ (j : Int)) := by omega
  have e : begQ n Q Rs (k : Int) (j : Int) = (Q, Rs, 0, 5) := by
    unfold begQ
    rw [if_neg h0, if_pos (by rw [ho]; rfl)]
  rw [e]
  exact ⟨_, hP, rfl, rfl⟩
set_option maxHeartbeats 1000000 in
theorem Begin_none {w0 : World} {H : Heap} {HB : Heap} {pb n : Nat} {Q Rs : List (Int × Int)} (hP : PendH pb n Q Rs HB) (hn : n ≤ 64) {k j : Nat} (hk : k < n) (hj : j < 32) (ho : ofR Rs (j : Int) = none) (he : quOf Q (k : Int) = [])  : LCalls Tryz.prog w0 52 #[.pointer (some ⟨pb, 0, none⟩), .int .i64 (k : Int), .int .i64 (j : Int)] (HB ++ H) (fun v H' => ∃ HB', PendH pb n (begQ n Q Rs (k : Int) (j : Int)).1 (begQ n Q Rs (k : Int) (j : Int)).2.1 HB' ∧ v = .tuple #[.int .i64 (begQ n Q Rs (k : Int) (j : Int)).2.2.1, .int .i64 (begQ n Q Rs (k : Int) (j : Int)).2.2.2] ∧ H' = HB' ++ H) := by
  obtain ⟨v0, XX, rn, of_, rfl, hRun, hRup⟩ := hP.runs
  obtain ⟨y, hy⟩ : ∃ y, of_[j]? = some y := ⟨_, List.getElem?_eq_getElem (by rw [hRun.len2]; exact hj)⟩
  have hyb := hRun.b2 y (List.mem_of_getElem? hy)
  have hoj := ofR_at hRun hy
  obtain ⟨rb, X, hR, hXm, hqu⟩ := hP.ring hn hk
  have hy0 : y = 0 := by
    by_cases e : y = 0
    · exact e
    · rw [ho, if_neg e] at hoj; cases hoj
  subst hy0
  refine L_enter (l := [.pointer (some ⟨pb, 0, none⟩), .int .i64 (k : Int), .int .i64 (j : Int)]) Tryz.func52 rfl Tryz.ntmps52 rfl rfl ?_
  refine W_sr ?_
  refine W_assign rfl rfl ?_
  refine W_assign rfl rfl ?_
  refine W_nil ?_
  refine W_seq ?_
  refine W_block ?_
  refine W_sr ?_
  refine W_move rfl rfl ?_
  refine W_x (X_ptrNil rfl rfl ty81) (fun _ h => by cases h) rfl ?_
  refine W_assign rfl rfl ?_
  refine W_nil ?_
  refine W_condF rfl rfl ?_
  refine W_sr ?_
  refine W_move rfl rfl ?_
  refine W_move rfl rfl ?_
  refine W_callq (.cons rfl (.cons rfl .nil)) Tryz.call87 rfl (hqu (fun p hp => List.mem_append_left _ hp)) ?_
  refine W_x (X_ptrNil rfl rfl ty127) (fun _ h => by cases h) rfl ?_
  refine W_move rfl rfl ?_
  refine W_gyes rfl rfl ?_
  refine W_move rfl rfl ?_
  refine W_gyes rfl rfl ?_
  refine W_bin rfl rfl b_lss rfl ?_
  first | rw [decide_eq_true (by omega)] | rw [decide_eq_false (by omega)]
  first | refine W_pickt rfl rfl rfl ?_ | refine W_pickf rfl rfl rfl ?_
  refine W_move rfl rfl ?_
  refine W_gyes rfl rfl ?_
  refine W_move rfl rfl ?_
  refine W_gyes rfl rfl ?_
  refine W_bin rfl rfl b_geq rfl ?_
  first | rw [decide_eq_true (by omega)] | rw [decide_eq_false (by omega)]
  first | refine W_pickt rfl rfl rfl ?_ | refine W_pickf rfl rfl rfl ?_
  refine W_assign rfl rfl ?_
  refine W_nil ?_
  refine W_condF rfl rfl ?_
  refine W_sr ?_
  refine W_move rfl rfl ?_
  refine W_move rfl rfl ?_
  refine W_nilCheck rfl rfl ?_
  refine W_fieldAddr rfl fld126_2 (by decide) rfl ?_
  refine W_indexAddrA (j := j) rfl rfl ty124 ty3 (by first | rfl | omega) (by first | decide | omega | simp) rfl rfl ?_
  refine W_load (v := .int .i64 0) rfl ty3 rfl (Cell.own (b := pb) List.mem_cons_self (by simpa using peRow_of hRun.len1 hy)) rfl ?_
  refine W_bin rfl rfl b_gtr rfl ?_
  refine W_assign rfl rfl ?_
  refine W_nil ?_
  refine W_condF rfl rfl ?_
  refine W_sr ?_
  refine W_move rfl rfl ?_
  refine W_move rfl rfl ?_
  refine W_callq (.cons rfl (.cons rfl .nil)) Tryz.call87 rfl (hqu (fun p hp => List.mem_append_left _ hp)) ?_
  refine W_callq (.cons rfl .nil) Tryz.call90 rfl (hR.reads (w0 := w0) (fun p hp => List.mem_append_left _ (hXm p hp))).2 ?_
  rw [he]
  refine W_bin rfl rfl b_eql rfl ?_
  refine W_assign rfl rfl ?_
  refine W_nil ?_
  refine W_condT rfl rfl ?_
  refine W_sr ?_
  refine W_assign rfl rfl ?_
  refine W_assign rfl rfl ?_
  refine W_nil ?_
  refine W_ret2m (H2 := ((pb, .cells 126 289 (peRow v0 rn of_)) :: XX) ++ H) Tryz.results52 rfl rfl (.nil _) zH ?_
  have h0 : ¬ (((k : Int) < 0 ∨ (n : Int) ≤ (k : Int)) ∨ (j : Int) < 0 ∨ 32 ≤ (j : Int)) := by omega
  have e : begQ n Q Rs (k : Int) (j : Int) = (Q, Rs, 0, 4) := by
    unfold begQ
    rw [if_neg h0, if_neg (by rw [ho]; decide), he]
  rw [e]
  exact ⟨_, hP, rfl, rfl⟩
set_option maxHeartbeats 1000000 in
theorem Begin_not {w0 : World} {H : Heap} {HB : Heap} {pb n : Nat} {Q Rs : List (Int × Int)} (hP : PendH pb n Q Rs HB) (hn : n ≤ 64) {k j : Nat} (hk : k < n) (hj : j < 32) (ho : ofR Rs (j : Int) = none) {x z : Int} {l : List Int} (he : quOf Q (k : Int) = x :: l) (hir : inR Rs x = some z)  : LCalls Tryz.prog w0 52 #[.pointer (some ⟨pb, 0, none⟩), .int .i64 (k : Int), .int .i64 (j : Int)] (HB ++ H) (fun v H' => ∃ HB', PendH pb n (begQ n Q Rs (k : Int) (j : Int)).1 (begQ n Q Rs (k : Int) (j : Int)).2.1 HB' ∧ v = .tuple #[.int .i64 (begQ n Q Rs (k : Int) (j : Int)).2.2.1, .int .i64 (begQ n Q Rs (k : Int) (j : Int)).2.2.2] ∧ H' = HB' ++ H) := by
  obtain ⟨v0, XX, rn, of_, rfl, hRun, hRup⟩ := hP.runs
  obtain ⟨y, hy⟩ : ∃ y, of_[j]? = some y := ⟨_, List.getElem?_eq_getElem (by rw [hRun.len2]; exact hj)⟩
  have hyb := hRun.b2 y (List.mem_of_getElem? hy)
  have hoj := ofR_at hRun hy
  obtain ⟨rb, X, hR, hXm, hqu⟩ := hP.ring hn hk
  have hy0 : y = 0 := by
    by_cases e : y = 0
    · exact e
    · rw [ho, if_neg e] at hoj; cases hoj
  subst hy0
  refine L_enter (l := [.pointer (some ⟨pb, 0, none⟩), .int .i64 (k : Int), .int .i64 (j : Int)]) Tryz.func52 rfl Tryz.ntmps52 rfl rfl ?_
  refine W_sr ?_
  refine W_assign rfl rfl ?_
  refine W_assign rfl rfl ?_
  refine W_nil ?_
  refine W_seq ?_
  refine W_block ?_
  refine W_sr ?_
  refine W_move rfl rfl ?_
  refine W_x (X_ptrNil rfl rfl ty81) (fun _ h => by cases h) rfl ?_
  refine W_assign rfl rfl ?_
  refine W_nil ?_
  refine W_condF rfl rfl ?_
  refine W_sr ?_
  refine W_move rfl rfl ?_
  refine W_move rfl rfl ?_
  refine W_callq (.cons rfl (.cons rfl .nil)) Tryz.call87 rfl (hqu (fun p hp => List.mem_append_left _ hp)) ?_
  refine W_x (X_ptrNil rfl rfl ty127) (fun _ h => by cases h) rfl ?_
  refine W_move rfl rfl ?_
  refine W_gyes rfl rfl ?_
  refine W_move rfl rfl ?_
  refine W_gyes rfl rfl ?_
  refine W_bin rfl rfl b_lss rfl ?_
  first | rw [decide_eq_true (by omega)] | rw [decide_eq_false (by omega)]
  first | refine W_pickt rfl rfl rfl ?_ | refine W_pickf rfl rfl rfl ?_
  refine W_move rfl rfl ?_
  refine W_gyes rfl rfl ?_
  refine W_move rfl rfl ?_
  refine W_gyes rfl rfl ?_
  refine W_bin rfl rfl b_geq rfl ?_
  first | rw [decide_eq_true (by omega)] | rw [decide_eq_false (by omega)]
  first | refine W_pickt rfl rfl rfl ?_ | refine W_pickf rfl rfl rfl ?_
  refine W_assign rfl rfl ?_
  refine W_nil ?_
  refine W_condF rfl rfl ?_
  refine W_sr ?_
  refine W_move rfl rfl ?_
  refine W_move rfl rfl ?_
  refine W_nilCheck rfl rfl ?_
  refine W_fieldAddr rfl fld126_2 (by decide) rfl ?_
  refine W_indexAddrA (j := j) rfl rfl ty124 ty3 (by first | rfl | omega) (by first | decide | omega | simp) rfl rfl ?_
  refine W_load (v := .int .i64 0) rfl ty3 rfl (Cell.own (b := pb) List.mem_cons_self (by simpa using peRow_of hRun.len1 hy)) rfl ?_
  refine W_bin rfl rfl b_gtr rfl ?_
  refine W_assign rfl rfl ?_
  refine W_nil ?_
  refine W_condF rfl rfl ?_
  refine W_sr ?_
  refine W_move rfl rfl ?_
  refine W_move rfl rfl ?_
  refine W_callq (.cons rfl (.cons rfl .nil)) Tryz.call87 rfl (hqu (fun p hp => List.mem_append_left _ hp)) ?_
  refine W_callq (.cons rfl .nil) Tryz.call90 rfl (hR.reads (w0 := w0) (fun p hp => List.mem_append_left _ (hXm p hp))).2 ?_
  rw [he]
  refine W_bin rfl rfl b_eql rfl ?_
  rw [decide_eq_false (by simp only [List.length_cons]; omega)]
  refine W_assign rfl rfl ?_
  refine W_nil ?_
  refine W_condF rfl rfl ?_
  refine W_skip ?_
  refine W_blk ?_
  refine W_sr ?_
  refine W_move rfl rfl ?_
  refine W_move rfl rfl ?_
  refine W_callq (.cons rfl (.cons rfl .nil)) Tryz.call66 rfl (hP.Ready_q hn (fun p hp => List.mem_append_left _ hp) (cpu := (k : Int))) ?_
  rw [show rdyQ Q Rs (k : Int) = (x, (inR Rs x).isNone) from by unfold rdyQ; rw [he]]
  rw [hir]
  refine W_move rfl rfl ?_
  refine W_extract rfl rfl rfl ?_
  refine W_extract rfl rfl rfl ?_
  refine W_assign rfl rfl ?_
  refine W_assign rfl rfl ?_
  refine W_nil ?_
  refine W_seq ?_
  refine W_sr ?_
  refine W_move rfl rfl ?_
  refine W_not rfl rfl ?_
  refine W_nil ?_
  refine W_condT rfl rfl ?_
  refine W_sr ?_
  refine W_assign rfl rfl ?_
  refine W_assign rfl rfl ?_
  refine W_nil ?_
  refine W_ret2m (H2 := ((pb, .cells 126 289 (peRow v0 rn of_)) :: XX) ++ H) Tryz.results52 rfl rfl (.nil _) zH ?_
  have h0 : ¬ (((k : Int) < 0 ∨ (n : Int) ≤ (k : Int)) ∨ (j : Int) < 0 ∨ 32 ≤ (j : Int)) := by omega
  have e : begQ n Q Rs (k : Int) (j : Int) = (Q, Rs, 0, 21) := by
    unfold begQ
    rw [if_neg h0, if_neg (by rw [ho]; decide), he]
    exact if_pos (by rw [hir]; rfl)
  rw [e]
  exact ⟨_, hP, rfl, rfl⟩
set_option maxHeartbeats 4000000 in
theorem Begin_ok {w0 : World} {H : Heap} {HB : Heap} {pb n : Nat} {Q Rs : List (Int × Int)} (hP : PendH pb n Q Rs HB) (hn : n ≤ 64) {k j : Nat} (hk : k < n) (hj : j < 32) (ho : ofR Rs (j : Int) = none) {x : Int} {l : List Int} (he : quOf Q (k : Int) = x :: l) (hir : inR Rs x = none)  : LCalls Tryz.prog w0 52 #[.pointer (some ⟨pb, 0, none⟩), .int .i64 (k : Int), .int .i64 (j : Int)] (HB ++ H) (fun v H' => ∃ HB', PendH pb n (begQ n Q Rs (k : Int) (j : Int)).1 (begQ n Q Rs (k : Int) (j : Int)).2.1 HB' ∧ v = .tuple #[.int .i64 (begQ n Q Rs (k : Int) (j : Int)).2.2.1, .int .i64 (begQ n Q Rs (k : Int) (j : Int)).2.2.2] ∧ H' = HB' ++ H) := by
  obtain ⟨v0, XX, rn, of_, rfl, hRun, hRup⟩ := hP.runs
  obtain ⟨y, hy⟩ : ∃ y, of_[j]? = some y := ⟨_, List.getElem?_eq_getElem (by rw [hRun.len2]; exact hj)⟩
  have hyb := hRun.b2 y (List.mem_of_getElem? hy)
  have hoj := ofR_at hRun hy
  obtain ⟨rb, X, hR, hXm, hqu⟩ := hP.ring hn hk
  have hy0 : y = 0 := by
    by_cases e : y = 0
    · exact e
    · rw [ho, if_neg e] at hoj; cases hoj
  subst hy0
  refine L_enter (l := [.pointer (some ⟨pb, 0, none⟩), .int .i64 (k : Int), .int .i64 (j : Int)]) Tryz.func52 rfl Tryz.ntmps52 rfl rfl ?_
  refine W_sr ?_
  refine W_assign rfl rfl ?_
  refine W_assign rfl rfl ?_
  refine W_nil ?_
  refine W_seq ?_
  refine W_block ?_
  refine W_sr ?_
  refine W_move rfl rfl ?_
  refine W_x (X_ptrNil rfl rfl ty81) (fun _ h => by cases h) rfl ?_
  refine W_assign rfl rfl ?_
  refine W_nil ?_
  refine W_condF rfl rfl ?_
  refine W_sr ?_
  refine W_move rfl rfl ?_
  refine W_move rfl rfl ?_
  refine W_callq (.cons rfl (.cons rfl .nil)) Tryz.call87 rfl (hqu (fun p hp => List.mem_append_left _ hp)) ?_
  refine W_x (X_ptrNil rfl rfl ty127) (fun _ h => by cases h) rfl ?_
  refine W_move rfl rfl ?_
  refine W_gyes rfl rfl ?_
  refine W_move rfl rfl ?_
  refine W_gyes rfl rfl ?_
  refine W_bin rfl rfl b_lss rfl ?_
  first | rw [decide_eq_true (by omega)] | rw [decide_eq_false (by omega)]
  first | refine W_pickt rfl rfl rfl ?_ | refine W_pickf rfl rfl rfl ?_
  refine W_move rfl rfl ?_
  refine W_gyes rfl rfl ?_
  refine W_move rfl rfl ?_
  refine W_gyes rfl rfl ?_
  refine W_bin rfl rfl b_geq rfl ?_
  first | rw [decide_eq_true (by omega)] | rw [decide_eq_false (by omega)]
  first | refine W_pickt rfl rfl rfl ?_ | refine W_pickf rfl rfl rfl ?_
  refine W_assign rfl rfl ?_
  refine W_nil ?_
  refine W_condF rfl rfl ?_
  refine W_sr ?_
  refine W_move rfl rfl ?_
  refine W_move rfl rfl ?_
  refine W_nilCheck rfl rfl ?_
  refine W_fieldAddr rfl fld126_2 (by decide) rfl ?_
  refine W_indexAddrA (j := j) rfl rfl ty124 ty3 (by first | rfl | omega) (by first | decide | omega | simp) rfl rfl ?_
  refine W_load (v := .int .i64 0) rfl ty3 rfl (Cell.own (b := pb) List.mem_cons_self (by simpa using peRow_of hRun.len1 hy)) rfl ?_
  refine W_bin rfl rfl b_gtr rfl ?_
  refine W_assign rfl rfl ?_
  refine W_nil ?_
  refine W_condF rfl rfl ?_
  refine W_sr ?_
  refine W_move rfl rfl ?_
  refine W_move rfl rfl ?_
  refine W_callq (.cons rfl (.cons rfl .nil)) Tryz.call87 rfl (hqu (fun p hp => List.mem_append_left _ hp)) ?_
  refine W_callq (.cons rfl .nil) Tryz.call90 rfl (hR.reads (w0 := w0) (fun p hp => List.mem_append_left _ (hXm p hp))).2 ?_
  rw [he]
  refine W_bin rfl rfl b_eql rfl ?_
  rw [decide_eq_false (by simp only [List.length_cons]; omega)]
  refine W_assign rfl rfl ?_
  refine W_nil ?_
  refine W_condF rfl rfl ?_
  refine W_skip ?_
  refine W_blk ?_
  refine W_sr ?_
  refine W_move rfl rfl ?_
  refine W_move rfl rfl ?_
  refine W_callq (.cons rfl (.cons rfl .nil)) Tryz.call66 rfl (hP.Ready_q hn (fun p hp => List.mem_append_left _ hp) (cpu := (k : Int))) ?_
  rw [show rdyQ Q Rs (k : Int) = (x, (inR Rs x).isNone) from by unfold rdyQ; rw [he]]
  rw [hir]
  refine W_move rfl rfl ?_
  refine W_extract rfl rfl rfl ?_
  refine W_extract rfl rfl rfl ?_
  refine W_assign rfl rfl ?_
  refine W_assign rfl rfl ?_
  refine W_nil ?_
  refine W_seq ?_
  refine W_sr ?_
  refine W_move rfl rfl ?_
  refine W_not rfl rfl ?_
  refine W_nil ?_
  refine W_condF rfl rfl ?_
  refine W_skip ?_
  refine W_sr ?_
  refine W_move rfl rfl ?_
  refine W_move rfl rfl ?_
  obtain ⟨rb2, X2, HR, hR2, hqu2, ho1, ho2, hup⟩ := hP.at hn hk
  refine W_callq (.cons rfl (.cons rfl .nil)) Tryz.call87 rfl (hqu2 (fun p hp => List.mem_append_left _ hp)) ?_
  rw [he] at hR2
  refine W_hsub (H' := X2 ++ (HR ++ H)) (ho1 H) ?_
  refine W_call (.cons rfl .nil) Tryz.call91 rfl (rPop_L hR2) ?_
  rintro v H' ⟨X', hR', rfl, rfl⟩
  have hm0 : (x, (k : Int)) ∈ Q := mem_quOf.1 (by rw [he]; exact List.mem_cons_self)
  have hx0 : (quOf Q (k : Int))[0]? = some x := by rw [he]; rfl
  obtain ⟨HBn, hPn, hin⟩ := hup (delQ Q x) X' (by rw [quOf_del_at hP.ok hx0, he]; exact hR') (fun j hj => quOf_del_other hP.ok hm0 (by omega)) (hP.ok.del x)
  refine W_hsub (H' := HBn ++ H) (hin H) ?_
  obtain ⟨v1, XX1, rn1, of1, rfl, hRun1, hRup1⟩ := hPn.runs
  have hxr := (hP.ok.rng _ hm0).1
  dsimp only at hxr
  obtain ⟨i, rfl⟩ : ∃ i : Nat, x = (i : Int) := ⟨x.toNat, by omega⟩
  refine W_nil ?_
  refine W_seq ?_
  refine W_anyC [] (by kernel_rfl) ?_
  refine WC_take 0 (l' := #[true, false, false, false, false, false, false, false, false, false, false, false, false, false, false, false]) rfl (by decide +kernel) (by decide +kernel) (by decide +kernel) rfl (by decide +kernel) (X_move rfl) rfl ?_
  refine WC_take 1 (l' := #[true, true, false, false, false, false, false, false, false, false, false, false, false, false, false, false]) rfl (by decide +kernel) (by decide +kernel) (by decide +kernel) rfl (by decide +kernel) (X_move rfl) rfl ?_
  refine WC_take 2 (l' := #[true, true, true, false, false, false, false, false, false, false, false, false, false, false, false, false]) rfl (by decide +kernel) (by decide +kernel) (by decide +kernel) rfl (by decide +kernel) (X_move rfl) rfl ?_
  refine WC_take 3 (l' := #[true, true, true, true, false, false, false, false, false, false, false, false, false, false, false, false]) rfl (by decide +kernel) (by decide +kernel) (by decide +kernel) rfl (by decide +kernel) (X_move rfl) rfl ?_
  refine WC_take 4 (l' := #[true, true, true, true, true, false, false, false, false, false, false, false, false, false, false, false]) rfl (by decide +kernel) (by decide +kernel) (by decide +kernel) rfl (by decide +kernel) (X_move rfl) rfl ?_
  refine WC_take 5 (l' := #[true, true, true, true, true, true, false, false, false, false, false, false, false, false, false, false]) rfl (by decide +kernel) (by decide +kernel) (by decide +kernel) rfl (by decide +kernel) (X_bin rfl rfl (b_add (m := ((j : Int) + 1)) (by rw [i64w (by omega)]))) rfl ?_
  refine WC_take 6 (l' := #[true, true, true, true, true, true, true, false, false, false, false, false, false, false, false, false]) rfl (by decide +kernel) (by decide +kernel) (by decide +kernel) rfl (by decide +kernel) (X_move rfl) rfl ?_
  refine WC_take 7 (l' := #[true, true, true, true, true, true, true, true, false, false, false, false, false, false, false, false]) rfl (by decide +kernel) (by decide +kernel) (by decide +kernel) rfl (by decide +kernel) (X_bin rfl rfl (b_add (m := ((i : Int) + 1)) (by rw [i64w (by omega)]))) rfl ?_
  refine WC_take 8 (l' := #[true, true, true, true, true, true, true, true, true, false, false, false, false, false, false, false]) rfl (by decide +kernel) (by decide +kernel) (by decide +kernel) rfl (by decide +kernel) (X_nilCheck rfl) rfl ?_
  refine WC_take 9 (l' := #[true, true, true, true, true, true, true, true, true, true, false, false, false, false, false, false]) rfl (by decide +kernel) (by decide +kernel) (by decide +kernel) rfl (by decide +kernel) (X_fieldAddr rfl fld126_1 (by decide)) rfl ?_
  refine WC_take 10 (l' := #[true, true, true, true, true, true, true, true, true, true, true, false, false, false, false, false]) rfl (by decide +kernel) (by decide +kernel) (by decide +kernel) rfl (by decide +kernel) (X_indexAddrA (j := i) rfl rfl ty123 ty3 (by first | rfl | omega) (by first | decide | omega | simp) rfl) rfl ?_
  refine WC_take 12 (l' := #[true, true, true, true, true, true, true, true, true, true, true, false, true, false, false, false]) rfl (by decide +kernel) (by decide +kernel) (by decide +kernel) rfl (by decide +kernel) (X_nilCheck rfl) rfl ?_
  refine WC_take 13 (l' := #[true, true, true, true, true, true, true, true, true, true, true, false, true, true, false, false]) rfl (by decide +kernel) (by decide +kernel) (by decide +kernel) rfl (by decide +kernel) (X_fieldAddr rfl fld126_2 (by decide)) rfl ?_
  refine WC_one 11 (l' := #[true, true, true, true, true, true, true, true, true, true, true, true, true, true, false, false]) zH (by decide +kernel) rfl (by decide +kernel) ?_
  refine W_store (l' := peRow v1 (rn1.set i ((j : Int) + 1)) of1) rfl rfl ty3 rfl rfl (b := pb) zM (by rw [peRow_len hRun1.len1 hRun1.len2, Nat.blt_eq]; omega) (by rw [← peRow_setRn (by rw [hRun1.len1]; omega)]; congr 1; omega) zU ?_
  refine W_nil ?_
  refine WC_goal ?_
  refine WC_take 14 (l' := #[true, true, true, true, true, true, true, true, true, true, true, true, true, true, true, false]) rfl (by decide +kernel) (by decide +kernel) (by decide +kernel) rfl (by decide +kernel) (X_indexAddrA (j := j) rfl rfl ty124 ty3 (by first | rfl | omega) (by first | decide | omega | simp) rfl) rfl ?_
  refine WC_one 15 (l' := #[true, true, true, true, true, true, true, true, true, true, true, true, true, true, true, true]) zH (by decide +kernel) rfl (by decide +kernel) ?_
  refine W_store (l' := peRow v1 (rn1.set i ((j : Int) + 1)) (of1.set j ((i : Int) + 1))) rfl rfl ty3 rfl rfl (b := pb) zM (by rw [peRow_len (by rw [List.length_set]; exact hRun1.len1) hRun1.len2, Nat.blt_eq]; omega) (by rw [← peRow_setOf (by rw [List.length_set]; exact hRun1.len1)]; congr 1; omega) zU ?_
  refine W_nil ?_
  refine WC_goal ?_
  refine WC_done zH (by decide +kernel) ?_
  refine W_sr ?_
  refine W_move rfl rfl ?_
  refine W_assign rfl rfl ?_
  refine W_assign rfl rfl ?_
  refine W_nil ?_
  refine W_ret2m (H2 := ((pb, .cells 126 289 (peRow v1 (rn1.set i ((j : Int) + 1)) (of1.set j ((i : Int) + 1)))) :: XX1) ++ H) Tryz.results52 rfl rfl (.nil _) zH ?_
  have h0 : ¬ (((k : Int) < 0 ∨ (n : Int) ≤ (k : Int)) ∨ (j : Int) < 0 ∨ 32 ≤ (j : Int)) := by omega
  have e : begQ n Q Rs (k : Int) (j : Int) = (delQ Q (i : Int), Rs ++ [((i : Int), (j : Int))], (i : Int), 0) := by
    unfold begQ
    rw [if_neg h0, if_neg (by rw [ho]; decide), he]
    exact if_neg (by rw [hir]; decide)
  rw [e]
  exact ⟨_, hRup1 _ _ _ (hRun1.begin (by omega) hj hir ho), rfl, rfl⟩
theorem Begin_L {w0 : World} {H : Heap} {HB : Heap} {pb n : Nat} {Q Rs : List (Int × Int)} (hP : PendH pb n Q Rs HB) (hn : n ≤ 64) {cpu c : Int} : LCalls Tryz.prog w0 52 #[.pointer (some ⟨pb, 0, none⟩), .int .i64 cpu, .int .i64 c] (HB ++ H) (fun v H' => ∃ HB', PendH pb n (begQ n Q Rs cpu c).1 (begQ n Q Rs cpu c).2.1 HB' ∧ v = .tuple #[.int .i64 (begQ n Q Rs cpu c).2.2.1, .int .i64 (begQ n Q Rs cpu c).2.2.2] ∧ H' = HB' ++ H) := by
  by_cases h : cpu < 0 ∨ (n : Int) ≤ cpu
  · exact Begin_cpu hP hn h
  · obtain ⟨k, rfl⟩ : ∃ k : Nat, cpu = (k : Int) := ⟨cpu.toNat, by omega⟩
    have hk : k < n := by omega
    by_cases h1 : c < 0
    · exact Begin_lo hP hn hk h1
    · by_cases h2 : 32 ≤ c
      · exact Begin_hi hP hn hk h2
      · obtain ⟨j, rfl⟩ : ∃ j : Nat, c = (j : Int) := ⟨c.toNat, by omega⟩
        have hj : j < 32 := by omega
        cases ho : ofR Rs (j : Int) with
        | some z => exact Begin_busy hP hn hk hj ho
        | none =>
          cases he : quOf Q (k : Int) with
          | nil => exact Begin_none hP hn hk hj ho he
          | cons x l =>
            cases hir : inR Rs x with
            | some z => exact Begin_not hP hn hk hj ho he hir
            | none => exact Begin_ok hP hn hk hj ho he hir
set_option maxHeartbeats 1000000 in
theorem End_none {w0 : World} {H : Heap} {HB : Heap} {pb n : Nat} {Q Rs : List (Int × Int)} (hP : PendH pb n Q Rs HB) (hn : n ≤ 64) {c : Int} (ho : ofR Rs c = none)  : LCalls Tryz.prog w0 53 #[.pointer (some ⟨pb, 0, none⟩), .int .i64 c] (HB ++ H) (fun v H' => ∃ HB', PendH pb n Q (endQ Rs c).1 HB' ∧ v = .tuple #[.int .i64 (endQ Rs c).2.1, .int .i64 (endQ Rs c).2.2] ∧ H' = HB' ++ H) := by
  refine L_enter (l := [.pointer (some ⟨pb, 0, none⟩), .int .i64 c]) Tryz.func53 rfl Tryz.ntmps53 rfl rfl ?_
  refine W_sr ?_
  refine W_assign rfl rfl ?_
  refine W_assign rfl rfl ?_
  refine W_nil ?_
  refine W_seq ?_
  refine W_sr ?_
  refine W_move rfl rfl ?_
  refine W_x (X_ptrNil rfl rfl ty81) (fun _ h => by cases h) rfl ?_
  refine W_nil ?_
  refine W_condF rfl rfl ?_
  refine W_skip ?_
  refine W_sr ?_
  refine W_move rfl rfl ?_
  refine W_move rfl rfl ?_
  refine W_callq (.cons rfl (.cons rfl .nil)) Tryz.call92 rfl (hP.Of_q (c := c) (fun p hp => List.mem_append_left _ hp)) ?_
  rw [ho, show optV none = .tuple #[.int .i64 0, .bool false] from rfl]
  refine W_move rfl rfl ?_
  refine W_extract rfl rfl rfl ?_
  refine W_extract rfl rfl rfl ?_
  refine W_assign rfl rfl ?_
  refine W_assign rfl rfl ?_
  refine W_nil ?_
  refine W_seq ?_
  refine W_sr ?_
  refine W_move rfl rfl ?_
  refine W_not rfl rfl ?_
  refine W_nil ?_
  refine W_condT rfl rfl ?_
  refine W_sr ?_
  refine W_assign rfl rfl ?_
  refine W_assign rfl rfl ?_
  refine W_nil ?_
  refine W_ret2m (H2 := HB ++ H) Tryz.results53 rfl rfl (.nil _) zH ?_
  unfold endQ; rw [ho]
  exact ⟨HB, hP, rfl, rfl⟩
set_option maxHeartbeats 1000000 in
theorem End_at {w0 : World} {H : Heap} {HB : Heap} {pb n : Nat} {Q Rs : List (Int × Int)} (hP : PendH pb n Q Rs HB) (hn : n ≤ 64) {c x : Int} (ho : ofR Rs c = some x)  : LCalls Tryz.prog w0 53 #[.pointer (some ⟨pb, 0, none⟩), .int .i64 c] (HB ++ H) (fun v H' => ∃ HB', PendH pb n Q (endQ Rs c).1 HB' ∧ v = .tuple #[.int .i64 (endQ Rs c).2.1, .int .i64 (endQ Rs c).2.2] ∧ H' = HB' ++ H) := by
  obtain ⟨v1, XX1, rn1, of1, rfl, hRun1, hRup1⟩ := hP.runs
  have hm0 := (ofR_some hRun1).1 ho
  have hxr := hRun1.rng _ hm0
  dsimp only at hxr
  obtain ⟨i, rfl⟩ : ∃ i : Nat, x = (i : Int) := ⟨x.toNat, by omega⟩
  obtain ⟨j, rfl⟩ : ∃ j : Nat, c = (j : Int) := ⟨c.toNat, by omega⟩
  refine L_enter (l := [.pointer (some ⟨pb, 0, none⟩), .int .i64 (j : Int)]) Tryz.func53 rfl Tryz.ntmps53 rfl rfl ?_
  refine W_sr ?_
  refine W_assign rfl rfl ?_
  refine W_assign rfl rfl ?_
  refine W_nil ?_
  refine W_seq ?_
  refine W_sr ?_
  refine W_move rfl rfl ?_
  refine W_x (X_ptrNil rfl rfl ty81) (fun _ h => by cases h) rfl ?_
  refine W_nil ?_
  refine W_condF rfl rfl ?_
  refine W_skip ?_
  refine W_sr ?_
  refine W_move rfl rfl ?_
  refine W_move rfl rfl ?_
  refine W_callq (.cons rfl (.cons rfl .nil)) Tryz.call92 rfl (hP.Of_q (c := (j : Int)) (fun p hp => List.mem_append_left _ hp)) ?_
  rw [ho, show optV (some (i : Int)) = .tuple #[.int .i64 (i : Int), .bool true] from rfl]
  refine W_move rfl rfl ?_
  refine W_extract rfl rfl rfl ?_
  refine W_extract rfl rfl rfl ?_
  refine W_assign rfl rfl ?_
  refine W_assign rfl rfl ?_
  refine W_nil ?_
  refine W_seq ?_
  refine W_sr ?_
  refine W_move rfl rfl ?_
  refine W_not rfl rfl ?_
  refine W_nil ?_
  refine W_condF rfl rfl ?_
  refine W_skip ?_
  refine W_seq ?_
  refine W_anyC [] (by kernel_rfl) ?_
  refine WC_take 0 (l' := #[true, false, false, false, false, false, false, false, false, false, false, false]) rfl (by decide +kernel) (by decide +kernel) (by decide +kernel) rfl (by decide +kernel) (X_move rfl) rfl ?_
  refine WC_take 1 (l' := #[true, true, false, false, false, false, false, false, false, false, false, false]) rfl (by decide +kernel) (by decide +kernel) (by decide +kernel) rfl (by decide +kernel) (X_move rfl) rfl ?_
  refine WC_take 2 (l' := #[true, true, true, false, false, false, false, false, false, false, false, false]) rfl (by decide +kernel) (by decide +kernel) (by decide +kernel) rfl (by decide +kernel) (X_move rfl) rfl ?_
  refine WC_take 3 (l' := #[true, true, true, true, false, false, false, false, false, false, false, false]) rfl (by decide +kernel) (by decide +kernel) (by decide +kernel) rfl (by decide +kernel) (X_move rfl) rfl ?_
  refine WC_take 4 (l' := #[true, true, true, true, true, false, false, false, false, false, false, false]) rfl (by decide +kernel) (by decide +kernel) (by decide +kernel) rfl (by decide +kernel) (X_nilCheck rfl) rfl ?_
  refine WC_take 5 (l' := #[true, true, true, true, true, true, false, false, false, false, false, false]) rfl (by decide +kernel) (by decide +kernel) (by decide +kernel) rfl (by decide +kernel) (X_fieldAddr rfl fld126_1 (by decide)) rfl ?_
  refine WC_take 6 (l' := #[true, true, true, true, true, true, true, false, false, false, false, false]) rfl (by decide +kernel) (by decide +kernel) (by decide +kernel) rfl (by decide +kernel) (X_indexAddrA (j := i) rfl rfl ty123 ty3 (by first | rfl | omega) (by first | decide | omega | simp) rfl) rfl ?_
  refine WC_take 8 (l' := #[true, true, true, true, true, true, true, false, true, false, false, false]) rfl (by decide +kernel) (by decide +kernel) (by decide +kernel) rfl (by decide +kernel) (X_nilCheck rfl) rfl ?_
  refine WC_take 9 (l' := #[true, true, true, true, true, true, true, false, true, true, false, false]) rfl (by decide +kernel) (by decide +kernel) (by decide +kernel) rfl (by decide +kernel) (X_fieldAddr rfl fld126_2 (by decide)) rfl ?_
  refine WC_one 7 (l' := #[true, true, true, true, true, true, true, true, true, true, false, false]) zH (by decide +kernel) rfl (by decide +kernel) ?_
  refine W_store (l' := peRow v1 (rn1.set i 0) of1) rfl rfl ty3 rfl rfl (b := pb) zM (by rw [peRow_len hRun1.len1 hRun1.len2, Nat.blt_eq]; omega) (by rw [← peRow_setRn (by rw [hRun1.len1]; omega)]; congr 1; omega) zU ?_
  refine W_nil ?_
  refine WC_goal ?_
  refine WC_take 10 (l' := #[true, true, true, true, true, true, true, true, true, true, true, false]) rfl (by decide +kernel) (by decide +kernel) (by decide +kernel) rfl (by decide +kernel) (X_indexAddrA (j := j) rfl rfl ty124 ty3 (by first | rfl | omega) (by first | decide | omega | simp) rfl) rfl ?_
  refine WC_one 11 (l' := #[true, true, true, true, true, true, true, true, true, true, true, true]) zH (by decide +kernel) rfl (by decide +kernel) ?_
  refine W_store (l' := peRow v1 (rn1.set i 0) (of1.set j 0)) rfl rfl ty3 rfl rfl (b := pb) zM (by rw [peRow_len (by rw [List.length_set]; exact hRun1.len1) hRun1.len2, Nat.blt_eq]; omega) (by rw [← peRow_setOf (by rw [List.length_set]; exact hRun1.len1)]; congr 1; omega) zU ?_
  refine W_nil ?_
  refine WC_goal ?_
  refine WC_done zH (by decide +kernel) ?_
  refine W_sr ?_
  refine W_move rfl rfl ?_
  refine W_assign rfl rfl ?_
  refine W_assign rfl rfl ?_
  refine W_nil ?_
  refine W_ret2m (H2 := ((pb, .cells 126 289 (peRow v1 (rn1.set i 0) (of1.set j 0))) :: XX1) ++ H) Tryz.results53 rfl rfl (.nil _) zH ?_
  unfold endQ; rw [ho]
  exact ⟨_, hRup1 _ _ _ (hRun1.over hm0), rfl, rfl⟩
theorem End_L {w0 : World} {H : Heap} {HB : Heap} {pb n : Nat} {Q Rs : List (Int × Int)} (hP : PendH pb n Q Rs HB) (hn : n ≤ 64) {c : Int} : LCalls Tryz.prog w0 53 #[.pointer (some ⟨pb, 0, none⟩), .int .i64 c] (HB ++ H) (fun v H' => ∃ HB', PendH pb n Q (endQ Rs c).1 HB' ∧ v = .tuple #[.int .i64 (endQ Rs c).2.1, .int .i64 (endQ Rs c).2.2] ∧ H' = HB' ++ H) := by
  cases ho : ofR Rs c with
  | none => exact End_none hP hn ho
  | some x => exact End_at hP hn ho
end Go.Proofs.YtcmfldfeakmdoaaGreatDoor
namespace Go.Proofs.YtcmfldfeakmdoaaGreatDoor
open Go Go.Sl
attribute [local irreducible] W
set_option maxRecDepth 100000
abbrev rn0 : List Int := List.replicate 256 0
abbrev of0 : List Int := List.replicate 32 0
theorem runs0 : RunsIs rn0 of0 [] := by
  refine ⟨List.length_replicate, List.length_replicate, fun x hx => ?_, fun x hx => ?_, fun i c => ?_, fun i c => ?_, fun p hp => (by cases hp), List.nodup_nil⟩
  · rw [List.eq_of_mem_replicate hx]; decide
  · rw [List.eq_of_mem_replicate hx]; decide
  · refine ⟨fun h => ?_, fun h => by cases h⟩
    have := List.eq_of_mem_replicate (List.mem_of_getElem? h); omega
  · refine ⟨fun h => ?_, fun h => by cases h⟩
    have := List.eq_of_mem_replicate (List.mem_of_getElem? h); omega
theorem quok0 (n : Nat) : QOk n [] := ⟨List.nodup_nil, fun p hp => by cases hp⟩
structure NpS where
  i : Nat
  v : Value
  XQ : Heap
  XS : List Heap
  rbs : List Nat
theorem rings_snoc {XS : List Heap} {rbs : List Nat} {rb : Nat} {X : Heap} (hl : XS.length = rbs.length) (h : ∀ (k : Nat) r Y, rbs[k]? = some r → XS[k]? = some Y → RingH 256 r [] Y) (hx : RingH 256 rb [] X) : ∀ (k : Nat) r Y, (rbs ++ [rb])[k]? = some r → (XS ++ [X])[k]? = some Y → RingH 256 r [] Y := fun k r Y h1 h2 => by
  by_cases c : k < rbs.length
  · rw [List.getElem?_append_left c] at h1
    rw [List.getElem?_append_left (by omega)] at h2
    exact h k r Y h1 h2
  · rw [List.getElem?_append_right (by omega)] at h1 h2
    rw [hl] at h2
    cases hk : k - rbs.length with
    | zero =>
      rw [hk] at h1 h2
      obtain rfl : rb = r := by simpa using h1
      obtain rfl : X = Y := by simpa using h2
      exact hx
    | succ j => rw [hk] at h1; simp at h1
set_option maxHeartbeats 4000000 in
theorem pNew_L {w0 : World} {H : Heap} {n : Nat} (hn : 1 ≤ n ∧ n ≤ 64)  : LCalls Tryz.prog w0 33 #[.int .i64 (n : Int)] (H) (fun v H' => ∃ pb HB, v = .tuple #[.pointer (some ⟨pb, 0, none⟩), .int .i64 0] ∧ PendH pb n [] [] HB ∧ H' = HB ++ H) := by
  refine L_enter (l := [.int .i64 (n : Int)]) Tryz.func33 rfl Tryz.ntmps33 rfl rfl ?_
  refine W_sr ?_
  refine W_assign rfl rfl ?_
  refine W_assign rfl rfl ?_
  refine W_nil ?_
  refine W_seq ?_
  refine W_sr ?_
  refine W_move rfl rfl ?_
  refine W_bin rfl rfl b_lss rfl ?_
  rw [decide_eq_false (by omega)]
  refine W_move rfl rfl ?_
  refine W_gyes rfl rfl ?_
  refine W_move rfl rfl ?_
  refine W_gyes rfl rfl ?_
  refine W_bin rfl rfl b_gtr rfl ?_
  rw [decide_eq_false (by omega)]
  first | refine W_pickt rfl rfl rfl ?_ | refine W_pickf rfl rfl rfl ?_
  refine W_nil ?_
  refine W_condF rfl rfl ?_
  refine W_skip ?_
  refine W_sr ?_
  refine W_build (l := (peRow (.slice none 0 0) rn0 of0)) ty126 pl126 .nil rfl (by kernel_rfl) rfl ?_
  refine W_box (l := (peRow (.slice none 0 0) rn0 of0)) rfl rfl rfl (fun b14 => ?_)
  refine W_assign rfl rfl ?_
  refine W_nil ?_
  refine W_seq ?_
  refine W_sr ?_
  refine W_move rfl rfl ?_
  refine W_move rfl rfl ?_
  refine W_nil ?_
  refine W_block ?_
  refine W_loopC (X := NpS) [(4, _), (15, _)] (fun (x : NpS) => [(16, .int .i64 (x.i : Int))]) (fun _ => _) (fun (x : NpS) => (b14, .cells 126 289 (peRow x.v rn0 of0)) :: (x.XQ ++ (x.XS.flatten ++ H))) (fun (x : NpS) => x.i ≤ n ∧ x.rbs.length = x.i ∧ OwnS 127 1 x.v x.rbs.length (x.rbs.map rbP) x.XQ ∧ x.XS.length = x.rbs.length ∧ (∀ (k : Nat) r Y, x.rbs[k]? = some r → x.XS[k]? = some Y → RingH 256 r [] Y)) (fun (x : NpS) => n - x.i) ⟨0, .slice none 0 0, [], [], []⟩ ⟨Nat.zero_le _, rfl, .nil, rfl, fun k r Y h => (by cases h)⟩ (sub_cons rfl (sub_cons rfl (sub_nil _))) (sub_cons rfl (sub_nil _)) rfl (.refl _) ?_
  rintro ⟨i, v, XQ, XS, rbs⟩ ⟨hi, hlen, hv, hl, hw⟩
  dsimp only at hi hlen hv hl hw ⊢
  simp only [List.cons_append, List.nil_append]
  refine W_sr ?_
  refine W_bin rfl rfl b_lss rfl ?_
  refine W_nil ?_
  refine W_seq ?_
  refine W_condPS (p := (i : Int) < (n : Int)) rfl (by simp) (fun q0 => ?_) (fun q0 => ?_)
  · skip
    refine W_skip ?_
    refine W_seq ?_
    refine W_block ?_
    refine W_sr ?_
    refine W_call (.cons rfl .nil) Tryz.call72 rfl (rNew_L (R := 256) (by decide) (by decide)) ?_
    rintro w2 H' ⟨rb, HX, rfl, hX, rfl⟩
    refine W_move rfl rfl ?_
    refine W_extract rfl rfl rfl ?_
    refine W_extract rfl rfl rfl ?_
    refine W_assign rfl rfl ?_
    refine W_assign rfl rfl ?_
    refine W_nil ?_
    refine W_seq ?_
    refine W_sr ?_
    refine W_move rfl rfl ?_
    refine W_bin rfl rfl b_neq rfl ?_
    refine W_nil ?_
    refine W_condF rfl rfl ?_
    refine W_skip ?_
    refine W_region ?_
    refine W_move rfl rfl ?_
    refine W_move rfl rfl ?_
    refine W_nilCheck rfl rfl ?_
    refine W_fieldAddr rfl fld126_0 (by decide) rfl ?_
    refine W_load (v := v) rfl ty122 rfl (Cell.own (b := b14) zM rfl) rfl ?_
    refine W_move rfl rfl ?_
    refine W_buildSlice (l := [rbP rb]) ty122 ty127 (.cons rfl rfl rfl rfl rfl .nil) rfl rfl rfl rfl rfl rfl rfl (fun b31 => ?_)
    refine W_append (news := [rbP rb]) (m := 1) (HB := XQ) (H0 := (b31, .cells 127 1 [rbP rb]) :: (HX ++ ((b14, .cells 126 289 (peRow v rn0 of0)) :: (XS.flatten ++ H)))) rfl rfl ty122 ty127 rfl (by decide) hv rfl (Holds.own (b := b31) zM) rfl (by simp only [maxLen]; omega) (by omega) zH rfl (fun v' X' hv' => ?_)
    refine W_nilCheck rfl rfl ?_
    refine W_fieldAddr rfl fld126_0 (by decide) rfl ?_
    have hv1 : v'.oneCell' = true := by obtain ⟨_, _, rfl, _⟩ := hv'.shape; rfl
    refine W_store (l' := (peRow v' rn0 of0)) rfl rfl ty122 hv1 rfl (b := b14) zM (by rw [peRow_len List.length_replicate List.length_replicate]; rfl) rfl zU ?_
    refine W_nil ?_
    refine W_blk ?_
    refine W_region ?_
    refine W_bin rfl rfl (b_add (m := ((i + 1 : Nat) : Int)) ((i64w (by omega)).trans (by omega))) rfl ?_
    refine W_move rfl rfl ?_
    refine W_nil ?_
    refine W_again ⟨i + 1, v', X', XS ++ [HX], rbs ++ [rb]⟩ ⟨by show i + 1 ≤ n; omega, by show (rbs ++ [rb]).length = i + 1; rw [List.length_append, hlen]; rfl, by show OwnS 127 1 v' (rbs ++ [rb]).length ((rbs ++ [rb]).map rbP) X'; rw [List.length_append, List.map_append]; exact hv', by show (XS ++ [HX]).length = (rbs ++ [rb]).length; rw [List.length_append, List.length_append, hl]; rfl, rings_snoc hl hw hX⟩ (by show n - (i + 1) < n - i; omega) (sub_cons rfl (sub_cons rfl (sub_cons rfl (sub_nil _)))) rfl (by show HSub _ ((b14, .cells 126 289 (peRow v' rn0 of0)) :: (X' ++ ((XS ++ [HX]).flatten ++ H))); rw [List.flatten_append, List.flatten_singleton, List.append_assoc]; first | exact hsubI | (repeat (first | with_reducible exact HSub.refl _ | refine HSub.cons zT ?_ | refine HSub.app zS ?_ | exact HSub.nil _ | exact HSub.refl _ | refine HSub.drop ?_ | refine HSub.dropS ?_)))
  · skip
    refine W_exit rfl ?_
    refine W_sr ?_
    refine W_move rfl rfl ?_
    refine W_assign rfl rfl ?_
    refine W_assign rfl rfl ?_
    refine W_nil ?_
    refine W_ret2m (H2 := (b14, .cells 126 289 (peRow v rn0 of0)) :: (XQ ++ (XS.flatten ++ H))) Tryz.results33 rfl rfl (.nil _) zH ?_
    obtain rfl : i = n := by omega
    exact ⟨b14, (b14, .cells 126 289 (peRow v rn0 of0)) :: (XQ ++ XS.flatten), rfl, .mk (rbs := rbs) (by rw [← hlen]; exact hv) (by omega) hw runs0 (quok0 _), by show _ = _ :: ((XQ ++ XS.flatten) ++ H); rw [List.append_assoc]⟩
end Go.Proofs.YtcmfldfeakmdoaaGreatDoor
namespace Go.Proofs.YtcmfldfeakmdoaaGreatDoor
open Go Go.Sl
attribute [local irreducible] W
abbrev tmOf (now a turn : Nat) (id : Int) : Tm := ⟨id, (placeT now a).1, turn + 1⟩
theorem Put_L {w0 : World} {H HW : Heap} {bw now turn a : Nat} {L : List Tm} {id : Int} (hW : WheelH bw now L turn HW) (hnow : now < 18446744073709551615) (ha : a ≤ 18446744073709551615) (hid : 0 ≤ id ∧ id < 256) (hnew : id ∉ L.map (·.id)) (htn : turn ≤ 4611686018427387904) :
    LCalls Tryz.prog w0 79 #[.pointer (some ⟨bw, 0, none⟩), .int .i64 id, .int .u64 ((a : Nat) : Int)] (HW ++ H) (fun v H' => ∃ HW', WheelH bw now (L ++ [tmOf now a turn id]) (turn + 1) HW' ∧ v = .tuple #[.agg (placeT now a).1.v.toArray, .int .i64 0] ∧ H' = HW' ++ H) := by
  cases hW with
  | @mk bm c sl XS bs l h =>
    obtain ⟨num, p1, p2, p3, p4, p5, p6, p7⟩ := place_is (at_ := a) hnow
    obtain ⟨hv, hh⟩ := h.miss hnew
    have hs : (placeT now a).1.slot < 64 := by rw [p3]; omega
    refine (Put_at (e := (placeT now a).1) h hnow ha hid htn (Prod.ext rfl p1) ⟨p2, hs⟩ hv hh).mono ?_
    rintro v H' ⟨v', X', z, rfl, hO, hz, rfl⟩
    exact ⟨_, .mk (h.put hid hnew ⟨p2, hs⟩ ⟨num, p3, p4, p5, p6, p7⟩ hO hz), rfl, rfl⟩
theorem WhIs.hit {now turn c : Nat} {L : List Tm} {sl : List Value} {XS : List Heap} {bs : List Nat} {l : Ents Int} (h : WhIs now L sl XS bs l c turn) {t : Tm} (ht : t ∈ L) : (mGet l t.id).getD zEnt = .agg (t.s.v ++ [Value.int .i64 ((t.turn : Nat) : Int)]).toArray ∧ mHas l t.id = true := by
  have h1 : mHas l t.id = true := mHas_iff.2 (h.keys.mem_iff.2 (List.mem_map_of_mem ht))
  refine ⟨?_, h1⟩
  cases hf : l.find? (fun p => decide (t.id = p.1)) with
  | none =>
    exfalso
    obtain ⟨p, hp, e⟩ := List.mem_map.1 (mHas_iff.1 h1)
    have := List.find?_eq_none.1 hf p hp
    exact this (decide_eq_true e.symm)
  | some p =>
    have h2a := List.find?_some hf
    have h2 : t.id = p.1 := of_decide_eq_true h2a
    obtain ⟨u, hu, e1, e2⟩ := h.val p (List.mem_of_find?_eq_some hf)
    obtain rfl : u = t := tm_uniq h.nodup hu ht (by rw [e1, h2])
    unfold mGet
    rw [hf]
    exact e2
theorem Put_late {w0 : World} {H HW : Heap} {bw turn a : Nat} {L : List Tm} {id : Int} (hW : WheelH bw 18446744073709551615 L turn HW) (hid : 0 ≤ id ∧ id < 256) (ha : a ≤ 18446744073709551615) (hnew : id ∉ L.map (·.id)) :
    LCalls Tryz.prog w0 79 #[.pointer (some ⟨bw, 0, none⟩), .int .i64 id, .int .u64 ((a : Nat) : Int)] (HW ++ H) (fun v H' => v = .tuple #[.agg zSpot.v.toArray, .int .i64 12] ∧ H' = HW ++ H) := by
  cases hW with
  | @mk bm c sl XS bs l h =>
    obtain ⟨hv, hh⟩ := h.miss hnew
    refine (Put_clock hid ha h.row (bm := bm) (c := c) (l := l) (turn := turn) zM zM hv hh).mono ?_
    rintro v H' ⟨rfl, rfl⟩
    exact ⟨rfl, rfl⟩
theorem new_heap (a b : Nat × Blk) (H : Heap) : a :: b :: H = (a :: b :: (List.replicate 512 ([] : Heap)).flatten) ++ H := by
  rw [List.flatten_replicate_nil]; rfl
theorem New_W {w0 : World} {H : Heap} {now : Nat} : LCalls Tryz.prog w0 73 #[.int .u64 ((now : Nat) : Int)] H (fun v H' => ∃ bw HW, v = .pointer (some ⟨bw, 0, none⟩) ∧ WheelH bw now [] 0 HW ∧ H' = HW ++ H) :=
  by
  refine New_L.mono ?_
  rintro v H' ⟨bw, bm, rfl, rfl⟩
  refine ⟨bw, _, rfl, .mk (bm := bm) .new, ?_⟩
  exact new_heap _ _ _
end Go.Proofs.YtcmfldfeakmdoaaGreatDoor
namespace Go.Proofs.YtcmfldfeakmdoaaGreatDoor
open Go Go.Sl
attribute [local irreducible] W
theorem OwnS.is {e : TypeId} {s : Nat} {v : Value} {n : Nat} {xs : List Value} {HB : Heap} (h : OwnS e s v n xs HB) (hn : 0 < n) : ∃ b cap, v = .slice (some ⟨b, 0, none⟩) n cap ∧ HB = [(b, .cells e (cap * s) xs)] ∧ n ≤ cap ∧ cap ≤ maxLen := by
  cases h with
  | nil => omega
  | own _ h2 h3 => exact ⟨_, _, rfl, rfl, h2, h3⟩
set_option maxHeartbeats 1000000 in
theorem del_miss {w0 : World} {H : Heap} {bw bm now turn c : Nat} {sl : List Value} {bs : List Nat} {l : Ents Int} {id : Int} (hok : RowOk sl bs) (hv : (mGet l id).getD zEnt = zEnt) (hh : mHas l id = false)  : LCalls Tryz.prog w0 119 #[.pointer (some ⟨bw, 0, none⟩), .int .i64 id] ((bw, .cells 167 523 (whRow now sl bs bm turn)) :: (bm, .obj (mapO (Value.int .i64) l c)) :: H) (fun v H' => v = .bool false ∧ H' = (bw, .cells 167 523 (whRow now sl bs bm turn)) :: (bm, .obj (mapO (Value.int .i64) l c)) :: H) := by
  refine L_enter (l := [.pointer (some ⟨bw, 0, none⟩), .int .i64 id]) Tryz.func119 rfl Tryz.ntmps119 rfl rfl ?_
  refine W_sr ?_
  refine W_box (l := [.int .i64 id]) rfl rfl rfl (fun b3 => ?_)
  refine W_assign rfl rfl ?_
  refine W_nil ?_
  refine W_seq ?_
  refine W_hsub (H' := (b3, .cells 3 1 [.int .i64 id]) :: (bw, .cells 167 523 (whRow now sl bs bm turn)) :: (bm, .obj (mapO (Value.int .i64) l c)) :: H) (.refl _) ?_
  refine W_anyC [(b3, .cells 3 1 [.int .i64 id]), (bw, .cells 167 523 (whRow now sl bs bm turn)), (bm, .obj (mapO (Value.int .i64) l c))] (by kernel_rfl) ?_
  refine WC_take 0 (l' := #[true, false, false, false, false, false, false, false, false, false, false, false]) rfl (by decide +kernel) (by decide +kernel) (by decide +kernel) rfl (by decide +kernel) (X_move rfl) rfl ?_
  refine WC_take 1 (l' := #[true, true, false, false, false, false, false, false, false, false, false, false]) rfl (by decide +kernel) (by decide +kernel) (by decide +kernel) rfl (by decide +kernel) (X_nilCheck rfl) rfl ?_
  refine WC_take 2 (l' := #[true, true, true, false, false, false, false, false, false, false, false, false]) rfl (by decide +kernel) (by decide +kernel) (by decide +kernel) rfl (by decide +kernel) (X_fieldAddr rfl fld167_3 (by decide)) rfl ?_
  refine WC_take 3 (l' := #[true, true, true, true, false, false, false, false, false, false, false, false]) rfl (by decide +kernel) (by decide +kernel) (by decide +kernel) rfl (by decide +kernel) (X_load (v := .map (some bm)) rfl ty161 rfl (Cell.own (b := bw) zM (wh_map hok))) rfl ?_
  refine WC_take 4 (l' := #[true, true, true, true, true, false, false, false, false, false, false, false]) rfl (by decide +kernel) (by decide +kernel) (by decide +kernel) rfl (by decide +kernel) (X_load (v := .int .i64 id) rfl ty3 rfl (Cell.own (b := b3) zM rfl)) rfl ?_
  refine WC_take 5 (l' := #[true, true, true, true, true, true, false, false, false, false, false, false]) rfl (by decide +kernel) (by decide +kernel) (by decide +kernel) rfl (by decide +kernel) (X_lookup (b := bm) (a := id) (zE := zEnt) rfl rfl keyI ty161 zEz zM) rfl ?_
  simp only [if_true]
  rw [hv, hh]
  refine WC_take 6 (l' := #[true, true, true, true, true, true, true, false, false, false, false, false]) rfl (by decide +kernel) (by decide +kernel) (by decide +kernel) rfl (by decide +kernel) (X_move rfl) rfl ?_
  refine WC_take 7 (l' := #[true, true, true, true, true, true, true, true, false, false, false, false]) rfl (by decide +kernel) (by decide +kernel) (by decide +kernel) rfl (by decide +kernel) (X_extract rfl rfl) rfl ?_
  refine WC_take 8 (l' := #[true, true, true, true, true, true, true, true, true, false, false, false]) rfl (by decide +kernel) (by decide +kernel) (by decide +kernel) rfl (by decide +kernel) (X_extract rfl rfl) rfl ?_
  refine WC_one 9 (l' := #[true, true, true, true, true, true, true, true, true, true, false, false]) zH (by decide +kernel) rfl (by decide +kernel) ?_
  refine W_alloc (l := [.int .i64 0, .int .i64 0, .int .u64 0, .int .u64 0, .int .i64 0]) ty169 rfl rfl (fun b5 => ?_)
  refine W_nil ?_
  refine WC_goal ?_
  refine WC_one 10 (l' := #[true, true, true, true, true, true, true, true, true, true, true, false]) zH (by decide +kernel) rfl (by decide +kernel) ?_
  refine W_storeA (l' := [.int .i64 0, .int .i64 0, .int .u64 0, .int .u64 0, .int .i64 0]) rfl rfl ty169 rfl rfl (b := b5) zM (by exact Nat.le_refl 5) rfl zU ?_
  refine W_nil ?_
  refine WC_goal ?_
  refine WC_take 11 (l' := #[true, true, true, true, true, true, true, true, true, true, true, true]) rfl (by decide +kernel) (by decide +kernel) (by decide +kernel) rfl (by decide +kernel) (X_assign rfl) rfl ?_
  refine WC_done zH (by decide +kernel) ?_
  refine W_seq ?_
  refine W_sr ?_
  refine W_move rfl rfl ?_
  refine W_not rfl rfl ?_
  refine W_nil ?_
  refine W_condT rfl rfl ?_
  refine W_sr ?_
  refine W_assign rfl rfl ?_
  refine W_nil ?_
  refine W_ret1m (H2 := (bw, .cells 167 523 (whRow now sl bs bm turn)) :: (bm, .obj (mapO (Value.int .i64) l c)) :: H) Tryz.results119 rfl (.nil _) zH ?_
  exact ⟨rfl, rfl⟩
set_option maxHeartbeats 4000000 in
theorem del_at {w0 : World} {H : Heap} {bw bm now turn c tn z : Nat} {L : List Tm} {sl : List Value} {XS : List Heap} {bs : List Nat} {l : Ents Int} {id : Int} {e : Spot} {v0 : Value} {X : Heap} (hok : RowOk sl bs) (hmap : MapOk l c) (hv : (mGet l id).getD zEnt = .agg (e.v ++ [Value.int .i64 ((tn : Nat) : Int)]).toArray) (hh : mHas l id = true) (hsp : e.lv < 8 ∧ e.slot < 64) (hz : bs[e.lv]? = some z) (hz2 : z < 18446744073709551616) (hlen : (idsAt L (e.lv * 64 + e.slot)).length ≤ 256) (hpos : 0 < (idsAt L (e.lv * 64 + e.slot)).length) (hsl : sl[(e.lv * 64 + e.slot)]? = some v0) (hX : XS[(e.lv * 64 + e.slot)]? = some X) (hO : OwnS 3 1 v0 (idsAt L (e.lv * 64 + e.slot)).length ((idsAt L (e.lv * 64 + e.slot)).map (Value.int .i64)) X)  : LCalls Tryz.prog w0 119 #[.pointer (some ⟨bw, 0, none⟩), .int .i64 id] ((bw, .cells 167 523 (whRow now sl bs bm turn)) :: (bm, .obj (mapO (Value.int .i64) l c)) :: (XS.flatten ++ H)) (fun v H' => ∃ b cap, v = .bool true ∧ (del1 (idsAt L (e.lv * 64 + e.slot)) id).length ≤ cap ∧ cap ≤ maxLen ∧ H' = (bw, .cells 167 523 (whRow now (sl.set (e.lv * 64 + e.slot) (Value.slice (some ⟨b, 0, none⟩) (del1 (idsAt L (e.lv * 64 + e.slot)) id).length cap)) (if (del1 (idsAt L (e.lv * 64 + e.slot)) id).length = 0 then (bs.set e.lv (outL z [(e.slot : Int)])) else bs) bm turn)) :: (bm, .obj (mapO (Value.int .i64) (mDel l id) c)) :: ((b, .cells 3 (cap * 1) (((del1 (idsAt L (e.lv * 64 + e.slot)) id)).map (Value.int .i64))) :: ((XS.set (e.lv * 64 + e.slot) []).flatten ++ H))) := by
  obtain ⟨b, cap, hv0, hXe, hcap, hmax⟩ := OwnS.is hO hpos
  have hok2 : ∀ v, RowOk (sl.set (e.lv * 64 + e.slot) v) bs := fun v => hok.setSl _ v
  have hok3 : ∀ v, RowOk (sl.set (e.lv * 64 + e.slot) v) (bs.set e.lv (outL z [(e.slot : Int)])) := fun v => (hok.setSl _ v).setBs _ _
  have hdl := del1_le (idsAt L (e.lv * 64 + e.slot)) id
  refine L_enter (l := [.pointer (some ⟨bw, 0, none⟩), .int .i64 id]) Tryz.func119 rfl Tryz.ntmps119 rfl rfl ?_
  refine W_sr ?_
  refine W_box (l := [.int .i64 id]) rfl rfl rfl (fun b3 => ?_)
  refine W_assign rfl rfl ?_
  refine W_nil ?_
  refine W_seq ?_
  refine W_anyC [(b3, .cells 3 1 [.int .i64 id]), (bw, .cells 167 523 (whRow now sl bs bm turn)), (bm, .obj (mapO (Value.int .i64) l c))] (by kernel_rfl) ?_
  refine WC_take 0 (l' := #[true, false, false, false, false, false, false, false, false, false, false, false]) rfl (by decide +kernel) (by decide +kernel) (by decide +kernel) rfl (by decide +kernel) (X_move rfl) rfl ?_
  refine WC_take 1 (l' := #[true, true, false, false, false, false, false, false, false, false, false, false]) rfl (by decide +kernel) (by decide +kernel) (by decide +kernel) rfl (by decide +kernel) (X_nilCheck rfl) rfl ?_
  refine WC_take 2 (l' := #[true, true, true, false, false, false, false, false, false, false, false, false]) rfl (by decide +kernel) (by decide +kernel) (by decide +kernel) rfl (by decide +kernel) (X_fieldAddr rfl fld167_3 (by decide)) rfl ?_
  refine WC_take 3 (l' := #[true, true, true, true, false, false, false, false, false, false, false, false]) rfl (by decide +kernel) (by decide +kernel) (by decide +kernel) rfl (by decide +kernel) (X_load (v := .map (some bm)) rfl ty161 rfl (Cell.own (b := bw) zM (wh_map hok))) rfl ?_
  refine WC_take 4 (l' := #[true, true, true, true, true, false, false, false, false, false, false, false]) rfl (by decide +kernel) (by decide +kernel) (by decide +kernel) rfl (by decide +kernel) (X_load (v := .int .i64 id) rfl ty3 rfl (Cell.own (b := b3) zM rfl)) rfl ?_
  refine WC_take 5 (l' := #[true, true, true, true, true, true, false, false, false, false, false, false]) rfl (by decide +kernel) (by decide +kernel) (by decide +kernel) rfl (by decide +kernel) (X_lookup (b := bm) (a := id) (zE := zEnt) rfl rfl keyI ty161 zEz zM) rfl ?_
  simp only [if_true]
  rw [hv, hh]
  refine WC_take 6 (l' := #[true, true, true, true, true, true, true, false, false, false, false, false]) rfl (by decide +kernel) (by decide +kernel) (by decide +kernel) rfl (by decide +kernel) (X_move rfl) rfl ?_
  refine WC_take 7 (l' := #[true, true, true, true, true, true, true, true, false, false, false, false]) rfl (by decide +kernel) (by decide +kernel) (by decide +kernel) rfl (by decide +kernel) (X_extract rfl rfl) rfl ?_
  refine WC_take 8 (l' := #[true, true, true, true, true, true, true, true, true, false, false, false]) rfl (by decide +kernel) (by decide +kernel) (by decide +kernel) rfl (by decide +kernel) (X_extract rfl rfl) rfl ?_
  refine WC_one 9 (l' := #[true, true, true, true, true, true, true, true, true, true, false, false]) zH (by decide +kernel) rfl (by decide +kernel) ?_
  refine W_alloc (l := [.int .i64 0, .int .i64 0, .int .u64 0, .int .u64 0, .int .i64 0]) ty169 rfl rfl (fun b5 => ?_)
  refine W_nil ?_
  refine WC_goal ?_
  refine WC_one 10 (l' := #[true, true, true, true, true, true, true, true, true, true, true, false]) zH (by decide +kernel) rfl (by decide +kernel) ?_
  refine W_storeA (l' := (e.v ++ [Value.int .i64 ((tn : Nat) : Int)])) rfl rfl ty169 rfl rfl (b := b5) zM (by exact Nat.le_refl 5) rfl zU ?_
  refine W_nil ?_
  refine WC_goal ?_
  refine WC_take 11 (l' := #[true, true, true, true, true, true, true, true, true, true, true, true]) rfl (by decide +kernel) (by decide +kernel) (by decide +kernel) rfl (by decide +kernel) (X_assign rfl) rfl ?_
  refine WC_done zH (by decide +kernel) ?_
  refine W_seq ?_
  refine W_sr ?_
  refine W_move rfl rfl ?_
  refine W_not rfl rfl ?_
  refine W_nil ?_
  refine W_condF rfl rfl ?_
  refine W_skip ?_
  refine W_sr ?_
  refine W_fieldAddr rfl fld169_0 (by decide) rfl ?_
  refine W_loadB (vs := e.v) rfl ty32 rfl (b := b5) zM rfl rfl rfl ?_
  refine W_alloc (l := zSpot.v) ty32 rfl rfl (fun b7 => ?_)
  refine W_storeA (l' := e.v) rfl rfl ty32 rfl rfl (b := b7) zM (by exact Nat.le_refl 4) rfl zU ?_
  refine W_nil ?_
  refine W_seq ?_
  refine W_hsub (.cons (.here _) (.cons (.here _) (.cons (.here _) (.cons (.here _) (.cons (.here _) (flat_out hX)))))) ?_
  subst hv0 hXe
  refine W_hsub (H' := (b, .cells 3 (cap * 1) (((idsAt L (e.lv * 64 + e.slot))).map (Value.int .i64))) :: (b7, .cells 32 4 e.v) :: (b5, .cells 169 5 (e.v ++ [Value.int .i64 ((tn : Nat) : Int)])) :: (b3, .cells 3 1 [.int .i64 id]) :: (bw, .cells 167 523 (whRow now sl bs bm turn)) :: (bm, .obj (mapO (Value.int .i64) l c)) :: ((XS.set (e.lv * 64 + e.slot) []).flatten ++ H)) zH ?_
  refine W_anyC [(b3, .cells 3 1 [.int .i64 id]), (b7, .cells 32 4 e.v), (bw, .cells 167 523 (whRow now sl bs bm turn))] (by kernel_rfl) ?_
  refine WC_take 0 (l' := #[true, false, false, false, false, false, false, false, false, false, false, false, false]) rfl (by decide +kernel) (by decide +kernel) (by decide +kernel) rfl (by decide +kernel) (X_move rfl) rfl ?_
  refine WC_take 1 (l' := #[true, true, false, false, false, false, false, false, false, false, false, false, false]) rfl (by decide +kernel) (by decide +kernel) (by decide +kernel) rfl (by decide +kernel) (X_fieldAddr rfl fld32_0 (by decide)) rfl ?_
  refine WC_take 2 (l' := #[true, true, true, false, false, false, false, false, false, false, false, false, false]) rfl (by decide +kernel) (by decide +kernel) (by decide +kernel) rfl (by decide +kernel) (X_load (v := .int .i64 (e.lv : Int)) rfl ty3 rfl (Cell.own (b := b7) zM rfl)) rfl ?_
  refine WC_take 3 (l' := #[true, true, true, true, false, false, false, false, false, false, false, false, false]) rfl (by decide +kernel) (by decide +kernel) (by decide +kernel) rfl (by decide +kernel) (X_fieldAddr rfl fld32_1 (by decide)) rfl ?_
  refine WC_take 4 (l' := #[true, true, true, true, true, false, false, false, false, false, false, false, false]) rfl (by decide +kernel) (by decide +kernel) (by decide +kernel) rfl (by decide +kernel) (X_load (v := .int .i64 (e.slot : Int)) rfl ty3 rfl (Cell.own (b := b7) zM rfl)) rfl ?_
  refine WC_take 5 (l' := #[true, true, true, true, true, true, false, false, false, false, false, false, false]) rfl (by decide +kernel) (by decide +kernel) (by decide +kernel) rfl (by decide +kernel) (X_nilCheck rfl) rfl ?_
  refine WC_take 6 (l' := #[true, true, true, true, true, true, true, false, false, false, false, false, false]) rfl (by decide +kernel) (by decide +kernel) (by decide +kernel) rfl (by decide +kernel) (X_fieldAddr rfl fld167_1 (by decide)) rfl ?_
  refine WC_take 7 (l' := #[true, true, true, true, true, true, true, true, false, false, false, false, false]) rfl (by decide +kernel) (by decide +kernel) (by decide +kernel) rfl (by decide +kernel) (X_indexAddrA (j := e.lv) rfl rfl ty163 ty162 rfl hsp.1 (at_ := 1 + e.lv * 64) (by omega)) rfl ?_
  refine WC_take 8 (l' := #[true, true, true, true, true, true, true, true, true, false, false, false, false]) rfl (by decide +kernel) (by decide +kernel) (by decide +kernel) rfl (by decide +kernel) (X_indexAddrA (j := e.slot) rfl rfl ty162 ty24 rfl hsp.2 (at_ := 1 + (e.lv * 64 + e.slot)) (by omega)) rfl ?_
  refine WC_take 9 (l' := #[true, true, true, true, true, true, true, true, true, true, false, false, false]) rfl (by decide +kernel) (by decide +kernel) (by decide +kernel) rfl (by decide +kernel) (X_load (v := .slice (some ⟨b, 0, none⟩) (idsAt L (e.lv * 64 + e.slot)).length cap) rfl ty24 rfl (Cell.own (b := bw) zM (wh_sl hok hsl))) rfl ?_
  refine WC_take 10 (l' := #[true, true, true, true, true, true, true, true, true, true, true, false, false]) rfl (by decide +kernel) (by decide +kernel) (by decide +kernel) rfl (by decide +kernel) (X_makeFunc .nil (.cons rfl .nil)) rfl ?_
  refine WC_one 11 (l' := #[true, true, true, true, true, true, true, true, true, true, true, true, false]) zH (by decide +kernel) rfl (by decide +kernel) ?_
  refine W_call (.cons rfl (.cons rfl .nil)) Tryz.call134 rfl ((delete_L (l := (idsAt L (e.lv * 64 + e.slot))) (id := id) (bd := b3) (b := b) (tot := cap * 1) (cap := cap) (H := (b7, .cells 32 4 e.v) :: (b5, .cells 169 5 (e.v ++ [Value.int .i64 ((tn : Nat) : Int)])) :: (b3, .cells 3 1 [.int .i64 id]) :: (bw, .cells 167 523 (whRow now sl bs bm turn)) :: (bm, .obj (mapO (Value.int .i64) l c)) :: ((XS.set (e.lv * 64 + e.slot) []).flatten ++ H)) (by omega) hcap zM).hsub zH) ?_
  rintro v H' ⟨rfl, rfl⟩
  refine W_nil ?_
  refine WC_goal ?_
  refine WC_take 12 (l' := #[true, true, true, true, true, true, true, true, true, true, true, true, true]) rfl (by decide +kernel) (by decide +kernel) (by decide +kernel) rfl (by decide +kernel) (X_assign rfl) rfl ?_
  refine WC_done zH (by decide +kernel) ?_
  refine W_seq ?_
  refine W_anyS [(b7, .cells 32 4 e.v), (bw, .cells 167 523 (whRow now sl bs bm turn))] 10 (by kernel_rfl) ?_
  refine WS_take 0 (l' := #[true, false, false, false, false, false, false, false, false, false, false]) rfl rfl (by decide +kernel) (by decide +kernel) (by decide +kernel) (by decide +kernel) rfl (by decide +kernel) (X_move rfl) rfl ?_
  refine WS_take 1 (l' := #[true, true, false, false, false, false, false, false, false, false, false]) rfl rfl (by decide +kernel) (by decide +kernel) (by decide +kernel) (by decide +kernel) rfl (by decide +kernel) (X_fieldAddr rfl fld32_0 (by decide)) rfl ?_
  refine WS_take 2 (l' := #[true, true, true, false, false, false, false, false, false, false, false]) rfl rfl (by decide +kernel) (by decide +kernel) (by decide +kernel) (by decide +kernel) rfl (by decide +kernel) (X_load (v := .int .i64 (e.lv : Int)) rfl ty3 rfl (Cell.own (b := b7) zM rfl)) rfl ?_
  refine WS_take 3 (l' := #[true, true, true, true, false, false, false, false, false, false, false]) rfl rfl (by decide +kernel) (by decide +kernel) (by decide +kernel) (by decide +kernel) rfl (by decide +kernel) (X_fieldAddr rfl fld32_1 (by decide)) rfl ?_
  refine WS_take 4 (l' := #[true, true, true, true, true, false, false, false, false, false, false]) rfl rfl (by decide +kernel) (by decide +kernel) (by decide +kernel) (by decide +kernel) rfl (by decide +kernel) (X_load (v := .int .i64 (e.slot : Int)) rfl ty3 rfl (Cell.own (b := b7) zM rfl)) rfl ?_
  refine WS_take 5 (l' := #[true, true, true, true, true, true, false, false, false, false, false]) rfl rfl (by decide +kernel) (by decide +kernel) (by decide +kernel) (by decide +kernel) rfl (by decide +kernel) (X_move rfl) rfl ?_
  refine WS_takeP 6 (l' := #[true, true, true, true, true, true, true, false, false, false, false]) rfl rfl (by decide +kernel) (by decide +kernel) (by decide +kernel) rfl (by decide +kernel) (X_nilCheck rfl) rfl ?_
  refine WS_takeP 7 (l' := #[true, true, true, true, true, true, true, true, false, false, false]) rfl rfl (by decide +kernel) (by decide +kernel) (by decide +kernel) rfl (by decide +kernel) (X_fieldAddr rfl fld167_1 (by decide)) rfl ?_
  refine WS_takeP 8 (l' := #[true, true, true, true, true, true, true, true, true, false, false]) rfl rfl (by decide +kernel) (by decide +kernel) (by decide +kernel) rfl (by decide +kernel) (X_indexAddrA (j := e.lv) rfl rfl ty163 ty162 rfl hsp.1 (at_ := 1 + e.lv * 64) (by omega)) rfl ?_
  refine WS_take 9 (l' := #[true, true, true, true, true, true, true, true, true, true, false]) rfl rfl (by decide +kernel) (by decide +kernel) (by decide +kernel) (by decide +kernel) rfl (by decide +kernel) (X_indexAddrA (j := e.slot) rfl rfl ty162 ty24 rfl hsp.2 (at_ := 1 + (e.lv * 64 + e.slot)) (by omega)) rfl ?_
  refine WS_last (l' := #[true, true, true, true, true, true, true, true, true, true, true]) zH (by decide +kernel) rfl (by decide +kernel) ?_
  refine W_store (l' := whRow now (sl.set (e.lv * 64 + e.slot) (Value.slice (some ⟨b, 0, none⟩) (del1 (idsAt L (e.lv * 64 + e.slot)) id).length cap)) bs bm turn) rfl rfl ty24 rfl rfl (b := bw) zM (by rw [wh_len hok, Nat.blt_eq]; omega) (wh_setSl hok (by omega)) zU ?_
  refine W_nil ?_
  refine WC_goal ?_
  refine WC_done (.nil _) (by decide +kernel) ?_
  refine W_seq ?_
  refine W_sr ?_
  refine W_move rfl rfl ?_
  refine W_len rfl ty24 rfl rfl ?_
  refine W_bin rfl rfl b_eql rfl ?_
  refine W_nil ?_
  refine W_condPS (p := (del1 (idsAt L (e.lv * 64 + e.slot)) id).length = 0) rfl (by rw [decide_eq_true_eq]; omega) (fun q0 => ?_) (fun q0 => ?_)
  · skip
    refine W_anyS [(b7, .cells 32 4 e.v), (bw, .cells 167 523 (whRow now (sl.set (e.lv * 64 + e.slot) (Value.slice (some ⟨b, 0, none⟩) (del1 (idsAt L (e.lv * 64 + e.slot)) id).length cap)) bs bm turn))] 17 (by kernel_rfl) ?_
    refine WS_take 0 (l' := #[true, false, false, false, false, false, false, false, false, false, false, false, false, false, false, false, false, false]) rfl rfl (by decide +kernel) (by decide +kernel) (by decide +kernel) (by decide +kernel) rfl (by decide +kernel) (X_move rfl) rfl ?_
    refine WS_take 1 (l' := #[true, true, false, false, false, false, false, false, false, false, false, false, false, false, false, false, false, false]) rfl rfl (by decide +kernel) (by decide +kernel) (by decide +kernel) (by decide +kernel) rfl (by decide +kernel) (X_fieldAddr rfl fld32_0 (by decide)) rfl ?_
    refine WS_take 2 (l' := #[true, true, true, false, false, false, false, false, false, false, false, false, false, false, false, false, false, false]) rfl rfl (by decide +kernel) (by decide +kernel) (by decide +kernel) (by decide +kernel) rfl (by decide +kernel) (X_load (v := .int .i64 (e.lv : Int)) rfl ty3 rfl (Cell.own (b := b7) zM rfl)) rfl ?_
    refine WS_take 3 (l' := #[true, true, true, true, false, false, false, false, false, false, false, false, false, false, false, false, false, false]) rfl rfl (by decide +kernel) (by decide +kernel) (by decide +kernel) (by decide +kernel) rfl (by decide +kernel) (X_move rfl) rfl ?_
    refine WS_take 4 (l' := #[true, true, true, true, true, false, false, false, false, false, false, false, false, false, false, false, false, false]) rfl rfl (by decide +kernel) (by decide +kernel) (by decide +kernel) (by decide +kernel) rfl (by decide +kernel) (X_fieldAddr rfl fld32_0 (by decide)) rfl ?_
    refine WS_take 5 (l' := #[true, true, true, true, true, true, false, false, false, false, false, false, false, false, false, false, false, false]) rfl rfl (by decide +kernel) (by decide +kernel) (by decide +kernel) (by decide +kernel) rfl (by decide +kernel) (X_load (v := .int .i64 (e.lv : Int)) rfl ty3 rfl (Cell.own (b := b7) zM rfl)) rfl ?_
    refine WS_take 6 (l' := #[true, true, true, true, true, true, true, false, false, false, false, false, false, false, false, false, false, false]) rfl rfl (by decide +kernel) (by decide +kernel) (by decide +kernel) (by decide +kernel) rfl (by decide +kernel) (X_nilCheck rfl) rfl ?_
    refine WS_take 7 (l' := #[true, true, true, true, true, true, true, true, false, false, false, false, false, false, false, false, false, false]) rfl rfl (by decide +kernel) (by decide +kernel) (by decide +kernel) (by decide +kernel) rfl (by decide +kernel) (X_fieldAddr rfl fld167_2 (by decide)) rfl ?_
    refine WS_take 8 (l' := #[true, true, true, true, true, true, true, true, true, false, false, false, false, false, false, false, false, false]) rfl rfl (by decide +kernel) (by decide +kernel) (by decide +kernel) (by decide +kernel) rfl (by decide +kernel) (X_indexAddrA (j := e.lv) rfl rfl ty165 ty164 rfl hsp.1 (at_ := 513 + e.lv) (by omega)) rfl ?_
    refine WS_take 9 (l' := #[true, true, true, true, true, true, true, true, true, true, false, false, false, false, false, false, false, false]) rfl rfl (by decide +kernel) (by decide +kernel) (by decide +kernel) (by decide +kernel) rfl (by decide +kernel) (X_load (v := .int .u64 (z : Int)) rfl ty164 rfl (Cell.own (b := bw) zM (wh_bs (hok2 _) hz))) rfl ?_
    refine WS_take 10 (l' := #[true, true, true, true, true, true, true, true, true, true, true, false, false, false, false, false, false, false]) rfl rfl (by decide +kernel) (by decide +kernel) (by decide +kernel) (by decide +kernel) rfl (by decide +kernel) (X_fieldAddr rfl fld32_1 (by decide)) rfl ?_
    refine WS_take 11 (l' := #[true, true, true, true, true, true, true, true, true, true, true, true, false, false, false, false, false, false]) rfl rfl (by decide +kernel) (by decide +kernel) (by decide +kernel) (by decide +kernel) rfl (by decide +kernel) (X_load (v := .int .i64 (e.slot : Int)) rfl ty3 rfl (Cell.own (b := b7) zM rfl)) rfl ?_
    refine WS_takeP 14 (l' := #[true, true, true, true, true, true, true, true, true, true, true, true, false, false, true, false, false, false]) rfl rfl (by decide +kernel) (by decide +kernel) (by decide +kernel) rfl (by decide +kernel) (X_nilCheck rfl) rfl ?_
    refine WS_takeP 15 (l' := #[true, true, true, true, true, true, true, true, true, true, true, true, false, false, true, true, false, false]) rfl rfl (by decide +kernel) (by decide +kernel) (by decide +kernel) rfl (by decide +kernel) (X_fieldAddr rfl fld167_2 (by decide)) rfl ?_
    refine WS_one 12 (l' := #[true, true, true, true, true, true, true, true, true, true, true, true, true, false, true, true, false, false]) zH rfl (by decide +kernel) rfl (by decide +kernel) ?_
    refine W_buildSlice ty24 ty3 (.cons rfl rfl rfl rfl rfl .nil) rfl rfl rfl rfl rfl rfl rfl (fun b59 => ?_)
    refine W_nil ?_
    refine WS_goal ?_
    refine WS_one 13 (l' := #[true, true, true, true, true, true, true, true, true, true, true, true, true, true, true, true, false, false]) zH rfl (by decide +kernel) rfl (by decide +kernel) ?_
    refine W_callq (.cons rfl (.cons rfl .nil)) Tryz.call136 rfl (out_q (l := [(e.slot : Int)]) hz2 (show 1 ≤ 4611686018427387904 by decide) (Holds.own (b := b59) zM)) ?_
    refine W_nil ?_
    refine WS_goal ?_
    refine WS_take 16 (l' := #[true, true, true, true, true, true, true, true, true, true, true, true, true, true, true, true, true, false]) rfl rfl (by decide +kernel) (by decide +kernel) (by decide +kernel) (by decide +kernel) rfl (by decide +kernel) (X_indexAddrA (j := e.lv) rfl rfl ty165 ty164 rfl hsp.1 (at_ := 513 + e.lv) (by omega)) rfl ?_
    refine WS_last (l' := #[true, true, true, true, true, true, true, true, true, true, true, true, true, true, true, true, true, true]) zH (by decide +kernel) rfl (by decide +kernel) ?_
    refine W_store (l' := whRow now (sl.set (e.lv * 64 + e.slot) (Value.slice (some ⟨b, 0, none⟩) (del1 (idsAt L (e.lv * 64 + e.slot)) id).length cap)) (bs.set e.lv (outL z [(e.slot : Int)])) bm turn) rfl rfl ty164 rfl rfl (b := bw) zM (by rw [wh_len (hok2 _), Nat.blt_eq]; omega) (wh_setBs (hok2 _) hsp.1) zU ?_
    refine W_nil ?_
    refine WC_goal ?_
    refine WC_done (.nil _) (by decide +kernel) ?_
    refine W_seq ?_
    refine W_anyC [(b3, .cells 3 1 [.int .i64 id]), (bw, .cells 167 523 (whRow now (sl.set (e.lv * 64 + e.slot) (Value.slice (some ⟨b, 0, none⟩) (del1 (idsAt L (e.lv * 64 + e.slot)) id).length cap)) (bs.set e.lv (outL z [(e.slot : Int)])) bm turn))] (by kernel_rfl) ?_
    refine WC_take 0 (l' := #[true, false, false, false, false, false]) rfl (by decide +kernel) (by decide +kernel) (by decide +kernel) rfl (by decide +kernel) (X_move rfl) rfl ?_
    refine WC_take 1 (l' := #[true, true, false, false, false, false]) rfl (by decide +kernel) (by decide +kernel) (by decide +kernel) rfl (by decide +kernel) (X_nilCheck rfl) rfl ?_
    refine WC_take 2 (l' := #[true, true, true, false, false, false]) rfl (by decide +kernel) (by decide +kernel) (by decide +kernel) rfl (by decide +kernel) (X_fieldAddr rfl fld167_3 (by decide)) rfl ?_
    refine WC_take 3 (l' := #[true, true, true, true, false, false]) rfl (by decide +kernel) (by decide +kernel) (by decide +kernel) rfl (by decide +kernel) (X_load (v := .map (some bm)) rfl ty161 rfl (Cell.own (b := bw) zM (wh_map (hok3 _)))) rfl ?_
    refine WC_take 4 (l' := #[true, true, true, true, true, false]) rfl (by decide +kernel) (by decide +kernel) (by decide +kernel) rfl (by decide +kernel) (X_load (v := .int .i64 id) rfl ty3 rfl (Cell.own (b := b3) zM rfl)) rfl ?_
    refine WC_one 5 (l' := #[true, true, true, true, true, true]) zH (by decide +kernel) rfl (by decide +kernel) ?_
    refine W_delete (a := id) (b := bm) rfl rfl keyI ty161 hmap zU rfl ?_
    refine W_nil ?_
    refine WC_goal ?_
    refine WC_done zH (by decide +kernel) ?_
    refine W_sr ?_
    refine W_assign rfl rfl ?_
    refine W_nil ?_
    refine W_ret1m (H2 := (bw, .cells 167 523 (whRow now (sl.set (e.lv * 64 + e.slot) (Value.slice (some ⟨b, 0, none⟩) (del1 (idsAt L (e.lv * 64 + e.slot)) id).length cap)) (bs.set e.lv (outL z [(e.slot : Int)])) bm turn)) :: (bm, .obj (mapO (Value.int .i64) (mDel l id) c)) :: ((b, .cells 3 (cap * 1) (((del1 (idsAt L (e.lv * 64 + e.slot)) id)).map (Value.int .i64))) :: ((XS.set (e.lv * 64 + e.slot) []).flatten ++ H))) Tryz.results119 rfl (.nil _) zH ?_
    exact ⟨b, cap, rfl, by omega, hmax, by rw [if_pos q0]⟩
  · skip
    refine W_skip ?_
    refine W_seq ?_
    refine W_anyC [(b3, .cells 3 1 [.int .i64 id]), (bw, .cells 167 523 (whRow now (sl.set (e.lv * 64 + e.slot) (Value.slice (some ⟨b, 0, none⟩) (del1 (idsAt L (e.lv * 64 + e.slot)) id).length cap)) bs bm turn))] (by kernel_rfl) ?_
    refine WC_take 0 (l' := #[true, false, false, false, false, false]) rfl (by decide +kernel) (by decide +kernel) (by decide +kernel) rfl (by decide +kernel) (X_move rfl) rfl ?_
    refine WC_take 1 (l' := #[true, true, false, false, false, false]) rfl (by decide +kernel) (by decide +kernel) (by decide +kernel) rfl (by decide +kernel) (X_nilCheck rfl) rfl ?_
    refine WC_take 2 (l' := #[true, true, true, false, false, false]) rfl (by decide +kernel) (by decide +kernel) (by decide +kernel) rfl (by decide +kernel) (X_fieldAddr rfl fld167_3 (by decide)) rfl ?_
    refine WC_take 3 (l' := #[true, true, true, true, false, false]) rfl (by decide +kernel) (by decide +kernel) (by decide +kernel) rfl (by decide +kernel) (X_load (v := .map (some bm)) rfl ty161 rfl (Cell.own (b := bw) zM (wh_map (hok2 _)))) rfl ?_
    refine WC_take 4 (l' := #[true, true, true, true, true, false]) rfl (by decide +kernel) (by decide +kernel) (by decide +kernel) rfl (by decide +kernel) (X_load (v := .int .i64 id) rfl ty3 rfl (Cell.own (b := b3) zM rfl)) rfl ?_
    refine WC_one 5 (l' := #[true, true, true, true, true, true]) zH (by decide +kernel) rfl (by decide +kernel) ?_
    refine W_delete (a := id) (b := bm) rfl rfl keyI ty161 hmap zU rfl ?_
    refine W_nil ?_
    refine WC_goal ?_
    refine WC_done zH (by decide +kernel) ?_
    refine W_sr ?_
    refine W_assign rfl rfl ?_
    refine W_nil ?_
    refine W_ret1m (H2 := (bw, .cells 167 523 (whRow now (sl.set (e.lv * 64 + e.slot) (Value.slice (some ⟨b, 0, none⟩) (del1 (idsAt L (e.lv * 64 + e.slot)) id).length cap)) bs bm turn)) :: (bm, .obj (mapO (Value.int .i64) (mDel l id) c)) :: ((b, .cells 3 (cap * 1) (((del1 (idsAt L (e.lv * 64 + e.slot)) id)).map (Value.int .i64))) :: ((XS.set (e.lv * 64 + e.slot) []).flatten ++ H))) Tryz.results119 rfl (.nil _) zH ?_
    exact ⟨b, cap, rfl, by omega, hmax, by rw [if_neg q0]⟩
end Go.Proofs.YtcmfldfeakmdoaaGreatDoor
namespace Go.Proofs.YtcmfldfeakmdoaaGreatDoor
open Go Go.Sl
attribute [local irreducible] W
theorem LCalls.sub {P : Program} {w0 : World} {f : FuncId} {args : Array Value} {H : Heap} {R R' : Value → Heap → Prop} (h : LCalls P w0 f args H R) (hr : ∀ v H', R v H' → ∃ H2, HSub H' H2 ∧ R' v H2) : LCalls P w0 f args H R' :=
  fun w hs => (h w hs).mono fun _ _ ⟨v, H', e, r, s⟩ => by
    obtain ⟨H2, h1, h2⟩ := hr _ _ r
    exact ⟨v, H2, e, h2, s.hsub h1⟩
theorem delT_out {L : List Tm} {id : Int} (h : id ∉ L.map (·.id)) : delT L id = L := by
  unfold delT
  rw [List.filter_eq_self]
  exact fun t ht => decide_eq_true (fun e => h (e ▸ List.mem_map_of_mem ht))
def heldB (L : List Tm) (id : Int) : Bool := L.any (fun t => decide (t.id = id))
theorem heldB_iff {L : List Tm} {id : Int} : heldB L id = true ↔ id ∈ L.map (·.id) := by
  unfold heldB
  rw [List.any_eq_true, List.mem_map]
  exact ⟨fun ⟨t, h, e⟩ => ⟨t, h, of_decide_eq_true e⟩, fun ⟨t, h, e⟩ => ⟨t, h, decide_eq_true e⟩⟩
theorem del_L {w0 : World} {H HW : Heap} {bw now turn : Nat} {L : List Tm} {id : Int} (hW : WheelH bw now L turn HW) :
    LCalls Tryz.prog w0 119 #[.pointer (some ⟨bw, 0, none⟩), .int .i64 id] (HW ++ H) (fun v H' => ∃ HW', WheelH bw now (delT L id) turn HW' ∧ v = .bool (heldB L id) ∧ H' = HW' ++ H) := by
  cases hW with
  | @mk bm c sl XS bs l h =>
    by_cases hin : id ∈ L.map (·.id)
    · obtain ⟨t, ht, rfl⟩ := List.mem_map.1 hin
      obtain ⟨hv, hh⟩ := h.hit ht
      have hs := h.spot t ht
      obtain ⟨v0, X, hsl, hX, hO⟩ := h.own (t.s.lv * 64 + t.s.slot) (by omega)
      obtain ⟨z, hz, hz2, _⟩ := h.busy t.s.lv hs.1
      have hlen := Nat.le_trans (idsAt_len L (t.s.lv * 64 + t.s.slot)) h.len
      have hpos : 0 < (idsAt L (t.s.lv * 64 + t.s.slot)).length := List.length_pos_of_mem (idsAt_mem.2 ⟨t, ht, rfl, rfl⟩)
      have hcell : ∀ (b cap : Nat), (del1 (idsAt L t.key) t.id).length ≤ cap → cap ≤ maxLen → OwnS 3 1 (.slice (some ⟨b, 0, none⟩) (del1 (idsAt L t.key) t.id).length cap) (del1 (idsAt L t.key) t.id).length ((del1 (idsAt L t.key) t.id).map (Value.int .i64)) [(b, .cells 3 (cap * 1) ((del1 (idsAt L t.key) t.id).map (Value.int .i64)))] := fun b cap h1 h2 => .own (by rw [List.length_map, Nat.mul_one]) h1 h2
      refine LCalls.sub (del_at (H := H) h.row h.map hv hh hs hz hz2 hlen hpos hsl hX hO) ?_
      rintro v H' ⟨b, cap, rfl, hcap, hmax, rfl⟩
      refine ⟨_, ?_, _, .mk (bm := bm) (h.del ht (hcell b cap hcap hmax) hz rfl), by rw [heldB_iff.2 hin], rfl⟩
      exact .cons (.here _) (.cons (.here _) (flat_in (B := [_]) (by rw [h.xs]; omega)))
    · obtain ⟨hv, hh⟩ := h.miss hin
      refine (del_miss (H := XS.flatten ++ H) h.row hv hh).mono ?_
      rintro v H' ⟨rfl, rfl⟩
      refine ⟨_, by rw [delT_out hin]; exact .mk (bm := bm) h, ?_, rfl⟩
      cases hb : heldB L id with
      | false => rfl
      | true => exact absurd (heldB_iff.1 hb) hin
def delsT (L : List Tm) (l : List Int) : List Tm × Nat := l.foldl (fun s id => (delT s.1 id, s.2 + if heldB s.1 id = true then 1 else 0)) (L, 0)
theorem delsT_at {L : List Tm} {l : List Int} {i : Nat} {x : Int} (h : l[i]? = some x) : delsT L (l.take (i + 1)) = (delT (delsT L (l.take i)).1 x, (delsT L (l.take i)).2 + if heldB (delsT L (l.take i)).1 x = true then 1 else 0) := by
  unfold delsT
  rw [takeAt h, List.foldl_append]; rfl
theorem delsT_le (L : List Tm) (l : List Int) : ∀ i, i ≤ l.length → (delsT L (l.take i)).2 ≤ i
  | 0, _ => by simp [delsT]
  | i + 1, h => by
    obtain ⟨x, hx⟩ : ∃ x, l[i]? = some x := ⟨_, List.getElem?_eq_getElem (by omega)⟩
    have := delsT_le L l i (by omega)
    rw [delsT_at hx]
    dsimp only
    split <;> omega
set_option maxHeartbeats 1000000 in
theorem Del_L {w0 : World} {H : Heap} {HW : Heap} {bw now turn cap : Nat} {L : List Tm} {l : List Int} {ad : Option Addr} (hW : WheelH bw now L turn HW) (hn : l.length ≤ 4611686018427387904) (hrow : Holds w0 H ad (l.map (Value.int .i64)))  : LCalls Tryz.prog w0 102 #[.pointer (some ⟨bw, 0, none⟩), .slice ad l.length cap] (HW ++ H) (fun v H' => ∃ HW', WheelH bw now (delsT L l).1 turn HW' ∧ v = .int .i64 ((delsT L l).2 : Int) ∧ H' = HW' ++ H) := by
  refine L_enter (l := [.pointer (some ⟨bw, 0, none⟩), .slice ad l.length cap]) Tryz.func102 rfl Tryz.ntmps102 rfl rfl ?_
  refine W_sr ?_
  refine W_assign rfl rfl ?_
  refine W_nil ?_
  refine W_sr ?_
  refine W_assign rfl rfl ?_
  refine W_nil ?_
  refine W_seq ?_
  refine W_sr ?_
  refine W_move rfl rfl ?_
  refine W_len rfl ty24 rfl rfl ?_
  refine W_move rfl rfl ?_
  refine W_nil ?_
  refine W_block ?_
  refine W_loopC (X := (Nat × Heap)) [(0, _), (8, _), (9, _)] (fun (x : (Nat × Heap)) => [(5, .int .i64 ((delsT L (l.take x.1)).2 : Int)), (10, .int .i64 (x.1 : Int))]) (fun _ => _) (fun (x : (Nat × Heap)) => x.2 ++ H) (fun (x : (Nat × Heap)) => x.1 ≤ l.length ∧ WheelH bw now (delsT L (l.take x.1)).1 turn x.2) (fun (x : (Nat × Heap)) => l.length - x.1) (0, HW) ⟨Nat.zero_le _, hW⟩ (sub_cons rfl (sub_cons rfl (sub_cons rfl (sub_nil _)))) (sub_cons rfl (sub_cons rfl (sub_nil _))) rfl (.refl _) ?_
  rintro ⟨i, HWi⟩ ⟨hi, hWi⟩
  dsimp only at hi hWi ⊢
  simp only [List.cons_append, List.nil_append]
  refine W_sr ?_
  refine W_bin rfl rfl b_lss rfl ?_
  refine W_nil ?_
  refine W_seq ?_
  refine W_condPS (p := (i : Int) < (l.length : Int)) rfl (by simp) (fun q0 => ?_) (fun q0 => ?_)
  · skip
    refine W_skip ?_
    refine W_seq ?_
    refine W_block ?_
    refine W_sr ?_
    obtain ⟨x, hx⟩ : ∃ x, l[i]? = some x := ⟨_, List.getElem?_eq_getElem (by omega)⟩
    obtain ⟨q0, p0, rfl, hc⟩ := hrow.at (i := i) (v := .int .i64 x) (by rw [List.getElem?_map, hx]; rfl)
    have hat := delsT_at (L := L) hx
    have hle := delsT_le L l i (by omega)
    refine W_indexAddr (j := i) rfl rfl ty24 ty3 rfl (by omega) rfl rfl ?_
    refine W_load (v := .int .i64 x) rfl ty3 rfl (by rw [Nat.mul_one (i)]; exact hc.up zH) rfl ?_
    refine W_assign rfl rfl ?_
    refine W_nil ?_
    refine W_sr ?_
    refine W_move rfl rfl ?_
    refine W_x (X_ptrNotNil rfl rfl ty133) (fun _ h => by cases h) rfl ?_
    refine W_move rfl rfl ?_
    refine W_gyes rfl rfl ?_
    refine W_move rfl rfl ?_
    refine W_gyes rfl rfl ?_
    refine W_move rfl rfl ?_
    refine W_gyes rfl rfl ?_
    refine W_call (.cons rfl (.cons rfl .nil)) Tryz.call119 rfl (del_L (id := x) hWi) ?_
    rintro v H' ⟨HW', hW', rfl, rfl⟩
    rcases hb : heldB (delsT L (l.take i)).1 x with _ | _
    · skip
      have hn2 : (delsT L (l.take i)).2 = (delsT L (l.take (i + 1))).2 := by rw [hat, hb]; rfl
      rw [hn2]
      first | refine W_pickt rfl rfl rfl ?_ | refine W_pickf rfl rfl rfl ?_
      refine W_nil ?_
      refine W_condF rfl rfl ?_
      refine W_skip ?_
      refine W_blk ?_
      refine W_region ?_
      refine W_bin rfl rfl (b_add (m := ((i + 1 : Nat) : Int)) (by rw [i64w (by omega)]; omega)) rfl ?_
      refine W_move rfl rfl ?_
      refine W_nil ?_
      refine W_again (i + 1, HW') ⟨by show i + 1 ≤ l.length; omega, by show WheelH bw now (delsT L (l.take (i + 1))).1 turn HW'; rw [hat]; exact hW'⟩ (by show l.length - (i + 1) < l.length - i; omega) (sub_cons rfl (sub_cons rfl (sub_cons rfl (sub_cons rfl (sub_cons rfl (sub_nil _)))))) rfl (.refl _)
    · skip
      have hn2 : (delsT L (l.take i)).2 + 1 = (delsT L (l.take (i + 1))).2 := by rw [hat, hb]; rfl
      first | refine W_pickt rfl rfl rfl ?_ | refine W_pickf rfl rfl rfl ?_
      refine W_nil ?_
      refine W_condT rfl rfl ?_
      refine W_region ?_
      refine W_move rfl rfl ?_
      refine W_bin rfl rfl (b_add (m := ((delsT L (l.take (i + 1))).2 : Int)) (by rw [i64w (by omega)]; omega)) rfl ?_
      refine W_assign rfl rfl ?_
      refine W_nil ?_
      refine W_blk ?_
      refine W_region ?_
      refine W_bin rfl rfl (b_add (m := ((i + 1 : Nat) : Int)) (by rw [i64w (by omega)]; omega)) rfl ?_
      refine W_move rfl rfl ?_
      refine W_nil ?_
      refine W_again (i + 1, HW') ⟨by show i + 1 ≤ l.length; omega, by show WheelH bw now (delsT L (l.take (i + 1))).1 turn HW'; rw [hat]; exact hW'⟩ (by show l.length - (i + 1) < l.length - i; omega) (sub_cons rfl (sub_cons rfl (sub_cons rfl (sub_cons rfl (sub_cons rfl (sub_nil _)))))) rfl (.refl _)
  · skip
    refine W_exit rfl ?_
    refine W_sr ?_
    refine W_move rfl rfl ?_
    refine W_assign rfl rfl ?_
    refine W_nil ?_
    refine W_ret1m Tryz.results102 rfl (.nil _) (.refl _) ?_
    obtain rfl : i = l.length := by omega
    rw [List.take_length] at hWi ⊢
    exact ⟨HWi, hWi, rfl, rfl⟩
end Go.Proofs.YtcmfldfeakmdoaaGreatDoor
namespace Go.Proofs.YtcmfldfeakmdoaaGreatDoor
open Go Go.Sl
attribute [local irreducible] W
theorem tickT_inj {x y n : Nat} (hx : x * 8 ^ n < 18446744073709551615 + 8 ^ n) (hy : y * 8 ^ n < 18446744073709551615 + 8 ^ n) (e : tickT x n = tickT y n) : x = y := by
  have key : ∀ {a b : Nat}, a * 8 ^ n < 18446744073709551615 + 8 ^ n → 18446744073709551615 / 8 ^ n < a → ¬ 18446744073709551615 / 8 ^ n < b → 18446744073709551615 = b * 8 ^ n → False := fun {a b} h1 h2 h3 h4 => by
    cases n with
    | zero => simp at h1 h2; omega
    | succ m =>
      rw [Nat.pow_succ, ← Nat.mul_assoc] at h4
      generalize b * 8 ^ m = q at h4
      omega
  have hg : 0 < 8 ^ n := Nat.pow_pos (by omega)
  have cut : ∀ {a : Nat}, a * 8 ^ n < 18446744073709551615 + 8 ^ n → 18446744073709551615 / 8 ^ n < a → a = 18446744073709551615 / 8 ^ n + 1 := fun {a} h1 h2 => by
    have h3 := Nat.div_add_mod 18446744073709551615 (8 ^ n)
    have h4 := Nat.mod_lt 18446744073709551615 hg
    rw [Nat.mul_comm] at h3
    generalize 18446744073709551615 / 8 ^ n = k at *
    generalize 8 ^ n = g at *
    have h5 : a < k + 2 := Nat.lt_of_mul_lt_mul_right (a := g) (by rw [Nat.add_mul]; omega)
    omega
  unfold tickT at e
  by_cases c1 : 18446744073709551615 / 8 ^ n < x <;> by_cases c2 : 18446744073709551615 / 8 ^ n < y
  · rw [cut hx c1, cut hy c2]
  · rw [if_pos c1, if_neg c2] at e
    exact (key hx c1 c2 e).elim
  · rw [if_neg c1, if_pos c2] at e
    exact (key hy c2 c1 e.symm).elim
  · rw [if_neg c1, if_neg c2] at e
    exact Nat.eq_of_mul_eq_mul_right hg e
theorem filter_or {p q r : Tm → Bool} : ∀ (L : List Tm), (∀ t ∈ L, (r t = true ↔ p t = true ∨ q t = true) ∧ ¬ (p t = true ∧ q t = true)) → (L.filter p ++ L.filter q).Perm (L.filter r)
  | [], _ => .nil
  | t :: L, h => by
    have ih := filter_or L (fun u hu => h u (List.mem_cons_of_mem _ hu))
    obtain ⟨h1, h2⟩ := h t List.mem_cons_self
    cases hp : p t <;> cases hq : q t
    · rw [List.filter_cons_of_neg (by simp [hp]), List.filter_cons_of_neg (by simp [hq]), List.filter_cons_of_neg (by rw [h1, hp, hq]; simp)]; exact ih
    · rw [List.filter_cons_of_neg (by simp [hp]), List.filter_cons_of_pos hq, List.filter_cons_of_pos (h1.2 (.inr hq))]
      exact List.perm_middle.trans (ih.cons _)
    · rw [List.filter_cons_of_pos hp, List.filter_cons_of_neg (by simp [hq]), List.filter_cons_of_pos (h1.2 (.inl hp)), List.cons_append]
      exact ih.cons _
    · exact absurd ⟨hp, hq⟩ h2
def duL (now at_ : Nat) (bs : List Nat) (L : List Tm) : Nat → List Int
  | 0 => []
  | n + 1 => match bs[n]? with
    | none => duL now at_ bs L n
    | some z => match aroundN z ((fromT now n : Nat) : Int) with
      | none => duL now at_ bs L n
      | some s => if timeT now n s = at_ then duL now at_ bs L n ++ idsAt L (n * 64 + s) else duL now at_ bs L n
theorem du_skip {now at_ n z : Nat} {bs : List Nat} {L : List Tm} (hz : bs[n]? = some z) (ha : aroundN z ((fromT now n : Nat) : Int) = none) : duL now at_ bs L (n + 1) = duL now at_ bs L n := by
  show (match bs[n]? with | none => _ | some z => _) = _
  rw [hz]; dsimp only; rw [ha]
theorem du_some {now at_ n z s : Nat} {bs : List Nat} {L : List Tm} (hz : bs[n]? = some z) (ha : aroundN z ((fromT now n : Nat) : Int) = some s) : duL now at_ bs L (n + 1) = if timeT now n s = at_ then duL now at_ bs L n ++ idsAt L (n * 64 + s) else duL now at_ bs L n := by
  show (match bs[n]? with | none => _ | some z => _) = _
  rw [hz]; dsimp only; rw [ha]
section
variable {now turn c at_ : Nat} {L : List Tm} {sl : List Value} {XS : List Heap} {bs : List Nat} {l : Ents Int}
theorem WhIs.dueOf (h : WhIs now L sl XS bs l c turn) (hnow : now ≤ 18446744073709551615) {u : Tm} (hu : u ∈ L) : u.s.due = timeT now u.s.lv u.s.slot := by
  obtain ⟨num, m1, m2, m3, m4, _⟩ := h.time u hu
  rw [m2, time_is hnow m3 m4 m1.symm]
theorem WhIs.sameSlot (h : WhIs now L sl XS bs l c turn) {t u : Tm} (ht : t ∈ L) (hu : u ∈ L) (el : t.s.lv = u.s.lv) (ed : t.s.due = u.s.due) : t.s.slot = u.s.slot := by
  obtain ⟨n1, a1, a2, a3, a4, a5⟩ := h.time t ht
  obtain ⟨n2, b1, b2, b3, b4, b5⟩ := h.time u hu
  rw [a2, b2, el] at ed
  rw [el] at a5
  rw [a1, b1, tickT_inj a5 b5 ed]
theorem WhIs.around (h : WhIs now L sl XS bs l c turn) {n z s : Nat} (hn : n < 8) (hnow : now ≤ 18446744073709551615) (hz : bs[n]? = some z) (ha : aroundN z ((fromT now n : Nat) : Int) = some s) :
    ∃ t ∈ L, t.s.lv = n ∧ t.s.slot = s ∧ t.s.due = timeT now n s := by
  obtain ⟨z', hz', _, hz3⟩ := h.busy n hn
  obtain rfl : z = z' := Option.some.inj (hz.symm.trans hz')
  have hx : now / 8 ^ n ≤ 18446744073709551615 := Nat.le_trans (Nat.div_le_self _ _) hnow
  obtain ⟨g1, g2, _⟩ := around_least hx ha
  obtain ⟨id, hid⟩ : ∃ id, id ∈ idsAt L (n * 64 + s) := List.exists_mem_of_ne_nil _ ((hz3 s g1).1 g2)
  obtain ⟨t, ht, hk, _⟩ := idsAt_mem.1 hid
  have hsp := h.spot t ht
  have hk2 : t.s.lv * 64 + t.s.slot = n * 64 + s := hk
  have hlv : t.s.lv = n := by omega
  have hsl : t.s.slot = s := by omega
  exact ⟨t, ht, hlv, hsl, by rw [h.dueOf hnow ht, hlv, hsl]⟩
theorem WhIs.noneAt (h : WhIs now L sl XS bs l c turn) {n z : Nat} (hn : n < 8) (hz : bs[n]? = some z) (ha : aroundN z ((fromT now n : Nat) : Int) = none) : ∀ t ∈ L, t.s.lv ≠ n := fun t ht e => by
  obtain ⟨z', hz', _, hz3⟩ := h.busy n hn
  obtain rfl : z = z' := Option.some.inj (hz.symm.trans hz')
  subst e
  have h1 := around_none ha t.s.slot (h.spot t ht).2
  have h2 := (hz3 t.s.slot (h.spot t ht).2).2 (fun e => by have := idsAt_mem.2 ⟨t, ht, rfl, rfl⟩; rw [show t.key = t.s.lv * 64 + t.s.slot from rfl, e] at this; cases this)
  rw [h1] at h2; cases h2
theorem WhIs.leastAt (h : WhIs now L sl XS bs l c turn) {n z s : Nat} (hn : n < 8) (hnow : now ≤ 18446744073709551615) (hz : bs[n]? = some z) (ha : aroundN z ((fromT now n : Nat) : Int) = some s) : ∀ u ∈ L, u.s.lv = n → timeT now n s ≤ u.s.due := fun u hu e => by
  obtain ⟨z', hz', _, hz3⟩ := h.busy n hn
  obtain rfl : z = z' := Option.some.inj (hz.symm.trans hz')
  have hx : now / 8 ^ n ≤ 18446744073709551615 := Nat.le_trans (Nat.div_le_self _ _) hnow
  obtain ⟨g1, g2, g3⟩ := around_least hx ha
  rw [h.dueOf hnow hu, e]
  have hm := g3 u.s.slot (h.spot u hu).2 ((e ▸ hz3 u.s.slot (h.spot u hu).2).2 (fun e2 => by have := idsAt_mem.2 ⟨u, hu, rfl, rfl⟩; rw [show u.key = u.s.lv * 64 + u.s.slot from rfl, e2] at this; cases this))
  unfold timeT
  have hmo := tickT_mono (n := n) (Nat.add_le_add_left hm (now / 8 ^ n))
  have hle := tickT_le (now / 8 ^ n + moreT (now / 8 ^ n) s) n
  split <;> split <;> omega
theorem du_perm (h : WhIs now L sl XS bs l c turn) (hnow : now ≤ 18446744073709551615) (hat : ∀ t ∈ L, at_ ≤ t.s.due) : ∀ n, n ≤ 8 → (duL now at_ bs L n).Perm ((L.filter (fun t => decide (t.s.lv < n) && decide (t.s.due = at_))).map (·.id))
  | 0, _ => by
    rw [List.filter_eq_nil_iff.2 (fun t _ => by simp)]
    exact .nil
  | n + 1, hn => by
    have ih := du_perm h hnow hat n (by omega)
    obtain ⟨z, hz, _, _⟩ := h.busy n (by omega)
    have same : (∀ t ∈ L, t.s.lv = n → t.s.due ≠ at_) → L.filter (fun t => decide (t.s.lv < n + 1) && decide (t.s.due = at_)) = L.filter (fun t => decide (t.s.lv < n) && decide (t.s.due = at_)) := fun hno => by
      refine List.filter_congr fun t ht => ?_
      have := hno t ht
      by_cases e : t.s.lv = n
      · rw [decide_eq_false (this e), Bool.and_false, Bool.and_false]
      · rw [show decide (t.s.lv < n + 1) = decide (t.s.lv < n) from decide_eq_decide.2 (by omega)]
    cases ha : aroundN z ((fromT now n : Nat) : Int) with
    | none =>
      rw [du_skip hz ha, same (fun t ht e => absurd e (h.noneAt (by omega) hz ha t ht))]
      exact ih
    | some s =>
      rw [du_some hz ha]
      obtain ⟨t0, ht0, e1, e2, e3⟩ := h.around (by omega) hnow hz ha
      by_cases ct : timeT now n s = at_
      · rw [if_pos ct]
        have hk : idsAt L (n * 64 + s) = (L.filter (fun t => decide (t.s.lv = n) && decide (t.s.due = at_))).map (·.id) := by
          unfold idsAt
          congr 1
          refine List.filter_congr fun t ht => ?_
          have hsp := h.spot t ht
          have hs64 := (h.spot t0 ht0).2
          rw [← Bool.decide_and]
          refine decide_eq_decide.2 ⟨fun hk => ?_, fun ⟨h1, h2⟩ => ?_⟩
          · have hk2 : t.s.lv * 64 + t.s.slot = n * 64 + s := hk
            have l1 : t.s.lv = n := by omega
            have l2 : t.s.slot = s := by omega
            exact ⟨l1, by rw [h.dueOf hnow ht, l1, l2, ct]⟩
          · have := h.sameSlot ht ht0 (by rw [h1, e1]) (by rw [h2, e3, ct])
            show t.s.lv * 64 + t.s.slot = _
            rw [h1, this, e2]
        rw [hk]
        refine (ih.append_right _).trans ?_
        rw [← List.map_append]
        refine List.Perm.map _ (filter_or L fun t ht => ⟨?_, ?_⟩)
        · simp only [Bool.and_eq_true, decide_eq_true_eq]; omega
        · simp only [Bool.and_eq_true, decide_eq_true_eq]; omega
      · rw [if_neg ct, same (fun t ht e ed => ct ?_)]
        · exact ih
        · have l1 := h.leastAt (by omega) hnow hz ha t ht e
          have l2 := hat t0 ht0
          rw [e3] at l2; omega
def dueAt (L : List Tm) (at_ : Nat) : List Tm := L.filter (fun t => decide (t.s.due = at_))
theorem du_all (h : WhIs now L sl XS bs l c turn) (hnow : now ≤ 18446744073709551615) (hat : ∀ t ∈ L, at_ ≤ t.s.due) : (duL now at_ bs L 8).Perm ((dueAt L at_).map (·.id)) := by
  refine (du_perm h hnow hat 8 (Nat.le_refl _)).trans ?_
  unfold dueAt
  rw [List.filter_congr (q := fun t => decide (t.s.due = at_)) fun t ht => by rw [decide_eq_true (h.spot t ht).1, Bool.true_and]]
def tvN (L : List Tm) (id : Int) : Nat := match L.find? (fun t => decide (t.id = id)) with
  | some t => t.turn
  | none => 0
theorem tvN_in (h : (L.map (·.id)).Nodup) {t : Tm} (ht : t ∈ L) : tvN L t.id = t.turn := by
  unfold tvN
  cases hf : L.find? (fun u => decide (u.id = t.id)) with
  | none =>
    have := List.find?_eq_none.1 hf t ht
    exact absurd (decide_eq_true rfl) this
  | some u =>
    have h1 := List.find?_some hf
    obtain rfl : u = t := tm_uniq h (List.mem_of_find?_eq_some hf) ht (of_decide_eq_true h1)
    rfl
theorem WhIs.ent (h : WhIs now L sl XS bs l c turn) (id : Int) : ∃ e : Spot, (mGet l id).getD zEnt = .agg (e.v ++ [Value.int .i64 (((tvN L id) : Nat) : Int)]).toArray := by
  by_cases hin : id ∈ L.map (·.id)
  · obtain ⟨t, ht, rfl⟩ := List.mem_map.1 hin
    exact ⟨t.s, by rw [(h.hit ht).1, tvN_in h.nodup ht]⟩
  · refine ⟨zSpot, ?_⟩
    rw [(h.miss hin).1]
    have : tvN L id = 0 := by
      unfold tvN
      cases hf : L.find? (fun u => decide (u.id = id)) with
      | none => rfl
      | some u =>
        have h1 := List.find?_some hf
        have h2 : u.id = id := of_decide_eq_true h1
        exact absurd (h2 ▸ List.mem_map_of_mem (List.mem_of_find?_eq_some hf)) hin
    rw [this]; rfl
end
theorem asc_unique {K : Type} {τ : K → Nat} : ∀ {a b : List K}, a.Perm b → a.Pairwise (fun x y => τ x < τ y) → b.Pairwise (fun x y => τ x < τ y) → a = b
  | [], b, hp, _, _ => (List.Perm.nil_eq hp)
  | x :: a, b, hp, ha, hb => by
    cases b with
    | nil => exact absurd hp.length_eq (by simp)
    | cons y b =>
      have ha' := List.pairwise_cons.1 ha
      have hb' := List.pairwise_cons.1 hb
      have hxy : x = y := by
        rcases List.mem_cons.1 (hp.mem_iff.1 List.mem_cons_self) with h | h
        · exact h
        · rcases List.mem_cons.1 (hp.mem_iff.2 List.mem_cons_self) with h' | h'
          · exact h'.symm
          · have := hb'.1 x h; have := ha'.1 y h'; omega
      subst hxy
      rw [asc_unique (List.Perm.cons_inv hp) ha'.2 hb'.2]
theorem asc_inj {K : Type} {m : List K} {τ : K → Nat} (h : m.Pairwise (fun x y => τ x < τ y)) {x y : K} (hx : x ∈ m) (hy : y ∈ m) (e : τ x = τ y) : x = y := by
  obtain ⟨i, hi, rfl⟩ := List.getElem_of_mem hx
  obtain ⟨j, hj, rfl⟩ := List.getElem_of_mem hy
  have hp := List.pairwise_iff_getElem.1 h
  rcases Nat.lt_trichotomy i j with hij | rfl | hij
  · have := hp i j hi hj hij; omega
  · rfl
  · have := hp j i hj hi hij; omega
open Go.Proofs in
theorem sorted_is {K : Type} {m d : List K} {τ : K → Nat} (hp : d.Perm m) (hn : m.Nodup) (h : m.Pairwise (fun x y => τ x < τ y))
    (hs : ∀ (i j : Nat) x y, i < j → d[i]? = some x → d[j]? = some y → ltOf (fun x y => Lib.compareInt (τ x : Int) (τ y : Int)) y x = false) : d = m := by
  refine asc_unique hp (List.pairwise_iff_getElem.2 fun i j hi hj hij => ?_) h
  have h1 := lt_key _ (hs i j _ _ hij (List.getElem?_eq_getElem hi) (List.getElem?_eq_getElem hj))
  have mi : d[i] ∈ m := hp.mem_iff.1 (List.getElem_mem hi)
  have mj : d[j] ∈ m := hp.mem_iff.1 (List.getElem_mem hj)
  have hne : τ d[i] ≠ τ d[j] := fun e => by
    have := asc_inj h mi mj e
    exact (List.pairwise_iff_getElem.1 (hp.nodup_iff.2 hn)) i j hi hj hij this
  omega
theorem WhIs.dueAsc {now turn c : Nat} {L : List Tm} {sl : List Value} {XS : List Heap} {bs : List Nat} {l : Ents Int} (h : WhIs now L sl XS bs l c turn) (at_ : Nat) : ((dueAt L at_).map (·.id)).Nodup ∧ ((dueAt L at_).map (·.id)).Pairwise (fun x y => tvN L x < tvN L y) := by
  refine ⟨h.nodup.sublist (List.Sublist.map _ List.filter_sublist), ?_⟩
  rw [List.pairwise_map]
  have h1 : (dueAt L at_).Pairwise (fun a b => a.turn < b.turn) := h.turns.sublist List.filter_sublist
  refine (List.pairwise_iff_getElem.2 fun i j hi hj hij => ?_)
  have h2 := List.pairwise_iff_getElem.1 h1 i j hi hj hij
  rw [tvN_in h.nodup (List.mem_filter.1 (List.getElem_mem hi)).1, tvN_in h.nodup (List.mem_filter.1 (List.getElem_mem hj)).1]
  exact h2
end Go.Proofs.YtcmfldfeakmdoaaGreatDoor
