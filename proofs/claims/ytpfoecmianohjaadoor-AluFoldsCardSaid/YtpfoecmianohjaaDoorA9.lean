/-
  Own work: contracts of functions that the statement reaches, and plain facts on what they compute; each theorem says its conditions.
-/
import Derived.Test.YtpfoecmianohjaaDoorA8
import Derived.Test.YtpfoecmianohjaaDoorSlArgs
set_option linter.all false
set_option linter.unusedSimpArgs false
set_option linter.unusedVariables false
namespace Go.Proofs.YtpfoecmianohjaaDoor
open Go Go.Sl
attribute [local irreducible] W

theorem doV_wd {op a b : Int} (ha : Wd a) (hb : Wd b) : Wd (doV op a b) := by
  unfold doV
  split
  · rename_i h; exact doS_wd (plain1_bd h) ha hb
  · exact ⟨by omega, by omega⟩
theorem fold_wd {op : Int} : ∀ (l : List Int) {a : Int}, Wd a → (∀ x ∈ l, Wd x) → Wd (l.foldl (doV op) a)
  | [], _, ha, _ => ha
  | x :: l, _, ha, hl => fold_wd l (doV_wd ha (hl x List.mem_cons_self)) (fun y hy => hl y (List.mem_cons_of_mem _ hy))
def foldV (op a : Int) (l : List Int) : Int := if cls op = 1 then l.foldl (doV op) a else 0
def u64s (l : List Int) : List Value := l.map fun x => .int .u64 x
theorem u64s_at {l : List Int} {i : Nat} {x : Int} (h : l[i]? = some x) : (u64s l)[i]? = some (.int .u64 x) := by simp [u64s, h]
theorem take_at {l : List Int} {i : Nat} {x : Int} (h : l[i]? = some x) : l.take (i + 1) = l.take i ++ [x] := by
  rw [List.take_add_one, h]; rfl
theorem fold_at {op a : Int} {l : List Int} {i : Nat} {x : Int} (h : l[i]? = some x) : (l.take (i + 1)).foldl (doV op) a = doV op ((l.take i).foldl (doV op) a) x := by
  rw [take_at h, List.foldl_append]; rfl
set_option maxHeartbeats 1000000 in
theorem fold_pure {op a : Int} {l : List Int} {ad : Option Addr} {cap : Nat} (hop : I64 op) (ha : Wd a) (hl : ∀ x ∈ l, Wd x) (hn : l.length ≤ 4611686018427387904) : Pure Tryd.prog (fun w => Tab w ∧ InRow w ad (u64s l)) 20 [.int .i64 op, .int .u64 a, .slice ad l.length cap] (.tuple #[.int .u64 (foldV op a l), .int .i64 (doE op)]) := by
  intro w0 H hT
  refine L_enter Tryd.func20 rfl Tryd.ntmps20 rfl rfl ?_
  refine W_sr ?_
  refine W_assign rfl rfl ?_
  refine W_assign rfl rfl ?_
  refine W_nil ?_
  refine W_seq ?_
  refine W_sr ?_
  refine W_move rfl rfl ?_
  refine W_callp (.cons rfl .nil) Tryd.call36 rfl hT.1 (class_pure _) ?_
  refine W_bin rfl rfl b_neq rfl ?_
  refine W_nil ?_
  refine W_condPS (p := cls op ≠ 1) rfl (by simp) (fun c0 => ?_) (fun c0 => ?_)
  · skip
    refine W_sr ?_
    refine W_assign rfl rfl ?_
    refine W_assign rfl rfl ?_
    refine W_nil ?_
    refine W_ret2m Tryd.results20 rfl rfl (by repeat (first | exact Marks.nil _ | refine Marks.cons (by repeat (first | exact Take.here _ | apply Take.next | apply Take.app)) ?_)) (.refl _) ?_
    exact ⟨by unfold foldV doE; rw [if_neg c0, if_neg c0], rfl⟩
  · skip
    refine W_skip ?_
    refine W_seq ?_
    refine W_sr ?_
    refine W_move rfl rfl ?_
    refine W_len rfl ty37 rfl rfl ?_
    refine W_move rfl rfl ?_
    refine W_nil ?_
    refine W_block ?_
    refine W_loop (X := Nat) (fun i => [(0, .int .i64 op), (1, .int .u64 ((l.take i).foldl (doV op) a)), (13, .slice ad l.length cap), (14, .int .i64 (l.length : Int)), (15, .int .i64 (i : Int))]) (fun _ => H) (fun i => i ≤ l.length) (fun i => l.length - i) 0 (by omega) (sub_cons rfl (sub_cons rfl (sub_cons rfl (sub_cons rfl (sub_cons rfl (sub_nil _)))))) rfl ?_
    intro i hi
    have hA := fold_wd (op := op) (l.take i) ha (fun x hx => hl x (List.mem_of_mem_take hx))
    refine W_sr ?_
    refine W_bin rfl rfl b_lss rfl ?_
    refine W_nil ?_
    refine W_seq ?_
    refine W_condPS (p := (i : Int) < (l.length : Int)) rfl (by simp) (fun c1 => ?_) (fun c1 => ?_)
    · skip
      refine W_skip ?_
      refine W_seq ?_
      refine W_block ?_
      refine W_sr ?_
      obtain ⟨x, hx⟩ : ∃ x, l[i]? = some x := ⟨_, List.getElem?_eq_getElem (by omega)⟩
      have hxw : Wd x := hl x (List.mem_of_getElem? hx)
      obtain ⟨b, o, rfl, hc⟩ := hT.2 i _ (u64s_at hx)
      refine W_indexAddr (j := i) rfl rfl ty37 ty22 rfl (by omega) rfl rfl ?_
      refine W_load rfl ty22 rfl (Cell.old (by rw [Nat.mul_one]; exact hc)) rfl ?_
      refine W_assign rfl rfl ?_
      refine W_nil ?_
      refine W_region ?_
      refine W_move rfl rfl ?_
      refine W_move rfl rfl ?_
      refine W_move rfl rfl ?_
      refine W_callp (.cons rfl (.cons rfl (.cons rfl .nil))) Tryd.call14 rfl hT.1 (do_p hop hxw.1) ?_
      refine W_move rfl rfl ?_
      refine W_extract rfl rfl rfl ?_
      refine W_extract rfl rfl rfl ?_
      refine W_assign rfl rfl ?_
      refine W_nil ?_
      refine W_blk ?_
      refine W_region ?_
      refine W_bin rfl rfl (b_add (m := ((i + 1 : Nat) : Int)) ((i64w (by omega)).trans (by omega))) rfl ?_
      refine W_move rfl rfl ?_
      refine W_nil ?_
      exact W_goal fun _ w' ha' hd' hs' => ⟨i + 1, by omega, by omega, ha'.weaken (look_of_sub (sub_cons rfl (sub_cons (by rw [fold_at hx]; rfl) (sub_cons rfl (sub_cons rfl (sub_cons rfl (sub_nil _))))))), hd', hs'⟩
    · skip
      refine W_exit rfl ?_
      refine W_sr ?_
      refine W_move rfl rfl ?_
      refine W_assign rfl rfl ?_
      refine W_assign rfl rfl ?_
      refine W_nil ?_
      refine W_ret2m Tryd.results20 rfl rfl (by repeat (first | exact Marks.nil _ | refine Marks.cons (by repeat (first | exact Take.here _ | apply Take.next | apply Take.app)) ?_)) (.refl _) ?_
      obtain rfl : i = l.length := by omega
      exact ⟨by unfold foldV doE; rw [if_pos (Decidable.not_not.1 c0), if_pos (Decidable.not_not.1 c0), List.take_length], rfl⟩

def foldsI (op a : Int) (l : List Int) (i : Nat) (x e : Int) : Prop :=
  i ≤ l.length ∧ Wd x ∧ (e = 0 ∨ e = doE op) ∧ (0 < i → e = doE op) ∧ (cls op = 1 → x = (l.take i).foldl (doV op) a)
theorem doE_one {op : Int} (h : cls op = 1) : doE op = 0 := if_pos h
theorem doE_zero {op : Int} (h : doE op = 0) : cls op = 1 := by
  unfold doE at h; split at h
  · assumption
  · omega
theorem min60 (l : List Int) : (if (60 : Int) < (l.length : Int) then (60 : Int) else (l.length : Int)) = ((l.take 60).length : Int) := by
  rw [List.length_take]; split <;> omega
set_option maxHeartbeats 1000000 in
theorem aluFolds_pure {op a : Int} {l : List Int} {ad : Option Addr} {cap : Nat} (hop : I64 op) (ha : Wd a) (hl : ∀ x ∈ l, Wd x) (hcap : l.length ≤ cap) : Pure Tryd.prog (fun w => Tab w ∧ InRow w ad (u64s l)) 8 [.int .i64 op, .int .u64 a, .slice ad l.length cap] (.bool true) := by
  intro w0 H hT
  have hr : InRow w0 ad (u64s (l.take 60)) := by have := hT.2.take 60; rwa [u64s, ← List.map_take] at this
  have hn60 : (l.take 60).length ≤ 4611686018427387904 := by rw [List.length_take]; omega
  refine L_enter Tryd.func8 rfl Tryd.ntmps8 rfl rfl ?_
  refine W_sr ?_
  refine W_assign rfl rfl ?_
  refine W_nil ?_
  refine W_sr ?_
  refine W_move rfl rfl ?_
  refine W_move rfl rfl ?_
  refine W_len rfl ty37 rfl rfl ?_
  refine W_min2 rfl rfl (min60 l) rfl ?_
  refine W_slice0 rfl ty37 ty22 rfl ⟨_, rfl⟩ (by rw [List.length_take]; omega) rfl ?_
  refine W_assign rfl rfl ?_
  refine W_nil ?_
  refine W_sr ?_
  refine W_move rfl rfl ?_
  refine W_move rfl rfl ?_
  refine W_move rfl rfl ?_
  refine W_callp (.cons rfl (.cons rfl (.cons rfl .nil))) Tryd.call20 rfl ⟨hT.1, hr⟩ (fold_pure hop ha (fun x hx => hl x (List.mem_of_mem_take hx)) hn60) ?_
  refine W_move rfl rfl ?_
  refine W_extract rfl rfl rfl ?_
  refine W_extract rfl rfl rfl ?_
  refine W_assign rfl rfl ?_
  refine W_assign rfl rfl ?_
  refine W_nil ?_
  refine W_sr ?_
  refine W_move rfl rfl ?_
  refine W_assign rfl rfl ?_
  refine W_assign rfl rfl ?_
  refine W_nil ?_
  refine W_seq ?_
  refine W_sr ?_
  refine W_assign rfl rfl ?_
  refine W_nil ?_
  refine W_block ?_
  refine W_loop (X := Nat × Int × Int) (fun | (i, x, e) => [(0, .int .i64 op), (1, .int .u64 a), (2, .slice ad (l.take 60).length cap), (7, .int .u64 (foldV op a (l.take 60))), (8, .int .i64 (doE op)), (9, .int .u64 x), (10, .int .i64 e), (11, .int .i64 (i : Int))]) (fun _ => H)
    (fun | (i, x, e) => foldsI op a (l.take 60) i x e) (fun | (i, _, _) => (l.take 60).length - i) (0, a, 0) ⟨by omega, ha, .inl rfl, fun h => absurd h (by decide), fun _ => rfl⟩ (sub_cons rfl (sub_cons rfl (sub_cons rfl (sub_cons rfl (sub_cons rfl (sub_cons rfl (sub_cons rfl (sub_cons rfl (sub_nil _))))))))) rfl ?_
  rintro ⟨i, y, e⟩ hI
  simp only at hI
  obtain ⟨hi, hy, he, he1, hy1⟩ := hI
  simp only
  refine W_seq ?_
  refine W_sr ?_
  refine W_move rfl rfl ?_
  refine W_move rfl rfl ?_
  refine W_len rfl ty37 rfl rfl ?_
  refine W_bin rfl rfl b_lss rfl ?_
  refine W_move rfl rfl ?_
  apply W_and
  iterate 4 exact rfl
  case h1 =>
    intro hg4
    refine W_gyes rfl rfl ?_
    refine W_move rfl rfl ?_
    refine W_gyes rfl rfl ?_
    refine W_bin rfl rfl b_eql rfl ?_
    exact W_met rfl (by repeat (first | exact .refl | refine .cons rfl ?_))
  refine W_nil ?_
  refine W_condPS (p := (i : Int) < ((l.take 60).length : Int) ∧ e = 0) rfl (by simp) (fun c0 => ?_) (fun c0 => ?_)
  · skip
    refine W_skip ?_
    refine W_seq ?_
    refine W_block ?_
    refine W_region ?_
    refine W_move rfl rfl ?_
    refine W_move rfl rfl ?_
    refine W_move rfl rfl ?_
    refine W_move rfl rfl ?_
    obtain ⟨x, hx⟩ : ∃ x, (l.take 60)[i]? = some x := ⟨_, List.getElem?_eq_getElem (by omega)⟩
    have hxw : Wd x := hl x (List.mem_of_mem_take (List.mem_of_getElem? hx))
    obtain ⟨b, o, rfl, hc⟩ := hr i _ (u64s_at hx)
    refine W_indexAddr (j := i) rfl rfl ty37 ty22 rfl (by omega) rfl rfl ?_
    refine W_load rfl ty22 rfl (Cell.old (by rw [Nat.mul_one]; exact hc)) rfl ?_
    refine W_callp (.cons rfl (.cons rfl (.cons rfl .nil))) Tryd.call15 rfl hT.1 (refdo_p hy hxw) ?_
    refine W_move rfl rfl ?_
    refine W_extract rfl rfl rfl ?_
    refine W_extract rfl rfl rfl ?_
    refine W_assign rfl rfl ?_
    refine W_assign rfl rfl ?_
    refine W_nil ?_
    refine W_blk ?_
    refine W_region ?_
    refine W_move rfl rfl ?_
    refine W_bin rfl rfl (b_add (m := ((i + 1 : Nat) : Int)) ((i64w (by omega)).trans (by omega))) rfl ?_
    refine W_assign rfl rfl ?_
    refine W_nil ?_
    exact W_goal fun _ w' ha' hd' hs' => ⟨(i + 1, doV op y x, doE op), ⟨by omega, doV_wd hy hxw, .inr rfl, fun _ => rfl, fun h => by rw [fold_at hx, ← hy1 h]⟩, by simp only; omega, ha'.weaken (look_of_sub (sub_cons rfl (sub_cons rfl (sub_cons rfl (sub_cons rfl (sub_cons rfl (sub_cons rfl (sub_cons rfl (sub_cons rfl (sub_nil _)))))))))), hd', hs'⟩
  · skip
    refine W_exit rfl ?_
    refine W_sr ?_
    refine W_move rfl rfl ?_
    refine W_move rfl rfl ?_
    refine W_move rfl rfl ?_
    refine W_callp (.cons rfl (.cons rfl (.cons rfl .nil))) Tryd.call15 rfl hT.1 (refdo_p ha ha) ?_
    refine W_move rfl rfl ?_
    refine W_extract rfl rfl rfl ?_
    refine W_extract rfl rfl rfl ?_
    refine W_assign rfl rfl ?_
    refine W_nil ?_
    refine W_seq ?_
    refine W_sr ?_
    refine W_move rfl rfl ?_
    refine W_bin rfl rfl b_neq rfl ?_
    refine W_nil ?_
    refine W_condPS (p := doE op ≠ 0) rfl (by simp) (fun c1 => ?_) (fun c1 => ?_)
    · skip
      refine W_region ?_
      refine W_assign rfl rfl ?_
      refine W_nil ?_
      refine W_sr ?_
      refine W_callp .nil Tryd.call16 rfl hT.1 (known_pure) ?_
      refine W_move rfl rfl ?_
      apply W_and
      iterate 4 exact rfl
      case h1 =>
        intro hg1
        refine W_gyes rfl rfl ?_
        refine W_move rfl rfl ?_
        refine W_gyes rfl rfl ?_
        refine W_move rfl rfl ?_
        refine W_gyes rfl rfl ?_
        refine W_bin rfl rfl b_eql rfl ?_
        exact W_met rfl (by repeat (first | exact .refl | refine .cons rfl ?_))
      refine W_move rfl rfl ?_
      apply W_and
      iterate 4 exact rfl
      case h1 =>
        intro hg6
        refine W_gyes rfl rfl ?_
        refine W_move rfl rfl ?_
        refine W_gyes rfl rfl ?_
        refine W_move rfl rfl ?_
        refine W_gyes rfl rfl ?_
        refine W_bin rfl rfl b_eql rfl ?_
        exact W_met rfl (by repeat (first | exact .refl | refine .cons rfl ?_))
      refine W_assign rfl rfl ?_
      refine W_nil ?_
      refine W_ret1m Tryd.results8 rfl (by repeat (first | exact Marks.nil _ | refine Marks.cons (by repeat (first | exact Take.here _ | apply Take.next | apply Take.app)) ?_)) (.refl _) ?_
      have h1 : ¬ cls op = 1 := fun h => c1 (doE_one h)
      exact ⟨by have : foldV op a (l.take 60) = 0 := if_neg h1
                rw [this]; simp, rfl⟩
    · skip
      refine W_skip ?_
      refine W_sr ?_
      refine W_callp .nil Tryd.call16 rfl hT.1 (known_pure) ?_
      refine W_move rfl rfl ?_
      apply W_and
      iterate 4 exact rfl
      case h1 =>
        intro hg1
        refine W_gyes rfl rfl ?_
        refine W_move rfl rfl ?_
        refine W_gyes rfl rfl ?_
        refine W_move rfl rfl ?_
        refine W_gyes rfl rfl ?_
        refine W_bin rfl rfl b_eql rfl ?_
        exact W_met rfl (by repeat (first | exact .refl | refine .cons rfl ?_))
      refine W_move rfl rfl ?_
      apply W_and
      iterate 4 exact rfl
      case h1 =>
        intro hg6
        refine W_gyes rfl rfl ?_
        refine W_move rfl rfl ?_
        refine W_gyes rfl rfl ?_
        refine W_move rfl rfl ?_
        refine W_gyes rfl rfl ?_
        refine W_bin rfl rfl b_eql rfl ?_
        exact W_met rfl (by repeat (first | exact .refl | refine .cons rfl ?_))
      refine W_assign rfl rfl ?_
      refine W_nil ?_
      refine W_ret1m Tryd.results8 rfl (by repeat (first | exact Marks.nil _ | refine Marks.cons (by repeat (first | exact Take.here _ | apply Take.next | apply Take.app)) ?_)) (.refl _) ?_
      have h1 := doE_zero (Decidable.not_not.1 c1)
      have hi2 : i = (l.take 60).length := by
        rcases Nat.lt_or_ge i (l.take 60).length with h | h
        · refine absurd ⟨by omega, ?_⟩ c0
          rcases he with h | h
          · exact h
          · exact h.trans (doE_one h1)
        · omega
      subst hi2
      exact ⟨by rw [hy1 h1, List.take_length, show foldV op a (l.take 60) = (l.take 60).foldl (doV op) a from if_pos h1]; simp, rfl⟩
end Go.Proofs.YtpfoecmianohjaaDoor
