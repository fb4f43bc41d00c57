/-
  Own work: contracts of functions that the statement reaches, and plain facts on what they compute; each theorem says its conditions.
-/
import Derived.Test.YtkhkagjbeilbgaaDoorA2
set_option linter.all false
set_option linter.unusedSimpArgs false
set_option linter.unusedVariables false
namespace Go.Proofs.YtkhkagjbeilbgaaDoor
open Go Go.Sl
attribute [local irreducible] W

theorem name_ne {op : Int} (h : (!((isaName op).toList == (⟨#[]⟩ : ByteArray).toList)) = true) : 0 ≤ op ∧ op ≤ 73 := by
  by_cases h0 : cls op = 0
  · unfold isaName at h
    rw [if_pos h0] at h
    simp at h
  · have := cls_cases op
    have h1 := cls1 (op := op); have h2 := cls2 (op := op); have h3 := cls3 (op := op); have h4 := cls4 (op := op)
    omega
def plainOf (op : Int) : Int := if (!((isaName op).toList == (⟨#[]⟩ : ByteArray).toList) && ((isaName op).toList == (isaName (op - 16)).toList)) = true then op - 16 else op
theorem plain_fin : ∀ k : Fin 74, (cls k.val = 1 → plainOf k.val = if 16 ≤ k.val then (k.val : Int) - 16 else k.val) ∧ (cls k.val = 2 → plainOf k.val = if 49 ≤ k.val then (k.val : Int) - 16 else k.val) := by decide +kernel
theorem plain1 {op : Int} (h : cls op = 1) : plainOf op = if 16 ≤ op then op - 16 else op := by
  have hb := cls1.1 h
  obtain ⟨k, rfl⟩ := Int.eq_ofNat_of_zero_le (show 0 ≤ op by omega)
  have := (plain_fin ⟨k, by omega⟩).1 h
  simp only at this
  rw [this]
  by_cases hk : 16 ≤ k
  · rw [if_pos hk, if_pos (by omega)]
  · rw [if_neg hk, if_neg (by omega)]
theorem plain2 {op : Int} (h : cls op = 2) : plainOf op = if 49 ≤ op then op - 16 else op := by
  have hb := cls2.1 h
  obtain ⟨k, rfl⟩ := Int.eq_ofNat_of_zero_le (show 0 ≤ op by omega)
  have := (plain_fin ⟨k, by omega⟩).2 h
  simp only at this
  rw [this]
  by_cases hk : 49 ≤ k
  · rw [if_pos hk, if_pos (by omega)]
  · rw [if_neg hk, if_neg (by omega)]
set_option maxHeartbeats 1000000 in
theorem plain_pure (op : Int) (hlo : -9223372036854775808 ≤ op) (hhi : op ≤ 9223372036854775807) : Pure Tryd.prog (Tab) 102 [.int .i64 op] (.int .i64 (plainOf op)) := by
  intro w0 H hT
  refine L_enter Tryd.func102 rfl Tryd.ntmps102 rfl rfl ?_
  refine W_sr ?_
  refine W_assign rfl rfl ?_
  refine W_nil ?_
  refine W_seq ?_
  refine W_sr ?_
  refine W_move rfl rfl ?_
  refine W_callp (.cons rfl .nil) Tryd.call120 rfl hT (name_pure _ (by omega) (by omega)) ?_
  refine W_sne_s rfl rfl rfl ?_
  refine W_move rfl rfl ?_
  apply W_and
  iterate 4 exact rfl
  case h1 =>
    intro hg3
    have hb := name_ne hg3
    refine W_gyes rfl rfl ?_
    refine W_move rfl rfl ?_
    refine W_gyes rfl rfl ?_
    refine W_callp (.cons rfl .nil) Tryd.call120 rfl hT (name_pure _ (by omega) (by omega)) ?_
    refine W_gyes rfl rfl ?_
    refine W_move rfl rfl ?_
    refine W_gyes rfl rfl ?_
    refine W_bin rfl rfl (b_sub (i64w (by omega))) rfl ?_
    refine W_gyes rfl rfl ?_
    refine W_callp (.cons rfl .nil) Tryd.call120 rfl hT (name_pure _ (by omega) (by omega)) ?_
    refine W_gyes rfl rfl ?_
    refine W_seq_s rfl rfl rfl ?_
    exact W_met rfl (by repeat (first | exact .refl | refine .cons rfl ?_))
  refine W_nil ?_
  refine W_condS rfl (fun c0 => ?_) (fun c0 => ?_)
  · have e0 := c0
    refine W_sr ?_
    refine W_move rfl rfl ?_
    have hb := name_ne (Bool.and_eq_true_iff.1 e0).1
    refine W_bin rfl rfl (b_sub (i64w (by omega))) rfl ?_
    refine W_assign rfl rfl ?_
    refine W_nil ?_
    refine W_ret1m Tryd.results102 rfl (.nil _) (.refl _) ?_
    exact ⟨by unfold plainOf; rw [if_pos e0], rfl⟩
  · have e0 := c0
    refine W_skip ?_
    refine W_sr ?_
    refine W_move rfl rfl ?_
    refine W_assign rfl rfl ?_
    refine W_nil ?_
    refine W_ret1m Tryd.results102 rfl (.nil _) (.refl _) ?_
    exact ⟨by unfold plainOf; rw [if_neg (by rw [e0]; simp)], rfl⟩
set_option maxHeartbeats 1000000 in
theorem by_pure (op : Int) : Pure Tryd.prog (Tab) 116 [.int .i64 op] (.bool (decide (cls op = 1 ∧ 16 ≤ op ∨ cls op = 2 ∧ 48 ≤ op))) := by
  intro w0 H hT
  refine L_enter Tryd.func116 rfl Tryd.ntmps116 rfl rfl ?_
  refine W_sr ?_
  refine W_assign rfl rfl ?_
  refine W_nil ?_
  refine W_sr ?_
  refine W_move rfl rfl ?_
  refine W_callp (.cons rfl .nil) Tryd.call66 rfl hT (class_pure _) ?_
  refine W_bin rfl rfl b_eql rfl ?_
  refine W_move rfl rfl ?_
  apply W_and
  iterate 4 exact rfl
  case h1 =>
    intro hg3
    refine W_gyes rfl rfl ?_
    refine W_move rfl rfl ?_
    refine W_gyes rfl rfl ?_
    refine W_bin rfl rfl b_geq rfl ?_
    exact W_met rfl (by repeat (first | exact .refl | refine .cons rfl ?_))
  refine W_move rfl rfl ?_
  apply W_or
  iterate 4 exact rfl
  case h1 =>
    intro hg7
    refine W_gyes rfl rfl ?_
    refine W_move rfl rfl ?_
    refine W_gyes rfl rfl ?_
    refine W_callp (.cons rfl .nil) Tryd.call66 rfl hT (class_pure _) ?_
    refine W_gyes rfl rfl ?_
    refine W_bin rfl rfl b_eql rfl ?_
    refine W_gyes rfl rfl ?_
    refine W_move rfl rfl ?_
    apply W_and
    iterate 4 exact rfl
    case h1 =>
      intro hg11
      refine W_gyes rfl rfl ?_
      refine W_move rfl rfl ?_
      refine W_gyes rfl rfl ?_
      refine W_bin rfl rfl b_geq rfl ?_
      exact W_met rfl (by repeat (first | exact .refl | refine .cons rfl ?_))
    exact W_met rfl (by repeat (first | exact .refl | refine .cons rfl ?_))
  refine W_assign rfl rfl ?_
  refine W_nil ?_
  refine W_ret1m Tryd.results116 rfl (.nil _) (.refl _) ?_
  exact ⟨by simp, rfl⟩

def U (a : Int) : Value := .int .u64 a
/-- a closure over two boxes: it leaves all as it was -/
def Fun2 (f : FuncId) (ca : Array Value) (H : Heap) (r : Int) : Prop := ∀ w0, LCalls Tryd.prog w0 f (#[] ++ #[] ++ ca) H (fun v H' => v = U r ∧ H' = H)

theorem quot_fun {b4 b5 : Nat} {H : Heap} {a b : Int} (hb : b ≠ 0) : Fun2 118 #[.pointer (some ⟨b4, 0, none⟩), .pointer (some ⟨b5, 0, none⟩)] ((b5, .cells 22 1 [U b]) :: (b4, .cells 22 1 [U a]) :: H) (IntKind.u64.wrap (a.tdiv b)) := by
  intro w0
  refine L_enter (l := [.pointer (some ⟨b4, 0, none⟩), .pointer (some ⟨b5, 0, none⟩)]) Tryd.func118 rfl Tryd.ntmps118 rfl rfl ?_
  refine W_sr ?_
  refine W_assign rfl rfl ?_
  refine W_nil ?_
  refine W_sr ?_
  refine W_load rfl ty22 rfl (Cell.own (by repeat (first | exact List.mem_cons_self | apply List.mem_cons_of_mem | apply List.mem_append_right)) rfl) rfl ?_
  refine W_load rfl ty22 rfl (Cell.own (by repeat (first | exact List.mem_cons_self | apply List.mem_cons_of_mem | apply List.mem_append_right)) rfl) rfl ?_
  refine W_bin rfl rfl (b_quo hb rfl) rfl ?_
  refine W_assign rfl rfl ?_
  refine W_nil ?_
  refine W_ret1m Tryd.results118 rfl (.nil _) (.refl _) ?_
  exact ⟨rfl, rfl⟩

theorem rems_fun {b4 b5 : Nat} {H : Heap} {a b : Int} (hb : b ≠ 0) : Fun2 119 #[.pointer (some ⟨b4, 0, none⟩), .pointer (some ⟨b5, 0, none⟩)] ((b5, .cells 22 1 [U b]) :: (b4, .cells 22 1 [U a]) :: H) (a.tmod b) := by
  intro w0
  refine L_enter (l := [.pointer (some ⟨b4, 0, none⟩), .pointer (some ⟨b5, 0, none⟩)]) Tryd.func119 rfl Tryd.ntmps119 rfl rfl ?_
  refine W_sr ?_
  refine W_assign rfl rfl ?_
  refine W_nil ?_
  refine W_sr ?_
  refine W_load rfl ty22 rfl (Cell.own (by repeat (first | exact List.mem_cons_self | apply List.mem_cons_of_mem | apply List.mem_append_right)) rfl) rfl ?_
  refine W_load rfl ty22 rfl (Cell.own (by repeat (first | exact List.mem_cons_self | apply List.mem_cons_of_mem | apply List.mem_append_right)) rfl) rfl ?_
  refine W_bin rfl rfl (b_rem hb rfl) rfl ?_
  refine W_assign rfl rfl ?_
  refine W_nil ?_
  refine W_ret1m Tryd.results119 rfl (.nil _) (.refl _) ?_
  exact ⟨rfl, rfl⟩

theorem guarded_L {w0 : World} {H : Heap} {f : FuncId} {ca : Array Value} {b o r : Int} (hf : ∀ (args : Array Value) (w : World), (callFunc f args).run Tryd.prog w = .ok (.enter f args) w) (hF : b ≠ 0 → Fun2 f ca H r) :
    LCalls Tryd.prog w0 117 #[U b, U o, .func (.func f) #[] ca] H (fun v H' => v = U (if b = 0 then o else r) ∧ H' = H) := by
  refine L_enter (l := [U b, U o, .func (.func f) #[] ca]) Tryd.func117 rfl Tryd.ntmps117 rfl rfl ?_
  refine W_sr ?_
  refine W_assign rfl rfl ?_
  refine W_nil ?_
  refine W_seq ?_
  refine W_sr ?_
  refine W_move rfl rfl ?_
  refine W_bin rfl rfl b_eql rfl ?_
  refine W_nil ?_
  refine W_condPS (p := b = 0) rfl (by simp) (fun c0 => ?_) (fun c0 => ?_)
  · skip
    refine W_sr ?_
    refine W_move rfl rfl ?_
    refine W_assign rfl rfl ?_
    refine W_nil ?_
    refine W_ret1m Tryd.results117 rfl (.nil _) (.refl _) ?_
    exact ⟨by rw [if_pos c0], rfl⟩
  · skip
    refine W_skip ?_
    refine W_sr ?_
    refine W_move rfl rfl ?_
    refine W_callv rfl .nil hf rfl (hF c0 w0) ?_
    rintro v H1 ⟨rfl, rfl⟩
    refine W_assign rfl rfl ?_
    refine W_nil ?_
    refine W_ret1m Tryd.results117 rfl (.nil _) (.refl _) ?_
    exact ⟨by rw [if_neg c0], rfl⟩
end Go.Proofs.YtkhkagjbeilbgaaDoor
