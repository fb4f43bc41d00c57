/-
  Own work: contracts of functions that the statement reaches, and plain facts on what they compute; each theorem says its conditions.
-/
import Derived.Test.YtkhkagjbeilbgaaS15
set_option linter.all false
set_option linter.unusedSimpArgs false
set_option linter.unusedVariables false
namespace Go.Proofs.Ytkhkagjbeilbgaa
open Go Go.Sl
attribute [local irreducible] W
open Go.Script

theorem num2 {b : List Int} {a : Nat} (h : a + 2 < b.length) : numL (((b.drop a).drop 1).take 2) = b.getD (a + 1) 0 + 256 * b.getD (a + 2) 0 := by
  rw [List.drop_drop, List.drop_eq_getElem_cons (by omega : a + 1 < b.length), List.drop_eq_getElem_cons (by omega : a + 1 + 1 < b.length)]
  have h1 : b.getD (a + 1) 0 = b[a + 1]'(by omega) := by simp [List.getD, show a + 1 < b.length by omega]
  have h2 : b.getD (a + 2) 0 = b[a + 1 + 1]'(by omega) := by simp [List.getD, h]
  rw [h1, h2]
  show b[a + 1] + 256 * (b[a + 1 + 1] + 256 * 0) = _
  omega
theorem rone_L' {w0 : World} {H : Heap} {k : Int} {l : List Int} {ad : Option Addr} {cap m : Nat} (hm : l.length = m) (hk64 : I64 k) (hl : l.length ≤ 100000) (hlc : l.length ≤ cap) (hb : Go.Script.Bytes l) (hrow : Holds w0 H ad (bytesV l)) :
    LCalls Try.prog w0 21 #[.int .i64 k, .slice ad m cap] H (fun v H' => ∃ HB r, r.st = (one k l).1 ∧ SrOk w0 HB r ∧ v = .tuple #[.agg r.cells.toArray, .int .i64 (one k l).2] ∧ H' = HB ++ H) := by
  subst hm; exact rone_L hk64 hl hlc hb hrow
set_option maxHeartbeats 4000000 in
theorem rparse_L {w0 : World} {H : Heap} {b : List Int} {ad : Option Addr} {cap : Nat} (hb : Go.Script.Bytes b) (hl : b.length ≤ 100000) (hlc : b.length ≤ cap) (hrow : Holds w0 H ad (bytesV b))  : LCalls Try.prog w0 8 #[.slice ad b.length cap] (H) (fun v H' => ∃ es HB HX, es.map Er.en = parse b ∧ OwnS 35 9 v es.length (erRow es) HB ∧ (∀ e ∈ es, SrOk w0 HX e.r) ∧ H' = HB ++ (HX ++ H)) := by
  refine L_enter (l := [.slice ad b.length cap]) Try.func8 rfl Try.ntmps8 rfl rfl ?_
  refine W_sr ?_
  refine W_assign rfl rfl ?_
  refine W_nil ?_
  refine W_sr ?_
  refine W_assign rfl rfl ?_
  refine W_nil ?_
  refine W_sr ?_
  refine W_assign rfl rfl ?_
  refine W_nil ?_
  refine W_seq ?_
  refine W_block ?_
  refine W_loopC (X := (Nat × List Er × Value × Heap × Heap)) [(0, _)] (fun (x : (Nat × List Er × Value × Heap × Heap)) => [(3, x.2.2.1), (4, .int .i64 (x.1 : Int))]) (fun _ => _) (fun (x : (Nat × List Er × Value × Heap × Heap)) => x.2.2.2.1 ++ (x.2.2.2.2 ++ H)) (fun (x : (Nat × List Er × Value × Heap × Heap)) => x.2.1.map Er.en ++ from_ b x.1 = parse b ∧ OwnS 35 9 x.2.2.1 x.2.1.length (erRow x.2.1) x.2.2.2.1 ∧ (∀ e ∈ x.2.1, SrOk w0 x.2.2.2.2 e.r) ∧ x.1 ≤ 10000000) (fun (x : (Nat × List Er × Value × Heap × Heap)) => b.length - x.1) (0, [], .slice none 0 0, [], []) ⟨by rw [parse_from]; rfl, .nil, (fun e he => by cases he), by simp⟩ (sub_cons rfl (sub_nil _)) (sub_cons rfl (sub_cons rfl (sub_nil _))) rfl (by repeat (first | exact HSub.refl _ | refine HSub.cons (by repeat (first | exact Take.here _ | apply Take.next | apply Take.app)) ?_ | refine HSub.app (by repeat (first | exact TakeS.here _ | apply TakeS.next | apply TakeS.app)) ?_ | refine HSub.drop ?_ | refine HSub.dropS ?_ | exact HSub.nil _)) ?_
  rintro ⟨a, es, v, HB, HX⟩ ⟨hes, hO, hok, hal⟩
  dsimp only at hes hO hok hal ⊢
  have hlen : es.length ≤ 100000 := by
    have h1 := congrArg List.length hes
    have h2 := parse_len b
    simp only [List.length_append, List.length_map] at h1
    omega
  simp only [List.cons_append, List.nil_append]
  refine W_seq ?_
  refine W_sr ?_
  refine W_move rfl rfl ?_
  refine W_move rfl rfl ?_
  refine W_len rfl ty22 rfl rfl ?_
  refine W_bin rfl rfl b_lss rfl ?_
  by_cases h3 : b.length - a < 3
  · skip
    refine W_nil ?_
    refine W_condPS (p := (a : Int) < (b.length : Int)) rfl (by simp) (fun c0 => ?_) (fun c0 => ?_)
    · skip
      refine W_skip ?_
      refine W_block ?_
      refine W_seq ?_
      refine W_quietsr (by kernel_rfl) (by decide +kernel) ?_
      refine WQ_x (X_move rfl) rfl ?_
      refine WQ_x (X_len rfl ty22 rfl) rfl ?_
      refine WQ_x (X_move rfl) rfl ?_
      refine WQ_x (X_bin rfl rfl (b_sub (m := ((b.length - a : Nat) : Int)) ((i64w (by omega)).trans (by omega)))) rfl ?_
      refine WQ_x (X_bin rfl rfl b_lss) rfl ?_
      first | rw [decide_eq_true (show ((b.length - a : Nat) : Int) < 3 by omega)] | rw [decide_eq_false (show ¬ ((b.length - a : Nat) : Int) < 3 by omega)]
      refine WQ_x (X_move rfl) rfl ?_
      refine WQ_gno rfl rfl rfl rfl ?_
      refine WQ_gno rfl rfl rfl rfl ?_
      refine WQ_gno rfl rfl rfl rfl ?_
      refine WQ_gno rfl rfl rfl rfl ?_
      refine WQ_gno rfl rfl rfl rfl ?_
      refine WQ_gno rfl rfl rfl rfl ?_
      refine WQ_gno rfl rfl rfl rfl ?_
      refine WQ_gno rfl rfl rfl rfl ?_
      refine WQ_gno rfl rfl rfl rfl ?_
      refine WQ_gno rfl rfl rfl rfl ?_
      refine WQ_gno rfl rfl rfl rfl ?_
      refine WQ_gno rfl rfl rfl rfl ?_
      refine WQ_gno rfl rfl rfl rfl ?_
      refine WQ_gno rfl rfl rfl rfl ?_
      refine WQ_gno rfl rfl rfl rfl ?_
      refine WQ_gno rfl rfl rfl rfl ?_
      refine WQ_gno rfl rfl rfl rfl ?_
      refine WQ_gno rfl rfl rfl rfl ?_
      refine WQ_gno rfl rfl rfl rfl ?_
      refine WQ_gno rfl rfl rfl rfl ?_
      first | refine WQ_x (X_pickt rfl rfl) rfl ?_ | refine WQ_x (X_pickf rfl rfl) rfl ?_
      refine WQ_nil ?_
      refine W_condT rfl rfl ?_
      refine W_sr ?_
      refine W_move rfl rfl ?_
      refine W_move rfl rfl ?_
      refine W_build (l := Er.cells ⟨a, ⟨zeroS, none, 0⟩, 10⟩) ty35 pl35 (.cons rfl rfl rfl rfl rfl (.cons rfl rfl rfl rfl rfl .nil)) rfl rfl rfl ?_
      refine W_buildSlice ty25 ty35 (.cons rfl rfl rfl rfl rfl .nil) rfl rfl rfl rfl rfl rfl rfl (fun b42 => ?_)
      refine W_append (news := Er.cells ⟨a, ⟨zeroS, none, 0⟩, 10⟩) (m := 1) (HB := HB) (H0 := HX ++ H) rfl rfl ty25 ty35 rfl (by decide) hO rfl (Holds.own List.mem_cons_self) rfl (by simp only [maxLen]; omega) (by omega) (by repeat (first | exact HSub.refl _ | refine HSub.cons (by repeat (first | exact Take.here _ | apply Take.next | apply Take.app)) ?_ | refine HSub.app (by repeat (first | exact TakeS.here _ | apply TakeS.next | apply TakeS.app)) ?_ | refine HSub.drop ?_ | refine HSub.dropS ?_ | exact HSub.nil _)) rfl (fun v' HB' hO' => ?_)
      refine W_assign rfl rfl ?_
      refine W_nil ?_
      refine W_ret1m (H2 := HB' ++ (HX ++ H)) Try.results8 rfl (.nil _) (by repeat (first | exact HSub.refl _ | refine HSub.cons (by repeat (first | exact Take.here _ | apply Take.next | apply Take.app)) ?_ | refine HSub.app (by repeat (first | exact TakeS.here _ | apply TakeS.next | apply TakeS.app)) ?_ | refine HSub.drop ?_ | refine HSub.dropS ?_ | exact HSub.nil _)) ?_
      rw [from_short (by omega) h3] at hes
      exact ⟨es ++ [⟨a, ⟨zeroS, none, 0⟩, 10⟩], HB', HX, by rw [← hes, List.map_append]; rfl, by rw [erRow_append, List.length_append]; exact hO', (by intro e' he'; rcases List.mem_append.1 he' with h | h; exact hok e' h; (simp at h; subst h; exact ⟨zero_ok, Holds.nil⟩)), rfl⟩
    · skip
      refine W_exit rfl ?_
      refine W_sr ?_
      refine W_move rfl rfl ?_
      refine W_assign rfl rfl ?_
      refine W_nil ?_
      refine W_ret1m (H2 := HB ++ (HX ++ H)) Try.results8 rfl (.nil _) (by repeat (first | exact HSub.refl _ | refine HSub.cons (by repeat (first | exact Take.here _ | apply Take.next | apply Take.app)) ?_ | refine HSub.app (by repeat (first | exact TakeS.here _ | apply TakeS.next | apply TakeS.app)) ?_ | refine HSub.drop ?_ | refine HSub.dropS ?_ | exact HSub.nil _)) ?_
      rw [from_end (by omega), List.append_nil] at hes
      exact ⟨es, HB, HX, hes, hO, hok, rfl⟩
  · skip
    refine W_nil ?_
    refine W_condPS (p := (a : Int) < (b.length : Int)) rfl (by simp) (fun c0 => ?_) (fun c0 => ?_)
    · skip
      refine W_skip ?_
      refine W_block ?_
      refine W_seq ?_
      refine W_quietsr (by kernel_rfl) (by decide +kernel) ?_
      refine WQ_x (X_move rfl) rfl ?_
      refine WQ_x (X_len rfl ty22 rfl) rfl ?_
      refine WQ_x (X_move rfl) rfl ?_
      refine WQ_x (X_bin rfl rfl (b_sub (m := ((b.length - a : Nat) : Int)) ((i64w (by omega)).trans (by omega)))) rfl ?_
      refine WQ_x (X_bin rfl rfl b_lss) rfl ?_
      first | rw [decide_eq_true (show ((b.length - a : Nat) : Int) < 3 by omega)] | rw [decide_eq_false (show ¬ ((b.length - a : Nat) : Int) < 3 by omega)]
      refine WQ_x (X_move rfl) rfl ?_
      refine WQ_gyes rfl rfl ?_
      obtain ⟨b0, o0, rfl, _⟩ := hrow.at (i := a) (v := .int .u8 (b.getD a 0)) (bytesV_get (by omega))
      obtain ⟨nn, hnn⟩ : ∃ nn, nn = (numL (((b.drop a).drop 1).take 2)).toNat := ⟨_, rfl⟩
      have hn2 := num2 (b := b) (a := a) (by omega)
      have hq1 := hb.getD (a + 1)
      have hq2 := hb.getD (a + 2)
      have hnz : b.getD (a + 1) 0 + 256 * b.getD (a + 2) 0 = (nn : Int) := by omega
      refine WQ_x (X_move rfl) rfl ?_
      refine WQ_gyes rfl rfl ?_
      refine WQ_x (X_len rfl ty22 rfl) rfl ?_
      refine WQ_gyes rfl rfl ?_
      refine WQ_x (X_move rfl) rfl ?_
      refine WQ_gyes rfl rfl ?_
      refine WQ_x (X_bin rfl rfl (b_sub (m := ((b.length - a : Nat) : Int)) ((i64w (by omega)).trans (by omega)))) rfl ?_
      refine WQ_gyes rfl rfl ?_
      refine WQ_x (X_bin rfl rfl (b_sub (m := ((b.length - a - 3 : Nat) : Int)) ((i64w (by omega)).trans (by omega)))) rfl ?_
      refine WQ_gyes rfl rfl ?_
      refine WQ_x (X_move rfl) rfl ?_
      refine WQ_gyes rfl rfl ?_
      refine WQ_x (X_move rfl) rfl ?_
      refine WQ_gyes rfl rfl ?_
      refine WQ_x (X_bin rfl rfl (b_add (m := ((a + 1 : Nat) : Int)) ((i64w (by omega)).trans (by omega)))) rfl ?_
      refine WQ_gyes rfl rfl ?_
      refine WQ_x (X_indexAddr (j := (a + 1)) rfl rfl ty22 ty5 (by first | rfl | omega) (by first | decide | omega) rfl) rfl ?_
      refine WQ_gyes rfl rfl ?_
      refine WQ_x (X_load rfl ty5 rfl (v := .int .u8 (b.getD (a + 1) 0)) (by obtain ⟨b9, o9, e9, hc9⟩ := hrow.at (i := a + 1) (v := .int .u8 (b.getD (a + 1) 0)) (bytesV_get (by omega)); cases e9; rw [Nat.mul_one]; exact hc9.up (by repeat (first | exact HSub.refl _ | refine HSub.cons (by repeat (first | exact Take.here _ | apply Take.next | apply Take.app)) ?_ | refine HSub.app (by repeat (first | exact TakeS.here _ | apply TakeS.next | apply TakeS.app)) ?_ | refine HSub.drop ?_ | refine HSub.dropS ?_ | exact HSub.nil _)))) rfl ?_
      refine WQ_gyes rfl rfl ?_
      refine WQ_x (X_conv rfl ty5 ty3 (m := b.getD (a + 1) 0) (i64w (by have := hb.getD (a + 1); omega))) rfl ?_
      refine WQ_gyes rfl rfl ?_
      refine WQ_x (X_move rfl) rfl ?_
      refine WQ_gyes rfl rfl ?_
      refine WQ_x (X_move rfl) rfl ?_
      refine WQ_gyes rfl rfl ?_
      refine WQ_x (X_bin rfl rfl (b_add (m := ((a + 2 : Nat) : Int)) ((i64w (by omega)).trans (by omega)))) rfl ?_
      refine WQ_gyes rfl rfl ?_
      refine WQ_x (X_indexAddr (j := (a + 2)) rfl rfl ty22 ty5 (by first | rfl | omega) (by first | decide | omega) rfl) rfl ?_
      refine WQ_gyes rfl rfl ?_
      refine WQ_x (X_load rfl ty5 rfl (v := .int .u8 (b.getD (a + 2) 0)) (by obtain ⟨b9, o9, e9, hc9⟩ := hrow.at (i := a + 2) (v := .int .u8 (b.getD (a + 2) 0)) (bytesV_get (by omega)); cases e9; rw [Nat.mul_one]; exact hc9.up (by repeat (first | exact HSub.refl _ | refine HSub.cons (by repeat (first | exact Take.here _ | apply Take.next | apply Take.app)) ?_ | refine HSub.app (by repeat (first | exact TakeS.here _ | apply TakeS.next | apply TakeS.app)) ?_ | refine HSub.drop ?_ | refine HSub.dropS ?_ | exact HSub.nil _)))) rfl ?_
      refine WQ_gyes rfl rfl ?_
      refine WQ_x (X_conv rfl ty5 ty3 (m := b.getD (a + 2) 0) (i64w (by have := hb.getD (a + 2); omega))) rfl ?_
      refine WQ_gyes rfl rfl ?_
      refine WQ_x (X_bin rfl rfl (b_mul (m := 256 * b.getD (a + 2) 0) (i64w (by have := hb.getD (a + 2); omega)))) rfl ?_
      refine WQ_gyes rfl rfl ?_
      refine WQ_x (X_bin rfl rfl (b_add (m := (nn : Int)) ((i64w (by have h1 := hb.getD (a + 1); have h2 := hb.getD (a + 2); omega)).trans (by omega)))) rfl ?_
      refine WQ_gyes rfl rfl ?_
      refine WQ_x (X_bin rfl rfl b_lss) rfl ?_
      first | refine WQ_x (X_pickt rfl rfl) rfl ?_ | refine WQ_x (X_pickf rfl rfl) rfl ?_
      refine WQ_nil ?_
      refine W_condPS (p := ((b.length - a - 3 : Nat) : Int) < (nn : Int)) rfl (by simp) (fun c1 => ?_) (fun c1 => ?_)
      · skip
        refine W_sr ?_
        refine W_move rfl rfl ?_
        refine W_move rfl rfl ?_
        refine W_build (l := Er.cells ⟨a, ⟨zeroS, none, 0⟩, 10⟩) ty35 pl35 (.cons rfl rfl rfl rfl rfl (.cons rfl rfl rfl rfl rfl .nil)) rfl rfl rfl ?_
        refine W_buildSlice ty25 ty35 (.cons rfl rfl rfl rfl rfl .nil) rfl rfl rfl rfl rfl rfl rfl (fun b42 => ?_)
        refine W_append (news := Er.cells ⟨a, ⟨zeroS, none, 0⟩, 10⟩) (m := 1) (HB := HB) (H0 := HX ++ H) rfl rfl ty25 ty35 rfl (by decide) hO rfl (Holds.own List.mem_cons_self) rfl (by simp only [maxLen]; omega) (by omega) (by repeat (first | exact HSub.refl _ | refine HSub.cons (by repeat (first | exact Take.here _ | apply Take.next | apply Take.app)) ?_ | refine HSub.app (by repeat (first | exact TakeS.here _ | apply TakeS.next | apply TakeS.app)) ?_ | refine HSub.drop ?_ | refine HSub.dropS ?_ | exact HSub.nil _)) rfl (fun v' HB' hO' => ?_)
        refine W_assign rfl rfl ?_
        refine W_nil ?_
        refine W_ret1m (H2 := HB' ++ (HX ++ H)) Try.results8 rfl (.nil _) (by repeat (first | exact HSub.refl _ | refine HSub.cons (by repeat (first | exact Take.here _ | apply Take.next | apply Take.app)) ?_ | refine HSub.app (by repeat (first | exact TakeS.here _ | apply TakeS.next | apply TakeS.app)) ?_ | refine HSub.drop ?_ | refine HSub.dropS ?_ | exact HSub.nil _)) ?_
        rw [from_step (by omega) hnn, if_pos (by omega)] at hes
        exact ⟨es ++ [⟨a, ⟨zeroS, none, 0⟩, 10⟩], HB', HX, by rw [← hes, List.map_append]; rfl, by rw [erRow_append, List.length_append]; exact hO', (by intro e' he'; rcases List.mem_append.1 he' with h | h; exact hok e' h; (simp at h; subst h; exact ⟨zero_ok, Holds.nil⟩)), rfl⟩
      · skip
        refine W_skip ?_
        refine W_quietsr (by kernel_rfl) (by decide +kernel) ?_
        refine WQ_x (X_move rfl) rfl ?_
        refine WQ_x (X_move rfl) rfl ?_
        refine WQ_x (X_bin rfl rfl (b_add (m := ((a + 1 : Nat) : Int)) ((i64w (by omega)).trans (by omega)))) rfl ?_
        refine WQ_x (X_indexAddr (j := (a + 1)) rfl rfl ty22 ty5 (by first | rfl | omega) (by first | decide | omega) rfl) rfl ?_
        refine WQ_x (X_load rfl ty5 rfl (v := .int .u8 (b.getD (a + 1) 0)) (by obtain ⟨b9, o9, e9, hc9⟩ := hrow.at (i := a + 1) (v := .int .u8 (b.getD (a + 1) 0)) (bytesV_get (by omega)); cases e9; rw [Nat.mul_one]; exact hc9.up (by repeat (first | exact HSub.refl _ | refine HSub.cons (by repeat (first | exact Take.here _ | apply Take.next | apply Take.app)) ?_ | refine HSub.app (by repeat (first | exact TakeS.here _ | apply TakeS.next | apply TakeS.app)) ?_ | refine HSub.drop ?_ | refine HSub.dropS ?_ | exact HSub.nil _)))) rfl ?_
        refine WQ_x (X_conv rfl ty5 ty3 (m := b.getD (a + 1) 0) (i64w (by have := hb.getD (a + 1); omega))) rfl ?_
        refine WQ_x (X_move rfl) rfl ?_
        refine WQ_x (X_move rfl) rfl ?_
        refine WQ_x (X_bin rfl rfl (b_add (m := ((a + 2 : Nat) : Int)) ((i64w (by omega)).trans (by omega)))) rfl ?_
        refine WQ_x (X_indexAddr (j := (a + 2)) rfl rfl ty22 ty5 (by first | rfl | omega) (by first | decide | omega) rfl) rfl ?_
        refine WQ_x (X_load rfl ty5 rfl (v := .int .u8 (b.getD (a + 2) 0)) (by obtain ⟨b9, o9, e9, hc9⟩ := hrow.at (i := a + 2) (v := .int .u8 (b.getD (a + 2) 0)) (bytesV_get (by omega)); cases e9; rw [Nat.mul_one]; exact hc9.up (by repeat (first | exact HSub.refl _ | refine HSub.cons (by repeat (first | exact Take.here _ | apply Take.next | apply Take.app)) ?_ | refine HSub.app (by repeat (first | exact TakeS.here _ | apply TakeS.next | apply TakeS.app)) ?_ | refine HSub.drop ?_ | refine HSub.dropS ?_ | exact HSub.nil _)))) rfl ?_
        refine WQ_x (X_conv rfl ty5 ty3 (m := b.getD (a + 2) 0) (i64w (by have := hb.getD (a + 2); omega))) rfl ?_
        refine WQ_x (X_bin rfl rfl (b_mul (m := 256 * b.getD (a + 2) 0) (i64w (by have := hb.getD (a + 2); omega)))) rfl ?_
        refine WQ_x (X_bin rfl rfl (b_add (m := (nn : Int)) ((i64w (by have h1 := hb.getD (a + 1); have h2 := hb.getD (a + 2); omega)).trans (by omega)))) rfl ?_
        refine WQ_x (X_assign rfl) rfl ?_
        refine WQ_nil ?_
        refine W_seq ?_
        have hfit : a + 3 + nn ≤ b.length := by omega
        refine W_cutX (X := (Nat × Sr × Heap)) (fun x => [(0, .slice (some ⟨b0, o0, none⟩) b.length cap), (3, v), (4, .int .i64 (a : Int)), (5, .int .i64 (nn : Int)), (6, .pointer (some ⟨x.1, 0, none⟩)), (7, .int .i64 (one (b.getD a 0) (((b.drop a).drop 3).take nn)).2)]) (fun x => (x.1, .cells 33 7 x.2.1.cells) :: (x.2.2 ++ (HB ++ (HX ++ H)))) (fun x => x.2.1.st = (one (b.getD a 0) (((b.drop a).drop 3).take nn)).1 ∧ SrOk w0 x.2.2 x.2.1) ?_ ?_
        · skip
          refine W_anyC (HB ++ (HX ++ H)) (by kernel_rfl) ?_
          refine WC_take 0 (l' := #[true, false, false, false, false, false, false, false, false, false, false, false, false, false, false, false, false, false, false, false]) rfl (by decide +kernel) (by decide +kernel) (by decide +kernel) rfl (by decide +kernel) (X_move rfl) rfl ?_
          refine WC_take 1 (l' := #[true, true, false, false, false, false, false, false, false, false, false, false, false, false, false, false, false, false, false, false]) rfl (by decide +kernel) (by decide +kernel) (by decide +kernel) rfl (by decide +kernel) (X_move rfl) rfl ?_
          refine WC_take 2 (l' := #[true, true, true, false, false, false, false, false, false, false, false, false, false, false, false, false, false, false, false, false]) rfl (by decide +kernel) (by decide +kernel) (by decide +kernel) rfl (by decide +kernel) (X_indexAddr (j := a) rfl rfl ty22 ty5 (by first | rfl | omega) (by first | decide | omega) rfl) rfl ?_
          refine WC_take 3 (l' := #[true, true, true, true, false, false, false, false, false, false, false, false, false, false, false, false, false, false, false, false]) rfl (by decide +kernel) (by decide +kernel) (by decide +kernel) rfl (by decide +kernel) (X_load rfl ty5 rfl (v := .int .u8 (b.getD (a) 0)) (by obtain ⟨b9, o9, e9, hc9⟩ := hrow.at (i := a) (v := .int .u8 (b.getD (a) 0)) (bytesV_get (by omega)); cases e9; rw [Nat.mul_one]; exact hc9.up (by repeat (first | exact HSub.refl _ | refine HSub.cons (by repeat (first | exact Take.here _ | apply Take.next | apply Take.app)) ?_ | refine HSub.app (by repeat (first | exact TakeS.here _ | apply TakeS.next | apply TakeS.app)) ?_ | refine HSub.drop ?_ | refine HSub.dropS ?_ | exact HSub.nil _)))) rfl ?_
          refine WC_take 4 (l' := #[true, true, true, true, true, false, false, false, false, false, false, false, false, false, false, false, false, false, false, false]) rfl (by decide +kernel) (by decide +kernel) (by decide +kernel) rfl (by decide +kernel) (X_conv rfl ty5 ty3 (m := b.getD (a) 0) (i64w (by have := hb.getD (a); omega))) rfl ?_
          refine WC_take 5 (l' := #[true, true, true, true, true, true, false, false, false, false, false, false, false, false, false, false, false, false, false, false]) rfl (by decide +kernel) (by decide +kernel) (by decide +kernel) rfl (by decide +kernel) (X_move rfl) rfl ?_
          refine WC_take 6 (l' := #[true, true, true, true, true, true, true, false, false, false, false, false, false, false, false, false, false, false, false, false]) rfl (by decide +kernel) (by decide +kernel) (by decide +kernel) rfl (by decide +kernel) (X_move rfl) rfl ?_
          refine WC_take 7 (l' := #[true, true, true, true, true, true, true, true, false, false, false, false, false, false, false, false, false, false, false, false]) rfl (by decide +kernel) (by decide +kernel) (by decide +kernel) rfl (by decide +kernel) (X_bin rfl rfl (b_add (m := ((a + 3 : Nat) : Int)) ((i64w (by omega)).trans (by omega)))) rfl ?_
          refine WC_take 8 (l' := #[true, true, true, true, true, true, true, true, true, false, false, false, false, false, false, false, false, false, false, false]) rfl (by decide +kernel) (by decide +kernel) (by decide +kernel) rfl (by decide +kernel) (X_move rfl) rfl ?_
          refine WC_take 9 (l' := #[true, true, true, true, true, true, true, true, true, true, false, false, false, false, false, false, false, false, false, false]) rfl (by decide +kernel) (by decide +kernel) (by decide +kernel) rfl (by decide +kernel) (X_bin rfl rfl (b_add (m := ((a + 3 : Nat) : Int)) ((i64w (by omega)).trans (by omega)))) rfl ?_
          refine WC_take 10 (l' := #[true, true, true, true, true, true, true, true, true, true, true, false, false, false, false, false, false, false, false, false]) rfl (by decide +kernel) (by decide +kernel) (by decide +kernel) rfl (by decide +kernel) (X_move rfl) rfl ?_
          refine WC_take 11 (l' := #[true, true, true, true, true, true, true, true, true, true, true, true, false, false, false, false, false, false, false, false]) rfl (by decide +kernel) (by decide +kernel) (by decide +kernel) rfl (by decide +kernel) (X_bin rfl rfl (b_add (m := ((a + 3 + nn : Nat) : Int)) ((i64w (by omega)).trans (by omega)))) rfl ?_
          refine WC_take 12 (l' := #[true, true, true, true, true, true, true, true, true, true, true, true, true, false, false, false, false, false, false, false]) rfl (by decide +kernel) (by decide +kernel) (by decide +kernel) rfl (by decide +kernel) (X_sliceN (k := a + 3) (hh := a + 3 + nn) rfl ty22 ty5 ⟨_, rfl⟩ ⟨_, rfl⟩ (by omega) (by omega)) rfl ?_
          refine WC_two 13 17 (l' := #[true, true, true, true, true, true, true, true, true, true, true, true, true, true, false, false, false, false, false, false]) (l'' := #[true, true, true, true, true, true, true, true, true, true, true, true, true, false, false, false, false, true, false, false]) (by repeat (first | exact HSub.refl _ | refine HSub.cons (by repeat (first | exact Take.here _ | apply Take.next | apply Take.app)) ?_ | refine HSub.app (by repeat (first | exact TakeS.here _ | apply TakeS.next | apply TakeS.app)) ?_ | refine HSub.drop ?_ | refine HSub.dropS ?_ | exact HSub.nil _)) (by decide +kernel) rfl rfl (by decide +kernel) (by decide +kernel) ?_ ?_
          · skip
            refine W_call (.cons rfl (.cons rfl .nil)) Try.call21 rfl (rone_L' (l := ((b.drop a).drop 3).take nn) (by simp; omega) (by unfold I64; have := hb.getD a; omega) (by simp; omega) (by simp; omega) (((hb.drop _).drop _).take _) (by rw [List.drop_drop, bytesV_take, bytesV_drop]; exact ((sliceN_holds (k := a + 3) (by rw [bytesV_len]; omega) hrow).take _).up (by repeat (first | exact HSub.refl _ | refine HSub.cons (by repeat (first | exact Take.here _ | apply Take.next | apply Take.app)) ?_ | refine HSub.app (by repeat (first | exact TakeS.here _ | apply TakeS.next | apply TakeS.app)) ?_ | refine HSub.drop ?_ | refine HSub.dropS ?_ | exact HSub.nil _)))) ?_
            rintro v' H' ⟨HR, r, hrs, hro, rfl, rfl⟩
            refine W_nil ?_
            refine WC_goal ?_
            refine WC_take 14 (l' := #[true, true, true, true, true, true, true, true, true, true, true, true, true, true, true, false, false, false, false, false]) rfl (by decide +kernel) (by decide +kernel) (by decide +kernel) rfl (by decide +kernel) (X_move rfl) rfl ?_
            refine WC_take 15 (l' := #[true, true, true, true, true, true, true, true, true, true, true, true, true, true, true, true, false, false, false, false]) rfl (by decide +kernel) (by decide +kernel) (by decide +kernel) rfl (by decide +kernel) (X_extract rfl rfl) rfl ?_
            refine WC_take 16 (l' := #[true, true, true, true, true, true, true, true, true, true, true, true, true, true, true, true, true, false, false, false]) rfl (by decide +kernel) (by decide +kernel) (by decide +kernel) rfl (by decide +kernel) (X_extract rfl rfl) rfl ?_
            refine WC_one 17 (l' := #[true, true, true, true, true, true, true, true, true, true, true, true, true, true, true, true, true, true, false, false]) (by repeat (first | exact HSub.refl _ | refine HSub.cons (by repeat (first | exact Take.here _ | apply Take.next | apply Take.app)) ?_ | refine HSub.app (by repeat (first | exact TakeS.here _ | apply TakeS.next | apply TakeS.app)) ?_ | refine HSub.drop ?_ | refine HSub.dropS ?_ | exact HSub.nil _)) (by decide +kernel) rfl (by decide +kernel) ?_
            refine W_alloc ty33 rfl rfl (fun b6 => ?_)
            refine W_nil ?_
            refine WC_goal ?_
            refine WC_one 18 (l' := #[true, true, true, true, true, true, true, true, true, true, true, true, true, true, true, true, true, true, true, false]) (by repeat (first | exact HSub.refl _ | refine HSub.cons (by repeat (first | exact Take.here _ | apply Take.next | apply Take.app)) ?_ | refine HSub.app (by repeat (first | exact TakeS.here _ | apply TakeS.next | apply TakeS.app)) ?_ | refine HSub.drop ?_ | refine HSub.dropS ?_ | exact HSub.nil _)) (by decide +kernel) rfl (by decide +kernel) ?_
            refine W_storeA rfl rfl ty33 rfl rfl (by repeat (first | exact List.mem_cons_self | apply List.mem_cons_of_mem | apply List.mem_append_right)) (Nat.le_of_ble_eq_true rfl) (by simp only [fillL, spliceL, Value.cells, List.take_zero, List.take_succ_cons, List.take_nil, List.drop_zero, List.drop_succ_cons, List.drop_nil, List.nil_append, List.cons_append, List.append_nil, List.length_cons, List.length_nil, Nat.zero_add, Nat.reduceAdd, List.toList_toArray]; rfl) (by repeat (first | exact Upd.head _ | apply Upd.tail | apply Upd.app)) ?_
            refine W_nil ?_
            refine WC_goal ?_
            refine WC_take 19 (l' := #[true, true, true, true, true, true, true, true, true, true, true, true, true, true, true, true, true, true, true, true]) rfl (by decide +kernel) (by decide +kernel) (by decide +kernel) rfl (by decide +kernel) (X_assign rfl) rfl ?_
            refine WC_done (by repeat (first | exact HSub.refl _ | refine HSub.cons (by repeat (first | exact Take.here _ | apply Take.next | apply Take.app)) ?_ | refine HSub.app (by repeat (first | exact TakeS.here _ | apply TakeS.next | apply TakeS.app)) ?_ | refine HSub.drop ?_ | refine HSub.dropS ?_ | exact HSub.nil _)) (by decide +kernel) ?_
            refine W_joinX (b6, r, HR) ⟨hrs, hro⟩ (sub_cons rfl (sub_cons rfl (sub_cons rfl (sub_cons rfl (sub_cons rfl (sub_cons rfl (sub_nil _))))))) (by repeat (first | exact HSub.refl _ | refine HSub.cons (by repeat (first | exact Take.here _ | apply Take.next | apply Take.app)) ?_ | refine HSub.app (by repeat (first | exact TakeS.here _ | apply TakeS.next | apply TakeS.app)) ?_ | refine HSub.drop ?_ | refine HSub.dropS ?_ | exact HSub.nil _))
          · skip
            refine W_alloc ty33 rfl rfl (fun b6 => ?_)
            refine W_nil ?_
            refine WC_goal ?_
            refine WC_one 13 (l' := #[true, true, true, true, true, true, true, true, true, true, true, true, true, true, false, false, false, true, false, false]) (by repeat (first | exact HSub.refl _ | refine HSub.cons (by repeat (first | exact Take.here _ | apply Take.next | apply Take.app)) ?_ | refine HSub.app (by repeat (first | exact TakeS.here _ | apply TakeS.next | apply TakeS.app)) ?_ | refine HSub.drop ?_ | refine HSub.dropS ?_ | exact HSub.nil _)) (by decide +kernel) rfl (by decide +kernel) ?_
            refine W_call (.cons rfl (.cons rfl .nil)) Try.call21 rfl (rone_L' (l := ((b.drop a).drop 3).take nn) (by simp; omega) (by unfold I64; have := hb.getD a; omega) (by simp; omega) (by simp; omega) (((hb.drop _).drop _).take _) (by rw [List.drop_drop, bytesV_take, bytesV_drop]; exact ((sliceN_holds (k := a + 3) (by rw [bytesV_len]; omega) hrow).take _).up (by repeat (first | exact HSub.refl _ | refine HSub.cons (by repeat (first | exact Take.here _ | apply Take.next | apply Take.app)) ?_ | refine HSub.app (by repeat (first | exact TakeS.here _ | apply TakeS.next | apply TakeS.app)) ?_ | refine HSub.drop ?_ | refine HSub.dropS ?_ | exact HSub.nil _)))) ?_
            rintro v' H' ⟨HR, r, hrs, hro, rfl, rfl⟩
            refine W_nil ?_
            refine WC_goal ?_
            refine WC_take 14 (l' := #[true, true, true, true, true, true, true, true, true, true, true, true, true, true, true, false, false, true, false, false]) rfl (by decide +kernel) (by decide +kernel) (by decide +kernel) rfl (by decide +kernel) (X_move rfl) rfl ?_
            refine WC_take 15 (l' := #[true, true, true, true, true, true, true, true, true, true, true, true, true, true, true, true, false, true, false, false]) rfl (by decide +kernel) (by decide +kernel) (by decide +kernel) rfl (by decide +kernel) (X_extract rfl rfl) rfl ?_
            refine WC_take 16 (l' := #[true, true, true, true, true, true, true, true, true, true, true, true, true, true, true, true, true, true, false, false]) rfl (by decide +kernel) (by decide +kernel) (by decide +kernel) rfl (by decide +kernel) (X_extract rfl rfl) rfl ?_
            refine WC_one 18 (l' := #[true, true, true, true, true, true, true, true, true, true, true, true, true, true, true, true, true, true, true, false]) (by repeat (first | exact HSub.refl _ | refine HSub.cons (by repeat (first | exact Take.here _ | apply Take.next | apply Take.app)) ?_ | refine HSub.app (by repeat (first | exact TakeS.here _ | apply TakeS.next | apply TakeS.app)) ?_ | refine HSub.drop ?_ | refine HSub.dropS ?_ | exact HSub.nil _)) (by decide +kernel) rfl (by decide +kernel) ?_
            refine W_storeA rfl rfl ty33 rfl rfl (by repeat (first | exact List.mem_cons_self | apply List.mem_cons_of_mem | apply List.mem_append_right)) (Nat.le_of_ble_eq_true rfl) (by simp only [fillL, spliceL, Value.cells, List.take_zero, List.take_succ_cons, List.take_nil, List.drop_zero, List.drop_succ_cons, List.drop_nil, List.nil_append, List.cons_append, List.append_nil, List.length_cons, List.length_nil, Nat.zero_add, Nat.reduceAdd, List.toList_toArray]; rfl) (by repeat (first | exact Upd.head _ | apply Upd.tail | apply Upd.app)) ?_
            refine W_nil ?_
            refine WC_goal ?_
            refine WC_take 19 (l' := #[true, true, true, true, true, true, true, true, true, true, true, true, true, true, true, true, true, true, true, true]) rfl (by decide +kernel) (by decide +kernel) (by decide +kernel) rfl (by decide +kernel) (X_assign rfl) rfl ?_
            refine WC_done (by repeat (first | exact HSub.refl _ | refine HSub.cons (by repeat (first | exact Take.here _ | apply Take.next | apply Take.app)) ?_ | refine HSub.app (by repeat (first | exact TakeS.here _ | apply TakeS.next | apply TakeS.app)) ?_ | refine HSub.drop ?_ | refine HSub.dropS ?_ | exact HSub.nil _)) (by decide +kernel) ?_
            refine W_joinX (b6, r, HR) ⟨hrs, hro⟩ (sub_cons rfl (sub_cons rfl (sub_cons rfl (sub_cons rfl (sub_cons rfl (sub_cons rfl (sub_nil _))))))) (by repeat (first | exact HSub.refl _ | refine HSub.cons (by repeat (first | exact Take.here _ | apply Take.next | apply Take.app)) ?_ | refine HSub.app (by repeat (first | exact TakeS.here _ | apply TakeS.next | apply TakeS.app)) ?_ | refine HSub.drop ?_ | refine HSub.dropS ?_ | exact HSub.nil _))
        rintro ⟨b6, r, HR⟩ ⟨hrs, hro⟩
        dsimp only at hrs hro ⊢
        refine W_sr ?_
        refine W_move rfl rfl ?_
        refine W_move rfl rfl ?_
        refine W_loadB rfl ty33 rfl (by repeat (first | exact List.mem_cons_self | apply List.mem_cons_of_mem | apply List.mem_append_right)) rfl (vs := r.cells) rfl rfl ?_
        refine W_move rfl rfl ?_
        refine W_build (l := Er.cells ⟨a, r, (one (b.getD a 0) (((b.drop a).drop 3).take nn)).2⟩) ty35 pl35 (.cons rfl rfl rfl rfl rfl (.cons rfl rfl rfl rfl rfl (.cons rfl rfl rfl rfl rfl .nil))) rfl rfl rfl ?_
        refine W_buildSlice ty25 ty35 (.cons rfl rfl rfl rfl rfl .nil) rfl rfl rfl rfl rfl rfl rfl (fun b80 => ?_)
        refine W_append (news := Er.cells ⟨a, r, (one (b.getD a 0) (((b.drop a).drop 3).take nn)).2⟩) (m := 1) (HB := HB) (H0 := HR ++ (HX ++ H)) rfl rfl ty25 ty35 rfl (by decide) hO rfl (Holds.own List.mem_cons_self) rfl (by simp only [maxLen]; omega) (by omega) (by repeat (first | exact HSub.refl _ | refine HSub.cons (by repeat (first | exact Take.here _ | apply Take.next | apply Take.app)) ?_ | refine HSub.app (by repeat (first | exact TakeS.here _ | apply TakeS.next | apply TakeS.app)) ?_ | refine HSub.drop ?_ | refine HSub.dropS ?_ | exact HSub.nil _)) rfl (fun v' HB' hO' => ?_)
        refine W_assign rfl rfl ?_
        refine W_nil ?_
        refine W_region ?_
        refine W_move rfl rfl ?_
        refine W_bin rfl rfl (b_add (m := ((a + 3 : Nat) : Int)) ((i64w (by omega)).trans (by omega))) rfl ?_
        refine W_move rfl rfl ?_
        refine W_bin rfl rfl (b_add (m := ((a + (3 + nn) : Nat) : Int)) ((i64w (by omega)).trans (by omega))) rfl ?_
        refine W_assign rfl rfl ?_
        refine W_nil ?_
        refine W_blk ?_
        refine W_again (a + (3 + nn), es ++ [(⟨a, r, (one (b.getD a 0) (((b.drop a).drop 3).take nn)).2⟩ : Er)], v', HB', HR ++ HX) ⟨by show List.map Er.en (es ++ [_]) ++ from_ b (a + (3 + nn)) = parse b; rw [← hes, from_step (by omega) hnn, if_neg (by omega), List.map_append, List.append_assoc]; show _ ++ ([(⟨a, r.st, _⟩ : En)] ++ _) = _; rw [hrs]; rfl, by show OwnS _ _ v' (es ++ [_]).length (erRow (es ++ [_])) HB'; rw [erRow_append, List.length_append]; exact hO', (by intro e' he'; rcases List.mem_append.1 he' with h | h; exact (hok e' h).up hsub_right; (simp at h; subst h; exact hro.up hsub_left)), by show a + (3 + nn) ≤ 10000000; omega⟩ (by show b.length - (a + (3 + nn)) < b.length - a; omega) (sub_cons rfl (sub_cons rfl (sub_cons rfl (sub_nil _)))) rfl (by simp only [List.append_assoc]; repeat (first | exact HSub.refl _ | refine HSub.cons (by repeat (first | exact Take.here _ | apply Take.next | apply Take.app)) ?_ | refine HSub.app (by repeat (first | exact TakeS.here _ | apply TakeS.next | apply TakeS.app)) ?_ | refine HSub.drop ?_ | refine HSub.dropS ?_ | exact HSub.nil _))
    · skip
      refine W_exit rfl ?_
      refine W_sr ?_
      refine W_move rfl rfl ?_
      refine W_assign rfl rfl ?_
      refine W_nil ?_
      refine W_ret1m (H2 := HB ++ (HX ++ H)) Try.results8 rfl (.nil _) (by repeat (first | exact HSub.refl _ | refine HSub.cons (by repeat (first | exact Take.here _ | apply Take.next | apply Take.app)) ?_ | refine HSub.app (by repeat (first | exact TakeS.here _ | apply TakeS.next | apply TakeS.app)) ?_ | refine HSub.drop ?_ | refine HSub.dropS ?_ | exact HSub.nil _)) ?_
      rw [from_end (by omega), List.append_nil] at hes
      exact ⟨es, HB, HX, hes, hO, hok, rfl⟩
end Go.Proofs.Ytkhkagjbeilbgaa
