/-
  Own work: contracts of functions that the statement reaches, and plain facts on what they compute; each theorem says its conditions.
-/
import Derived.Test.YtkhkagjbeilbgaaS11
set_option linter.all false
set_option linter.unusedSimpArgs false
set_option linter.unusedVariables false
namespace Go.Proofs.Ytkhkagjbeilbgaa
open Go Go.Sl
attribute [local irreducible] W
open Go.Script

structure Er where
  at_ : Nat
  r : Sr
  err : Int
def Er.en (e : Er) : En := ⟨e.at_, e.r.st, e.err⟩
def Er.cells (e : Er) : List Value := .int .i64 (e.at_ : Int) :: (e.r.cells ++ [.int .i64 e.err])
abbrev erRow (l : List Er) : List Value := l.flatMap Er.cells
theorem er_len (e : Er) : e.cells.length = 9 := rfl
theorem one_L' {w0 : World} {H : Heap} {k : Int} {l : List Int} {b0 o0 cap m : Nat} (hm : l.length = m) (hk64 : I64 k) (hl : l.length ≤ 100000) (hlc : l.length ≤ cap) (hb : Go.Script.Bytes l) (hrow : Holds w0 H (some ⟨b0, o0, none⟩) (bytesV l)) :
    LCalls Try.prog w0 38 #[.int .i64 k, .slice (some ⟨b0, o0, none⟩) m cap] H (fun v H' => ∃ HB r, r.st = (one k l).1 ∧ SrOk w0 HB r ∧ v = .tuple #[.agg r.cells.toArray, .int .i64 (one k l).2] ∧ H' = HB ++ H) := by
  subst hm; exact one_L hk64 hl hlc hb hrow
theorem head_at {α : Type} {l : List α} {i : Nat} {x : α} {r : List α} (h : x :: r = l.drop i) : l[i]? = some x ∧ r = l.drop (i + 1) := by
  have h0 : (l.drop i)[0]? = some x := by rw [← h]; rfl
  rw [List.getElem?_drop, Nat.add_zero] at h0
  refine ⟨h0, ?_⟩
  have : (l.drop i).drop 1 = r := by rw [← h]; rfl
  rw [← this, List.drop_drop]
theorem nil_at {α : Type} {l : List α} {i : Nat} (h : ([] : List α) = l.drop i) (hi : i ≤ l.length) : i = l.length := by
  have := congrArg List.length h
  simp at this; omega
set_option maxHeartbeats 4000000 in
theorem entries_iter {w0 : World} {H : Heap} {l bc : Nat} {ad : Option Addr} {cap : Nat} {b : List Int} (hb : Go.Script.Bytes b) (hl : b.length ≤ 100000) (hlc : b.length ≤ cap) (J : Nat → Heap → Prop) (S : Heap → Prop) (hJh : ∀ i Hi, J i Hi → Holds w0 Hi ad (bytesV b))
    (hround : ∀ i x Hi HR (e : Er), (parse b)[i]? = some x → e.en = x → SrOk w0 HR e.r → J i Hi → RoundC Try.prog w0 l #[.agg e.cells.toArray] (HR ++ ((bc, .cells 22 1 [.slice ad b.length cap]) :: Hi))
      (fun v H' => ∃ Hi', HSub H' ((bc, .cells 22 1 [.slice ad b.length cap]) :: Hi') ∧ (v = .bool true ∧ J (i + 1) Hi' ∨ v = .bool false ∧ S Hi'))) (hJ : J 0 H)  : LCalls Try.prog w0 36 #[.func (.yield l) #[] #[], .pointer (some ⟨bc, 0, none⟩)] ((bc, .cells 22 1 [.slice ad b.length cap]) :: H) (fun _ H' => ∃ Hi', HSub H' ((bc, .cells 22 1 [.slice ad b.length cap]) :: Hi') ∧ (J (parse b).length Hi' ∨ S Hi')) := by
  refine L_enter (l := [.func (.yield l) #[] #[], .pointer (some ⟨bc, 0, none⟩)]) Try.func36 rfl Try.ntmps36 rfl rfl ?_
  refine W_scope (fun _ _ _ h => h) ?_
  refine W_sr ?_
  refine W_assign rfl rfl ?_
  refine W_nil ?_
  refine W_seq ?_
  refine W_label ?_
  refine W_block ?_
  refine W_loopC (X := (Nat × Nat × Heap)) [(0, _), (1, _)] (fun (x : (Nat × Nat × Heap)) => [(3, .int .i64 (x.1 : Int))]) (fun _ => _) (fun (x : (Nat × Nat × Heap)) => (bc, .cells 22 1 [.slice ad b.length cap]) :: x.2.2) (fun (x : (Nat × Nat × Heap)) => x.2.1 ≤ (parse b).length ∧ from_ b x.1 = (parse b).drop x.2.1 ∧ J x.2.1 x.2.2 ∧ x.1 ≤ 10000000) (fun (x : (Nat × Nat × Heap)) => (parse b).length - x.2.1) (0, 0, H) ⟨by simp, by rw [← parse_from]; rfl, hJ, by simp⟩ (sub_cons rfl (sub_cons rfl (sub_nil _))) (sub_cons rfl (sub_nil _)) rfl (by repeat (first | exact HSub.refl _ | refine HSub.cons (by repeat (first | exact Take.here _ | apply Take.next | apply Take.app)) ?_ | refine HSub.app (by repeat (first | exact TakeS.here _ | apply TakeS.next | apply TakeS.app)) ?_ | refine HSub.drop ?_ | refine HSub.dropS ?_ | exact HSub.nil _)) ?_
  rintro ⟨a, i, Hi⟩ ⟨hi, hfr, hJ, hal⟩
  dsimp only at hi hfr hJ hal ⊢
  simp only [List.cons_append, List.nil_append]
  refine W_seq ?_
  refine W_sr ?_
  refine W_move rfl rfl ?_
  refine W_load rfl ty22 rfl (Cell.own (by repeat (first | exact List.mem_cons_self | apply List.mem_cons_of_mem | apply List.mem_append_right)) rfl) rfl ?_
  refine W_len rfl ty22 rfl rfl ?_
  refine W_bin rfl rfl b_lss rfl ?_
  refine W_nil ?_
  refine W_condPS (p := (a : Int) < (b.length : Int)) rfl (by simp) (fun c0 => ?_) (fun c0 => ?_)
  · skip
    refine W_skip ?_
    refine W_block ?_
    refine W_sr ?_
    have hab : a < b.length := by omega
    have hrowb := hJh i Hi hJ
    obtain ⟨b0, o0, rfl, _⟩ := hrowb.at (i := a) (v := .int .u8 (b.getD a 0)) (bytesV_get hab)
    refine W_load rfl ty22 rfl (v := .slice (some ⟨b0, o0, none⟩) b.length cap) (Cell.own (by repeat (first | exact List.mem_cons_self | apply List.mem_cons_of_mem | apply List.mem_append_right)) rfl) rfl ?_
    refine W_move rfl rfl ?_
    refine W_slice (l := a) (hh := b.length) rfl ty22 ty5 ⟨_, rfl⟩ rfl (by omega) hlc rfl (fun o1 ho1 => ?_)
    rw [Nat.mul_one] at ho1
    refine W_assign rfl rfl ?_
    refine W_nil ?_
    refine W_seq ?_
    refine W_sr ?_
    refine W_move rfl rfl ?_
    refine W_len rfl ty22 rfl rfl ?_
    refine W_bin rfl rfl b_lss rfl ?_
    refine W_nil ?_
    refine W_condPS (p := ((b.length - a : Nat) : Int) < 3) rfl (by simp) (fun c1 => ?_) (fun c1 => ?_)
    · skip
      refine W_sr ?_
      refine W_move rfl rfl ?_
      refine W_move rfl rfl ?_
      rw [from_short hab (by omega)] at hfr
      obtain ⟨hex, hend⟩ := head_at hfr
      refine W_build (l := Er.cells ⟨a, ⟨zeroS, none, 0⟩, 10⟩) ty32 pl32 (.cons rfl rfl rfl rfl rfl (.cons rfl rfl rfl rfl rfl .nil)) rfl rfl rfl ?_
      refine W_yield rfl (.cons rfl .nil) rfl (hround i ⟨a, zeroS, 10⟩ Hi [] ⟨a, ⟨zeroS, none, 0⟩, 10⟩ hex rfl ⟨zero_ok, Holds.nil⟩ hJ) ?_
      rintro v H' ⟨H1, hs, ⟨rfl, hJ1⟩ | ⟨rfl, hS⟩⟩
      · refine W_hsub hs ?_
        refine W_nil ?_
        refine W_exit rfl ?_
        refine W_end0m Try.results36 (.nil _) (.refl _) ?_
        rw [← nil_at hend (by have := (List.getElem?_eq_some_iff.1 hex).1; omega)]
        exact ⟨H1, .refl _, .inl hJ1⟩
      · refine W_hsub hs ?_
        refine W_nil ?_
        refine W_exit rfl ?_
        refine W_end0m Try.results36 (.nil _) (.refl _) ?_
        exact ⟨H1, .refl _, .inr hS⟩
    · skip
      refine W_skip ?_
      refine W_sr ?_
      refine W_move rfl rfl ?_
      refine W_slice (l := 1) (hh := 3) rfl ty22 ty5 ⟨_, rfl⟩ ⟨_, rfl⟩ (by decide) (by omega) rfl (fun o2 ho2 => ?_)
      rw [Nat.mul_one] at ho2
      refine W_callq (.cons rfl .nil) Try.call37 rfl (number_q' (l := ((b.drop a).drop 1).take 2) (by simp; omega) (by simp; omega) (((hb.drop _).drop _).take _) (by rw [bytesV_take, bytesV_drop, bytesV_drop]; exact ((Holds.drop (Holds.drop hrowb (by rw [bytesV_len]; omega) ho1) (by rw [List.length_drop, bytesV_len]; omega) ho2).take 2).up (by repeat (first | exact HSub.refl _ | refine HSub.cons (by repeat (first | exact Take.here _ | apply Take.next | apply Take.app)) ?_ | refine HSub.app (by repeat (first | exact TakeS.here _ | apply TakeS.next | apply TakeS.app)) ?_ | refine HSub.drop ?_ | refine HSub.dropS ?_ | exact HSub.nil _)))) ?_
      have hn16 := numL_lt8 (l := ((b.drop a).drop 1).take 2) (((hb.drop _).drop _).take _) (k := 2) (by simp; omega)
      obtain ⟨nn, hnn⟩ : ∃ nn, nn = (numL (((b.drop a).drop 1).take 2)).toNat := ⟨_, rfl⟩
      have hnz : numL (((b.drop a).drop 1).take 2) = (nn : Int) := by omega
      rw [hnz]
      refine W_conv rfl ty27 ty3 (m := (nn : Int)) (i64w (by omega)) rfl ?_
      refine W_assign rfl rfl ?_
      refine W_nil ?_
      refine W_seq ?_
      refine W_sr ?_
      refine W_move rfl rfl ?_
      refine W_len rfl ty22 rfl rfl ?_
      refine W_move rfl rfl ?_
      refine W_bin rfl rfl (b_add (m := ((3 + nn : Nat) : Int)) ((i64w (by omega)).trans (by omega))) rfl ?_
      refine W_bin rfl rfl b_lss rfl ?_
      refine W_nil ?_
      refine W_condPS (p := ((b.length - a : Nat) : Int) < ((3 + nn : Nat) : Int)) rfl (by simp) (fun c2 => ?_) (fun c2 => ?_)
      · skip
        refine W_sr ?_
        refine W_move rfl rfl ?_
        refine W_move rfl rfl ?_
        rw [from_step (by omega) hnn, if_pos (by omega)] at hfr
        obtain ⟨hex, hend⟩ := head_at hfr
        refine W_build (l := Er.cells ⟨a, ⟨zeroS, none, 0⟩, 10⟩) ty32 pl32 (.cons rfl rfl rfl rfl rfl (.cons rfl rfl rfl rfl rfl .nil)) rfl rfl rfl ?_
        refine W_yield rfl (.cons rfl .nil) rfl (hround i ⟨a, zeroS, 10⟩ Hi [] ⟨a, ⟨zeroS, none, 0⟩, 10⟩ hex rfl ⟨zero_ok, Holds.nil⟩ hJ) ?_
        rintro v H' ⟨H1, hs, ⟨rfl, hJ1⟩ | ⟨rfl, hS⟩⟩
        · refine W_hsub hs ?_
          refine W_nil ?_
          refine W_exit rfl ?_
          refine W_end0m Try.results36 (.nil _) (.refl _) ?_
          rw [← nil_at hend (by have := (List.getElem?_eq_some_iff.1 hex).1; omega)]
          exact ⟨H1, .refl _, .inl hJ1⟩
        · refine W_hsub hs ?_
          refine W_nil ?_
          refine W_exit rfl ?_
          refine W_end0m Try.results36 (.nil _) (.refl _) ?_
          exact ⟨H1, .refl _, .inr hS⟩
      · skip
        refine W_skip ?_
        refine W_seq ?_
        have hlen3 : 3 + nn ≤ b.length - a := by omega
        obtain ⟨o3, ho3e⟩ : ∃ o3, o3 = if cap - a = 3 then o1 else o1 + 3 * 1 := ⟨_, rfl⟩
        have ho3 : 3 < cap - a → o3 = o1 + 3 := fun h => by rw [ho3e, if_neg (by omega)]
        refine W_cutX (X := (Nat × Sr × Heap)) (fun x => [(0, .func (.yield l) #[] #[]), (1, .pointer (some ⟨bc, 0, none⟩)), (3, .int .i64 (a : Int)), (5, .int .i64 (nn : Int)), (6, .pointer (some ⟨x.1, 0, none⟩)), (7, .int .i64 (one (b.getD a 0) (((b.drop a).drop 3).take nn)).2)]) (fun x => (x.1, .cells 29 7 x.2.1.cells) :: (x.2.2 ++ ((bc, .cells 22 1 [.slice (some ⟨b0, o0, none⟩) b.length cap]) :: Hi))) (fun x => x.2.1.st = (one (b.getD a 0) (((b.drop a).drop 3).take nn)).1 ∧ SrOk w0 x.2.2 x.2.1) ?_ ?_
        · skip
          refine W_anyC ((bc, .cells 22 1 [.slice (some ⟨b0, o0, none⟩) b.length cap]) :: Hi) (by kernel_rfl) ?_
          refine WC_take 0 (l' := #[true, false, false, false, false, false, false, false, false, false, false, false, false, false, false]) rfl (by decide +kernel) (by decide +kernel) (by decide +kernel) rfl (by decide +kernel) (X_move rfl) rfl ?_
          refine WC_take 1 (l' := #[true, true, false, false, false, false, false, false, false, false, false, false, false, false, false]) rfl (by decide +kernel) (by decide +kernel) (by decide +kernel) rfl (by decide +kernel) (X_indexAddr (j := 0) rfl rfl ty22 ty5 (by first | rfl | omega) (by first | decide | omega) rfl) rfl ?_
          refine WC_take 2 (l' := #[true, true, true, false, false, false, false, false, false, false, false, false, false, false, false]) rfl (by decide +kernel) (by decide +kernel) (by decide +kernel) rfl (by decide +kernel) (X_load rfl ty5 rfl (v := .int .u8 (b.getD a 0)) (by have h := (Holds.drop hrowb (by rw [bytesV_len]; omega) ho1).at (i := 0) (v := .int .u8 (b.getD a 0)) (by rw [List.getElem?_drop]; exact bytesV_get hab); obtain ⟨b9, o9, e9, hc9⟩ := h; cases e9; exact hc9.up (by repeat (first | exact HSub.refl _ | refine HSub.cons (by repeat (first | exact Take.here _ | apply Take.next | apply Take.app)) ?_ | refine HSub.app (by repeat (first | exact TakeS.here _ | apply TakeS.next | apply TakeS.app)) ?_ | refine HSub.drop ?_ | refine HSub.dropS ?_ | exact HSub.nil _)))) rfl ?_
          refine WC_take 3 (l' := #[true, true, true, true, false, false, false, false, false, false, false, false, false, false, false]) rfl (by decide +kernel) (by decide +kernel) (by decide +kernel) rfl (by decide +kernel) (X_conv rfl ty5 ty3 (m := b.getD a 0) (i64w (by have := hb.getD a; omega))) rfl ?_
          refine WC_take 4 (l' := #[true, true, true, true, true, false, false, false, false, false, false, false, false, false, false]) rfl (by decide +kernel) (by decide +kernel) (by decide +kernel) rfl (by decide +kernel) (X_move rfl) rfl ?_
          refine WC_take 5 (l' := #[true, true, true, true, true, true, false, false, false, false, false, false, false, false, false]) rfl (by decide +kernel) (by decide +kernel) (by decide +kernel) rfl (by decide +kernel) (X_move rfl) rfl ?_
          refine WC_take 6 (l' := #[true, true, true, true, true, true, true, false, false, false, false, false, false, false, false]) rfl (by decide +kernel) (by decide +kernel) (by decide +kernel) rfl (by decide +kernel) (X_bin rfl rfl (b_add (m := ((3 + nn : Nat) : Int)) ((i64w (by omega)).trans (by omega)))) rfl ?_
          refine WC_take 7 (l' := #[true, true, true, true, true, true, true, true, false, false, false, false, false, false, false]) rfl (by decide +kernel) (by decide +kernel) (by decide +kernel) rfl (by decide +kernel) (X_sliceAt (l := 3) (hh := 3 + nn) (d' := o3) rfl ty22 ty5 ⟨_, rfl⟩ ⟨_, rfl⟩ (by omega) (by omega) ho3e) rfl ?_
          refine WC_two 8 12 (l' := #[true, true, true, true, true, true, true, true, true, false, false, false, false, false, false]) (l'' := #[true, true, true, true, true, true, true, true, false, false, false, false, true, false, false]) (by repeat (first | exact HSub.refl _ | refine HSub.cons (by repeat (first | exact Take.here _ | apply Take.next | apply Take.app)) ?_ | refine HSub.app (by repeat (first | exact TakeS.here _ | apply TakeS.next | apply TakeS.app)) ?_ | refine HSub.drop ?_ | refine HSub.dropS ?_ | exact HSub.nil _)) (by decide +kernel) rfl rfl (by decide +kernel) (by decide +kernel) ?_ ?_
          · skip
            refine W_call (.cons rfl (.cons rfl .nil)) Try.call38 rfl (one_L' (l := ((b.drop a).drop 3).take nn) (by simp; omega) (by unfold I64; have := hb.getD a; omega) (by simp; omega) (by simp; omega) (((hb.drop _).drop _).take _) (by rw [bytesV_take, bytesV_drop, bytesV_drop]; exact ((Holds.drop (Holds.drop hrowb (by rw [bytesV_len]; omega) ho1) (by rw [List.length_drop, bytesV_len]; omega) ho3).take _).up (by repeat (first | exact HSub.refl _ | refine HSub.cons (by repeat (first | exact Take.here _ | apply Take.next | apply Take.app)) ?_ | refine HSub.app (by repeat (first | exact TakeS.here _ | apply TakeS.next | apply TakeS.app)) ?_ | refine HSub.drop ?_ | refine HSub.dropS ?_ | exact HSub.nil _)))) ?_
            rintro v H' ⟨HR, r, hrs, hro, rfl, rfl⟩
            refine W_nil ?_
            refine WC_goal ?_
            refine WC_take 9 (l' := #[true, true, true, true, true, true, true, true, true, true, false, false, false, false, false]) rfl (by decide +kernel) (by decide +kernel) (by decide +kernel) rfl (by decide +kernel) (X_move rfl) rfl ?_
            refine WC_take 10 (l' := #[true, true, true, true, true, true, true, true, true, true, true, false, false, false, false]) rfl (by decide +kernel) (by decide +kernel) (by decide +kernel) rfl (by decide +kernel) (X_extract rfl rfl) rfl ?_
            refine WC_take 11 (l' := #[true, true, true, true, true, true, true, true, true, true, true, true, false, false, false]) rfl (by decide +kernel) (by decide +kernel) (by decide +kernel) rfl (by decide +kernel) (X_extract rfl rfl) rfl ?_
            refine WC_one 12 (l' := #[true, true, true, true, true, true, true, true, true, true, true, true, true, false, false]) (by repeat (first | exact HSub.refl _ | refine HSub.cons (by repeat (first | exact Take.here _ | apply Take.next | apply Take.app)) ?_ | refine HSub.app (by repeat (first | exact TakeS.here _ | apply TakeS.next | apply TakeS.app)) ?_ | refine HSub.drop ?_ | refine HSub.dropS ?_ | exact HSub.nil _)) (by decide +kernel) rfl (by decide +kernel) ?_
            refine W_alloc ty29 rfl rfl (fun b6 => ?_)
            refine W_nil ?_
            refine WC_goal ?_
            refine WC_one 13 (l' := #[true, true, true, true, true, true, true, true, true, true, true, true, true, true, false]) (by repeat (first | exact HSub.refl _ | refine HSub.cons (by repeat (first | exact Take.here _ | apply Take.next | apply Take.app)) ?_ | refine HSub.app (by repeat (first | exact TakeS.here _ | apply TakeS.next | apply TakeS.app)) ?_ | refine HSub.drop ?_ | refine HSub.dropS ?_ | exact HSub.nil _)) (by decide +kernel) rfl (by decide +kernel) ?_
            refine W_storeA rfl rfl ty29 rfl rfl (by repeat (first | exact List.mem_cons_self | apply List.mem_cons_of_mem | apply List.mem_append_right)) (Nat.le_of_ble_eq_true rfl) (by simp only [fillL, spliceL, Value.cells, List.take_zero, List.take_succ_cons, List.take_nil, List.drop_zero, List.drop_succ_cons, List.drop_nil, List.nil_append, List.cons_append, List.append_nil, List.length_cons, List.length_nil, Nat.zero_add, Nat.reduceAdd, List.toList_toArray]; rfl) (by repeat (first | exact Upd.head _ | apply Upd.tail | apply Upd.app)) ?_
            refine W_nil ?_
            refine WC_goal ?_
            refine WC_take 14 (l' := #[true, true, true, true, true, true, true, true, true, true, true, true, true, true, true]) rfl (by decide +kernel) (by decide +kernel) (by decide +kernel) rfl (by decide +kernel) (X_assign rfl) rfl ?_
            refine WC_done (by repeat (first | exact HSub.refl _ | refine HSub.cons (by repeat (first | exact Take.here _ | apply Take.next | apply Take.app)) ?_ | refine HSub.app (by repeat (first | exact TakeS.here _ | apply TakeS.next | apply TakeS.app)) ?_ | refine HSub.drop ?_ | refine HSub.dropS ?_ | exact HSub.nil _)) (by decide +kernel) ?_
            refine W_joinX (b6, r, HR) ⟨hrs, hro⟩ (sub_cons rfl (sub_cons rfl (sub_cons rfl (sub_cons rfl (sub_cons rfl (sub_cons rfl (sub_nil _))))))) (by repeat (first | exact HSub.refl _ | refine HSub.cons (by repeat (first | exact Take.here _ | apply Take.next | apply Take.app)) ?_ | refine HSub.app (by repeat (first | exact TakeS.here _ | apply TakeS.next | apply TakeS.app)) ?_ | refine HSub.drop ?_ | refine HSub.dropS ?_ | exact HSub.nil _))
          · skip
            refine W_alloc ty29 rfl rfl (fun b6 => ?_)
            refine W_nil ?_
            refine WC_goal ?_
            refine WC_one 8 (l' := #[true, true, true, true, true, true, true, true, true, false, false, false, true, false, false]) (by repeat (first | exact HSub.refl _ | refine HSub.cons (by repeat (first | exact Take.here _ | apply Take.next | apply Take.app)) ?_ | refine HSub.app (by repeat (first | exact TakeS.here _ | apply TakeS.next | apply TakeS.app)) ?_ | refine HSub.drop ?_ | refine HSub.dropS ?_ | exact HSub.nil _)) (by decide +kernel) rfl (by decide +kernel) ?_
            refine W_call (.cons rfl (.cons rfl .nil)) Try.call38 rfl (one_L' (l := ((b.drop a).drop 3).take nn) (by simp; omega) (by unfold I64; have := hb.getD a; omega) (by simp; omega) (by simp; omega) (((hb.drop _).drop _).take _) (by rw [bytesV_take, bytesV_drop, bytesV_drop]; exact ((Holds.drop (Holds.drop hrowb (by rw [bytesV_len]; omega) ho1) (by rw [List.length_drop, bytesV_len]; omega) ho3).take _).up (by repeat (first | exact HSub.refl _ | refine HSub.cons (by repeat (first | exact Take.here _ | apply Take.next | apply Take.app)) ?_ | refine HSub.app (by repeat (first | exact TakeS.here _ | apply TakeS.next | apply TakeS.app)) ?_ | refine HSub.drop ?_ | refine HSub.dropS ?_ | exact HSub.nil _)))) ?_
            rintro v H' ⟨HR, r, hrs, hro, rfl, rfl⟩
            refine W_nil ?_
            refine WC_goal ?_
            refine WC_take 9 (l' := #[true, true, true, true, true, true, true, true, true, true, false, false, true, false, false]) rfl (by decide +kernel) (by decide +kernel) (by decide +kernel) rfl (by decide +kernel) (X_move rfl) rfl ?_
            refine WC_take 10 (l' := #[true, true, true, true, true, true, true, true, true, true, true, false, true, false, false]) rfl (by decide +kernel) (by decide +kernel) (by decide +kernel) rfl (by decide +kernel) (X_extract rfl rfl) rfl ?_
            refine WC_take 11 (l' := #[true, true, true, true, true, true, true, true, true, true, true, true, true, false, false]) rfl (by decide +kernel) (by decide +kernel) (by decide +kernel) rfl (by decide +kernel) (X_extract rfl rfl) rfl ?_
            refine WC_one 13 (l' := #[true, true, true, true, true, true, true, true, true, true, true, true, true, true, false]) (by repeat (first | exact HSub.refl _ | refine HSub.cons (by repeat (first | exact Take.here _ | apply Take.next | apply Take.app)) ?_ | refine HSub.app (by repeat (first | exact TakeS.here _ | apply TakeS.next | apply TakeS.app)) ?_ | refine HSub.drop ?_ | refine HSub.dropS ?_ | exact HSub.nil _)) (by decide +kernel) rfl (by decide +kernel) ?_
            refine W_storeA rfl rfl ty29 rfl rfl (by repeat (first | exact List.mem_cons_self | apply List.mem_cons_of_mem | apply List.mem_append_right)) (Nat.le_of_ble_eq_true rfl) (by simp only [fillL, spliceL, Value.cells, List.take_zero, List.take_succ_cons, List.take_nil, List.drop_zero, List.drop_succ_cons, List.drop_nil, List.nil_append, List.cons_append, List.append_nil, List.length_cons, List.length_nil, Nat.zero_add, Nat.reduceAdd, List.toList_toArray]; rfl) (by repeat (first | exact Upd.head _ | apply Upd.tail | apply Upd.app)) ?_
            refine W_nil ?_
            refine WC_goal ?_
            refine WC_take 14 (l' := #[true, true, true, true, true, true, true, true, true, true, true, true, true, true, true]) rfl (by decide +kernel) (by decide +kernel) (by decide +kernel) rfl (by decide +kernel) (X_assign rfl) rfl ?_
            refine WC_done (by repeat (first | exact HSub.refl _ | refine HSub.cons (by repeat (first | exact Take.here _ | apply Take.next | apply Take.app)) ?_ | refine HSub.app (by repeat (first | exact TakeS.here _ | apply TakeS.next | apply TakeS.app)) ?_ | refine HSub.drop ?_ | refine HSub.dropS ?_ | exact HSub.nil _)) (by decide +kernel) ?_
            refine W_joinX (b6, r, HR) ⟨hrs, hro⟩ (sub_cons rfl (sub_cons rfl (sub_cons rfl (sub_cons rfl (sub_cons rfl (sub_cons rfl (sub_nil _))))))) (by repeat (first | exact HSub.refl _ | refine HSub.cons (by repeat (first | exact Take.here _ | apply Take.next | apply Take.app)) ?_ | refine HSub.app (by repeat (first | exact TakeS.here _ | apply TakeS.next | apply TakeS.app)) ?_ | refine HSub.drop ?_ | refine HSub.dropS ?_ | exact HSub.nil _))
        rintro ⟨b6, r, HR⟩ ⟨hrs, hro⟩
        dsimp only at hrs hro ⊢
        refine W_seq ?_
        refine W_sr ?_
        refine W_move rfl rfl ?_
        refine W_move rfl rfl ?_
        refine W_loadB rfl ty29 rfl (by repeat (first | exact List.mem_cons_self | apply List.mem_cons_of_mem | apply List.mem_append_right)) rfl (vs := r.cells) rfl rfl ?_
        refine W_move rfl rfl ?_
        rw [from_step (by omega) hnn, if_neg (by omega)] at hfr
        obtain ⟨hex, hrest⟩ := head_at hfr
        refine W_build (l := Er.cells ⟨a, r, (one (b.getD a 0) (((b.drop a).drop 3).take nn)).2⟩) ty32 pl32 (.cons rfl rfl rfl rfl rfl (.cons rfl rfl rfl rfl rfl (.cons rfl rfl rfl rfl rfl .nil))) rfl rfl rfl ?_
        refine W_yield rfl (.cons rfl .nil) rfl ((hround i ⟨a, (one (b.getD a 0) (((b.drop a).drop 3).take nn)).1, (one (b.getD a 0) (((b.drop a).drop 3).take nn)).2⟩ Hi HR ⟨a, r, (one (b.getD a 0) (((b.drop a).drop 3).take nn)).2⟩ hex (by show (⟨a, r.st, _⟩ : En) = _; rw [hrs]) hro hJ).hsub (by repeat (first | exact HSub.refl _ | refine HSub.cons (by repeat (first | exact Take.here _ | apply Take.next | apply Take.app)) ?_ | refine HSub.app (by repeat (first | exact TakeS.here _ | apply TakeS.next | apply TakeS.app)) ?_ | refine HSub.drop ?_ | refine HSub.dropS ?_ | exact HSub.nil _))) ?_
        rintro v H' ⟨H1, hs, ⟨rfl, hJ1⟩ | ⟨rfl, hS⟩⟩
        · refine W_hsub hs ?_
          refine W_not rfl rfl ?_
          refine W_nil ?_
          refine W_condF rfl rfl ?_
          refine W_skip ?_
          refine W_region ?_
          refine W_move rfl rfl ?_
          refine W_move rfl rfl ?_
          refine W_bin rfl rfl (b_add (m := ((3 + nn : Nat) : Int)) ((i64w (by omega)).trans (by omega))) rfl ?_
          refine W_bin rfl rfl (b_add (m := ((a + (3 + nn) : Nat) : Int)) ((i64w (by omega)).trans (by omega))) rfl ?_
          refine W_assign rfl rfl ?_
          refine W_nil ?_
          refine W_blk ?_
          refine W_again (a + (3 + nn), i + 1, H1) ⟨by show i + 1 ≤ _; have := (List.getElem?_eq_some_iff.1 hex).1; omega, hrest, hJ1, by show a + (3 + nn) ≤ 10000000; omega⟩ (by have := (List.getElem?_eq_some_iff.1 hex).1; show (parse b).length - (i + 1) < (parse b).length - i; omega) (sub_cons rfl (sub_cons rfl (sub_cons rfl (sub_nil _)))) rfl (by repeat (first | exact HSub.refl _ | refine HSub.cons (by repeat (first | exact Take.here _ | apply Take.next | apply Take.app)) ?_ | refine HSub.app (by repeat (first | exact TakeS.here _ | apply TakeS.next | apply TakeS.app)) ?_ | refine HSub.drop ?_ | refine HSub.dropS ?_ | exact HSub.nil _))
        · refine W_hsub hs ?_
          refine W_not rfl rfl ?_
          refine W_nil ?_
          refine W_condT rfl rfl ?_
          refine W_exit rfl ?_
          refine W_end0m Try.results36 (.nil _) (.refl _) ?_
          exact ⟨H1, .refl _, .inr hS⟩
  · skip
    refine W_exit rfl ?_
    refine W_end0m Try.results36 (.nil _) (.refl _) ?_
    rw [from_end (by omega)] at hfr
    rw [← nil_at hfr hi]
    exact ⟨Hi, .refl _, .inl hJ⟩
end Go.Proofs.Ytkhkagjbeilbgaa
