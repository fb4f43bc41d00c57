/-
  Own work: contracts of functions that the statement reaches, and plain facts on what they compute; each theorem says its conditions.
-/
import Derived.Test.YtkhkagjbeilbgaaS8
import Derived.Test.YtkhkagjbeilbgaaSlAny
set_option linter.all false
set_option linter.unusedSimpArgs false
set_option linter.unusedVariables false
namespace Go.Proofs.Ytkhkagjbeilbgaa
open Go Go.Sl
attribute [local irreducible] W
open Go.Script

/-- a step in memory: where its bytes lie -/
structure Sr where
  st : St
  ad : Option Addr
  cap : Nat
def Sr.rv (r : Sr) : Value := .slice r.ad r.st.raw.length r.cap
def Sr.cells (r : Sr) : List Value := stV r.st r.rv
structure SrOk (w0 : World) (H : Heap) (r : Sr) : Prop where
  st : StOk r.st
  holds : Holds w0 H r.ad (bytesV r.st.raw)
theorem SrOk.up {w0 : World} {H H' : Heap} {r : Sr} (h : SrOk w0 H r) (hs : Sl.HSub H' H) : SrOk w0 H' r := ⟨h.st, h.holds.up hs⟩
abbrev srRow (l : List Sr) : List Value := l.flatMap Sr.cells
theorem sr_len (r : Sr) : r.cells.length = 7 := rfl
theorem srRow_append (l : List Sr) (x : Sr) : srRow (l ++ [x]) = srRow l ++ x.cells := by simp [srRow]
theorem takeAt {α : Type} {l : List α} {i : Nat} {x : α} (h : l[i]? = some x) : l.take (i + 1) = l.take i ++ [x] := by
  rw [List.take_add_one, h]; rfl
theorem len_chk {s : St} (h : chk s = 0) : isK s.kind = true ∧ s.raw.length ≤ 512 ∧ sumL (shW s.kind) ≤ 20 ∧ rawOk s.kind s.raw.length = true := by
  have hk : isK s.kind = true := by
    cases hh : isK s.kind with
    | true => rfl
    | false => unfold chk at h; rw [if_pos hh] at h; cases h
  have hr : rawOk s.kind s.raw.length = true := by
    cases hh : rawOk s.kind s.raw.length with
    | true => rfl
    | false =>
      unfold chk at h
      rw [if_neg (by simp [hk])] at h
      split at h
      · cases h
      · split at h
        · cases h
        · split at h
          · cases h
          · first | cases h | (rw [if_pos hh] at h; cases h)
  refine ⟨hk, ?_, ?_, hr⟩
  · unfold rawOk at hr
    split at hr
    · simp at hr; omega
    · split at hr
      · simp at hr; omega
      · simp at hr; simp [hr]
  · obtain ⟨n, hn⟩ := isK_nat hk
    rw [hn]
    have : ∀ n : Fin 18, sumL (shW (n.val : Int)) ≤ 20 := by decide +kernel
    exact this n
theorem partsL_len (p : List Int) (w : List Nat) (hw : w.length = 5) : (partsL p w).length = sumL w := by
  obtain ⟨a0, a1, a2, a3, a4, rfl⟩ := len5 hw
  simp [partsL, sumL, List.range, List.range.loop, lowL_len]; omega
theorem enc_len (s : St) : (enc s).length = 3 + (sumL (shW s.kind) + s.raw.length) := by
  unfold enc encB
  simp only [List.length_append, List.length_cons, lowL_len, partsL_len _ _ (shW_len _)]; try omega
def encs (l : List St) : List Int := l.flatMap enc
theorem encs_append (l : List St) (x : St) : encs (l ++ [x]) = encs l ++ enc x := by simp [encs]
theorem encs_len {l : List St} (h : ∀ s ∈ l, chk s = 0) : (encs l).length ≤ l.length * 535 := by
  induction l with
  | nil => simp [encs]
  | cons s l ih =>
    have h1 := ih (fun x hx => h x (List.mem_cons_of_mem _ hx))
    obtain ⟨_, h2, h3, _⟩ := len_chk (h s List.mem_cons_self)
    have h4 := enc_len s
    have : encs (s :: l) = enc s ++ encs l := rfl
    rw [this, List.length_append, List.length_cons, Nat.add_mul]; omega
set_option maxHeartbeats 1000000 in
theorem clone_L {w0 : World} {H : Heap} {l : List Int} {ad : Option Addr} {cap : Nat} (hl : l.length ≤ 100000) (hrow : Holds w0 H ad (bytesV l))  : LCalls Try.prog w0 40 #[.slice ad l.length cap] (H) (fun v H' => ∃ HB, OwnS 5 1 v l.length (bytesV l) HB ∧ H' = HB ++ H) := by
  refine L_enter (l := [.slice ad l.length cap]) Try.func40 rfl Try.ntmps40 rfl rfl ?_
  refine W_sr ?_
  refine W_assign rfl rfl ?_
  refine W_nil ?_
  refine W_seq ?_
  refine W_sr ?_
  refine W_move rfl rfl ?_
  refine W_x (X_sliceNil rfl rfl ty22) (fun _ h => by cases h) rfl ?_
  refine W_nil ?_
  refine W_condPS (p := ad = none) rfl (by cases ad <;> simp) (fun c0 => ?_) (fun c0 => ?_)
  · skip
    refine W_sr ?_
    refine W_assign rfl rfl ?_
    refine W_nil ?_
    refine W_ret1m (H2 := H) Try.results40 rfl (.nil _) (by repeat (first | with_reducible exact HSub.refl _ | refine HSub.cons (by repeat (first | exact Take.here _ | apply Take.next | apply Take.app)) ?_ | refine HSub.app (by repeat (first | with_reducible exact TakeS.here _ | apply TakeS.next | apply TakeS.app)) ?_ | exact HSub.nil _ | exact HSub.refl _ | refine HSub.drop ?_ | refine HSub.dropS ?_)) ?_
    subst c0
    have hl0 : l = [] := by
      cases l with
      | nil => rfl
      | cons x l => obtain ⟨b, o, e, _⟩ := hrow 0 (.int .u8 x) rfl; cases e
    subst hl0
    exact ⟨[], .nil, rfl⟩
  · skip
    refine W_skip ?_
    refine W_sr ?_
    refine W_buildSlice (l := []) ty22 ty5 .nil rfl rfl rfl rfl rfl rfl rfl (fun b5 => ?_)
    refine W_move rfl rfl ?_
    refine W_append (news := bytesV l) (m := l.length) (HB := [(b5, .cells 5 0 [])]) (H0 := H) rfl rfl ty22 ty5 rfl (by decide) (OwnS.own (n := 0) (cap := 0) rfl (Nat.le_refl _) (Nat.zero_le _)) (by rw [bytesV_len, Nat.mul_one]) (hrow.up (by repeat (first | with_reducible exact HSub.refl _ | refine HSub.cons (by repeat (first | exact Take.here _ | apply Take.next | apply Take.app)) ?_ | refine HSub.app (by repeat (first | with_reducible exact TakeS.here _ | apply TakeS.next | apply TakeS.app)) ?_ | exact HSub.nil _ | exact HSub.refl _ | refine HSub.drop ?_ | refine HSub.dropS ?_))) (bytesV_one l) (by simp only [maxLen]; omega) (by omega) (by repeat (first | with_reducible exact HSub.refl _ | refine HSub.cons (by repeat (first | exact Take.here _ | apply Take.next | apply Take.app)) ?_ | refine HSub.app (by repeat (first | with_reducible exact TakeS.here _ | apply TakeS.next | apply TakeS.app)) ?_ | exact HSub.nil _ | exact HSub.refl _ | refine HSub.drop ?_ | refine HSub.dropS ?_)) rfl (fun v' HB' hO' => ?_)
    refine W_assign rfl rfl ?_
    refine W_nil ?_
    refine W_ret1m (H2 := HB' ++ H) Try.results40 rfl (.nil _) (by repeat (first | with_reducible exact HSub.refl _ | refine HSub.cons (by repeat (first | exact Take.here _ | apply Take.next | apply Take.app)) ?_ | refine HSub.app (by repeat (first | with_reducible exact TakeS.here _ | apply TakeS.next | apply TakeS.app)) ?_ | exact HSub.nil _ | exact HSub.refl _ | refine HSub.drop ?_ | refine HSub.dropS ?_)) ?_
    exact ⟨HB', by simpa using hO', rfl⟩
set_option maxHeartbeats 1000000 in
theorem equal_q {w0 : World} {H : Heap} {l m : List Int} {ad ad2 : Option Addr} {cap cap2 : Nat} (hl : Go.Script.Bytes l) (hm : Go.Script.Bytes m) (hrow : Holds w0 H ad (bytesV l)) (hrow2 : Holds w0 H ad2 (bytesV m))  : PureAt Try.prog w0 H 33 [.slice ad l.length cap, .slice ad2 m.length cap2] (.bool (decide (l = m))) := by
  refine L_enter Try.func33 rfl Try.ntmps33 rfl rfl ?_
  refine W_sr ?_
  refine W_assign rfl rfl ?_
  refine W_nil ?_
  refine W_sr ?_
  refine W_move rfl rfl ?_
  refine W_x (X_convBS rfl ty22 ty5 ty9 (hrow.up (by repeat (first | with_reducible exact HSub.refl _ | refine HSub.cons (by repeat (first | exact Take.here _ | apply Take.next | apply Take.app)) ?_ | refine HSub.app (by repeat (first | with_reducible exact TakeS.here _ | apply TakeS.next | apply TakeS.app)) ?_ | exact HSub.nil _ | exact HSub.refl _ | refine HSub.drop ?_ | refine HSub.dropS ?_))) hl) (fun _ h => by cases h) rfl ?_
  refine W_move rfl rfl ?_
  refine W_x (X_convBS rfl ty22 ty5 ty9 (hrow2.up (by repeat (first | with_reducible exact HSub.refl _ | refine HSub.cons (by repeat (first | exact Take.here _ | apply Take.next | apply Take.app)) ?_ | refine HSub.app (by repeat (first | with_reducible exact TakeS.here _ | apply TakeS.next | apply TakeS.app)) ?_ | exact HSub.nil _ | exact HSub.refl _ | refine HSub.drop ?_ | refine HSub.dropS ?_))) hm) (fun _ h => by cases h) rfl ?_
  refine W_seq_s rfl rfl rfl ?_
  rw [b8_eq hl hm]
  refine W_assign rfl rfl ?_
  refine W_nil ?_
  refine W_ret1m (H2 := H) Try.results33 rfl (.nil _) (by repeat (first | with_reducible exact HSub.refl _ | refine HSub.cons (by repeat (first | exact Take.here _ | apply Take.next | apply Take.app)) ?_ | refine HSub.app (by repeat (first | with_reducible exact TakeS.here _ | apply TakeS.next | apply TakeS.app)) ?_ | exact HSub.nil _ | exact HSub.refl _ | refine HSub.drop ?_ | refine HSub.dropS ?_)) ?_
  exact ⟨rfl, rfl⟩
end Go.Proofs.Ytkhkagjbeilbgaa
