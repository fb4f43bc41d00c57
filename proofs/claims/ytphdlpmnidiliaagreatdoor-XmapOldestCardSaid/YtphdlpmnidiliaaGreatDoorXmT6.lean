/-
  Own work: contracts of functions that the statement reaches, and plain facts on what they compute; each theorem says its conditions.
-/
import Derived.Test.YtphdlpmnidiliaaGreatDoorXmT5
import Derived.Test.YtphdlpmnidiliaaGreatDoorXmS1
import Derived.Test.YtphdlpmnidiliaaGreatDoorXmS2
import Derived.Lib.LaidTab
import Derived.Lib.LaidIn
import Derived.Stop.LaidErr
import Derived.Test.YtphdlpmnidiliaaGreatDoorCards
import Derived.Test.YtphdlpmnidiliaaGreatDoorTie
import Derived.Test.YtphdlpmnidiliaaGreatDoorXmA
set_option linter.all false
set_option linter.unusedSimpArgs false
set_option linter.unusedVariables false
namespace Go.Proofs.YtphdlpmnidiliaaGreatDoor
open Go Go.Sl
attribute [local irreducible] W
theorem Xm.Ok.del {x : Xm} (h : x.Ok) (k : Int) : (x.del k).1.Ok := by
  unfold Xm.del
  split
  · exact h
  · split
    · exact h.unlink k
    · exact h
theorem Xm.Ok.store {x : Xm} (h : x.Ok) (g : Hd) (at_ v : Int) : (x.store g at_ v).1.Ok := by
  unfold Xm.store
  split
  · exact h
  · split
    · exact h
    · exact h.cel g (fun c => ⟨c.key, c.w.put at_.toNat v⟩) (fun c _ _ => rfl)
theorem Xm.put_len {x : Xm} (h : x.Ok) {o : Int} (ho : o ∈ x.used) : (x.unlink o).1.C.length + 1 = x.C.length := delC_len h.nd (h.umem.1 ho)
theorem Xm.Ok.oldest {x : Xm} (h : x.Ok) (hc : x.C.length = x.entries) : x.used.headD 0 ∈ x.used := by
  have h1 := h.ulen
  have h2 := h.ent
  cases hu : x.used with
  | nil => rw [hu] at h1; simp at h1; omega
  | cons a l => exact List.mem_cons_self
theorem Xm.Ok.put {x : Xm} (h : x.Ok) (how : Int) {k : Int} (ws : List Int) (hk : 0 ≤ k ∧ k < 18446744073709551616) : (x.put how k ws).1.Ok := by
  unfold Xm.put
  split
  · exact h
  · split
    · exact h
    · split
      · rename_i g hf
        split
        · exact h
        · obtain ⟨i, s, h1, h2, h3, h4, h5⟩ := h.own hf
          have := (h.use (h.umem.2 (keyL_mem hf))).cel g (fun _ => ⟨k, W4.of ws⟩) (fun c _ hc => by
            subst hc
            show k = (celA x.L g).key
            obtain ⟨i', s', a1, a2, a3, a4, a5, a6⟩ := errA_ok (h.err0 hf)
            obtain rfl : i = i' := by omega
            obtain rfl : s = s' := Option.some.inj (h2.symm.trans a2)
            rw [a5, h5])
          exact this
      · rename_i hf
        have hno := fndC_none.1 hf
        split
        · exact h
        · rename_i hr
          obtain ⟨i, s, hfi, hs⟩ := Xm.free_slot (Classical.not_not.1 hr)
          split
          · rename_i hfull
            have ho := h.oldest hfull
            refine (h.unlink _).link (i := i) (s := s) hfi hs ?_ ?_ hk
            · show k ∉ keyL (delC x.C _)
              rw [keyL_del]
              exact fun hm => hno (List.mem_filter.1 hm).1
            · have := Xm.put_len h ho
              show (x.unlink (x.used.headD 0)).1.C.length < x.entries
              omega
          · exact h.link hfi hs hno (by have := h.le; omega) hk
theorem Xm.Ok.unlinks {x : Xm} (h : x.Ok) : ∀ (ks : List Int), (Xm.mk x.kind x.entries x.words true x.L (unlinkL x.C x.used ks).1 (unlinkL x.C x.used ks).2.1).Ok
  | [] => h.shut true
  | k :: ks => Xm.Ok.unlinks (h.unlink k) ks
theorem Xm.Ok.close {x : Xm} (h : x.Ok) : x.close.1.Ok := by
  unfold Xm.close
  split
  · exact h
  · exact h.unlinks _
theorem new_ok {kind entries words : Nat} (h1 : kind ≤ 2) (h2 : 1 ≤ entries ∧ entries ≤ 8) (h3 : 1 ≤ words ∧ words ≤ 4) : (Xm.new kind entries words).Ok := by
  unfold Xm.new
  exact arr_ok h1 h2 h3 (by split <;> omega)
inductive XmH (mb T : Nat) (x : Xm) : Heap → Prop
  | mk {ab tb bo : Nat} {HA HT HO : Heap} (hA : AreH ab x.L HA) (hB : TabH tb x.entries x.C HT) (hO : OrdH bo x.entries T x.used HO) (hx : x.Ok) : XmH mb T x ((mb, .cells 78 7 [.int .i64 (x.kind : Int), .int .i64 (x.entries : Int), .int .i64 (x.words : Int), .pointer (some ⟨ab, 0, none⟩), .pointer (some ⟨tb, 0, none⟩), .pointer (some ⟨bo, 0, none⟩), .bool x.closed]) :: (HA ++ (HT ++ HO)))
theorem XmH.ok {mb T : Nat} {x : Xm} {HX : Heap} (h : XmH mb T x HX) : x.Ok := by cases h; assumption
theorem XmH.up {mb T T' : Nat} {x : Xm} {HX : Heap} (h : XmH mb T x HX) (hl : T ≤ T') : XmH mb T' x HX := by
  cases h with
  | mk hA hB hO hx => exact .mk hA hB (hO.up hl) hx
section
variable {w0 : World} {H HX : Heap} {mb T : Nat} {x : Xm}
theorem XmH.look (hX : XmH mb T x HX) (hm : ∀ p ∈ HX, p ∈ H) {k : Int} : PureAt Tryz.prog w0 H 13 [.pointer (some ⟨mb, 0, none⟩), .int .u64 k] (.tuple #[.agg (List.toArray (hdC ((fndC x.C k).getD zHd))), .int .i64 (if (fndC x.C k).isSome then 0 else 4)]) := by
  obtain ⟨kind, entries, words, closed, L, C, used⟩ := x
  cases hX with
  | @mk ab tb bo HA HT HO hA hB hO hx => exact Look_q hB hm
theorem XmH.find (hX : XmH mb T x HX) (hTl : T ≤ 1000000) {k : Int} : LCalls Tryz.prog w0 17 #[.pointer (some ⟨mb, 0, none⟩), .int .u64 k] (HX ++ H) (fun v H' => ∃ HX', XmH mb (T + 1) (x.find k).1 HX' ∧ v = .tuple #[.agg (List.toArray (hdC (x.find k).2.1)), .int .i64 (x.find k).2.2] ∧ H' = HX' ++ H) := by
  obtain ⟨kind, entries, words, closed, L, C, used⟩ := x
  cases hX with
  | @mk ab tb bo HA HT HO hA hB hO hx =>
    show LCalls _ _ _ _ ((mb, .cells 78 7 [.int .i64 (kind : Int), .int .i64 (entries : Int), .int .i64 (words : Int), .pointer (some ⟨ab, 0, none⟩), .pointer (some ⟨tb, 0, none⟩), .pointer (some ⟨bo, 0, none⟩), .bool closed]) :: ((HA ++ (HT ++ HO)) ++ H)) _
    rw [List.append_assoc, List.append_assoc]
    refine (Find_at (H := H) (HA := HA) (closed := closed) (kind := kind) (words := words) hB hO hTl (k := k) (fun h => hx.umem.2 h)).mono ?_
    rintro v H' ⟨HO2, hO2, rfl, rfl⟩
    cases hf : fndC C k with
    | none =>
      rw [hf] at hO2
      have e : Xm.find ⟨kind, entries, words, closed, L, C, used⟩ k = (⟨kind, entries, words, closed, L, C, used⟩, zHd, 4) := by unfold Xm.find; dsimp only; rw [hf]
      rw [e]
      exact ⟨_, .mk hA hB hO2 hx, rfl, by show _ = (mb, .cells 78 7 [.int .i64 (kind : Int), .int .i64 (entries : Int), .int .i64 (words : Int), .pointer (some ⟨ab, 0, none⟩), .pointer (some ⟨tb, 0, none⟩), .pointer (some ⟨bo, 0, none⟩), .bool closed]) :: ((HA ++ (HT ++ HO2)) ++ H); rw [List.append_assoc, List.append_assoc]⟩
    | some g =>
      rw [hf] at hO2
      have e : Xm.find ⟨kind, entries, words, closed, L, C, used⟩ k = (Xm.use ⟨kind, entries, words, closed, L, C, used⟩ k, g, 0) := by unfold Xm.find; dsimp only; rw [hf]
      rw [e]
      exact ⟨_, .mk hA hB hO2 (hx.use (hx.umem.2 (keyL_mem hf))), rfl, by show _ = (mb, .cells 78 7 [.int .i64 (kind : Int), .int .i64 (entries : Int), .int .i64 (words : Int), .pointer (some ⟨ab, 0, none⟩), .pointer (some ⟨tb, 0, none⟩), .pointer (some ⟨bo, 0, none⟩), .bool closed]) :: ((HA ++ (HT ++ HO2)) ++ H); rw [List.append_assoc, List.append_assoc]⟩
theorem put_kind (x : Xm) (how k : Int) (ws : List Int) : (x.put how k ws).1.kind = x.kind ∧ (x.put how k ws).1.entries = x.entries ∧ (x.put how k ws).1.words = x.words ∧ (x.put how k ws).1.closed = x.closed := by
  have hl : ∀ (y : Xm) c, (y.link c).1.kind = y.kind ∧ (y.link c).1.entries = y.entries ∧ (y.link c).1.words = y.words ∧ (y.link c).1.closed = y.closed := fun y c => by
    unfold Xm.link
    split
    · split <;> exact ⟨rfl, rfl, rfl, rfl⟩
    · exact ⟨rfl, rfl, rfl, rfl⟩
  unfold Xm.put
  split
  · exact ⟨rfl, rfl, rfl, rfl⟩
  · split
    · exact ⟨rfl, rfl, rfl, rfl⟩
    · split
      · split <;> exact ⟨rfl, rfl, rfl, rfl⟩
      · split
        · exact ⟨rfl, rfl, rfl, rfl⟩
        · split
          · exact hl _ _
          · exact hl _ _
theorem del_kind (x : Xm) (k : Int) : (x.del k).1.kind = x.kind ∧ (x.del k).1.entries = x.entries ∧ (x.del k).1.words = x.words ∧ (x.del k).1.closed = x.closed ∧ (x.del k).1.L = x.L := by
  unfold Xm.del
  split
  · exact ⟨rfl, rfl, rfl, rfl, rfl⟩
  · split <;> exact ⟨rfl, rfl, rfl, rfl, rfl⟩
theorem store_kind (x : Xm) (h : Hd) (a v : Int) : (x.store h a v).1.kind = x.kind ∧ (x.store h a v).1.entries = x.entries ∧ (x.store h a v).1.words = x.words ∧ (x.store h a v).1.closed = x.closed ∧ (x.store h a v).1.C = x.C ∧ (x.store h a v).1.used = x.used := by
  unfold Xm.store
  split
  · exact ⟨rfl, rfl, rfl, rfl, rfl, rfl⟩
  · split <;> exact ⟨rfl, rfl, rfl, rfl, rfl, rfl⟩
theorem free_kind (x : Xm) (h : Hd) : (x.free h).1.kind = x.kind ∧ (x.free h).1.entries = x.entries ∧ (x.free h).1.words = x.words ∧ (x.free h).1.closed = x.closed ∧ (x.free h).1.C = x.C ∧ (x.free h).1.used = x.used := by
  unfold Xm.free
  split
  · exact ⟨rfl, rfl, rfl, rfl, rfl, rfl⟩
  · split <;> exact ⟨rfl, rfl, rfl, rfl, rfl, rfl⟩
theorem close_kind (x : Xm) : x.close.1.kind = x.kind ∧ x.close.1.entries = x.entries ∧ x.close.1.words = x.words ∧ x.close.1.closed = true ∧ x.close.1.L = x.L := by
  unfold Xm.close
  split
  · rename_i h; exact ⟨rfl, rfl, rfl, h, rfl⟩
  · exact ⟨rfl, rfl, rfl, rfl, rfl⟩
theorem XmH.of {x y : Xm} (hk : y.kind = x.kind ∧ y.entries = x.entries ∧ y.words = x.words) {ab tb bo : Nat} {HA HT HO : Heap} (hA : AreH ab y.L HA) (hB : TabH tb x.entries y.C HT) (hO : OrdH bo x.entries T y.used HO) (hx : y.Ok) : XmH mb T y ((mb, .cells 78 7 [.int .i64 (x.kind : Int), .int .i64 (x.entries : Int), .int .i64 (x.words : Int), .pointer (some ⟨ab, 0, none⟩), .pointer (some ⟨tb, 0, none⟩), .pointer (some ⟨bo, 0, none⟩), .bool y.closed]) :: (HA ++ (HT ++ HO))) := by
  rw [← hk.1, ← hk.2.1, ← hk.2.2]
  exact .mk hA (by rw [hk.2.1]; exact hB) (by rw [hk.2.1]; exact hO) hx
theorem XmH.put (hX : XmH mb T x HX) (hTab : Tab w0) (hTl : T ≤ 1000000) {how k : Int} {ws : List Int} {ad : Option Addr} {cap : Nat} (hk : 0 ≤ k ∧ k < 18446744073709551616) (hrow : Holds w0 H ad (ws.map (Value.int .u64))) : LCalls Tryz.prog w0 11 #[.pointer (some ⟨mb, 0, none⟩), .int .i64 how, .int .u64 k, .slice ad ws.length cap] (HX ++ H) (fun v H' => ∃ HX', XmH mb (T + 2) (Xm.put x how k ws).1 HX' ∧ v = .tuple #[.agg (List.toArray (puttC (Xm.put x how k ws).2.1)), .int .i64 (Xm.put x how k ws).2.2] ∧ H' = HX' ++ H) := by
  obtain ⟨kind, entries, words, closed, L, C, used⟩ := x
  cases hX with
  | @mk ab tb bo HA HT HO hA hB hO hx =>
    show LCalls _ _ _ _ ((mb, .cells 78 7 [.int .i64 (kind : Int), .int .i64 (entries : Int), .int .i64 (words : Int), .pointer (some ⟨ab, 0, none⟩), .pointer (some ⟨tb, 0, none⟩), .pointer (some ⟨bo, 0, none⟩), .bool closed]) :: ((HA ++ (HT ++ HO)) ++ H)) _
    rw [List.append_assoc, List.append_assoc]
    refine (Put_at (H := H) hA hB hO hTl hx (how := how) (k := k) (cap := cap) hrow hTab).mono ?_
    rintro v H' ⟨HA2, HT2, HO2, hA2, hB2, hO2, rfl, rfl⟩
    have hk' := put_kind ⟨kind, entries, words, closed, L, C, used⟩ how k ws
    refine ⟨_, XmH.of (x := ⟨kind, entries, words, closed, L, C, used⟩) ⟨hk'.1, hk'.2.1, hk'.2.2.1⟩ hA2 hB2 hO2 (hx.put how ws hk), rfl, ?_⟩
    rw [show ((Xm.put ⟨kind, entries, words, closed, L, C, used⟩ how k ws)).1.closed = closed from hk'.2.2.2]
    show _ = (mb, .cells 78 7 [.int .i64 (kind : Int), .int .i64 (entries : Int), .int .i64 (words : Int), .pointer (some ⟨ab, 0, none⟩), .pointer (some ⟨tb, 0, none⟩), .pointer (some ⟨bo, 0, none⟩), .bool closed]) :: ((HA2 ++ (HT2 ++ HO2)) ++ H)
    rw [List.append_assoc, List.append_assoc]
theorem XmH.del (hX : XmH mb T x HX) {k : Int} : LCalls Tryz.prog w0 12 #[.pointer (some ⟨mb, 0, none⟩), .int .u64 k] (HX ++ H) (fun v H' => ∃ HX', XmH mb T (Xm.del x k).1 HX' ∧ v = .tuple #[.agg (List.toArray (hdC (Xm.del x k).2.1)), .int .i64 (Xm.del x k).2.2] ∧ H' = HX' ++ H) := by
  obtain ⟨kind, entries, words, closed, L, C, used⟩ := x
  cases hX with
  | @mk ab tb bo HA HT HO hA hB hO hx =>
    show LCalls _ _ _ _ ((mb, .cells 78 7 [.int .i64 (kind : Int), .int .i64 (entries : Int), .int .i64 (words : Int), .pointer (some ⟨ab, 0, none⟩), .pointer (some ⟨tb, 0, none⟩), .pointer (some ⟨bo, 0, none⟩), .bool closed]) :: ((HA ++ (HT ++ HO)) ++ H)) _
    rw [List.append_assoc, List.append_assoc]
    refine (Del_at (H := H) (HA := HA) (L := L) (closed := closed) (words := words) hB hO (k := k)).mono ?_
    rintro v H' ⟨HT2, HO2, hB2, hO2, rfl, rfl⟩
    have hk' := del_kind ⟨kind, entries, words, closed, L, C, used⟩ k
    refine ⟨_, XmH.of (x := ⟨kind, entries, words, closed, L, C, used⟩) ⟨hk'.1, hk'.2.1, hk'.2.2.1⟩ (by rw [hk'.2.2.2.2]; exact hA) hB2 hO2 (hx.del k), rfl, ?_⟩
    rw [show ((Xm.del ⟨kind, entries, words, closed, L, C, used⟩ k)).1.closed = closed from hk'.2.2.2.1]
    show _ = (mb, .cells 78 7 [.int .i64 (kind : Int), .int .i64 (entries : Int), .int .i64 (words : Int), .pointer (some ⟨ab, 0, none⟩), .pointer (some ⟨tb, 0, none⟩), .pointer (some ⟨bo, 0, none⟩), .bool closed]) :: ((HA ++ (HT2 ++ HO2)) ++ H)
    rw [List.append_assoc, List.append_assoc]
theorem XmH.store (hX : XmH mb T x HX) {h : Hd} {at_ vv : Int} : LCalls Tryz.prog w0 21 #[.pointer (some ⟨mb, 0, none⟩), .agg (List.toArray (hdC h)), .int .i64 at_, .int .u64 vv] (HX ++ H) (fun v H' => ∃ HX', XmH mb T (Xm.store x h at_ vv).1 HX' ∧ v = .int .i64 (Xm.store x h at_ vv).2 ∧ H' = HX' ++ H) := by
  obtain ⟨kind, entries, words, closed, L, C, used⟩ := x
  cases hX with
  | @mk ab tb bo HA HT HO hA hB hO hx =>
    show LCalls _ _ _ _ ((mb, .cells 78 7 [.int .i64 (kind : Int), .int .i64 (entries : Int), .int .i64 (words : Int), .pointer (some ⟨ab, 0, none⟩), .pointer (some ⟨tb, 0, none⟩), .pointer (some ⟨bo, 0, none⟩), .bool closed]) :: ((HA ++ (HT ++ HO)) ++ H)) _
    rw [List.append_assoc, List.append_assoc]
    refine (Store_at (H := H) (HO := HO) (closed := closed) (kind := kind) hA hB (h := h) (at_ := at_) (v := vv) used hx.wrd.2).mono ?_
    rintro v H' ⟨HA2, hA2, rfl, rfl⟩
    have hk' := store_kind ⟨kind, entries, words, closed, L, C, used⟩ h at_ vv
    refine ⟨_, XmH.of (x := ⟨kind, entries, words, closed, L, C, used⟩) ⟨hk'.1, hk'.2.1, hk'.2.2.1⟩ hA2 (by rw [hk'.2.2.2.2.1]; exact hB) (by rw [hk'.2.2.2.2.2]; exact hO) (hx.store h at_ vv), rfl, ?_⟩
    rw [show ((Xm.store ⟨kind, entries, words, closed, L, C, used⟩ h at_ vv)).1.closed = closed from hk'.2.2.2.1]
    show _ = (mb, .cells 78 7 [.int .i64 (kind : Int), .int .i64 (entries : Int), .int .i64 (words : Int), .pointer (some ⟨ab, 0, none⟩), .pointer (some ⟨tb, 0, none⟩), .pointer (some ⟨bo, 0, none⟩), .bool closed]) :: ((HA2 ++ (HT ++ HO)) ++ H)
    rw [List.append_assoc, List.append_assoc]
theorem XmH.free (hX : XmH mb T x HX) {h : Hd} : LCalls Tryz.prog w0 19 #[.pointer (some ⟨mb, 0, none⟩), .agg (List.toArray (hdC h))] (HX ++ H) (fun v H' => ∃ HX', XmH mb T (Xm.free x h).1 HX' ∧ v = .int .i64 (Xm.free x h).2 ∧ H' = HX' ++ H) := by
  obtain ⟨kind, entries, words, closed, L, C, used⟩ := x
  cases hX with
  | @mk ab tb bo HA HT HO hA hB hO hx =>
    show LCalls _ _ _ _ ((mb, .cells 78 7 [.int .i64 (kind : Int), .int .i64 (entries : Int), .int .i64 (words : Int), .pointer (some ⟨ab, 0, none⟩), .pointer (some ⟨tb, 0, none⟩), .pointer (some ⟨bo, 0, none⟩), .bool closed]) :: ((HA ++ (HT ++ HO)) ++ H)) _
    rw [List.append_assoc, List.append_assoc]
    refine (Free_at (H := H) (HO := HO) (closed := closed) (kind := kind) (words := words) hA hB (h := h) used).mono ?_
    rintro v H' ⟨HA2, hA2, rfl, rfl⟩
    have hk' := free_kind ⟨kind, entries, words, closed, L, C, used⟩ h
    refine ⟨_, XmH.of (x := ⟨kind, entries, words, closed, L, C, used⟩) ⟨hk'.1, hk'.2.1, hk'.2.2.1⟩ hA2 (by rw [hk'.2.2.2.2.1]; exact hB) (by rw [hk'.2.2.2.2.2]; exact hO) (hx.free h), rfl, ?_⟩
    rw [show ((Xm.free ⟨kind, entries, words, closed, L, C, used⟩ h)).1.closed = closed from hk'.2.2.2.1]
    show _ = (mb, .cells 78 7 [.int .i64 (kind : Int), .int .i64 (entries : Int), .int .i64 (words : Int), .pointer (some ⟨ab, 0, none⟩), .pointer (some ⟨tb, 0, none⟩), .pointer (some ⟨bo, 0, none⟩), .bool closed]) :: ((HA2 ++ (HT ++ HO)) ++ H)
    rw [List.append_assoc, List.append_assoc]
theorem XmH.key (hX : XmH mb T x HX) (hm : ∀ p ∈ HX, p ∈ H) {h : Hd} : PureAt Tryz.prog w0 H 18 [.pointer (some ⟨mb, 0, none⟩), .agg (List.toArray (hdC h))] (.tuple #[.int .u64 (x.key h).1, .int .i64 (x.key h).2]) := by
  obtain ⟨kind, entries, words, closed, L, C, used⟩ := x
  cases hX with
  | @mk ab tb bo HA HT HO hA hB hO hx => exact Key_q (h := h) hA hB hm
theorem XmH.load (hX : XmH mb T x HX) (hm : ∀ p ∈ HX, p ∈ H) {h : Hd} {at_ : Int} : PureAt Tryz.prog w0 H 14 [.pointer (some ⟨mb, 0, none⟩), .agg (List.toArray (hdC h)), .int .i64 at_] (.tuple #[.int .u64 (x.load h at_).1, .int .i64 (x.load h at_).2]) := by
  obtain ⟨kind, entries, words, closed, L, C, used⟩ := x
  cases hX with
  | @mk ab tb bo HA HT HO hA hB hO hx => exact Load_q hA hB used hx.wrd.2 hm
theorem XmH.linked (hX : XmH mb T x HX) (hm : ∀ p ∈ HX, p ∈ H) {h : Hd} : PureAt Tryz.prog w0 H 20 [.pointer (some ⟨mb, 0, none⟩), .agg (List.toArray (hdC h))] (.bool (x.linked h)) := by
  obtain ⟨kind, entries, words, closed, L, C, used⟩ := x
  cases hX with
  | @mk ab tb bo HA HT HO hA hB hO hx => exact Linked_q hA hB used hm
theorem XmH.len (hX : XmH mb T x HX) (hm : ∀ p ∈ HX, p ∈ H) : PureAt Tryz.prog w0 H 9 [.pointer (some ⟨mb, 0, none⟩)] (.int .i64 (x.C.length : Int)) := by
  obtain ⟨kind, entries, words, closed, L, C, used⟩ := x
  cases hX with
  | @mk ab tb bo HA HT HO hA hB hO hx => exact Len_qm hA hB hm
theorem XmH.held (hX : XmH mb T x HX) (hm : ∀ p ∈ HX, p ∈ H) : PureAt Tryz.prog w0 H 10 [.pointer (some ⟨mb, 0, none⟩)] (.int .i64 ((cntA 1 x.L : Nat) : Int)) := by
  obtain ⟨kind, entries, words, closed, L, C, used⟩ := x
  cases hX with
  | @mk ab tb bo HA HT HO hA hB hO hx => exact Held_qm hA hB hm
theorem XmH.keys (hX : XmH mb T x HX) : LCalls Tryz.prog w0 26 #[.pointer (some ⟨mb, 0, none⟩)] (HX ++ H) (fun v H' => ∃ X, OwnS 22 1 v (x.keys).length ((x.keys).map (Value.int .u64)) X ∧ H' = X ++ (HX ++ H)) := by
  obtain ⟨kind, entries, words, closed, L, C, used⟩ := x
  cases hX with
  | @mk ab tb bo HA HT HO hA hB hO hx =>
    show LCalls _ _ _ _ ((mb, .cells 78 7 [.int .i64 (kind : Int), .int .i64 (entries : Int), .int .i64 (words : Int), .pointer (some ⟨ab, 0, none⟩), .pointer (some ⟨tb, 0, none⟩), .pointer (some ⟨bo, 0, none⟩), .bool closed]) :: ((HA ++ (HT ++ HO)) ++ H)) _
    rw [List.append_assoc, List.append_assoc]
    refine (Keys_at (H := H) (closed := closed) hA hB hO hx).mono ?_
    rintro v H' ⟨X, hX, rfl⟩
    exact ⟨X, hX, by rw [List.cons_append, List.append_assoc, List.append_assoc]⟩
theorem XmH.close (hX : XmH mb T x HX) : LCalls Tryz.prog w0 15 #[.pointer (some ⟨mb, 0, none⟩)] (HX ++ H) (fun v H' => ∃ HX' OX, XmH mb T x.close.1 HX' ∧ OwnS 29 2 v (x.close.2).length ((x.close.2).flatMap hdC) OX ∧ H' = OX ++ (HX' ++ H)) := by
  obtain ⟨kind, entries, words, closed, L, C, used⟩ := x
  have hX0 := hX
  cases hX with
  | @mk ab tb bo HA HT HO hA hB hO hx =>
    cases closed with
    | true =>
      refine (Close_done (ab := ab) (tb := tb) (bo := bo) (HA := HA) (HT := HT) (HO := HO) (kind := kind) (entries := entries) (words := words) (fun p hp => List.mem_append_left _ hp)).mono ?_
      rintro v H' ⟨rfl, rfl⟩
      exact ⟨_, [], hX0, .nil, rfl⟩
    | false =>
      show LCalls _ _ _ _ ((mb, .cells 78 7 [.int .i64 (kind : Int), .int .i64 (entries : Int), .int .i64 (words : Int), .pointer (some ⟨ab, 0, none⟩), .pointer (some ⟨tb, 0, none⟩), .pointer (some ⟨bo, 0, none⟩), .bool false]) :: ((HA ++ (HT ++ HO)) ++ H)) _
      rw [List.append_assoc, List.append_assoc]
      refine (Close_go (H := H) hA hB hO (words := words) hx).mono ?_
      rintro v H' ⟨HT2, HO2, OX, hB2, hO2, hv, rfl⟩
      have hk' := close_kind ⟨kind, entries, words, false, L, C, used⟩
      refine ⟨_, OX, XmH.of (x := ⟨kind, entries, words, false, L, C, used⟩) ⟨hk'.1, hk'.2.1, hk'.2.2.1⟩ (by rw [hk'.2.2.2.2]; exact hA) hB2 hO2 hx.close, hv, ?_⟩
      rw [hk'.2.2.2.1, List.cons_append, List.append_assoc, List.append_assoc]
end
theorem XmH.new {w0 : World} {H : Heap} (hTab : Tab w0) {kind entries words : Nat} (h1 : kind ≤ 2) (h2 : 1 ≤ entries ∧ entries ≤ 8) (h3 : 1 ≤ words ∧ words ≤ 4) : LCalls Tryz.prog w0 8 #[.int .i64 (kind : Int), .int .i64 (entries : Int), .int .i64 (words : Int)] (H) (fun v H' => ∃ mb HX, XmH mb 8 (Xm.new kind entries words) HX ∧ v = .tuple #[.pointer (some ⟨mb, 0, none⟩), .int .i64 0] ∧ H' = HX ++ H) := by
  refine (New_go (H := H) h1 h2 h3 hTab).mono ?_
  rintro v H' ⟨mb, ab, tb, bo, HA, HT, HO, hA, hB, hO, rfl, rfl⟩
  refine ⟨mb, _, .mk (x := Xm.new kind entries words) hA hB hO (new_ok h1 h2 h3), rfl, ?_⟩
  show _ = (mb, .cells 78 7 [.int .i64 (kind : Int), .int .i64 (entries : Int), .int .i64 (words : Int), .pointer (some ⟨ab, 0, none⟩), .pointer (some ⟨tb, 0, none⟩), .pointer (some ⟨bo, 0, none⟩), .bool false]) :: ((HA ++ (HT ++ HO)) ++ H)
  rw [List.append_assoc, List.append_assoc]
end Go.Proofs.YtphdlpmnidiliaaGreatDoor
namespace Go.Proofs.YtphdlpmnidiliaaGreatDoor
open Go Go.Sl
attribute [local irreducible] W
set_option maxHeartbeats 1000000 in
theorem sameU_q {w0 : World} {H : Heap} {l r : List Int} {a1 a2 : Option Addr} {c1 c2 : Nat} (hl : Holds w0 H a1 (l.map (Value.int .u64))) (hr : Holds w0 H a2 (r.map (Value.int .u64))) (hn : l.length ≤ 4611686018427387904)  : PureAt Tryz.prog w0 H 25 [.slice a1 l.length c1, .slice a2 r.length c2] (.bool (decide (l = r))) := by
  refine L_enter Tryz.func25 rfl Tryz.ntmps25 rfl rfl ?_
  refine W_sr ?_
  refine W_assign rfl rfl ?_
  refine W_nil ?_
  refine W_seq ?_
  refine W_sr ?_
  refine W_move rfl rfl ?_
  refine W_len rfl ty42 rfl rfl ?_
  refine W_move rfl rfl ?_
  refine W_len rfl ty42 rfl rfl ?_
  refine W_bin rfl rfl b_neq rfl ?_
  refine W_nil ?_
  refine W_condPS (p := (l.length : Int) ≠ (r.length : Int)) rfl (by simp) (fun q0 => ?_) (fun q0 => ?_)
  · skip
    refine W_sr ?_
    refine W_assign rfl rfl ?_
    refine W_nil ?_
    refine W_ret1m (H2 := H) Tryz.results25 rfl (.nil _) zH ?_
    exact ⟨by rw [decide_eq_false (fun e => q0 (by rw [e]))], rfl⟩
  · skip
    refine W_skip ?_
    refine W_seq ?_
    refine W_sr ?_
    refine W_assign rfl rfl ?_
    refine W_nil ?_
    refine W_block ?_
    have hlen : l.length = r.length := by omega
    refine W_loopC (X := Nat) [(0, _), (1, _)] (fun (i : Nat) => [(5, .int .i64 (i : Int))]) (fun _ => _) (fun (i : Nat) => H) (fun (i : Nat) => i ≤ l.length ∧ l.take i = r.take i) (fun (i : Nat) => l.length - i) 0 ⟨Nat.zero_le _, rfl⟩ (sub_cons rfl (sub_cons rfl (sub_nil _))) (sub_cons rfl (sub_nil _)) rfl zH ?_
    rintro i ⟨hi, heq⟩
    simp only [List.cons_append, List.nil_append]
    refine W_seq ?_
    refine W_sr ?_
    refine W_move rfl rfl ?_
    refine W_move rfl rfl ?_
    refine W_len rfl ty42 rfl rfl ?_
    refine W_bin rfl rfl b_lss rfl ?_
    refine W_nil ?_
    refine W_condPS (p := (i : Int) < (l.length : Int)) rfl (by simp) (fun q1 => ?_) (fun q1 => ?_)
    · skip
      refine W_skip ?_
      refine W_seq ?_
      refine W_block ?_
      refine W_quietsr (by kernel_rfl) (by decide +kernel) ?_
      obtain ⟨x, hx⟩ : ∃ x, l[i]? = some x := ⟨_, List.getElem?_eq_getElem (by omega)⟩
      obtain ⟨q0, p0, rfl, hc⟩ := hl.at (i := i) (v := .int .u64 x) (by rw [List.getElem?_map, hx]; rfl)
      obtain ⟨y, hy⟩ : ∃ y, r[i]? = some y := ⟨_, List.getElem?_eq_getElem (by omega)⟩
      obtain ⟨q1, p1, rfl, hc'⟩ := hr.at (i := i) (v := .int .u64 y) (by rw [List.getElem?_map, hy]; rfl)
      refine WQ_x (X_move rfl) rfl ?_
      refine WQ_x (X_move rfl) rfl ?_
      refine WQ_x (X_indexAddr (j := i) rfl rfl ty42 ty22 rfl (by omega) rfl) rfl ?_
      refine WQ_x (X_load (v := .int .u64 x) rfl ty22 rfl (by rw [Nat.mul_one]; exact hc.up zH)) rfl ?_
      refine WQ_x (X_move rfl) rfl ?_
      refine WQ_x (X_move rfl) rfl ?_
      refine WQ_x (X_indexAddr (j := i) rfl rfl ty42 ty22 rfl (by omega) rfl) rfl ?_
      refine WQ_x (X_load (v := .int .u64 y) rfl ty22 rfl (by rw [Nat.mul_one]; exact hc'.up zH)) rfl ?_
      refine WQ_x (X_bin rfl rfl b_neq) rfl ?_
      refine WQ_nil ?_
      refine W_condPS (p := ¬ x = y) rfl (by simp) (fun q2 => ?_) (fun q2 => ?_)
      · skip
        refine W_sr ?_
        refine W_assign rfl rfl ?_
        refine W_nil ?_
        refine W_ret1m (H2 := H) Tryz.results25 rfl (.nil _) zH ?_
        exact ⟨by rw [decide_eq_false (fun e => q2 (by rw [e, hy] at hx; exact (Option.some.inj hx).symm))], rfl⟩
      · skip
        refine W_skip ?_
        refine W_blk ?_
        refine W_region ?_
        refine W_move rfl rfl ?_
        refine W_bin rfl rfl (b_add (m := ((i + 1 : Nat) : Int)) ((i64w (by omega)).trans (by omega))) rfl ?_
        refine W_assign rfl rfl ?_
        refine W_nil ?_
        refine W_again (i + 1) ⟨by omega, by rw [takeAt' hx, takeAt' hy, heq, Classical.not_not.1 q2]⟩ (by omega) (sub_cons rfl (sub_cons rfl (sub_cons rfl (sub_nil _)))) rfl zH
    · skip
      refine W_exit rfl ?_
      refine W_sr ?_
      refine W_assign rfl rfl ?_
      refine W_nil ?_
      refine W_ret1m (H2 := H) Tryz.results25 rfl (.nil _) zH ?_
      obtain rfl : i = l.length := by omega
      exact ⟨by rw [decide_eq_true (by rwa [List.take_length, hlen, List.take_length] at heq)], rfl⟩
def kA0 : Xm := Xm.new 2 2 1
def kA1 : Xm := (kA0.put 0 5 [50]).1
def kA2 : Xm := (kA1.put 0 6 [60]).1
def kA3 : Xm := (kA2.find 5).1
def kA4 : Xm := (kA3.put 0 7 [70]).1
def kB0 : Xm := Xm.new 1 1 1
def kB1 : Xm := (kB0.put 0 5 [50]).1
def kB2 : Xm := (kB1.put 0 6 []).1
def kB3 : Xm := (kB2.del 5).1
def kB4 : Xm := (kB3.put 0 6 []).1
def kB5 : Xm := (kB4.del 6).1
theorem kA_p : (kA1.put 0 6 [60]).2 = (⟨⟨1, 1⟩, zHd, false⟩, 0) := by decide
theorem kA_q : (kA3.put 0 7 [70]).2 = (⟨⟨2, 1⟩, ⟨1, 1⟩, true⟩, 0) := by decide
theorem kA_u : kA4.kind = 2 ∧ kA4.used = [5, 7] := by decide
theorem kA_h : cntA 1 kA4.L = 3 := by decide
theorem kB_a : (kB1.put 0 6 []).2 = (zPutt, 3) := by decide
theorem kB_b : (kB3.put 0 6 []).2.2 = 0 := by decide
theorem kB_c : (kB5.put 0 7 []).2.2 = 20 := by decide
set_option maxHeartbeats 4000000 in
theorem xknown_L {w0 : World} {H : Heap}  (hTab : Tab w0) : LCalls Tryz.prog w0 16 #[] (H) (fun v H' => v = .bool true ∧ H' = H) := by
  refine L_enter (l := []) Tryz.func16 rfl Tryz.ntmps16 rfl rfl ?_
  refine W_sr ?_
  refine W_assign rfl rfl ?_
  refine W_nil ?_
  refine W_sr ?_
  refine W_call (.cons rfl (.cons rfl (.cons rfl .nil))) Tryz.call8 rfl (XmH.new hTab (kind := 2) (entries := 2) (words := 1) (by decide) (by decide) (by decide)) ?_
  rintro v H' ⟨ma, HX0, hX0, rfl, rfl⟩
  replace hX0 : XmH _ _ kA0 _ := hX0
  refine W_move rfl rfl ?_
  refine W_extract rfl rfl rfl ?_
  refine W_extract rfl rfl rfl ?_
  refine W_assign rfl rfl ?_
  refine W_assign rfl rfl ?_
  refine W_nil ?_
  refine W_seq ?_
  refine W_sr ?_
  refine W_move rfl rfl ?_
  refine W_bin rfl rfl b_neq rfl ?_
  rw [decide_eq_false (by decide)]
  refine W_nil ?_
  refine W_condF rfl rfl ?_
  refine W_skip ?_
  refine W_sr ?_
  refine W_move rfl rfl ?_
  refine W_buildSlice (l := [.int .u64 50]) ty42 ty22 (.cons rfl rfl rfl rfl rfl .nil) rfl rfl rfl rfl rfl rfl rfl (fun b22 => ?_)
  refine W_call (.cons rfl (.cons rfl (.cons rfl (.cons rfl .nil)))) Tryz.call11 rfl ((hX0.put hTab (by decide) (how := 0) (k := 5) (ws := [50]) (cap := 1) (by decide) (Holds.own (b := b22) zM) (H := (b22, .cells 22 (1 * 1) [.int .u64 50]) :: H)).hsub zH) ?_
  rintro v H' ⟨HX1, hX1, rfl, rfl⟩
  replace hX1 : XmH _ _ kA1 _ := hX1
  refine W_nil ?_
  refine W_sr ?_
  refine W_move rfl rfl ?_
  refine W_buildSlice (l := [.int .u64 60]) ty42 ty22 (.cons rfl rfl rfl rfl rfl .nil) rfl rfl rfl rfl rfl rfl rfl (fun b26 => ?_)
  refine W_call (.cons rfl (.cons rfl (.cons rfl (.cons rfl .nil)))) Tryz.call11 rfl ((hX1.put hTab (by decide) (how := 0) (k := 6) (ws := [60]) (cap := 1) (by decide) (Holds.own (b := b26) zM) (H := (b26, .cells 22 (1 * 1) [.int .u64 60]) :: H)).hsub zH) ?_
  rintro v H' ⟨HX2, hX2, rfl, rfl⟩
  replace hX2 : XmH _ _ kA2 _ := hX2
  rw [show (Xm.put kA1 0 6 [60]).2.1 = ⟨⟨1, 1⟩, zHd, false⟩ from congrArg Prod.fst kA_p, show (Xm.put kA1 0 6 [60]).2.2 = 0 from congrArg Prod.snd kA_p]
  refine W_move rfl rfl ?_
  refine W_extract rfl rfl rfl ?_
  refine W_extract rfl rfl rfl ?_
  refine W_alloc (l := puttC zPutt) ty31 rfl rfl (fun b3 => ?_)
  refine W_storeA (l' := puttC ⟨⟨1, 1⟩, zHd, false⟩) rfl rfl ty31 rfl rfl (b := b3) zM (by exact Nat.le_refl 5) rfl zU ?_
  refine W_assign rfl rfl ?_
  refine W_nil ?_
  refine W_sr ?_
  refine W_move rfl rfl ?_
  refine W_call (.cons rfl (.cons rfl .nil)) Tryz.call17 rfl ((hX2.find (by decide) (k := 5) (H := (b3, .cells 31 5 (puttC ⟨⟨1, 1⟩, zHd, false⟩)) :: H)).hsub zH) ?_
  rintro v H' ⟨HX3, hX3, rfl, rfl⟩
  replace hX3 : XmH _ _ kA3 _ := hX3
  refine W_nil ?_
  refine W_sr ?_
  refine W_move rfl rfl ?_
  refine W_buildSlice (l := [.int .u64 70]) ty42 ty22 (.cons rfl rfl rfl rfl rfl .nil) rfl rfl rfl rfl rfl rfl rfl (fun b34 => ?_)
  refine W_call (.cons rfl (.cons rfl (.cons rfl (.cons rfl .nil)))) Tryz.call11 rfl ((hX3.put hTab (by decide) (how := 0) (k := 7) (ws := [70]) (cap := 1) (by decide) (Holds.own (b := b34) zM) (H := (b34, .cells 22 (1 * 1) [.int .u64 70]) :: (b3, .cells 31 5 (puttC ⟨⟨1, 1⟩, zHd, false⟩)) :: H)).hsub zH) ?_
  rintro v H' ⟨HX4, hX4, rfl, rfl⟩
  replace hX4 : XmH _ _ kA4 _ := hX4
  rw [show (Xm.put kA3 0 7 [70]).2.1 = ⟨⟨2, 1⟩, ⟨1, 1⟩, true⟩ from congrArg Prod.fst kA_q, show (Xm.put kA3 0 7 [70]).2.2 = 0 from congrArg Prod.snd kA_q]
  refine W_move rfl rfl ?_
  refine W_extract rfl rfl rfl ?_
  refine W_extract rfl rfl rfl ?_
  refine W_alloc (l := puttC zPutt) ty31 rfl rfl (fun b5 => ?_)
  refine W_storeA (l' := puttC ⟨⟨2, 1⟩, ⟨1, 1⟩, true⟩) rfl rfl ty31 rfl rfl (b := b5) zM (by exact Nat.le_refl 5) rfl zU ?_
  refine W_assign rfl rfl ?_
  refine W_nil ?_
  refine W_seq ?_
  refine W_sr ?_
  refine W_move rfl rfl ?_
  refine W_bin rfl rfl b_neq rfl ?_
  rw [decide_eq_false (by decide)]
  refine W_move rfl rfl ?_
  refine W_gyes rfl rfl ?_
  refine W_fieldAddr rfl fld31_2 (by decide) rfl ?_
  refine W_gyes rfl rfl ?_
  refine W_load (v := .bool true) rfl ty4 rfl (Cell.own (b := b5) zM rfl) rfl ?_
  refine W_gyes rfl rfl ?_
  refine W_not rfl rfl ?_
  first | refine W_pickt rfl rfl rfl ?_ | refine W_pickf rfl rfl rfl ?_
  refine W_move rfl rfl ?_
  refine W_gyes rfl rfl ?_
  refine W_fieldAddr rfl fld31_1 (by decide) rfl ?_
  refine W_gyes rfl rfl ?_
  refine W_loadB (vs := hdC ⟨1, 1⟩) rfl ty29 rfl (b := b5) zM rfl rfl rfl ?_
  refine W_gyes rfl rfl ?_
  refine W_fieldAddr rfl fld31_0 (by decide) rfl ?_
  refine W_gyes rfl rfl ?_
  refine W_loadB (vs := hdC ⟨1, 1⟩) rfl ty29 rfl (b := b3) zM rfl rfl rfl ?_
  refine W_gyes rfl rfl ?_
  refine W_x (X_neF (f := hdC) rfl rfl flat29 agg29 hdC_like hdC_inj gt29 (by decide)) (fun _ h => by cases h) rfl ?_
  first | refine W_pickt rfl rfl rfl ?_ | refine W_pickf rfl rfl rfl ?_
  refine W_move rfl rfl ?_
  refine W_gyes rfl rfl ?_
  refine W_move rfl rfl ?_
  refine W_gyes rfl rfl ?_
  refine W_call (.cons rfl .nil) Tryz.call26 rfl ((hX4.keys (H := (b5, .cells 31 5 (puttC ⟨⟨2, 1⟩, ⟨1, 1⟩, true⟩)) :: (b3, .cells 31 5 (puttC ⟨⟨1, 1⟩, zHd, false⟩)) :: H)).hsub zH) ?_
  rintro v H' ⟨X, hK, rfl⟩
  rw [show (Xm.keys kA4) = [5, 7] from by unfold Xm.keys; rw [if_pos kA_u.1, kA_u.2]] at hK
  obtain ⟨adk, capk, rfl, _, _, hrk⟩ := Holds.of_own (w0 := w0) (H := X ++ []) hK (fun p hp => List.mem_append_left _ hp)
  refine W_gyes rfl rfl ?_
  refine W_buildSlice (l := [.int .u64 5, .int .u64 7]) ty42 ty22 (.cons rfl rfl rfl rfl rfl (.cons rfl rfl rfl rfl rfl .nil)) rfl rfl rfl rfl rfl rfl rfl (fun b55 => ?_)
  refine W_gyes rfl rfl ?_
  refine W_callq (.cons rfl (.cons rfl .nil)) Tryz.call25 rfl (sameU_q (l := [5, 7]) (r := [5, 7]) (hrk.up zH) (Holds.own (b := b55) zM) (by decide)) ?_
  refine W_gyes rfl rfl ?_
  refine W_not rfl rfl ?_
  first | refine W_pickt rfl rfl rfl ?_ | refine W_pickf rfl rfl rfl ?_
  refine W_move rfl rfl ?_
  refine W_gyes rfl rfl ?_
  refine W_move rfl rfl ?_
  refine W_gyes rfl rfl ?_
  refine W_callq (.cons rfl .nil) Tryz.call10 rfl (hX4.held (fun p hp => by repeat (first | exact List.mem_append_left _ hp | apply List.mem_cons_of_mem | apply List.mem_append_right))) ?_
  rw [kA_h]
  refine W_gyes rfl rfl ?_
  refine W_bin rfl rfl b_neq rfl ?_
  rw [decide_eq_false (by decide)]
  first | refine W_pickt rfl rfl rfl ?_ | refine W_pickf rfl rfl rfl ?_
  refine W_nil ?_
  refine W_condF rfl rfl ?_
  refine W_skip ?_
  refine W_sr ?_
  refine W_call (.cons rfl (.cons rfl (.cons rfl .nil))) Tryz.call8 rfl (XmH.new hTab (kind := 1) (entries := 1) (words := 1) (by decide) (by decide) (by decide)) ?_
  rintro v H' ⟨mc, HY0, hY0, rfl, rfl⟩
  replace hY0 : XmH _ _ kB0 _ := hY0
  refine W_move rfl rfl ?_
  refine W_extract rfl rfl rfl ?_
  refine W_extract rfl rfl rfl ?_
  refine W_assign rfl rfl ?_
  refine W_assign rfl rfl ?_
  refine W_nil ?_
  refine W_sr ?_
  refine W_move rfl rfl ?_
  refine W_buildSlice (l := [.int .u64 50]) ty42 ty22 (.cons rfl rfl rfl rfl rfl .nil) rfl rfl rfl rfl rfl rfl rfl (fun b69 => ?_)
  refine W_call (.cons rfl (.cons rfl (.cons rfl (.cons rfl .nil)))) Tryz.call11 rfl ((hY0.put hTab (by decide) (how := 0) (k := 5) (ws := [50]) (cap := 1) (by decide) (Holds.own (b := b69) zM) (H := (b69, .cells 22 (1 * 1) [.int .u64 50]) :: H)).hsub zH) ?_
  rintro v H' ⟨HY1, hY1, rfl, rfl⟩
  replace hY1 : XmH _ _ kB1 _ := hY1
  refine W_nil ?_
  refine W_sr ?_
  refine W_move rfl rfl ?_
  refine W_call (.cons rfl (.cons rfl (.cons rfl (.cons rfl .nil)))) Tryz.call11 rfl ((hY1.put hTab (by decide) (how := 0) (k := 6) (ws := []) (cap := 0) (by decide) Holds.nil (H := H)).hsub zH) ?_
  rintro v H' ⟨HY2, hY2, rfl, rfl⟩
  replace hY2 : XmH _ _ kB2 _ := hY2
  rw [show (Xm.put kB1 0 6 []).2.1 = zPutt from congrArg Prod.fst kB_a, show (Xm.put kB1 0 6 []).2.2 = 3 from congrArg Prod.snd kB_a]
  refine W_move rfl rfl ?_
  refine W_extract rfl rfl rfl ?_
  refine W_extract rfl rfl rfl ?_
  refine W_alloc (l := puttC zPutt) ty31 rfl rfl (fun b9 => ?_)
  refine W_storeA (l' := puttC zPutt) rfl rfl ty31 rfl rfl (b := b9) zM (by exact Nat.le_refl 5) rfl zU ?_
  refine W_assign rfl rfl ?_
  refine W_nil ?_
  refine W_sr ?_
  refine W_move rfl rfl ?_
  refine W_call (.cons rfl (.cons rfl .nil)) Tryz.call12 rfl ((hY2.del (k := 5) (H := H)).hsub zH) ?_
  rintro v H' ⟨HY3, hY3, rfl, rfl⟩
  replace hY3 : XmH _ _ kB3 _ := hY3
  refine W_nil ?_
  refine W_sr ?_
  refine W_move rfl rfl ?_
  refine W_call (.cons rfl (.cons rfl (.cons rfl (.cons rfl .nil)))) Tryz.call11 rfl ((hY3.put hTab (by decide) (how := 0) (k := 6) (ws := []) (cap := 0) (by decide) Holds.nil (H := H)).hsub zH) ?_
  rintro v H' ⟨HY4, hY4, rfl, rfl⟩
  replace hY4 : XmH _ _ kB4 _ := hY4
  obtain ⟨p4, hp4⟩ : ∃ p4, p4 = (Xm.put kB3 0 6 []).2.1 := ⟨_, rfl⟩
  rw [← hp4, kB_b]
  refine W_move rfl rfl ?_
  refine W_extract rfl rfl rfl ?_
  refine W_extract rfl rfl rfl ?_
  refine W_alloc (l := puttC zPutt) ty31 rfl rfl (fun b11 => ?_)
  refine W_storeA (l' := puttC p4) rfl rfl ty31 rfl rfl (b := b11) zM (by exact Nat.le_refl 5) rfl zU ?_
  refine W_assign rfl rfl ?_
  refine W_nil ?_
  refine W_sr ?_
  refine W_move rfl rfl ?_
  refine W_call (.cons rfl (.cons rfl .nil)) Tryz.call12 rfl ((hY4.del (k := 6) (H := H)).hsub zH) ?_
  rintro v H' ⟨HY5, hY5, rfl, rfl⟩
  replace hY5 : XmH _ _ kB5 _ := hY5
  refine W_nil ?_
  refine W_sr ?_
  refine W_move rfl rfl ?_
  refine W_call (.cons rfl (.cons rfl (.cons rfl (.cons rfl .nil)))) Tryz.call11 rfl ((hY5.put hTab (by decide) (how := 0) (k := 7) (ws := []) (cap := 0) (by decide) Holds.nil (H := H)).hsub zH) ?_
  rintro v H' ⟨HY6, hY6, rfl, rfl⟩
  obtain ⟨p5, hp5⟩ : ∃ p5, p5 = (Xm.put kB5 0 7 []).2.1 := ⟨_, rfl⟩
  rw [← hp5, kB_c]
  refine W_move rfl rfl ?_
  refine W_extract rfl rfl rfl ?_
  refine W_extract rfl rfl rfl ?_
  refine W_alloc (l := puttC zPutt) ty31 rfl rfl (fun b13 => ?_)
  refine W_storeA (l' := puttC p5) rfl rfl ty31 rfl rfl (b := b13) zM (by exact Nat.le_refl 5) rfl zU ?_
  refine W_assign rfl rfl ?_
  refine W_nil ?_
  refine W_sr ?_
  refine W_move rfl rfl ?_
  refine W_bin rfl rfl b_eql rfl ?_
  refine W_move rfl rfl ?_
  refine W_gyes rfl rfl ?_
  refine W_move rfl rfl ?_
  refine W_gyes rfl rfl ?_
  refine W_bin rfl rfl b_eql rfl ?_
  first | refine W_pickt rfl rfl rfl ?_ | refine W_pickf rfl rfl rfl ?_
  refine W_move rfl rfl ?_
  refine W_gyes rfl rfl ?_
  refine W_move rfl rfl ?_
  refine W_gyes rfl rfl ?_
  refine W_bin rfl rfl b_eql rfl ?_
  first | refine W_pickt rfl rfl rfl ?_ | refine W_pickf rfl rfl rfl ?_
  refine W_assign rfl rfl ?_
  refine W_nil ?_
  refine W_ret1m (H2 := H) Tryz.results16 rfl (.nil _) zH ?_
  exact ⟨rfl, rfl⟩
theorem xknown_pure : Pure Tryz.prog Tab 16 [] (.bool true) := fun w0 H hT => xknown_L hT
theorem flat31 : Flat Tryz.prog 2 31 [.int .i64, .int .i64, .int .i64, .int .i64, .bool] := (Flat.struct ty31 (by kernel_rfl) (by kernel_rfl) (.cons (ks := [.int .i64, .int .i64]) (by decide) rfl (by kernel_rfl) (Flat.struct ty29 (by kernel_rfl) (by kernel_rfl) (.cons (ks := [.int .i64]) (by decide) rfl (by kernel_rfl) (Flat.leaf (k := .int .i64) ty3) (.cons (ks := [.int .i64]) (by decide) rfl (by kernel_rfl) (Flat.leaf (k := .int .i64) ty3) .nil))) (.cons (ks := [.int .i64, .int .i64]) (by decide) rfl (by kernel_rfl) (Flat.struct ty29 (by kernel_rfl) (by kernel_rfl) (.cons (ks := [.int .i64]) (by decide) rfl (by kernel_rfl) (Flat.leaf (k := .int .i64) ty3) (.cons (ks := [.int .i64]) (by decide) rfl (by kernel_rfl) (Flat.leaf (k := .int .i64) ty3) .nil))) (.cons (ks := [.bool]) (by decide) rfl (by kernel_rfl) (Flat.leaf (k := .bool) ty4) .nil))))
theorem agg31 : aggB Tryz.prog 31 = true := by kernel_rfl
theorem gt31 : Tryz.prog.eqGuardType Tryz.prog.depth 31 = false := by kernel_rfl
theorem puttC_like (v : Putt) : Likes [.int .i64, .int .i64, .int .i64, .int .i64, .bool] (puttC v) := ⟨⟨_, rfl⟩, ⟨_, rfl⟩, ⟨_, rfl⟩, ⟨_, rfl⟩, ⟨_, rfl⟩, trivial⟩
theorem puttC_inj (v w : Putt) (h : puttC v = puttC w) : v = w := by
  obtain ⟨⟨a, b⟩, ⟨c, d⟩, e⟩ := v
  obtain ⟨⟨a', b'⟩, ⟨c', d'⟩, e'⟩ := w
  simp only [puttC, List.cons.injEq, Value.int.injEq, Value.bool.injEq, true_and, and_true] at h
  obtain ⟨rfl, rfl, rfl, rfl, rfl⟩ := h
  rfl
set_option maxHeartbeats 4000000 in
theorem xmapNil_pure (k at_ : Int) (h : Hd) : Pure Tryz.prog (Tab) 7 [.int .u64 k, .agg (List.toArray (hdC h)), .int .i64 at_] (.bool true) := by
  intro w0 H hT
  refine L_enter Tryz.func7 rfl Tryz.ntmps7 rfl rfl ?_
  refine W_sr ?_
  refine W_box rfl rfl rfl (fun b4 => ?_)
  refine W_assign rfl rfl ?_
  refine W_nil ?_
  refine W_sr ?_
  refine W_assign rfl rfl ?_
  refine W_nil ?_
  refine W_sr ?_
  refine W_move rfl rfl ?_
  refine W_move rfl rfl ?_
  refine W_callp (.cons rfl (.cons rfl .nil)) Tryz.call17 rfl (T := fun _ => True) trivial (Find_niltm) ?_
  refine W_move rfl rfl ?_
  refine W_extract rfl rfl rfl ?_
  refine W_extract rfl rfl rfl ?_
  refine W_alloc (l := hdC zHd) ty29 rfl rfl (fun b8 => ?_)
  refine W_storeA (l' := hdC zHd) rfl rfl ty29 rfl rfl (b := b8) zM (by exact Nat.le_refl 2) rfl zU ?_
  refine W_assign rfl rfl ?_
  refine W_nil ?_
  refine W_sr ?_
  refine W_move rfl rfl ?_
  refine W_move rfl rfl ?_
  refine W_callp (.cons rfl (.cons rfl .nil)) Tryz.call13 rfl (T := fun _ => True) trivial (Look_nil) ?_
  refine W_move rfl rfl ?_
  refine W_extract rfl rfl rfl ?_
  refine W_extract rfl rfl rfl ?_
  refine W_alloc (l := hdC zHd) ty29 rfl rfl (fun b10 => ?_)
  refine W_storeA (l' := hdC zHd) rfl rfl ty29 rfl rfl (b := b10) zM (by exact Nat.le_refl 2) rfl zU ?_
  refine W_assign rfl rfl ?_
  refine W_nil ?_
  refine W_sr ?_
  refine W_move rfl rfl ?_
  refine W_move rfl rfl ?_
  refine W_move rfl rfl ?_
  refine W_callp (.cons rfl (.cons rfl (.cons rfl (.cons rfl .nil)))) Tryz.call11 rfl (T := fun _ => True) trivial (Put_nilx (n := 0)) ?_
  refine W_move rfl rfl ?_
  refine W_extract rfl rfl rfl ?_
  refine W_extract rfl rfl rfl ?_
  refine W_alloc (l := puttC zPutt) ty31 rfl rfl (fun b12 => ?_)
  refine W_storeA (l' := puttC zPutt) rfl rfl ty31 rfl rfl (b := b12) zM (by exact Nat.le_refl 5) rfl zU ?_
  refine W_assign rfl rfl ?_
  refine W_nil ?_
  refine W_sr ?_
  refine W_move rfl rfl ?_
  refine W_move rfl rfl ?_
  refine W_callp (.cons rfl (.cons rfl .nil)) Tryz.call12 rfl (T := fun _ => True) trivial (Del_nil) ?_
  refine W_move rfl rfl ?_
  refine W_extract rfl rfl rfl ?_
  refine W_extract rfl rfl rfl ?_
  refine W_alloc (l := hdC zHd) ty29 rfl rfl (fun b14 => ?_)
  refine W_storeA (l' := hdC zHd) rfl rfl ty29 rfl rfl (b := b14) zM (by exact Nat.le_refl 2) rfl zU ?_
  refine W_assign rfl rfl ?_
  refine W_nil ?_
  refine W_sr ?_
  refine W_move rfl rfl ?_
  refine W_loadB (vs := hdC h) rfl ty29 rfl (b := b4) zM rfl rfl rfl ?_
  refine W_move rfl rfl ?_
  refine W_callp (.cons rfl (.cons rfl (.cons rfl .nil))) Tryz.call14 rfl (T := fun _ => True) trivial (Load_nilm) ?_
  refine W_move rfl rfl ?_
  refine W_extract rfl rfl rfl ?_
  refine W_extract rfl rfl rfl ?_
  refine W_assign rfl rfl ?_
  refine W_assign rfl rfl ?_
  refine W_nil ?_
  refine W_sr ?_
  refine W_move rfl rfl ?_
  refine W_loadB (vs := hdC h) rfl ty29 rfl (b := b4) zM rfl rfl rfl ?_
  refine W_callp (.cons rfl (.cons rfl .nil)) Tryz.call18 rfl (T := fun _ => True) trivial (Key_nilm) ?_
  refine W_move rfl rfl ?_
  refine W_extract rfl rfl rfl ?_
  refine W_extract rfl rfl rfl ?_
  refine W_assign rfl rfl ?_
  refine W_assign rfl rfl ?_
  refine W_nil ?_
  refine W_sr ?_
  refine W_callp .nil Tryz.call16 rfl hT xknown_pure ?_
  refine W_move rfl rfl ?_
  refine W_gyes rfl rfl ?_
  refine W_loadB (vs := hdC zHd) rfl ty29 rfl (b := b8) zM rfl rfl rfl ?_
  refine W_gyes rfl rfl ?_
  refine W_build (l := hdC zHd) ty29 pl29 .nil rfl rfl rfl ?_
  refine W_gyes rfl rfl ?_
  refine W_x (X_eqF (f := hdC) rfl rfl flat29 agg29 hdC_like hdC_inj gt29 (by decide)) (fun _ h => by cases h) rfl ?_
  first | refine W_pickt rfl rfl rfl ?_ | refine W_pickf rfl rfl rfl ?_
  refine W_move rfl rfl ?_
  refine W_gyes rfl rfl ?_
  refine W_move rfl rfl ?_
  refine W_gyes rfl rfl ?_
  refine W_bin rfl rfl b_eql rfl ?_
  first | refine W_pickt rfl rfl rfl ?_ | refine W_pickf rfl rfl rfl ?_
  refine W_move rfl rfl ?_
  refine W_gyes rfl rfl ?_
  refine W_loadB (vs := hdC zHd) rfl ty29 rfl (b := b10) zM rfl rfl rfl ?_
  refine W_gyes rfl rfl ?_
  refine W_build (l := hdC zHd) ty29 pl29 .nil rfl rfl rfl ?_
  refine W_gyes rfl rfl ?_
  refine W_x (X_eqF (f := hdC) rfl rfl flat29 agg29 hdC_like hdC_inj gt29 (by decide)) (fun _ h => by cases h) rfl ?_
  first | refine W_pickt rfl rfl rfl ?_ | refine W_pickf rfl rfl rfl ?_
  refine W_move rfl rfl ?_
  refine W_gyes rfl rfl ?_
  refine W_move rfl rfl ?_
  refine W_gyes rfl rfl ?_
  refine W_bin rfl rfl b_eql rfl ?_
  first | refine W_pickt rfl rfl rfl ?_ | refine W_pickf rfl rfl rfl ?_
  refine W_move rfl rfl ?_
  refine W_gyes rfl rfl ?_
  refine W_loadB (vs := puttC zPutt) rfl ty31 rfl (b := b12) zM rfl rfl rfl ?_
  refine W_gyes rfl rfl ?_
  refine W_build (l := puttC zPutt) ty31 pl31 .nil rfl rfl rfl ?_
  refine W_gyes rfl rfl ?_
  refine W_x (X_eqF (f := puttC) rfl rfl flat31 agg31 puttC_like puttC_inj gt31 (by decide)) (fun _ h => by cases h) rfl ?_
  first | refine W_pickt rfl rfl rfl ?_ | refine W_pickf rfl rfl rfl ?_
  refine W_move rfl rfl ?_
  refine W_gyes rfl rfl ?_
  refine W_move rfl rfl ?_
  refine W_gyes rfl rfl ?_
  refine W_bin rfl rfl b_eql rfl ?_
  first | refine W_pickt rfl rfl rfl ?_ | refine W_pickf rfl rfl rfl ?_
  refine W_move rfl rfl ?_
  refine W_gyes rfl rfl ?_
  refine W_loadB (vs := hdC zHd) rfl ty29 rfl (b := b14) zM rfl rfl rfl ?_
  refine W_gyes rfl rfl ?_
  refine W_build (l := hdC zHd) ty29 pl29 .nil rfl rfl rfl ?_
  refine W_gyes rfl rfl ?_
  refine W_x (X_eqF (f := hdC) rfl rfl flat29 agg29 hdC_like hdC_inj gt29 (by decide)) (fun _ h => by cases h) rfl ?_
  first | refine W_pickt rfl rfl rfl ?_ | refine W_pickf rfl rfl rfl ?_
  refine W_move rfl rfl ?_
  refine W_gyes rfl rfl ?_
  refine W_move rfl rfl ?_
  refine W_gyes rfl rfl ?_
  refine W_bin rfl rfl b_eql rfl ?_
  first | refine W_pickt rfl rfl rfl ?_ | refine W_pickf rfl rfl rfl ?_
  refine W_move rfl rfl ?_
  refine W_gyes rfl rfl ?_
  refine W_move rfl rfl ?_
  refine W_gyes rfl rfl ?_
  refine W_loadB (vs := hdC h) rfl ty29 rfl (b := b4) zM rfl rfl rfl ?_
  refine W_gyes rfl rfl ?_
  refine W_callp (.cons rfl (.cons rfl .nil)) Tryz.call19 rfl (T := fun _ => True) trivial (Free_nilm) ?_
  refine W_gyes rfl rfl ?_
  refine W_bin rfl rfl b_eql rfl ?_
  first | refine W_pickt rfl rfl rfl ?_ | refine W_pickf rfl rfl rfl ?_
  refine W_move rfl rfl ?_
  refine W_gyes rfl rfl ?_
  refine W_move rfl rfl ?_
  refine W_gyes rfl rfl ?_
  refine W_bin rfl rfl b_eql rfl ?_
  first | refine W_pickt rfl rfl rfl ?_ | refine W_pickf rfl rfl rfl ?_
  refine W_move rfl rfl ?_
  refine W_gyes rfl rfl ?_
  refine W_move rfl rfl ?_
  refine W_gyes rfl rfl ?_
  refine W_bin rfl rfl b_eql rfl ?_
  first | refine W_pickt rfl rfl rfl ?_ | refine W_pickf rfl rfl rfl ?_
  refine W_move rfl rfl ?_
  refine W_gyes rfl rfl ?_
  refine W_move rfl rfl ?_
  refine W_gyes rfl rfl ?_
  refine W_loadB (vs := hdC h) rfl ty29 rfl (b := b4) zM rfl rfl rfl ?_
  refine W_gyes rfl rfl ?_
  refine W_move rfl rfl ?_
  refine W_gyes rfl rfl ?_
  refine W_move rfl rfl ?_
  refine W_gyes rfl rfl ?_
  refine W_callp (.cons rfl (.cons rfl (.cons rfl (.cons rfl .nil)))) Tryz.call21 rfl (T := fun _ => True) trivial (Store_nilm) ?_
  refine W_gyes rfl rfl ?_
  refine W_bin rfl rfl b_eql rfl ?_
  first | refine W_pickt rfl rfl rfl ?_ | refine W_pickf rfl rfl rfl ?_
  refine W_move rfl rfl ?_
  refine W_gyes rfl rfl ?_
  refine W_move rfl rfl ?_
  refine W_gyes rfl rfl ?_
  refine W_bin rfl rfl b_eql rfl ?_
  first | refine W_pickt rfl rfl rfl ?_ | refine W_pickf rfl rfl rfl ?_
  refine W_move rfl rfl ?_
  refine W_gyes rfl rfl ?_
  refine W_move rfl rfl ?_
  refine W_gyes rfl rfl ?_
  refine W_bin rfl rfl b_eql rfl ?_
  first | refine W_pickt rfl rfl rfl ?_ | refine W_pickf rfl rfl rfl ?_
  refine W_move rfl rfl ?_
  refine W_gyes rfl rfl ?_
  refine W_move rfl rfl ?_
  refine W_gyes rfl rfl ?_
  refine W_loadB (vs := hdC h) rfl ty29 rfl (b := b4) zM rfl rfl rfl ?_
  refine W_gyes rfl rfl ?_
  refine W_callp (.cons rfl (.cons rfl .nil)) Tryz.call20 rfl (T := fun _ => True) trivial (Linked_nilm) ?_
  refine W_gyes rfl rfl ?_
  refine W_not rfl rfl ?_
  first | refine W_pickt rfl rfl rfl ?_ | refine W_pickf rfl rfl rfl ?_
  refine W_move rfl rfl ?_
  refine W_gyes rfl rfl ?_
  refine W_move rfl rfl ?_
  refine W_gyes rfl rfl ?_
  refine W_callp (.cons rfl .nil) Tryz.call15 rfl (T := fun _ => True) trivial (Close_nilm) ?_
  refine W_gyes rfl rfl ?_
  refine W_len rfl ty38 rfl rfl ?_
  refine W_gyes rfl rfl ?_
  refine W_bin rfl rfl b_eql rfl ?_
  first | refine W_pickt rfl rfl rfl ?_ | refine W_pickf rfl rfl rfl ?_
  refine W_move rfl rfl ?_
  refine W_gyes rfl rfl ?_
  refine W_move rfl rfl ?_
  refine W_gyes rfl rfl ?_
  refine W_callp (.cons rfl .nil) Tryz.call26 rfl (T := fun _ => True) trivial (Keys_nilm) ?_
  refine W_gyes rfl rfl ?_
  refine W_len rfl ty42 rfl rfl ?_
  refine W_gyes rfl rfl ?_
  refine W_bin rfl rfl b_eql rfl ?_
  first | refine W_pickt rfl rfl rfl ?_ | refine W_pickf rfl rfl rfl ?_
  refine W_move rfl rfl ?_
  refine W_gyes rfl rfl ?_
  refine W_move rfl rfl ?_
  refine W_gyes rfl rfl ?_
  refine W_callp (.cons rfl .nil) Tryz.call9 rfl (T := fun _ => True) trivial (Len_nilm) ?_
  refine W_gyes rfl rfl ?_
  refine W_bin rfl rfl b_eql rfl ?_
  first | refine W_pickt rfl rfl rfl ?_ | refine W_pickf rfl rfl rfl ?_
  refine W_move rfl rfl ?_
  refine W_gyes rfl rfl ?_
  refine W_move rfl rfl ?_
  refine W_gyes rfl rfl ?_
  refine W_callp (.cons rfl .nil) Tryz.call10 rfl (T := fun _ => True) trivial (Held_nilm) ?_
  refine W_gyes rfl rfl ?_
  refine W_bin rfl rfl b_eql rfl ?_
  first | refine W_pickt rfl rfl rfl ?_ | refine W_pickf rfl rfl rfl ?_
  refine W_move rfl rfl ?_
  refine W_gyes rfl rfl ?_
  refine W_move rfl rfl ?_
  refine W_gyes rfl rfl ?_
  refine W_callp (.cons rfl .nil) Tryz.call29 rfl (T := fun _ => True) trivial (Kind_nilm) ?_
  refine W_gyes rfl rfl ?_
  refine W_bin rfl rfl b_eql rfl ?_
  first | refine W_pickt rfl rfl rfl ?_ | refine W_pickf rfl rfl rfl ?_
  refine W_move rfl rfl ?_
  refine W_gyes rfl rfl ?_
  refine W_move rfl rfl ?_
  refine W_gyes rfl rfl ?_
  refine W_callp (.cons rfl .nil) Tryz.call30 rfl (T := fun _ => True) trivial (Words_nilm) ?_
  refine W_gyes rfl rfl ?_
  refine W_bin rfl rfl b_eql rfl ?_
  first | refine W_pickt rfl rfl rfl ?_ | refine W_pickf rfl rfl rfl ?_
  refine W_assign rfl rfl ?_
  refine W_nil ?_
  refine W_ret1m (H2 := H) Tryz.results7 rfl (.nil _) zH ?_
  exact ⟨rfl, rfl⟩
end Go.Proofs.YtphdlpmnidiliaaGreatDoor
namespace Go.Proofs.YtphdlpmnidiliaaGreatDoor
open Go Go.Sl Go.ChangeShapes Go.WideShapes Go.ChangeAt Go.RowKit
set_option maxRecDepth 100000
theorem own : ownKnob Tryz.prog.godebug = none := by kernel_rfl
theorem kids : Kids Tryz.prog (· < Tryz.prog.types.size) := kids_rows (by kernel_rfl) (by kernel_rfl)
theorem full : ∀ t e, t < Tryz.prog.types.size → Tryz.prog.underlying t = some (.slice e) → 0 < Tryz.prog.cellsOf e := slices_full_of Tryz.prog (by kernel_rfl)
theorem u4 : Tryz.prog.underlying 4 = some .bool := by kernel_rfl
theorem u3 : Tryz.prog.underlying 3 = some (.int .i64) := by kernel_rfl
theorem u22 : Tryz.prog.underlying 22 = some (.int .u64) := by kernel_rfl
theorem k22 : Tryz.prog.cellsOf 22 = 1 := by kernel_rfl
theorem u42 : Tryz.prog.underlying 42 = some (.slice 22) := by kernel_rfl
theorem u213 : Tryz.prog.underlying 213 = some (.array 64 5) := by kernel_rfl
theorem u5 : Tryz.prog.underlying 5 = some (.int .u8) := by kernel_rfl
theorem gDz : Tryz.prog.globalNamed "math/bits.deBruijn64tab" = some 0 := by kernel_rfl
theorem tDz : (Tryz.prog.globals[0]?).map (·.type) = some 213 := by kernel_rfl
abbrev laidL : List (String × DataW Unit) := [("math/bits.deBruijn64tab", Rows.laid_math_bits_deBruijn64tab)]
theorem tab_laid {W : World} (h : laidMetH Tryz.prog laidL W) : Tab W := fun j hj => by
  have h1 : Lib.TabIs Tryz.prog W "math/bits.deBruijn64tab" .u8 (Lib.deBruijn64tab.map fun z : Nat => (z : Int)) := Lib.tabIs_of_head (rest := []) gDz tDz u213 u5 (by kernel_rfl) (by kernel_rfl) (show laidMet Tryz.prog laidL W from h)
  have h2 := h1.cell gDz j (by rw [List.length_map]; exact hj)
  rw [h2]
  rw [List.getD_eq_getElem?_getD, List.getD_eq_getElem?_getD, List.getElem?_map]
  cases Lib.deBruijn64tab[j]? <;> rfl
noncomputable def laidWorld (os : Os) : World :=
  let w0 := World.holding Tryz.prog os ⟨#[], #[], []⟩
  let put (h : Array Obj) (g : Nat) (cs : Array Value) : Array Obj := h.modify g fun
    | .cells _ t frozen => .cells cs t frozen
    | o => o
  { w0 with heap := put w0.heap 0 (Lib.deBruijn64tab.map fun z : Nat => Value.int .u8 (z : Int)).toArray }
theorem laid_met (os : Os) (args : Array Value) : laidMet Tryz.prog laidL ((laidWorld os).forCall (fun _ _ => 0) ⟨#[], args, []⟩).memory :=
  laidMet_of_run' 8 (by kernel_rfl) (by kernel_rfl)
end Go.Proofs.YtphdlpmnidiliaaGreatDoor
namespace Go.Proofs.YtphdlpmnidiliaaGreatDoor
open Go Go.Sl
attribute [local irreducible] W
theorem modX (z : Int) {N : Nat} (h : 0 < N) : ∃ n : Nat, n < N ∧ (IntKind.u64.wrap z).tmod N = (n : Int) := by
  have e : IntKind.u64.wrap z = z % 18446744073709551616 := by simp [IntKind.wrap, IntKind.signed, IntKind.bits]
  have h0 : 0 ≤ IntKind.u64.wrap z := by rw [e]; omega
  refine ⟨(IntKind.u64.wrap z % N).toNat, ?_, ?_⟩
  · have := Int.emod_lt_of_pos (IntKind.u64.wrap z) (show (0 : Int) < N by omega)
    have := Int.emod_nonneg (IntKind.u64.wrap z) (show (N : Int) ≠ 0 by omega)
    omega
  · rw [Int.tmod_eq_emod_of_nonneg h0]
    have := Int.emod_nonneg (IntKind.u64.wrap z) (show (N : Int) ≠ 0 by omega)
    omega
theorem cnt_arr {n : Nat} : ∀ k, k ≤ n → cntA 1 (arrL n k) = k
  | 0, _ => by
    rw [arrL_zero]
    unfold cntA
    rw [List.countP_eq_zero]
    intro s hs
    obtain ⟨i, hi⟩ := List.mem_iff_getElem?.1 hs
    rw [newL_all hi]
    show ¬ decide ((0 : Nat) = 1) = true
    decide
  | k + 1, h => by
    have ih := cnt_arr (n := n) k (by omega)
    have h1 := cntA_set (n := 1) (L := arrL n k) (i := k) (s := newS k) (t := arrS k) (by rw [arrL_at (show k < n by omega), if_neg (Nat.lt_irrefl _)])
    rw [arrL_set, ih] at h1
    have e1 : ¬ (newS k).st = 1 := by show ¬ (0 : Nat) = 1; decide
    have e2 : (arrS k).st = 1 := rfl
    rw [if_neg e1, if_pos e2] at h1
    omega
theorem cnt_cel {L : List Slt} {h : Hd} {c : Cel} {n : Nat} : cntA n (setA L h (fun s => { s with cel := c })) = cntA n L := by
  by_cases he : errA L h = 0
  · obtain ⟨i, s, a1, a2, a3, a4, a5, a6⟩ := errA_ok he
    rw [a6]
    have := cntA_set (n := n) (t := { s with cel := c }) a2
    dsimp only at this
    omega
  · rw [(errA_no he).2]
theorem fnd_arr {k i : Nat} (h : i < k) : fndC (arrC k) (i : Int) = some ⟨(i : Int), 1⟩ := by
  refine fndC_of (by rw [arrC_keys]; exact (List.reverse_perm _).nodup_iff.2 (arrU_nodup k)) ?_
  unfold arrC
  rw [List.mem_reverse]
  exact List.mem_map.2 ⟨i, List.mem_range.2 h, rfl⟩
theorem fnd_arr_no {k : Nat} {x : Int} (h : ¬ (0 ≤ x ∧ x < (k : Int))) : fndC (arrC k) x = none := by
  rw [fndC_none, arrC_keys]
  exact fun hm => h (arrU_mem.1 (List.mem_reverse.1 hm))
theorem arrX (E : Nat) : Xm.new 0 E 2 = ⟨0, E, 2, false, arrL (2 * E) E, arrC E, arrU E⟩ := rfl
theorem arr_err {E i : Nat} (h : i < E) : errA (arrL (2 * E) E) ⟨(i : Int), 1⟩ = 0 := errA_is (i := i) rfl (by rw [arrL_at (by omega), if_pos h]) rfl rfl
theorem arr_put {E k : Nat} (h : k < E) (x : Int) : (Xm.new 0 E 2).put 0 (k : Int) [x, x] = ({ (Xm.new 0 E 2).use (k : Int) with L := setA (arrL (2 * E) E) ⟨(k : Int), 1⟩ (fun s => { s with cel := ⟨(k : Int), W4.of [x, x]⟩ }) }, ⟨⟨(k : Int), 1⟩, zHd, false⟩, 0) := by
  unfold Xm.put
  rw [if_neg (by rw [arrX]; show ¬ (((0 : Int) < 0 ∨ (2 : Int) < 0) ∨ 2 < 2); decide), if_neg (by show ¬ false = true; decide)]
  rw [show fndC (Xm.new 0 E 2).C (k : Int) = some ⟨(k : Int), 1⟩ from fnd_arr h]
  dsimp only
  rw [if_neg (by decide)]
  rw [show errA (Xm.new 0 E 2).L ⟨(k : Int), 1⟩ = 0 from arr_err h]
  rfl
theorem arr_put_no {E : Nat} {k : Int} (h : ¬ (0 ≤ k ∧ k < (E : Int))) (x : Int) : (Xm.new 0 E 2).put 0 k [x, x] = (Xm.new 0 E 2, zPutt, 2) := by
  unfold Xm.put
  rw [if_neg (by rw [arrX]; show ¬ (((0 : Int) < 0 ∨ (2 : Int) < 0) ∨ 2 < 2); decide), if_neg (by show ¬ false = true; decide)]
  rw [show fndC (Xm.new 0 E 2).C k = none from fnd_arr_no h]
  rfl
structure ArrK (E : Nat) (key x : Int) (y : Xm) : Prop where
  knd : y.kind = 0
  wrd : y.words = 2
  cl : y.closed = false
  C : y.C = arrC E
  cnt : cntA 1 y.L = E
  ld : ∀ i : Nat, i < E → y.load ⟨(i : Int), 1⟩ 1 = (if (i : Int) = key then x else 0, 0)
theorem arrK_no {E : Nat} {key x : Int} (h : ¬ (0 ≤ key ∧ key < (E : Int))) : ArrK E key x (Xm.new 0 E 2) := by
  refine ⟨rfl, rfl, rfl, rfl, cnt_arr E (by omega), fun i hi => ?_⟩
  unfold Xm.load
  have he := arr_err hi
  rw [show errA (Xm.new 0 E 2).L ⟨(i : Int), 1⟩ = 0 from he, if_neg (by decide), if_neg (by show ¬ ((1 : Int) < 0 ∨ ((2 : Nat) : Int) ≤ 1); decide), if_neg (by omega)]
  obtain ⟨j, s, a1, a2, a3, a4, a5, a6⟩ := errA_ok he
  rw [show celA (Xm.new 0 E 2).L ⟨(i : Int), 1⟩ = s.cel from a5]
  obtain rfl : i = j := by have : ((i : Nat) : Int) = (j : Int) := a1; omega
  rw [arrL_at (by omega), if_pos hi] at a2
  obtain rfl := Option.some.inj a2
  rfl
theorem arrK_in {E k : Nat} {x : Int} (h : k < E) : ArrK E (k : Int) x ((Xm.new 0 E 2).put 0 (k : Int) [x, x]).1 := by
  rw [arr_put h]
  refine ⟨rfl, rfl, rfl, rfl, ?_, fun i hi => ?_⟩
  · show cntA 1 (setA _ _ _) = E
    rw [cnt_cel]; exact cnt_arr E (by omega)
  · obtain ⟨j, s, a1, a2, a3, a4, a5, a6⟩ := errA_ok (arr_err h)
    obtain rfl : k = j := by have : ((k : Nat) : Int) = (j : Int) := a1; omega
    rw [arrL_at (by omega), if_pos h] at a2
    obtain rfl := Option.some.inj a2
    have hL : ∀ i, i < E → (setA (arrL (2 * E) E) ⟨(k : Int), 1⟩ (fun s => { s with cel := ⟨(k : Int), W4.of [x, x]⟩ }))[i]? = some (if i = k then { arrS k with cel := ⟨(k : Int), W4.of [x, x]⟩ } else arrS i) := fun i hi => by
      rw [a6]
      by_cases e : k = i
      · subst e
        rw [List.getElem?_set_self (by rw [arrL_len]; omega), if_pos rfl]
      · rw [List.getElem?_set_ne e, arrL_at (by omega), if_pos hi, if_neg (fun h => e h.symm)]
    unfold Xm.load
    dsimp only
    have hs := hL i hi
    have he : errA (setA (arrL (2 * E) E) ⟨(k : Int), 1⟩ (fun s => { s with cel := ⟨(k : Int), W4.of [x, x]⟩ })) ⟨(i : Int), 1⟩ = 0 := by
      by_cases e : i = k
      · subst e
        exact errA_is (i := i) rfl (by rw [hs, if_pos rfl]) rfl rfl
      · exact errA_is (i := i) rfl (by rw [hs, if_neg e]) rfl rfl
    obtain ⟨j, s, b1, b2, b3, b4, b5, b6⟩ := errA_ok he
    obtain rfl : i = j := by have : ((i : Nat) : Int) = (j : Int) := b1; omega
    rw [he, if_neg (by decide), if_neg (by show ¬ ((1 : Int) < 0 ∨ ((2 : Nat) : Int) ≤ 1); decide), b5]
    rw [hs] at b2
    obtain rfl := Option.some.inj b2
    by_cases e : i = k
    · subst e; rw [if_pos rfl, if_pos rfl]; rfl
    · rw [if_neg e, if_neg (by omega)]; rfl
theorem ArrK.put1 {E : Nat} {key x : Int} {y : Xm} (h : ArrK E key x y) : (y.put 1 key []).1 = y ∧ ((0 ≤ key ∧ key < (E : Int)) → (y.put 1 key []).2.2 = 5) := by
  unfold Xm.put
  rw [if_neg (by rw [h.wrd]; show ¬ (((1 : Int) < 0 ∨ (2 : Int) < 1) ∨ 2 < 0); decide), if_neg (by rw [h.cl]; decide), h.C]
  by_cases c : 0 ≤ key ∧ key < (E : Int)
  · obtain ⟨k, rfl⟩ : ∃ k : Nat, key = (k : Int) := ⟨key.toNat, by omega⟩
    rw [fnd_arr (show k < E by omega)]
    exact ⟨rfl, fun _ => rfl⟩
  · rw [fnd_arr_no c]
    have : y.refE 1 = 2 := by unfold Xm.refE; rw [if_pos h.knd]
    dsimp only
    rw [this]
    exact ⟨rfl, fun h => absurd h c⟩
theorem ArrK.del {E : Nat} {key x : Int} {y : Xm} (h : ArrK E key x y) (k : Int) : y.del k = (y, zHd, 17) := by unfold Xm.del; rw [if_pos h.knd]
theorem unlinkL_nil : ∀ {C : List (Int × Hd)} {used ks : List Int}, (∀ k ∈ keyL C, k ∈ ks) → (unlinkL C used ks).1 = []
  | C, used, [], h => by
    cases C with
    | nil => rfl
    | cons p C => exact absurd (h p.1 List.mem_cons_self) (by simp)
  | C, used, k :: ks, h => unlinkL_nil (C := delC C k) (used := drop1O used k) (ks := ks) (fun k2 hk2 => by
      rw [keyL_del] at hk2
      obtain ⟨h1, h2⟩ := List.mem_filter.1 hk2
      rcases List.mem_cons.1 (h k2 h1) with e | h3
      · exact absurd e (of_decide_eq_true h2)
      · exact h3)
theorem unlinkL_len : ∀ (C : List (Int × Hd)) (used ks : List Int), (unlinkL C used ks).2.2.length = ks.length
  | _, _, [] => rfl
  | C, used, k :: ks => by show (_ :: (unlinkL (delC C k) (drop1O used k) ks).2.2).length = _; rw [List.length_cons, unlinkL_len, List.length_cons]
theorem close_is {y : Xm} (h : y.Ok) (hc : y.closed = false) : y.close.1.C = [] ∧ y.close.2.length = y.C.length := by
  unfold Xm.close
  rw [if_neg (by rw [hc]; decide)]
  refine ⟨unlinkL_nil (fun k hk => h.keysPerm.mem_iff.2 hk), ?_⟩
  show (unlinkL y.C y.used y.keys).2.2.length = _
  rw [unlinkL_len, h.keysLen]
theorem close_twice (y : Xm) : y.close.1.close.2 = [] := by
  have key : ∀ x : Xm, x.closed = true → x.close.2 = [] := fun x hx => by unfold Xm.close; rw [if_pos hx]
  exact key _ (close_kind y).2.2.2.1
theorem put_closed {y : Xm} (h : y.closed = true) : (y.put 2 0 []).2.2 = 22 ∧ (y.put 2 0 []).1 = y := by
  unfold Xm.put
  rw [if_neg (by show ¬ (((2 : Int) < 0 ∨ (2 : Int) < 2) ∨ y.words < 0); omega), if_pos h]
  exact ⟨rfl, rfl⟩
set_option maxHeartbeats 8000000 in
theorem xmapArrays_L {w0 : World} {H : Heap} {z key x : Int} (hkr : 0 ≤ key ∧ key < 18446744073709551616) (hTab : Tab w0) : LCalls Tryz.prog w0 3 #[.int .i64 z, .int .u64 key, .int .u64 x] (H) (fun v H' => v = .bool true ∧ H' = H) := by
  obtain ⟨n, hn8, hn⟩ : ∃ n : Nat, n < 8 ∧ (IntKind.u64.wrap z).tmod 8 = (n : Int) := modX z (by decide)
  refine L_enter (l := [.int .i64 z, .int .u64 key, .int .u64 x]) Tryz.func3 rfl Tryz.ntmps3 rfl rfl ?_
  rcases (show (∃ k : Nat, key = (k : Int) ∧ k < n + 1) ∨ ¬ (0 ≤ key ∧ key < ((n + 1 : Nat) : Int)) by by_cases h : 0 ≤ key ∧ key < ((n + 1 : Nat) : Int); exact .inl ⟨key.toNat, by omega, by omega⟩; exact .inr h) with ⟨k, rfl, hki⟩ | hko
  · skip
    refine W_sr ?_
    refine W_assign rfl rfl ?_
    refine W_nil ?_
    refine W_sr ?_
    refine W_move rfl rfl ?_
    refine W_conv (m := IntKind.u64.wrap z) rfl ty3 ty22 rfl rfl ?_
    refine W_bin rfl rfl (b_rem (by decide) (m := (n : Int)) hn) rfl ?_
    refine W_conv rfl ty22 ty3 (i64w (by omega)) rfl ?_
    refine W_bin rfl rfl (b_add (m := ((n + 1 : Nat) : Int)) (by rw [i64w (by omega)]; omega)) rfl ?_
    obtain ⟨E, hE⟩ : ∃ E, E = n + 1 := ⟨_, rfl⟩
    rw [← hE]
    try rw [← hE] at hki
    try rw [← hE] at hko
    clear hn
    refine W_assign rfl rfl ?_
    refine W_nil ?_
    refine W_sr ?_
    refine W_move rfl rfl ?_
    refine W_call (.cons rfl (.cons rfl (.cons rfl .nil))) Tryz.call8 rfl (XmH.new hTab (kind := 0) (entries := E) (words := 2) (by decide) (by omega) (by decide)) ?_
    rintro v H' ⟨mb, HX0, hX0, rfl, rfl⟩
    refine W_move rfl rfl ?_
    refine W_extract rfl rfl rfl ?_
    refine W_extract rfl rfl rfl ?_
    refine W_assign rfl rfl ?_
    refine W_assign rfl rfl ?_
    refine W_nil ?_
    refine W_seq ?_
    refine W_sr ?_
    refine W_move rfl rfl ?_
    refine W_bin rfl rfl b_neq rfl ?_
    rw [decide_eq_false (by decide)]
    refine W_move rfl rfl ?_
    refine W_gyes rfl rfl ?_
    refine W_move rfl rfl ?_
    refine W_gyes rfl rfl ?_
    refine W_callq (.cons rfl .nil) Tryz.call9 rfl (hX0.len (fun p hp => by repeat (first | exact List.mem_append_left _ hp | apply List.mem_cons_of_mem | apply List.mem_append_right))) ?_
    rw [show (Xm.new 0 E 2).C.length = E from arrC_len E]
    refine W_gyes rfl rfl ?_
    refine W_move rfl rfl ?_
    refine W_gyes rfl rfl ?_
    refine W_bin rfl rfl b_neq rfl ?_
    rw [decide_eq_false (fun h => h rfl)]
    first | refine W_pickt rfl rfl rfl ?_ | refine W_pickf rfl rfl rfl ?_
    refine W_move rfl rfl ?_
    refine W_gyes rfl rfl ?_
    refine W_move rfl rfl ?_
    refine W_gyes rfl rfl ?_
    refine W_callq (.cons rfl .nil) Tryz.call10 rfl (hX0.held (fun p hp => by repeat (first | exact List.mem_append_left _ hp | apply List.mem_cons_of_mem | apply List.mem_append_right))) ?_
    rw [show cntA 1 (Xm.new 0 E 2).L = E from cnt_arr E (by omega)]
    refine W_gyes rfl rfl ?_
    refine W_move rfl rfl ?_
    refine W_gyes rfl rfl ?_
    refine W_bin rfl rfl b_neq rfl ?_
    rw [decide_eq_false (fun h => h rfl)]
    first | refine W_pickt rfl rfl rfl ?_ | refine W_pickf rfl rfl rfl ?_
    refine W_nil ?_
    refine W_condF rfl rfl ?_
    refine W_skip ?_
    refine W_sr ?_
    refine W_move rfl rfl ?_
    refine W_move rfl rfl ?_
    refine W_conv rfl ty3 ty22 (u64w (by omega)) rfl ?_
    refine W_bin rfl rfl b_lss rfl ?_
    rw [decide_eq_true (by omega)]
    refine W_assign rfl rfl ?_
    refine W_nil ?_
    refine W_sr ?_
    refine W_move rfl rfl ?_
    refine W_move rfl rfl ?_
    refine W_move rfl rfl ?_
    refine W_move rfl rfl ?_
    refine W_buildSlice (l := [.int .u64 x, .int .u64 x]) ty42 ty22 (.cons rfl rfl rfl rfl rfl (.cons rfl rfl rfl rfl rfl .nil)) rfl rfl rfl rfl rfl rfl rfl (fun b58 => ?_)
    refine W_call (.cons rfl (.cons rfl (.cons rfl (.cons rfl .nil)))) Tryz.call11 rfl ((hX0.put hTab (by decide) (how := 0) (k := (k : Int)) (ws := [x, x]) (cap := 2) hkr (Holds.own (b := b58) zM) (H := (b58, .cells 22 (2 * 1) [.int .u64 x, .int .u64 x]) :: H)).hsub zH) ?_
    rintro v H' ⟨HX1, hX1, rfl, rfl⟩
    have hK := arrK_in (x := x) hki
    have hPv : ((Xm.new 0 E 2).put 0 (k : Int) [x, x]).2 = (⟨⟨(k : Int), 1⟩, zHd, false⟩, 0) := by rw [arr_put hki]
    obtain ⟨y, hy⟩ : ∃ y, y = ((Xm.new 0 E 2).put 0 (k : Int) [x, x]).1 := ⟨_, rfl⟩
    rw [← hy] at hX1 hK
    rw [show ((Xm.new 0 E 2).put 0 (k : Int) [x, x]).2.1 = ⟨⟨(k : Int), 1⟩, zHd, false⟩ from congrArg Prod.fst hPv, show ((Xm.new 0 E 2).put 0 (k : Int) [x, x]).2.2 = 0 from congrArg Prod.snd hPv]
    refine W_move rfl rfl ?_
    refine W_extract rfl rfl rfl ?_
    refine W_extract rfl rfl rfl ?_
    refine W_alloc (l := puttC zPutt) ty31 rfl rfl (fun b10 => ?_)
    refine W_storeA (l' := puttC ⟨⟨(k : Int), 1⟩, zHd, false⟩) rfl rfl ty31 rfl rfl (b := b10) zM (by exact Nat.le_refl 5) rfl zU ?_
    refine W_assign rfl rfl ?_
    refine W_nil ?_
    refine W_sr ?_
    refine W_move rfl rfl ?_
    refine W_move rfl rfl ?_
    refine W_call (.cons rfl (.cons rfl .nil)) Tryz.call12 rfl ((hX1.del (k := (k : Int)) (H := (b10, .cells 31 5 (puttC ⟨⟨(k : Int), 1⟩, zHd, false⟩)) :: H)).hsub zH) ?_
    rintro v H' ⟨HX2, hX2, rfl, rfl⟩
    rw [hK.del] at hX2 ⊢
    replace hX2 : XmH _ _ y _ := hX2
    refine W_move rfl rfl ?_
    refine W_extract rfl rfl rfl ?_
    refine W_extract rfl rfl rfl ?_
    refine W_alloc (l := hdC zHd) ty29 rfl rfl (fun b12 => ?_)
    refine W_storeA (l' := hdC zHd) rfl rfl ty29 rfl rfl (b := b12) zM (by exact Nat.le_refl 2) rfl zU ?_
    refine W_assign rfl rfl ?_
    refine W_nil ?_
    refine W_sr ?_
    refine W_move rfl rfl ?_
    refine W_move rfl rfl ?_
    refine W_call (.cons rfl (.cons rfl (.cons rfl (.cons rfl .nil)))) Tryz.call11 rfl ((hX2.put hTab (by decide) (how := 1) (k := (k : Int)) (ws := []) (cap := 0) hkr Holds.nil (H := (b10, .cells 31 5 (puttC ⟨⟨(k : Int), 1⟩, zHd, false⟩)) :: H)).hsub zH) ?_
    rintro v H' ⟨HX3, hX3, rfl, rfl⟩
    rw [hK.put1.1] at hX3
    obtain ⟨p3, hp3⟩ : ∃ p3, p3 = (Xm.put y 1 (k : Int) []).2.1 := ⟨_, rfl⟩
    obtain ⟨e3, he3⟩ : ∃ e3, e3 = (Xm.put y 1 (k : Int) []).2.2 := ⟨_, rfl⟩
    rw [← hp3, ← he3]
    rw [hK.put1.2 (by omega)] at he3
    refine W_move rfl rfl ?_
    refine W_extract rfl rfl rfl ?_
    refine W_extract rfl rfl rfl ?_
    refine W_alloc (l := puttC zPutt) ty31 rfl rfl (fun b14 => ?_)
    refine W_storeA (l' := puttC p3) rfl rfl ty31 rfl rfl (b := b14) zM (by exact Nat.le_refl 5) rfl zU ?_
    refine W_assign rfl rfl ?_
    refine W_nil ?_
    refine W_seq ?_
    refine W_sr ?_
    refine W_move rfl rfl ?_
    refine W_move rfl rfl ?_
    refine W_bin rfl rfl b_eql rfl ?_
    rw [decide_eq_true (by decide)]
    refine W_bne rfl rfl ty4 rfl ?_
    refine W_move rfl rfl ?_
    refine W_gyes rfl rfl ?_
    refine W_move rfl rfl ?_
    refine W_gyes rfl rfl ?_
    refine W_not rfl rfl ?_
    refine W_gyes rfl rfl ?_
    refine W_move rfl rfl ?_
    refine W_gno rfl rfl rfl ?_
    refine W_gno rfl rfl rfl ?_
    refine W_gyes rfl rfl ?_
    first | refine W_pickt rfl rfl rfl ?_ | refine W_pickf rfl rfl rfl ?_
    first | refine W_pickt rfl rfl rfl ?_ | refine W_pickf rfl rfl rfl ?_
    refine W_move rfl rfl ?_
    refine W_gyes rfl rfl ?_
    refine W_move rfl rfl ?_
    refine W_gyes rfl rfl ?_
    refine W_bin rfl rfl b_neq rfl ?_
    rw [decide_eq_false (by show ¬ (17 : Int) ≠ 17; decide)]
    first | refine W_pickt rfl rfl rfl ?_ | refine W_pickf rfl rfl rfl ?_
    refine W_move rfl rfl ?_
    refine W_gyes rfl rfl ?_
    refine W_move rfl rfl ?_
    refine W_gyes rfl rfl ?_
    refine W_move rfl rfl ?_
    refine W_gyes rfl rfl ?_
    refine W_move rfl rfl ?_
    refine W_gyes rfl rfl ?_
    refine W_bin rfl rfl b_neq rfl ?_
    rw [decide_eq_false (by rw [he3]; decide)]
    refine W_gyes rfl rfl ?_
    refine W_move rfl rfl ?_
    refine W_gyes rfl rfl ?_
    refine W_fieldAddr rfl fld31_0 (by decide) rfl ?_
    refine W_gyes rfl rfl ?_
    refine W_fieldAddr rfl fld29_0 (by decide) rfl ?_
    refine W_gyes rfl rfl ?_
    refine W_load (v := .int .i64 (k : Int)) rfl ty3 rfl (Cell.own (b := b10) zM rfl) rfl ?_
    refine W_gyes rfl rfl ?_
    refine W_move rfl rfl ?_
    refine W_gyes rfl rfl ?_
    refine W_conv (m := (k : Int)) rfl ty22 ty3 (i64w (by omega)) rfl ?_
    refine W_gyes rfl rfl ?_
    refine W_bin rfl rfl b_neq rfl ?_
    rw [decide_eq_false (fun h => h rfl)]
    refine W_gyes rfl rfl ?_
    first | refine W_pickt rfl rfl rfl ?_ | refine W_pickf rfl rfl rfl ?_
    refine W_gyes rfl rfl ?_
    first | refine W_pickt rfl rfl rfl ?_ | refine W_pickf rfl rfl rfl ?_
    first | refine W_pickt rfl rfl rfl ?_ | refine W_pickf rfl rfl rfl ?_
    refine W_nil ?_
    refine W_condF rfl rfl ?_
    refine W_skip ?_
    refine W_seq ?_
    refine W_sr ?_
    refine W_assign rfl rfl ?_
    refine W_nil ?_
    refine W_block ?_
    refine W_loopC (X := Nat) [(0, _), (1, _), (2, _), (7, _)] (fun (i : Nat) => [(16, .int .i64 (i : Int))]) (fun _ => _) (fun (i : Nat) => HX3 ++ H) (fun (i : Nat) => i ≤ E) (fun (i : Nat) => E - i) 0 (Nat.zero_le _) (sub_cons rfl (sub_cons rfl (sub_cons rfl (sub_cons rfl (sub_nil _))))) (sub_cons rfl (sub_nil _)) rfl zH ?_
    intro i hi
    simp only [List.cons_append, List.nil_append]
    refine W_seq ?_
    refine W_sr ?_
    refine W_move rfl rfl ?_
    refine W_move rfl rfl ?_
    refine W_bin rfl rfl b_lss rfl ?_
    refine W_nil ?_
    refine W_condPS (p := (i : Int) < (E : Int)) rfl (by simp) (fun q0 => ?_) (fun q0 => ?_)
    · skip
      refine W_skip ?_
      refine W_seq ?_
      refine W_block ?_
      refine W_sr ?_
      refine W_move rfl rfl ?_
      refine W_move rfl rfl ?_
      refine W_conv rfl ty3 ty22 (u64w (by omega)) rfl ?_
      refine W_callq (.cons rfl (.cons rfl .nil)) Tryz.call13 rfl (hX3.look (k := (i : Int)) (fun p hp => by repeat (first | exact List.mem_append_left _ hp | apply List.mem_cons_of_mem | apply List.mem_append_right))) ?_
      rw [hK.C, fnd_arr (show i < E by omega)]
      simp only [Option.getD_some, Option.isSome_some, if_true]
      refine W_move rfl rfl ?_
      refine W_extract rfl rfl rfl ?_
      refine W_extract rfl rfl rfl ?_
      refine W_alloc (l := hdC zHd) ty29 rfl rfl (fun b17 => ?_)
      refine W_storeA (l' := hdC ⟨(i : Int), 1⟩) rfl rfl ty29 rfl rfl (b := b17) zM (by exact Nat.le_refl 2) rfl zU ?_
      refine W_assign rfl rfl ?_
      refine W_nil ?_
      refine W_sr ?_
      refine W_move rfl rfl ?_
      refine W_loadB (vs := hdC ⟨(i : Int), 1⟩) rfl ty29 rfl (b := b17) zM rfl rfl rfl ?_
      refine W_callq (.cons rfl (.cons rfl (.cons rfl .nil))) Tryz.call14 rfl (hX3.load (h := ⟨(i : Int), 1⟩) (at_ := 1) (fun p hp => by repeat (first | exact List.mem_append_left _ hp | apply List.mem_cons_of_mem | apply List.mem_append_right))) ?_
      rw [hK.ld i (by omega)]
      dsimp only
      obtain ⟨w1, hw1⟩ : ∃ w1, w1 = (if (i : Int) = (k : Int) then x else 0) := ⟨_, rfl⟩
      rw [← hw1]
      refine W_move rfl rfl ?_
      refine W_extract rfl rfl rfl ?_
      refine W_extract rfl rfl rfl ?_
      refine W_assign rfl rfl ?_
      refine W_assign rfl rfl ?_
      refine W_nil ?_
      refine W_sr ?_
      refine W_assign rfl rfl ?_
      refine W_nil ?_
      refine W_seq ?_
      refine W_sr ?_
      refine W_move rfl rfl ?_
      refine W_conv rfl ty3 ty22 (u64w (by omega)) rfl ?_
      refine W_move rfl rfl ?_
      refine W_bin rfl rfl b_eql rfl ?_
      refine W_nil ?_
      refine W_condJ (p := (i : Int) = (k : Int)) [(1, .int .u64 (k : Int)), (2, .int .u64 x), (0, .int .i64 (E : Int)), (7, .pointer (some ⟨mb, 0, none⟩)), (16, .int .i64 (i : Int)), (17, .pointer (some ⟨b17, 0, none⟩)), (18, .int .i64 0), (19, .int .u64 w1), (20, .int .i64 0), (21, .int .u64 (if (i : Int) = (k : Int) then x else 0))] ((b17, .cells 29 2 (hdC ⟨(i : Int), 1⟩)) :: (HX3 ++ H)) rfl (by simp) (fun q1 => ?_) (fun q1 => ?_) ?_
      · skip
        refine W_region ?_
        refine W_move rfl rfl ?_
        refine W_assign rfl rfl ?_
        refine W_nil ?_
        refine W_joined (sub_cons rfl (sub_cons rfl (sub_cons rfl (sub_cons rfl (sub_cons rfl (sub_cons rfl (sub_cons rfl (sub_cons rfl (sub_cons rfl (sub_cons (by rw [if_pos q1]; rfl) (sub_nil _))))))))))) zH
      · skip
        refine W_skip ?_
        refine W_joined (sub_cons rfl (sub_cons rfl (sub_cons rfl (sub_cons rfl (sub_cons rfl (sub_cons rfl (sub_cons rfl (sub_cons rfl (sub_cons rfl (sub_cons (by rw [if_neg q1]; rfl) (sub_nil _))))))))))) zH
      skip
      refine W_sr ?_
      refine W_move rfl rfl ?_
      refine W_bin rfl rfl b_neq rfl ?_
      rw [decide_eq_false (by decide)]
      refine W_move rfl rfl ?_
      refine W_gyes rfl rfl ?_
      refine W_move rfl rfl ?_
      refine W_gyes rfl rfl ?_
      refine W_bin rfl rfl b_neq rfl ?_
      rw [decide_eq_false (by decide)]
      first | refine W_pickt rfl rfl rfl ?_ | refine W_pickf rfl rfl rfl ?_
      refine W_move rfl rfl ?_
      refine W_gyes rfl rfl ?_
      refine W_fieldAddr rfl fld29_0 (by decide) rfl ?_
      refine W_gyes rfl rfl ?_
      refine W_load (v := .int .i64 (i : Int)) rfl ty3 rfl (Cell.own (b := b17) zM rfl) rfl ?_
      refine W_gyes rfl rfl ?_
      refine W_move rfl rfl ?_
      refine W_gyes rfl rfl ?_
      refine W_bin rfl rfl b_neq rfl ?_
      rw [decide_eq_false (fun h => h rfl)]
      first | refine W_pickt rfl rfl rfl ?_ | refine W_pickf rfl rfl rfl ?_
      refine W_move rfl rfl ?_
      refine W_gyes rfl rfl ?_
      refine W_move rfl rfl ?_
      refine W_gyes rfl rfl ?_
      refine W_move rfl rfl ?_
      refine W_gyes rfl rfl ?_
      refine W_bin rfl rfl b_neq rfl ?_
      rw [decide_eq_false (fun h => h hw1)]
      first | refine W_pickt rfl rfl rfl ?_ | refine W_pickf rfl rfl rfl ?_
      refine W_nil ?_
      refine W_condF rfl rfl ?_
      refine W_skip ?_
      refine W_blk ?_
      refine W_region ?_
      refine W_move rfl rfl ?_
      refine W_bin rfl rfl (b_add (m := ((i + 1 : Nat) : Int)) ((i64w (by omega)).trans (by omega))) rfl ?_
      refine W_assign rfl rfl ?_
      refine W_nil ?_
      refine W_again (i + 1) (by omega) (by omega) (sub_cons rfl (sub_cons rfl (sub_cons rfl (sub_cons rfl (sub_cons rfl (sub_nil _)))))) rfl zH
    · skip
      refine W_exit rfl ?_
      refine W_sr ?_
      refine W_move rfl rfl ?_
      refine W_call (.cons rfl .nil) Tryz.call15 rfl ((hX3.close (H := H)).hsub zH) ?_
      rintro v H' ⟨HX4, OX, hX4, hO4, rfl⟩
      have hcl := close_is hX3.ok hK.cl
      have hck := close_kind y
      have hc2 := close_twice y
      obtain ⟨y2, hy2⟩ : ∃ y2, y2 = y.close := ⟨_, rfl⟩
      rw [← hy2] at hcl hck hc2 hX4 hO4
      rw [hcl.2, hK.C, arrC_len] at hO4
      obtain ⟨adc, capc, rfl, _, _⟩ := hO4.shape
      refine W_assign rfl rfl ?_
      refine W_nil ?_
      refine W_sr ?_
      refine W_move rfl rfl ?_
      refine W_call (.cons rfl (.cons rfl (.cons rfl (.cons rfl .nil)))) Tryz.call11 rfl ((hX4.put hTab (by decide) (how := 2) (k := 0) (ws := []) (cap := 0) (by decide) Holds.nil (H := H)).hsub zH) ?_
      rintro v H' ⟨HX5, hX5, rfl, rfl⟩
      have hpc := put_closed hck.2.2.2.1
      rw [hpc.2] at hX5
      rw [hpc.1]
      obtain ⟨p5, hp5⟩ : ∃ p5, p5 = (Xm.put y2.1 2 0 []).2.1 := ⟨_, rfl⟩
      rw [← hp5]
      refine W_move rfl rfl ?_
      refine W_extract rfl rfl rfl ?_
      refine W_extract rfl rfl rfl ?_
      refine W_alloc (l := puttC zPutt) ty31 rfl rfl (fun b23 => ?_)
      refine W_storeA (l' := puttC p5) rfl rfl ty31 rfl rfl (b := b23) zM (by exact Nat.le_refl 5) rfl zU ?_
      refine W_assign rfl rfl ?_
      refine W_nil ?_
      refine W_sr ?_
      refine W_callp .nil Tryz.call16 rfl hTab xknown_pure ?_
      refine W_move rfl rfl ?_
      refine W_gyes rfl rfl ?_
      refine W_move rfl rfl ?_
      refine W_gyes rfl rfl ?_
      refine W_len rfl ty38 rfl rfl ?_
      refine W_gyes rfl rfl ?_
      refine W_move rfl rfl ?_
      refine W_gyes rfl rfl ?_
      refine W_bin rfl rfl b_eql rfl ?_
      rw [decide_eq_true (by rfl)]
      first | refine W_pickt rfl rfl rfl ?_ | refine W_pickf rfl rfl rfl ?_
      refine W_move rfl rfl ?_
      refine W_gyes rfl rfl ?_
      refine W_move rfl rfl ?_
      refine W_gyes rfl rfl ?_
      refine W_callq (.cons rfl .nil) Tryz.call9 rfl (hX5.len (fun p hp => by repeat (first | exact List.mem_append_left _ hp | apply List.mem_cons_of_mem | apply List.mem_append_right))) ?_
      rw [hcl.1]
      refine W_gyes rfl rfl ?_
      refine W_bin rfl rfl b_eql rfl ?_
      rw [decide_eq_true (by rfl)]
      first | refine W_pickt rfl rfl rfl ?_ | refine W_pickf rfl rfl rfl ?_
      refine W_move rfl rfl ?_
      refine W_gyes rfl rfl ?_
      refine W_move rfl rfl ?_
      refine W_gyes rfl rfl ?_
      refine W_callq (.cons rfl .nil) Tryz.call10 rfl (hX5.held (fun p hp => by repeat (first | exact List.mem_append_left _ hp | apply List.mem_cons_of_mem | apply List.mem_append_right))) ?_
      rw [hck.2.2.2.2, hK.cnt]
      refine W_gyes rfl rfl ?_
      refine W_move rfl rfl ?_
      refine W_gyes rfl rfl ?_
      refine W_bin rfl rfl b_eql rfl ?_
      rw [decide_eq_true (by rfl)]
      first | refine W_pickt rfl rfl rfl ?_ | refine W_pickf rfl rfl rfl ?_
      refine W_move rfl rfl ?_
      refine W_gyes rfl rfl ?_
      refine W_move rfl rfl ?_
      refine W_gyes rfl rfl ?_
      refine W_bin rfl rfl b_eql rfl ?_
      rw [decide_eq_true (by rfl)]
      first | refine W_pickt rfl rfl rfl ?_ | refine W_pickf rfl rfl rfl ?_
      refine W_move rfl rfl ?_
      refine W_gyes rfl rfl ?_
      refine W_move rfl rfl ?_
      refine W_gyes rfl rfl ?_
      refine W_call (.cons rfl .nil) Tryz.call15 rfl ((hX5.close (H := H)).hsub zH) ?_
      rintro v H' ⟨HX6, OX6, hX6, hO6, rfl⟩
      rw [hc2] at hO6
      obtain ⟨ad6, cap6, rfl, _, _⟩ := hO6.shape
      refine W_gyes rfl rfl ?_
      refine W_len rfl ty38 rfl rfl ?_
      refine W_gyes rfl rfl ?_
      refine W_bin rfl rfl b_eql rfl ?_
      rw [decide_eq_true (by rfl)]
      first | refine W_pickt rfl rfl rfl ?_ | refine W_pickf rfl rfl rfl ?_
      refine W_assign rfl rfl ?_
      refine W_nil ?_
      refine W_ret1m (H2 := H) Tryz.results3 rfl (.nil _) zH ?_
      exact ⟨rfl, rfl⟩
  · skip
    refine W_sr ?_
    refine W_assign rfl rfl ?_
    refine W_nil ?_
    refine W_sr ?_
    refine W_move rfl rfl ?_
    refine W_conv (m := IntKind.u64.wrap z) rfl ty3 ty22 rfl rfl ?_
    refine W_bin rfl rfl (b_rem (by decide) (m := (n : Int)) hn) rfl ?_
    refine W_conv rfl ty22 ty3 (i64w (by omega)) rfl ?_
    refine W_bin rfl rfl (b_add (m := ((n + 1 : Nat) : Int)) (by rw [i64w (by omega)]; omega)) rfl ?_
    obtain ⟨E, hE⟩ : ∃ E, E = n + 1 := ⟨_, rfl⟩
    rw [← hE]
    try rw [← hE] at hki
    try rw [← hE] at hko
    clear hn
    refine W_assign rfl rfl ?_
    refine W_nil ?_
    refine W_sr ?_
    refine W_move rfl rfl ?_
    refine W_call (.cons rfl (.cons rfl (.cons rfl .nil))) Tryz.call8 rfl (XmH.new hTab (kind := 0) (entries := E) (words := 2) (by decide) (by omega) (by decide)) ?_
    rintro v H' ⟨mb, HX0, hX0, rfl, rfl⟩
    refine W_move rfl rfl ?_
    refine W_extract rfl rfl rfl ?_
    refine W_extract rfl rfl rfl ?_
    refine W_assign rfl rfl ?_
    refine W_assign rfl rfl ?_
    refine W_nil ?_
    refine W_seq ?_
    refine W_sr ?_
    refine W_move rfl rfl ?_
    refine W_bin rfl rfl b_neq rfl ?_
    rw [decide_eq_false (by decide)]
    refine W_move rfl rfl ?_
    refine W_gyes rfl rfl ?_
    refine W_move rfl rfl ?_
    refine W_gyes rfl rfl ?_
    refine W_callq (.cons rfl .nil) Tryz.call9 rfl (hX0.len (fun p hp => by repeat (first | exact List.mem_append_left _ hp | apply List.mem_cons_of_mem | apply List.mem_append_right))) ?_
    rw [show (Xm.new 0 E 2).C.length = E from arrC_len E]
    refine W_gyes rfl rfl ?_
    refine W_move rfl rfl ?_
    refine W_gyes rfl rfl ?_
    refine W_bin rfl rfl b_neq rfl ?_
    rw [decide_eq_false (fun h => h rfl)]
    first | refine W_pickt rfl rfl rfl ?_ | refine W_pickf rfl rfl rfl ?_
    refine W_move rfl rfl ?_
    refine W_gyes rfl rfl ?_
    refine W_move rfl rfl ?_
    refine W_gyes rfl rfl ?_
    refine W_callq (.cons rfl .nil) Tryz.call10 rfl (hX0.held (fun p hp => by repeat (first | exact List.mem_append_left _ hp | apply List.mem_cons_of_mem | apply List.mem_append_right))) ?_
    rw [show cntA 1 (Xm.new 0 E 2).L = E from cnt_arr E (by omega)]
    refine W_gyes rfl rfl ?_
    refine W_move rfl rfl ?_
    refine W_gyes rfl rfl ?_
    refine W_bin rfl rfl b_neq rfl ?_
    rw [decide_eq_false (fun h => h rfl)]
    first | refine W_pickt rfl rfl rfl ?_ | refine W_pickf rfl rfl rfl ?_
    refine W_nil ?_
    refine W_condF rfl rfl ?_
    refine W_skip ?_
    refine W_sr ?_
    refine W_move rfl rfl ?_
    refine W_move rfl rfl ?_
    refine W_conv rfl ty3 ty22 (u64w (by omega)) rfl ?_
    refine W_bin rfl rfl b_lss rfl ?_
    rw [decide_eq_false (by omega)]
    refine W_assign rfl rfl ?_
    refine W_nil ?_
    refine W_sr ?_
    refine W_move rfl rfl ?_
    refine W_move rfl rfl ?_
    refine W_move rfl rfl ?_
    refine W_move rfl rfl ?_
    refine W_buildSlice (l := [.int .u64 x, .int .u64 x]) ty42 ty22 (.cons rfl rfl rfl rfl rfl (.cons rfl rfl rfl rfl rfl .nil)) rfl rfl rfl rfl rfl rfl rfl (fun b58 => ?_)
    refine W_call (.cons rfl (.cons rfl (.cons rfl (.cons rfl .nil)))) Tryz.call11 rfl ((hX0.put hTab (by decide) (how := 0) (k := key) (ws := [x, x]) (cap := 2) hkr (Holds.own (b := b58) zM) (H := (b58, .cells 22 (2 * 1) [.int .u64 x, .int .u64 x]) :: H)).hsub zH) ?_
    rintro v H' ⟨HX1, hX1, rfl, rfl⟩
    have hK := arrK_no (x := x) hko
    rw [arr_put_no hko] at hX1 ⊢
    obtain ⟨y, hy⟩ : ∃ y, y = Xm.new 0 E 2 := ⟨_, rfl⟩
    replace hX1 : XmH _ _ (Xm.new 0 E 2) _ := hX1
    rw [← hy] at hX1 hK
    refine W_move rfl rfl ?_
    refine W_extract rfl rfl rfl ?_
    refine W_extract rfl rfl rfl ?_
    refine W_alloc (l := puttC zPutt) ty31 rfl rfl (fun b10 => ?_)
    refine W_storeA (l' := puttC zPutt) rfl rfl ty31 rfl rfl (b := b10) zM (by exact Nat.le_refl 5) rfl zU ?_
    refine W_assign rfl rfl ?_
    refine W_nil ?_
    refine W_sr ?_
    refine W_move rfl rfl ?_
    refine W_move rfl rfl ?_
    refine W_call (.cons rfl (.cons rfl .nil)) Tryz.call12 rfl ((hX1.del (k := key) (H := (b10, .cells 31 5 (puttC zPutt)) :: H)).hsub zH) ?_
    rintro v H' ⟨HX2, hX2, rfl, rfl⟩
    rw [hK.del] at hX2 ⊢
    replace hX2 : XmH _ _ y _ := hX2
    refine W_move rfl rfl ?_
    refine W_extract rfl rfl rfl ?_
    refine W_extract rfl rfl rfl ?_
    refine W_alloc (l := hdC zHd) ty29 rfl rfl (fun b12 => ?_)
    refine W_storeA (l' := hdC zHd) rfl rfl ty29 rfl rfl (b := b12) zM (by exact Nat.le_refl 2) rfl zU ?_
    refine W_assign rfl rfl ?_
    refine W_nil ?_
    refine W_sr ?_
    refine W_move rfl rfl ?_
    refine W_move rfl rfl ?_
    refine W_call (.cons rfl (.cons rfl (.cons rfl (.cons rfl .nil)))) Tryz.call11 rfl ((hX2.put hTab (by decide) (how := 1) (k := key) (ws := []) (cap := 0) hkr Holds.nil (H := (b10, .cells 31 5 (puttC zPutt)) :: H)).hsub zH) ?_
    rintro v H' ⟨HX3, hX3, rfl, rfl⟩
    rw [hK.put1.1] at hX3
    obtain ⟨p3, hp3⟩ : ∃ p3, p3 = (Xm.put y 1 key []).2.1 := ⟨_, rfl⟩
    obtain ⟨e3, he3⟩ : ∃ e3, e3 = (Xm.put y 1 key []).2.2 := ⟨_, rfl⟩
    rw [← hp3, ← he3]
    refine W_move rfl rfl ?_
    refine W_extract rfl rfl rfl ?_
    refine W_extract rfl rfl rfl ?_
    refine W_alloc (l := puttC zPutt) ty31 rfl rfl (fun b14 => ?_)
    refine W_storeA (l' := puttC p3) rfl rfl ty31 rfl rfl (b := b14) zM (by exact Nat.le_refl 5) rfl zU ?_
    refine W_assign rfl rfl ?_
    refine W_nil ?_
    refine W_seq ?_
    refine W_sr ?_
    refine W_move rfl rfl ?_
    refine W_move rfl rfl ?_
    refine W_bin rfl rfl b_eql rfl ?_
    rw [decide_eq_false (by show ¬ (2 : Int) = 0; decide)]
    refine W_bne rfl rfl ty4 rfl ?_
    refine W_move rfl rfl ?_
    refine W_gyes rfl rfl ?_
    refine W_move rfl rfl ?_
    refine W_gyes rfl rfl ?_
    refine W_not rfl rfl ?_
    refine W_gyes rfl rfl ?_
    refine W_move rfl rfl ?_
    refine W_gyes rfl rfl ?_
    refine W_move rfl rfl ?_
    refine W_gyes rfl rfl ?_
    refine W_bin rfl rfl b_neq rfl ?_
    rw [decide_eq_false (by show ¬ (2 : Int) ≠ 2; decide)]
    refine W_gyes rfl rfl ?_
    first | refine W_pickt rfl rfl rfl ?_ | refine W_pickf rfl rfl rfl ?_
    first | refine W_pickt rfl rfl rfl ?_ | refine W_pickf rfl rfl rfl ?_
    refine W_move rfl rfl ?_
    refine W_gyes rfl rfl ?_
    refine W_move rfl rfl ?_
    refine W_gyes rfl rfl ?_
    refine W_bin rfl rfl b_neq rfl ?_
    rw [decide_eq_false (by show ¬ (17 : Int) ≠ 17; decide)]
    first | refine W_pickt rfl rfl rfl ?_ | refine W_pickf rfl rfl rfl ?_
    refine W_move rfl rfl ?_
    refine W_gyes rfl rfl ?_
    refine W_move rfl rfl ?_
    refine W_gyes rfl rfl ?_
    refine W_move rfl rfl ?_
    refine W_gno rfl rfl rfl ?_
    refine W_gno rfl rfl rfl ?_
    refine W_gno rfl rfl rfl ?_
    refine W_gnou rfl rfl rfl ?_
    refine W_gnou rfl rfl rfl ?_
    refine W_gnou rfl rfl rfl ?_
    refine W_gnou rfl rfl rfl ?_
    refine W_gnou rfl rfl rfl ?_
    refine W_gnou rfl rfl rfl ?_
    refine W_gno rfl rfl rfl ?_
    refine W_gyes rfl rfl ?_
    first | refine W_pickt rfl rfl rfl ?_ | refine W_pickf rfl rfl rfl ?_
    first | refine W_pickt rfl rfl rfl ?_ | refine W_pickf rfl rfl rfl ?_
    refine W_nil ?_
    refine W_condF rfl rfl ?_
    refine W_skip ?_
    refine W_seq ?_
    refine W_sr ?_
    refine W_assign rfl rfl ?_
    refine W_nil ?_
    refine W_block ?_
    refine W_loopC (X := Nat) [(0, _), (1, _), (2, _), (7, _)] (fun (i : Nat) => [(16, .int .i64 (i : Int))]) (fun _ => _) (fun (i : Nat) => HX3 ++ H) (fun (i : Nat) => i ≤ E) (fun (i : Nat) => E - i) 0 (Nat.zero_le _) (sub_cons rfl (sub_cons rfl (sub_cons rfl (sub_cons rfl (sub_nil _))))) (sub_cons rfl (sub_nil _)) rfl zH ?_
    intro i hi
    simp only [List.cons_append, List.nil_append]
    refine W_seq ?_
    refine W_sr ?_
    refine W_move rfl rfl ?_
    refine W_move rfl rfl ?_
    refine W_bin rfl rfl b_lss rfl ?_
    refine W_nil ?_
    refine W_condPS (p := (i : Int) < (E : Int)) rfl (by simp) (fun q0 => ?_) (fun q0 => ?_)
    · skip
      refine W_skip ?_
      refine W_seq ?_
      refine W_block ?_
      refine W_sr ?_
      refine W_move rfl rfl ?_
      refine W_move rfl rfl ?_
      refine W_conv rfl ty3 ty22 (u64w (by omega)) rfl ?_
      refine W_callq (.cons rfl (.cons rfl .nil)) Tryz.call13 rfl (hX3.look (k := (i : Int)) (fun p hp => by repeat (first | exact List.mem_append_left _ hp | apply List.mem_cons_of_mem | apply List.mem_append_right))) ?_
      rw [hK.C, fnd_arr (show i < E by omega)]
      simp only [Option.getD_some, Option.isSome_some, if_true]
      refine W_move rfl rfl ?_
      refine W_extract rfl rfl rfl ?_
      refine W_extract rfl rfl rfl ?_
      refine W_alloc (l := hdC zHd) ty29 rfl rfl (fun b17 => ?_)
      refine W_storeA (l' := hdC ⟨(i : Int), 1⟩) rfl rfl ty29 rfl rfl (b := b17) zM (by exact Nat.le_refl 2) rfl zU ?_
      refine W_assign rfl rfl ?_
      refine W_nil ?_
      refine W_sr ?_
      refine W_move rfl rfl ?_
      refine W_loadB (vs := hdC ⟨(i : Int), 1⟩) rfl ty29 rfl (b := b17) zM rfl rfl rfl ?_
      refine W_callq (.cons rfl (.cons rfl (.cons rfl .nil))) Tryz.call14 rfl (hX3.load (h := ⟨(i : Int), 1⟩) (at_ := 1) (fun p hp => by repeat (first | exact List.mem_append_left _ hp | apply List.mem_cons_of_mem | apply List.mem_append_right))) ?_
      rw [hK.ld i (by omega)]
      dsimp only
      obtain ⟨w1, hw1⟩ : ∃ w1, w1 = (if (i : Int) = key then x else 0) := ⟨_, rfl⟩
      rw [← hw1]
      refine W_move rfl rfl ?_
      refine W_extract rfl rfl rfl ?_
      refine W_extract rfl rfl rfl ?_
      refine W_assign rfl rfl ?_
      refine W_assign rfl rfl ?_
      refine W_nil ?_
      refine W_sr ?_
      refine W_assign rfl rfl ?_
      refine W_nil ?_
      refine W_seq ?_
      refine W_sr ?_
      refine W_move rfl rfl ?_
      refine W_conv rfl ty3 ty22 (u64w (by omega)) rfl ?_
      refine W_move rfl rfl ?_
      refine W_bin rfl rfl b_eql rfl ?_
      refine W_nil ?_
      refine W_condJ (p := (i : Int) = key) [(1, .int .u64 key), (2, .int .u64 x), (0, .int .i64 (E : Int)), (7, .pointer (some ⟨mb, 0, none⟩)), (16, .int .i64 (i : Int)), (17, .pointer (some ⟨b17, 0, none⟩)), (18, .int .i64 0), (19, .int .u64 w1), (20, .int .i64 0), (21, .int .u64 (if (i : Int) = key then x else 0))] ((b17, .cells 29 2 (hdC ⟨(i : Int), 1⟩)) :: (HX3 ++ H)) rfl (by simp) (fun q1 => ?_) (fun q1 => ?_) ?_
      · skip
        refine W_region ?_
        refine W_move rfl rfl ?_
        refine W_assign rfl rfl ?_
        refine W_nil ?_
        refine W_joined (sub_cons rfl (sub_cons rfl (sub_cons rfl (sub_cons rfl (sub_cons rfl (sub_cons rfl (sub_cons rfl (sub_cons rfl (sub_cons rfl (sub_cons (by rw [if_pos q1]; rfl) (sub_nil _))))))))))) zH
      · skip
        refine W_skip ?_
        refine W_joined (sub_cons rfl (sub_cons rfl (sub_cons rfl (sub_cons rfl (sub_cons rfl (sub_cons rfl (sub_cons rfl (sub_cons rfl (sub_cons rfl (sub_cons (by rw [if_neg q1]; rfl) (sub_nil _))))))))))) zH
      skip
      refine W_sr ?_
      refine W_move rfl rfl ?_
      refine W_bin rfl rfl b_neq rfl ?_
      rw [decide_eq_false (by decide)]
      refine W_move rfl rfl ?_
      refine W_gyes rfl rfl ?_
      refine W_move rfl rfl ?_
      refine W_gyes rfl rfl ?_
      refine W_bin rfl rfl b_neq rfl ?_
      rw [decide_eq_false (by decide)]
      first | refine W_pickt rfl rfl rfl ?_ | refine W_pickf rfl rfl rfl ?_
      refine W_move rfl rfl ?_
      refine W_gyes rfl rfl ?_
      refine W_fieldAddr rfl fld29_0 (by decide) rfl ?_
      refine W_gyes rfl rfl ?_
      refine W_load (v := .int .i64 (i : Int)) rfl ty3 rfl (Cell.own (b := b17) zM rfl) rfl ?_
      refine W_gyes rfl rfl ?_
      refine W_move rfl rfl ?_
      refine W_gyes rfl rfl ?_
      refine W_bin rfl rfl b_neq rfl ?_
      rw [decide_eq_false (fun h => h rfl)]
      first | refine W_pickt rfl rfl rfl ?_ | refine W_pickf rfl rfl rfl ?_
      refine W_move rfl rfl ?_
      refine W_gyes rfl rfl ?_
      refine W_move rfl rfl ?_
      refine W_gyes rfl rfl ?_
      refine W_move rfl rfl ?_
      refine W_gyes rfl rfl ?_
      refine W_bin rfl rfl b_neq rfl ?_
      rw [decide_eq_false (fun h => h hw1)]
      first | refine W_pickt rfl rfl rfl ?_ | refine W_pickf rfl rfl rfl ?_
      refine W_nil ?_
      refine W_condF rfl rfl ?_
      refine W_skip ?_
      refine W_blk ?_
      refine W_region ?_
      refine W_move rfl rfl ?_
      refine W_bin rfl rfl (b_add (m := ((i + 1 : Nat) : Int)) ((i64w (by omega)).trans (by omega))) rfl ?_
      refine W_assign rfl rfl ?_
      refine W_nil ?_
      refine W_again (i + 1) (by omega) (by omega) (sub_cons rfl (sub_cons rfl (sub_cons rfl (sub_cons rfl (sub_cons rfl (sub_nil _)))))) rfl zH
    · skip
      refine W_exit rfl ?_
      refine W_sr ?_
      refine W_move rfl rfl ?_
      refine W_call (.cons rfl .nil) Tryz.call15 rfl ((hX3.close (H := H)).hsub zH) ?_
      rintro v H' ⟨HX4, OX, hX4, hO4, rfl⟩
      have hcl := close_is hX3.ok hK.cl
      have hck := close_kind y
      have hc2 := close_twice y
      obtain ⟨y2, hy2⟩ : ∃ y2, y2 = y.close := ⟨_, rfl⟩
      rw [← hy2] at hcl hck hc2 hX4 hO4
      rw [hcl.2, hK.C, arrC_len] at hO4
      obtain ⟨adc, capc, rfl, _, _⟩ := hO4.shape
      refine W_assign rfl rfl ?_
      refine W_nil ?_
      refine W_sr ?_
      refine W_move rfl rfl ?_
      refine W_call (.cons rfl (.cons rfl (.cons rfl (.cons rfl .nil)))) Tryz.call11 rfl ((hX4.put hTab (by decide) (how := 2) (k := 0) (ws := []) (cap := 0) (by decide) Holds.nil (H := H)).hsub zH) ?_
      rintro v H' ⟨HX5, hX5, rfl, rfl⟩
      have hpc := put_closed hck.2.2.2.1
      rw [hpc.2] at hX5
      rw [hpc.1]
      obtain ⟨p5, hp5⟩ : ∃ p5, p5 = (Xm.put y2.1 2 0 []).2.1 := ⟨_, rfl⟩
      rw [← hp5]
      refine W_move rfl rfl ?_
      refine W_extract rfl rfl rfl ?_
      refine W_extract rfl rfl rfl ?_
      refine W_alloc (l := puttC zPutt) ty31 rfl rfl (fun b23 => ?_)
      refine W_storeA (l' := puttC p5) rfl rfl ty31 rfl rfl (b := b23) zM (by exact Nat.le_refl 5) rfl zU ?_
      refine W_assign rfl rfl ?_
      refine W_nil ?_
      refine W_sr ?_
      refine W_callp .nil Tryz.call16 rfl hTab xknown_pure ?_
      refine W_move rfl rfl ?_
      refine W_gyes rfl rfl ?_
      refine W_move rfl rfl ?_
      refine W_gyes rfl rfl ?_
      refine W_len rfl ty38 rfl rfl ?_
      refine W_gyes rfl rfl ?_
      refine W_move rfl rfl ?_
      refine W_gyes rfl rfl ?_
      refine W_bin rfl rfl b_eql rfl ?_
      rw [decide_eq_true (by rfl)]
      first | refine W_pickt rfl rfl rfl ?_ | refine W_pickf rfl rfl rfl ?_
      refine W_move rfl rfl ?_
      refine W_gyes rfl rfl ?_
      refine W_move rfl rfl ?_
      refine W_gyes rfl rfl ?_
      refine W_callq (.cons rfl .nil) Tryz.call9 rfl (hX5.len (fun p hp => by repeat (first | exact List.mem_append_left _ hp | apply List.mem_cons_of_mem | apply List.mem_append_right))) ?_
      rw [hcl.1]
      refine W_gyes rfl rfl ?_
      refine W_bin rfl rfl b_eql rfl ?_
      rw [decide_eq_true (by rfl)]
      first | refine W_pickt rfl rfl rfl ?_ | refine W_pickf rfl rfl rfl ?_
      refine W_move rfl rfl ?_
      refine W_gyes rfl rfl ?_
      refine W_move rfl rfl ?_
      refine W_gyes rfl rfl ?_
      refine W_callq (.cons rfl .nil) Tryz.call10 rfl (hX5.held (fun p hp => by repeat (first | exact List.mem_append_left _ hp | apply List.mem_cons_of_mem | apply List.mem_append_right))) ?_
      rw [hck.2.2.2.2, hK.cnt]
      refine W_gyes rfl rfl ?_
      refine W_move rfl rfl ?_
      refine W_gyes rfl rfl ?_
      refine W_bin rfl rfl b_eql rfl ?_
      rw [decide_eq_true (by rfl)]
      first | refine W_pickt rfl rfl rfl ?_ | refine W_pickf rfl rfl rfl ?_
      refine W_move rfl rfl ?_
      refine W_gyes rfl rfl ?_
      refine W_move rfl rfl ?_
      refine W_gyes rfl rfl ?_
      refine W_bin rfl rfl b_eql rfl ?_
      rw [decide_eq_true (by rfl)]
      first | refine W_pickt rfl rfl rfl ?_ | refine W_pickf rfl rfl rfl ?_
      refine W_move rfl rfl ?_
      refine W_gyes rfl rfl ?_
      refine W_move rfl rfl ?_
      refine W_gyes rfl rfl ?_
      refine W_call (.cons rfl .nil) Tryz.call15 rfl ((hX5.close (H := H)).hsub zH) ?_
      rintro v H' ⟨HX6, OX6, hX6, hO6, rfl⟩
      rw [hc2] at hO6
      obtain ⟨ad6, cap6, rfl, _, _⟩ := hO6.shape
      refine W_gyes rfl rfl ?_
      refine W_len rfl ty38 rfl rfl ?_
      refine W_gyes rfl rfl ?_
      refine W_bin rfl rfl b_eql rfl ?_
      rw [decide_eq_true (by rfl)]
      first | refine W_pickt rfl rfl rfl ?_ | refine W_pickf rfl rfl rfl ?_
      refine W_assign rfl rfl ?_
      refine W_nil ?_
      refine W_ret1m (H2 := H) Tryz.results3 rfl (.nil _) zH ?_
      exact ⟨rfl, rfl⟩
theorem xmapArrays_pure {z key x : Int} (hkr : 0 ≤ key ∧ key ≤ 18446744073709551615) : Pure Tryz.prog Tab 3 [.int .i64 z, .int .u64 key, .int .u64 x] (.bool true) := fun w0 H hT => xmapArrays_L (by omega) hT
end Go.Proofs.YtphdlpmnidiliaaGreatDoor
namespace Go.Proofs.YtphdlpmnidiliaaGreatDoor
open Go Go.Sl
attribute [local irreducible] W
theorem link_keeps {x : Xm} (hx : x.Ok) (c : Cel) {i : Nat} {s : Slt} (hs : x.L[i]? = some s) : ∃ s', (x.link c).1.L[i]? = some s' ∧ s'.own = s.own ∧ (s.st = 1 → (∀ p ∈ x.C, p.2 ≠ s.own) → s' = s ∧ ∀ p ∈ (x.link c).1.C, p.2 ≠ s.own) := by
  cases hf : firstF x.L with
  | none =>
    have e : x.link c = (x, zHd) := by unfold Xm.link; rw [hf]
    rw [e]
    exact ⟨s, hs, rfl, fun _ h => ⟨rfl, h⟩⟩
  | some j =>
    obtain ⟨t, ht, h0, -⟩ := firstF_some hf
    rw [Xm.link_is hf ht]
    by_cases e : j = i
    · subst e
      obtain rfl : t = s := Option.some.inj (ht.symm.trans hs)
      exact ⟨_, List.getElem?_set_self (List.getElem?_eq_some_iff.1 ht).1, rfl, fun h => by omega⟩
    · refine ⟨s, by show (x.L.set j _)[i]? = _; rw [List.getElem?_set_ne e]; exact hs, rfl, fun _ h => ⟨rfl, fun p hp => ?_⟩⟩
      rcases List.mem_cons.1 hp with rfl | hp
      · intro e2
        have h1 := (hx.are.own j t ht).1
        have h2 := (hx.are.own i s hs).1
        have e3 : t.own = s.own := e2
        rw [e3] at h1
        omega
      · exact h p hp
theorem put_keeps {x : Xm} (hx : x.Ok) (how k : Int) (ws : List Int) {i : Nat} {s : Slt} (hs : x.L[i]? = some s) : ∃ s', (x.put how k ws).1.L[i]? = some s' ∧ s'.own = s.own ∧ (s.st = 1 → (∀ p ∈ x.C, p.2 ≠ s.own) → s' = s ∧ ∀ p ∈ (x.put how k ws).1.C, p.2 ≠ s.own) := by
  have same : ∃ s', x.L[i]? = some s' ∧ s'.own = s.own ∧ (s.st = 1 → (∀ p ∈ x.C, p.2 ≠ s.own) → s' = s ∧ ∀ p ∈ x.C, p.2 ≠ s.own) := ⟨s, hs, rfl, fun _ h => ⟨rfl, h⟩⟩
  unfold Xm.put
  split
  · exact same
  · split
    · exact same
    · split
      · rename_i g hf
        split
        · exact same
        · obtain ⟨j, t, a1, a2, a3, a4, a5, a6⟩ := errA_ok (hx.err0 hf)
          show ∃ s', (setA x.L g _)[i]? = some s' ∧ _
          rw [a6]
          by_cases e : j = i
          · subst e
            obtain rfl : t = s := Option.some.inj (a2.symm.trans hs)
            exact ⟨_, List.getElem?_set_self (List.getElem?_eq_some_iff.1 a2).1, rfl, fun _ h => absurd a4.symm (h (k, g) (fndC_mem hf))⟩
          · exact ⟨s, by rw [List.getElem?_set_ne e]; exact hs, rfl, fun _ h => ⟨rfl, h⟩⟩
      · split
        · exact same
        · split
          · obtain ⟨s', h1, h2, h3⟩ := link_keeps (hx.unlink (x.used.headD 0)) ⟨k, W4.of ws⟩ (i := i) (s := s) hs
            exact ⟨s', h1, h2, fun hst hno => h3 hst (fun p hp => hno p (List.mem_filter.1 hp).1)⟩
          · exact link_keeps hx _ hs
structure Keep (key : Int) (ws : List Int) (x : Xm) : Prop where
  wrd : x.words = 4
  s0 : x.L[0]? = some ⟨⟨0, 1⟩, 1, ⟨key, W4.of ws⟩⟩
  no : ∀ p ∈ x.C, p.2 ≠ ⟨0, 1⟩
structure Past (x : Xm) : Prop where
  s0 : ∃ s, x.L[0]? = some s ∧ s.own = ⟨0, 2⟩
theorem Keep.put {key : Int} {ws : List Int} {x : Xm} (h : Keep key ws x) (hx : x.Ok) (how k : Int) (us : List Int) : Keep key ws (x.put how k us).1 := by
  obtain ⟨s', h1, h2, h3⟩ := put_keeps hx how k us h.s0
  obtain ⟨rfl, h4⟩ := h3 rfl h.no
  exact ⟨by rw [(put_kind x how k us).2.2.1]; exact h.wrd, h1, h4⟩
theorem Past.put {x : Xm} (h : Past x) (hx : x.Ok) (how k : Int) (us : List Int) : Past (x.put how k us).1 := by
  obtain ⟨s, hs, ho⟩ := h.s0
  obtain ⟨s', h1, h2, h3⟩ := put_keeps hx how k us hs
  exact ⟨s', h1, h2.trans ho⟩
theorem Keep.err {key : Int} {ws : List Int} {x : Xm} (h : Keep key ws x) : errA x.L ⟨0, 1⟩ = 0 := errA_is (i := 0) rfl h.s0 rfl rfl
theorem Keep.load {key : Int} {ws : List Int} {x : Xm} (h : Keep key ws x) {i : Nat} (hi : i < 4) : x.load ⟨0, 1⟩ (i : Int) = (ws.getD i 0, 0) := by
  unfold Xm.load
  rw [h.err, if_neg (by decide), if_neg (by rw [h.wrd]; omega)]
  obtain ⟨j, s, a1, a2, a3, a4, a5, a6⟩ := errA_ok h.err
  obtain rfl : 0 = j := by have : ((0 : Nat) : Int) = (j : Int) := a1; omega
  obtain rfl := Option.some.inj (h.s0.symm.trans a2)
  rw [a5, show ((i : Nat) : Int).toNat = i by omega, ← W4.of_get hi]
theorem Keep.linked {key : Int} {ws : List Int} {x : Xm} (h : Keep key ws x) : x.linked ⟨0, 1⟩ = false := by
  unfold Xm.linked
  rw [decide_eq_false (p := fndC x.C _ = some _) (fun e => h.no _ (fndC_mem e) rfl), Bool.and_false]
theorem Keep.free {key : Int} {ws : List Int} {x : Xm} (h : Keep key ws x) : (x.free ⟨0, 1⟩).2 = 0 ∧ Past (x.free ⟨0, 1⟩).1 := by
  obtain ⟨j, s, a1, a2, a3, a4, a5, a6⟩ := errA_ok h.err
  obtain rfl : 0 = j := by have : ((0 : Nat) : Int) = (j : Int) := a1; omega
  obtain rfl := Option.some.inj (h.s0.symm.trans a2)
  have e : x.free ⟨0, 1⟩ = ({ x with L := setA x.L ⟨0, 1⟩ relS }, 0) := by
    unfold Xm.free
    rw [h.err, if_neg (by decide), h.linked, if_neg (by decide)]
  rw [e]
  refine ⟨rfl, ⟨⟨relS ⟨⟨0, 1⟩, 1, ⟨key, W4.of ws⟩⟩, ?_, ?_⟩⟩⟩
  · show (setA x.L ⟨0, 1⟩ relS)[0]? = _
    rw [a6]; exact List.getElem?_set_self (List.getElem?_eq_some_iff.1 h.s0).1
  · unfold relS; rw [if_neg (by show ¬ (1 : Int) = 255; decide)]; rfl
theorem Past.err {x : Xm} (h : Past x) : errA x.L ⟨0, 1⟩ = 7 := by
  obtain ⟨s, hs, ho⟩ := h.s0
  have := (List.getElem?_eq_some_iff.1 hs).1
  unfold errA
  rw [if_neg (by show ¬ ((0 : Int) < 0 ∨ (x.L.length : Int) ≤ 0); omega)]
  show (match x.L[0]? with | some s => _ | none => _) = _
  rw [hs]
  exact if_neg (fun h => by rw [ho] at h; exact absurd h.2 (by decide))
theorem Past.free {x : Xm} (h : Past x) : x.free ⟨0, 1⟩ = (x, 7) := by unfold Xm.free; rw [h.err, if_pos (by decide)]
theorem Past.load {x : Xm} (h : Past x) : x.load ⟨0, 1⟩ 0 = (0, 7) := by unfold Xm.load; rw [h.err, if_pos (by decide)]
theorem Past.store {x : Xm} (h : Past x) (v : Int) : (x.store ⟨0, 1⟩ 0 v).2 = 7 ∧ (x.store ⟨0, 1⟩ 0 v).1 = x := by unfold Xm.store; rw [h.err, if_pos (by decide)]; exact ⟨rfl, rfl⟩
theorem Past.linked {x : Xm} (h : Past x) : x.linked ⟨0, 1⟩ = false := by unfold Xm.linked; rw [h.err]; rfl
theorem keep_put {kd : Nat} (hk : kd = 1 ∨ kd = 2) {key : Int} {ws : List Int} (hw : ws.length ≤ 4) : (Xm.new kd 8 4).put 1 key ws = (⟨kd, 8, 4, false, (arrL 16 0).set 0 ⟨⟨0, 1⟩, 1, ⟨key, W4.of ws⟩⟩, [(key, ⟨0, 1⟩)], [key]⟩, ⟨⟨0, 1⟩, zHd, false⟩, 0) := by
  have hc : cntA 0 (arrL 16 0) = 16 := by decide
  have hn : Xm.new kd 8 4 = ⟨kd, 8, 4, false, arrL 16 0, [], []⟩ := by unfold Xm.new; rw [if_neg (by omega)]; rfl
  rw [hn]
  unfold Xm.put
  dsimp only
  rw [if_neg (by omega), if_neg (by decide)]
  rw [show fndC [] key = none from rfl]
  dsimp only
  have hr : Xm.refE ⟨kd, 8, 4, false, arrL 16 0, [], []⟩ 1 = 0 := by
    unfold Xm.refE
    dsimp only
    rw [if_neg (by omega), if_neg (by decide), if_neg (fun h => absurd h.2 (by decide)), hc, if_neg (by decide)]
  rw [hr, if_neg (by decide), if_neg (by show ¬ (0 : Nat) = 8; decide)]
  rw [Xm.link_is (x := ⟨kd, 8, 4, false, arrL 16 0, [], []⟩) (i := 0) (s := newS 0) (arrL_first (by decide)) (by rw [arrL_at (by decide)]; rfl)]
  rfl
theorem keep_del {kd : Nat} (hk : kd = 1 ∨ kd = 2) {key : Int} {ws : List Int} : (⟨kd, 8, 4, false, (arrL 16 0).set 0 ⟨⟨0, 1⟩, 1, ⟨key, W4.of ws⟩⟩, [(key, ⟨0, 1⟩)], [key]⟩ : Xm).del key = (⟨kd, 8, 4, false, (arrL 16 0).set 0 ⟨⟨0, 1⟩, 1, ⟨key, W4.of ws⟩⟩, [], []⟩, ⟨0, 1⟩, 0) := by
  have hf : fndC [(key, (⟨0, 1⟩ : Hd))] key = some ⟨0, 1⟩ := fndC_of (by simp) List.mem_cons_self
  have hd : delC [(key, (⟨0, 1⟩ : Hd))] key = [] := by unfold delC; simp
  have hu : drop1O [key] key = [] := by unfold drop1O; simp
  unfold Xm.del
  dsimp only
  rw [if_neg (by omega), hf]
  unfold Xm.unlink
  dsimp only
  rw [hf, hd, hu]
  rfl
theorem keep_0 {kd : Nat} {key : Int} {ws : List Int} : Keep key ws ⟨kd, 8, 4, false, (arrL 16 0).set 0 ⟨⟨0, 1⟩, 1, ⟨key, W4.of ws⟩⟩, [], []⟩ := ⟨rfl, rfl, fun _ h => by cases h⟩
set_option maxHeartbeats 8000000 in
theorem xmapKeeps_L {w0 : World} {H : Heap} {z key : Int} {ws more : List Int} {adw adm : Option Addr} {capw capm : Nat} (hkr : 0 ≤ key ∧ key < 18446744073709551616) (hum : ∀ x ∈ more, 0 ≤ x ∧ x ≤ 18446744073709551615) (hrw : Holds w0 H adw (ws.map (Value.int .u64))) (hrm : Holds w0 H adm (more.map (Value.int .u64))) (hlw : ws.length ≤ capw) (hlm : more.length ≤ 9223372036854775807) (hlw2 : ws.length ≤ 9223372036854775807) (hTab : Tab w0) : LCalls Tryz.prog w0 5 #[.int .i64 z, .int .u64 key, .slice adw ws.length capw, .slice adm more.length capm] (H) (fun v H' => v = .bool true ∧ H' = H) := by
  obtain ⟨n, hn8, hn⟩ : ∃ n : Nat, n < 2 ∧ (IntKind.u64.wrap z).tmod 2 = (n : Int) := modX z (by decide)
  have hrw4 : Holds w0 H adw ((ws.take 4).map (Value.int .u64)) := fun j x hx => hrw j x (by
    have hj := (List.getElem?_eq_some_iff.1 hx).1
    rw [List.length_map, List.length_take] at hj
    rw [List.map_take, List.getElem?_take, if_pos (by omega)] at hx
    exact hx)
  have hw4 : (ws.take 4).length ≤ 4 := by rw [List.length_take]; omega
  refine L_enter (l := [.int .i64 z, .int .u64 key, .slice adw ws.length capw, .slice adm more.length capm]) Tryz.func5 rfl Tryz.ntmps5 rfl rfl ?_
  refine W_sr ?_
  refine W_assign rfl rfl ?_
  refine W_nil ?_
  refine W_sr ?_
  refine W_move rfl rfl ?_
  refine W_conv (m := IntKind.u64.wrap z) rfl ty3 ty22 rfl rfl ?_
  refine W_bin rfl rfl (b_rem (by decide) (m := (n : Int)) hn) rfl ?_
  refine W_conv rfl ty22 ty3 (i64w (by omega)) rfl ?_
  refine W_bin rfl rfl (b_add (m := ((n + 1 : Nat) : Int)) (by rw [i64w (by omega)]; omega)) rfl ?_
  obtain ⟨E, hE⟩ : ∃ E, E = n + 1 := ⟨_, rfl⟩
  rw [← hE]
  clear hn
  refine W_assign rfl rfl ?_
  refine W_nil ?_
  refine W_sr ?_
  refine W_move rfl rfl ?_
  refine W_call (.cons rfl (.cons rfl (.cons rfl .nil))) Tryz.call8 rfl (XmH.new hTab (kind := E) (entries := 8) (words := 4) (by omega) (by decide) (by decide)) ?_
  rintro v H' ⟨mb, HX0, hX0, rfl, rfl⟩
  refine W_move rfl rfl ?_
  refine W_extract rfl rfl rfl ?_
  refine W_extract rfl rfl rfl ?_
  refine W_assign rfl rfl ?_
  refine W_assign rfl rfl ?_
  refine W_nil ?_
  refine W_seq ?_
  refine W_sr ?_
  refine W_move rfl rfl ?_
  refine W_bin rfl rfl b_neq rfl ?_
  rw [decide_eq_false (by decide)]
  refine W_nil ?_
  refine W_condF rfl rfl ?_
  refine W_skip ?_
  refine W_sr ?_
  refine W_move rfl rfl ?_
  refine W_move rfl rfl ?_
  refine W_len rfl ty42 rfl rfl ?_
  refine W_min2 rfl rfl (m := ((ws.take 4).length : Int)) (by rw [List.length_take]; split <;> omega) rfl ?_
  refine W_slice0 (hh := (ws.take 4).length) rfl ty42 ty22 rfl ⟨_, rfl⟩ (by rw [List.length_take]; omega) rfl ?_
  refine W_assign rfl rfl ?_
  refine W_nil ?_
  refine W_sr ?_
  refine W_move rfl rfl ?_
  refine W_move rfl rfl ?_
  refine W_move rfl rfl ?_
  refine W_call (.cons rfl (.cons rfl (.cons rfl (.cons rfl .nil)))) Tryz.call11 rfl ((hX0.put hTab (by decide) (how := 1) (k := key) (ws := ws.take 4) (cap := capw) (by omega) hrw4 (H := H)).hsub zH) ?_
  rintro v H' ⟨HX1, hX1, rfl, rfl⟩
  rw [keep_put (by omega) hw4] at hX1 ⊢
  refine W_move rfl rfl ?_
  refine W_extract rfl rfl rfl ?_
  refine W_extract rfl rfl rfl ?_
  refine W_alloc (l := puttC zPutt) ty31 rfl rfl (fun b11 => ?_)
  refine W_storeA (l' := puttC ⟨⟨0, 1⟩, zHd, false⟩) rfl rfl ty31 rfl rfl (b := b11) zM (by exact Nat.le_refl 5) rfl zU ?_
  refine W_assign rfl rfl ?_
  refine W_nil ?_
  refine W_sr ?_
  refine W_move rfl rfl ?_
  refine W_move rfl rfl ?_
  refine W_call (.cons rfl (.cons rfl .nil)) Tryz.call12 rfl ((hX1.del (k := key) (H := (b11, .cells 31 5 (puttC ⟨⟨0, 1⟩, zHd, false⟩)) :: H)).hsub zH) ?_
  rintro v H' ⟨HX2, hX2, rfl, rfl⟩
  dsimp only at hX2
  rw [keep_del (by omega)] at hX2 ⊢
  have hK : Keep key (ws.take 4) _ := keep_0 (kd := E)
  obtain ⟨x2, hx2⟩ : ∃ x2 : Xm, x2 = ⟨E, 8, 4, false, (arrL 16 0).set 0 ⟨⟨0, 1⟩, 1, ⟨key, W4.of (ws.take 4)⟩⟩, [], []⟩ := ⟨_, rfl⟩
  have hfn : fndC x2.C key = none := by rw [hx2]; rfl
  rw [← hx2] at hK
  replace hX2 : XmH _ _ ⟨E, 8, 4, false, (arrL 16 0).set 0 ⟨⟨0, 1⟩, 1, ⟨key, W4.of (ws.take 4)⟩⟩, [], []⟩ _ := hX2
  rw [← hx2] at hX2
  refine W_move rfl rfl ?_
  refine W_extract rfl rfl rfl ?_
  refine W_extract rfl rfl rfl ?_
  refine W_alloc (l := hdC zHd) ty29 rfl rfl (fun b13 => ?_)
  refine W_storeA (l' := hdC ⟨0, 1⟩) rfl rfl ty29 rfl rfl (b := b13) zM (by exact Nat.le_refl 2) rfl zU ?_
  refine W_assign rfl rfl ?_
  refine W_nil ?_
  refine W_seq ?_
  refine W_sr ?_
  refine W_move rfl rfl ?_
  refine W_bin rfl rfl b_neq rfl ?_
  rw [decide_eq_false (by show ¬ (0 : Int) ≠ 0; decide)]
  refine W_move rfl rfl ?_
  refine W_gyes rfl rfl ?_
  refine W_move rfl rfl ?_
  refine W_gyes rfl rfl ?_
  refine W_bin rfl rfl b_neq rfl ?_
  rw [decide_eq_false (by show ¬ (0 : Int) ≠ 0; decide)]
  first | refine W_pickt rfl rfl rfl ?_ | refine W_pickf rfl rfl rfl ?_
  refine W_move rfl rfl ?_
  refine W_gyes rfl rfl ?_
  refine W_loadB (vs := hdC ⟨0, 1⟩) rfl ty29 rfl (b := b13) zM rfl rfl rfl ?_
  refine W_gyes rfl rfl ?_
  refine W_fieldAddr rfl fld31_0 (by decide) rfl ?_
  refine W_gyes rfl rfl ?_
  refine W_loadB (vs := hdC ⟨0, 1⟩) rfl ty29 rfl (b := b11) zM rfl rfl rfl ?_
  refine W_gyes rfl rfl ?_
  refine W_x (X_neF (f := hdC) rfl rfl flat29 agg29 hdC_like hdC_inj gt29 (by decide)) (fun _ h => by cases h) rfl ?_
  first | refine W_pickt rfl rfl rfl ?_ | refine W_pickf rfl rfl rfl ?_
  refine W_move rfl rfl ?_
  refine W_gyes rfl rfl ?_
  refine W_move rfl rfl ?_
  refine W_gyes rfl rfl ?_
  refine W_loadB (vs := hdC ⟨0, 1⟩) rfl ty29 rfl (b := b13) zM rfl rfl rfl ?_
  refine W_gyes rfl rfl ?_
  refine W_callq (.cons rfl (.cons rfl .nil)) Tryz.call20 rfl (hX2.linked (h := ⟨0, 1⟩) (fun p hp => by repeat (first | exact List.mem_append_left _ hp | apply List.mem_cons_of_mem | apply List.mem_append_right))) ?_
  rw [hK.linked]
  first | refine W_pickt rfl rfl rfl ?_ | refine W_pickf rfl rfl rfl ?_
  refine W_nil ?_
  refine W_condF rfl rfl ?_
  refine W_skip ?_
  refine W_sr ?_
  refine W_move rfl rfl ?_
  refine W_move rfl rfl ?_
  refine W_call (.cons rfl (.cons rfl .nil)) Tryz.call17 rfl ((hX2.find (by decide) (k := key) (H := (b13, .cells 29 2 (hdC ⟨0, 1⟩)) :: H)).hsub zH) ?_
  rintro v H' ⟨HX3, hX3, rfl, rfl⟩
  have hfe : x2.find key = (x2, zHd, 4) := by unfold Xm.find; rw [hfn]
  rw [hfe] at hX3 ⊢
  replace hX3 : XmH _ _ x2 _ := hX3
  refine W_move rfl rfl ?_
  refine W_extract rfl rfl rfl ?_
  refine W_extract rfl rfl rfl ?_
  refine W_alloc (l := hdC zHd) ty29 rfl rfl (fun b15 => ?_)
  refine W_storeA (l' := hdC zHd) rfl rfl ty29 rfl rfl (b := b15) zM (by exact Nat.le_refl 2) rfl zU ?_
  refine W_assign rfl rfl ?_
  refine W_nil ?_
  refine W_seq ?_
  refine W_sr ?_
  refine W_assign rfl rfl ?_
  refine W_nil ?_
  refine W_block ?_
  refine W_loopC (X := (Nat × Xm × Heap)) [(2, _), (3, _), (9, _), (13, _), (16, _)] (fun (x : (Nat × Xm × Heap)) => [(17, .int .i64 (x.1 : Int))]) (fun _ => _) (fun (x : (Nat × Xm × Heap)) => x.2.2 ++ ((b13, .cells 29 2 (hdC ⟨0, 1⟩)) :: H)) (fun (x : (Nat × Xm × Heap)) => x.1 ≤ 8 ∧ x.1 ≤ more.length ∧ XmH mb (30 + 2 * x.1) x.2.1 x.2.2 ∧ Keep key (ws.take 4) x.2.1) (fun (x : (Nat × Xm × Heap)) => more.length - x.1) (0, x2, HX3) ⟨Nat.zero_le _, Nat.zero_le _, hX3.up (by show 8 + 2 + 1 ≤ 30 + 2 * 0; decide), hK⟩ (sub_cons rfl (sub_cons rfl (sub_cons rfl (sub_cons rfl (sub_cons rfl (sub_nil _)))))) (sub_cons rfl (sub_nil _)) rfl zH ?_
  rintro ⟨i, y, HY⟩ ⟨hi8, him, hY, hKy⟩
  dsimp only at hi8 him hY hKy ⊢
  simp only [List.cons_append, List.nil_append]
  refine W_seq ?_
  refine W_sr ?_
  refine W_move rfl rfl ?_
  refine W_move rfl rfl ?_
  refine W_len rfl ty42 rfl rfl ?_
  refine W_bin rfl rfl b_lss rfl ?_
  refine W_move rfl rfl ?_
  apply W_and
  iterate 4 exact rfl
  case h1 =>
    intro hg4
    refine W_gyes rfl rfl ?_
    refine W_move rfl rfl ?_
    refine W_gyes rfl rfl ?_
    refine W_bin rfl rfl b_lss rfl ?_
    exact W_met rfl zR
  refine W_nil ?_
  refine W_condPS (p := (i : Int) < (more.length : Int) ∧ (i : Int) < 8) rfl (by simp) (fun q0 => ?_) (fun q0 => ?_)
  · skip
    refine W_skip ?_
    refine W_seq ?_
    refine W_block ?_
    refine W_region ?_
    refine W_move rfl rfl ?_
    obtain ⟨kk, hkk⟩ : ∃ kk, more[i]? = some kk := ⟨_, List.getElem?_eq_getElem (by omega)⟩
    obtain ⟨q1, p1, rfl, hcm⟩ := hrm.at (i := i) (v := .int .u64 kk) (by rw [List.getElem?_map, hkk]; rfl)
    refine W_move rfl rfl ?_
    refine W_move rfl rfl ?_
    refine W_indexAddr (j := i) rfl rfl ty42 ty22 rfl (by omega) rfl rfl ?_
    refine W_load (v := .int .u64 kk) rfl ty22 rfl (by rw [Nat.mul_one]; exact hcm.up zH) rfl ?_
    refine W_buildSlice (l := [.int .u64 1, .int .u64 2, .int .u64 3, .int .u64 4]) ty42 ty22 (.cons rfl rfl rfl rfl rfl (.cons rfl rfl rfl rfl rfl (.cons rfl rfl rfl rfl rfl (.cons rfl rfl rfl rfl rfl .nil)))) rfl rfl rfl rfl rfl rfl rfl (fun b93 => ?_)
    refine W_call (.cons rfl (.cons rfl (.cons rfl (.cons rfl .nil)))) Tryz.call11 rfl ((hY.put hTab (by omega) (how := 0) (k := kk) (ws := [1, 2, 3, 4]) (cap := 4) (by have := hum kk (List.mem_of_getElem? hkk); omega) (Holds.own (b := b93) zM) (H := (b93, .cells 22 (4 * 1) [.int .u64 1, .int .u64 2, .int .u64 3, .int .u64 4]) :: (b13, .cells 29 2 (hdC ⟨0, 1⟩)) :: H)).hsub zH) ?_
    rintro v H' ⟨HX4, hX4, rfl, rfl⟩
    refine W_nil ?_
    refine W_blk ?_
    refine W_region ?_
    refine W_move rfl rfl ?_
    refine W_bin rfl rfl (b_add (m := ((i + 1 : Nat) : Int)) ((i64w (by omega)).trans (by omega))) rfl ?_
    refine W_assign rfl rfl ?_
    refine W_nil ?_
    refine W_again (i + 1, (Xm.put y 0 kk [1, 2, 3, 4]).1, HX4) ⟨by show i + 1 ≤ 8; omega, by show i + 1 ≤ more.length; omega, hX4.up (by show _ ≤ 30 + 2 * (i + 1); omega), hKy.put hY.ok _ _ _⟩ (by show more.length - (i + 1) < more.length - i; omega) (sub_cons rfl (sub_cons rfl (sub_cons rfl (sub_cons rfl (sub_cons rfl (sub_cons rfl (sub_nil _))))))) rfl zH
  · skip
    refine W_exit rfl ?_
    refine W_seq ?_
    refine W_sr ?_
    refine W_assign rfl rfl ?_
    refine W_nil ?_
    refine W_block ?_
    refine W_loopC (X := Nat) [(2, _), (3, _), (9, _), (13, _), (16, _)] (fun (j : Nat) => [(18, .int .i64 (j : Int))]) (fun _ => _) (fun (j : Nat) => HY ++ ((b13, .cells 29 2 (hdC ⟨0, 1⟩)) :: H)) (fun (j : Nat) => j ≤ 4) (fun (j : Nat) => 4 - j) 0 (Nat.zero_le _) (sub_cons rfl (sub_cons rfl (sub_cons rfl (sub_cons rfl (sub_cons rfl (sub_nil _)))))) (sub_cons rfl (sub_nil _)) rfl zH ?_
    intro j hj
    simp only [List.cons_append, List.nil_append]
    refine W_seq ?_
    refine W_sr ?_
    refine W_move rfl rfl ?_
    refine W_bin rfl rfl b_lss rfl ?_
    refine W_nil ?_
    refine W_condPS (p := (j : Int) < 4) rfl (by simp) (fun q1 => ?_) (fun q1 => ?_)
    · skip
      refine W_skip ?_
      refine W_seq ?_
      refine W_block ?_
      refine W_sr ?_
      refine W_assign rfl rfl ?_
      refine W_nil ?_
      refine W_seq ?_
      refine W_sr ?_
      refine W_move rfl rfl ?_
      refine W_move rfl rfl ?_
      refine W_len rfl ty42 rfl rfl ?_
      refine W_bin rfl rfl b_lss rfl ?_
      refine W_nil ?_
      refine W_condJ (p := (j : Int) < ((ws.take 4).length : Int)) [(2, .slice adw (ws.take 4).length capw), (3, .slice adm more.length capm), (9, .pointer (some ⟨mb, 0, none⟩)), (13, .pointer (some ⟨b13, 0, none⟩)), (16, .int .i64 4), (18, .int .i64 (j : Int)), (19, .int .u64 ((ws.take 4).getD j 0))] (HY ++ ((b13, .cells 29 2 (hdC ⟨0, 1⟩)) :: H)) rfl (by simp) (fun q2 => ?_) (fun q2 => ?_) ?_
      · skip
        refine W_region ?_
        obtain ⟨wv, hwv⟩ : ∃ wv, (ws.take 4)[j]? = some wv := ⟨_, List.getElem?_eq_getElem (by omega)⟩
        obtain ⟨q1, p1, rfl, hcw⟩ := hrw4.at (i := j) (v := .int .u64 wv) (by rw [List.getElem?_map, hwv]; rfl)
        refine W_move rfl rfl ?_
        refine W_move rfl rfl ?_
        refine W_indexAddr (j := j) rfl rfl ty42 ty22 rfl (by omega) rfl rfl ?_
        refine W_load (v := .int .u64 wv) rfl ty22 rfl (by rw [Nat.mul_one]; exact hcw.up zH) rfl ?_
        refine W_assign rfl rfl ?_
        refine W_nil ?_
        refine W_joined (sub_cons rfl (sub_cons rfl (sub_cons rfl (sub_cons rfl (sub_cons rfl (sub_cons rfl (sub_cons (by rw [show (ws.take 4).getD j 0 = wv by rw [List.getD_eq_getElem?_getD, hwv]; rfl]; rfl) (sub_nil _)))))))) zH
      · skip
        refine W_skip ?_
        refine W_joined (sub_cons rfl (sub_cons rfl (sub_cons rfl (sub_cons rfl (sub_cons rfl (sub_cons rfl (sub_cons (by rw [show (ws.take 4).getD j 0 = 0 by rw [List.getD_eq_getElem?_getD, List.getElem?_eq_none (by omega)]; rfl]; rfl) (sub_nil _)))))))) zH
      skip
      refine W_sr ?_
      refine W_move rfl rfl ?_
      refine W_loadB (vs := hdC ⟨0, 1⟩) rfl ty29 rfl (b := b13) zM rfl rfl rfl ?_
      refine W_move rfl rfl ?_
      refine W_callq (.cons rfl (.cons rfl (.cons rfl .nil))) Tryz.call14 rfl (hY.load (h := ⟨0, 1⟩) (at_ := (j : Int)) (fun p hp => by repeat (first | exact List.mem_append_left _ hp | apply List.mem_cons_of_mem | apply List.mem_append_right))) ?_
      rw [hKy.load (show j < 4 by omega)]
      dsimp only
      obtain ⟨w1, hw1⟩ : ∃ w1, w1 = (ws.take 4).getD j 0 := ⟨_, rfl⟩
      rw [← hw1]
      refine W_move rfl rfl ?_
      refine W_extract rfl rfl rfl ?_
      refine W_extract rfl rfl rfl ?_
      refine W_assign rfl rfl ?_
      refine W_assign rfl rfl ?_
      refine W_nil ?_
      refine W_sr ?_
      refine W_move rfl rfl ?_
      refine W_bin rfl rfl b_neq rfl ?_
      rw [decide_eq_false (by show ¬ (0 : Int) ≠ 0; decide)]
      refine W_move rfl rfl ?_
      refine W_gyes rfl rfl ?_
      refine W_move rfl rfl ?_
      refine W_gyes rfl rfl ?_
      refine W_move rfl rfl ?_
      refine W_gyes rfl rfl ?_
      refine W_bin rfl rfl b_neq rfl ?_
      rw [decide_eq_false (fun h => h rfl)]
      first | refine W_pickt rfl rfl rfl ?_ | refine W_pickf rfl rfl rfl ?_
      refine W_nil ?_
      refine W_condF rfl rfl ?_
      refine W_skip ?_
      refine W_blk ?_
      refine W_region ?_
      refine W_move rfl rfl ?_
      refine W_bin rfl rfl (b_add (m := ((j + 1 : Nat) : Int)) ((i64w (by omega)).trans (by omega))) rfl ?_
      refine W_assign rfl rfl ?_
      refine W_nil ?_
      refine W_again (j + 1) (by omega) (by omega) (sub_cons rfl (sub_cons rfl (sub_cons rfl (sub_cons rfl (sub_cons rfl (sub_cons rfl (sub_nil _))))))) rfl zH
    · skip
      refine W_exit rfl ?_
      refine W_seq ?_
      refine W_sr ?_
      refine W_move rfl rfl ?_
      refine W_loadB (vs := hdC ⟨0, 1⟩) rfl ty29 rfl (b := b13) zM rfl rfl rfl ?_
      refine W_call (.cons rfl (.cons rfl .nil)) Tryz.call19 rfl ((hY.free (h := ⟨0, 1⟩) (H := (b13, .cells 29 2 (hdC ⟨0, 1⟩)) :: H)).hsub zH) ?_
      rintro v H' ⟨HY1, hY1, rfl, rfl⟩
      have hP1 := hKy.free.2
      rw [hKy.free.1]
      obtain ⟨y1, hy1⟩ : ∃ y1, y1 = (Xm.free y ⟨0, 1⟩).1 := ⟨_, rfl⟩
      rw [← hy1] at hY1 hP1
      refine W_bin rfl rfl b_neq rfl ?_
      rw [decide_eq_false (by decide)]
      refine W_move rfl rfl ?_
      refine W_gyes rfl rfl ?_
      refine W_move rfl rfl ?_
      refine W_gyes rfl rfl ?_
      refine W_loadB (vs := hdC ⟨0, 1⟩) rfl ty29 rfl (b := b13) zM rfl rfl rfl ?_
      refine W_gyes rfl rfl ?_
      refine W_call (.cons rfl (.cons rfl .nil)) Tryz.call19 rfl ((hY1.free (h := ⟨0, 1⟩) (H := (b13, .cells 29 2 (hdC ⟨0, 1⟩)) :: H)).hsub zH) ?_
      rintro v H' ⟨HY2, hY2, rfl, rfl⟩
      rw [hP1.free] at hY2 ⊢
      replace hY2 : XmH _ _ y1 _ := hY2
      refine W_gyes rfl rfl ?_
      refine W_bin rfl rfl b_neq rfl ?_
      rw [decide_eq_false (by show ¬ (7 : Int) ≠ 7; decide)]
      first | refine W_pickt rfl rfl rfl ?_ | refine W_pickf rfl rfl rfl ?_
      refine W_nil ?_
      refine W_condF rfl rfl ?_
      refine W_skip ?_
      refine W_seq ?_
      refine W_sr ?_
      refine W_assign rfl rfl ?_
      refine W_nil ?_
      refine W_block ?_
      refine W_loopC (X := (Nat × Xm × Heap)) [(3, _), (9, _), (13, _), (16, _)] (fun (x : (Nat × Xm × Heap)) => [(22, .int .i64 (x.1 : Int))]) (fun _ => _) (fun (x : (Nat × Xm × Heap)) => x.2.2 ++ ((b13, .cells 29 2 (hdC ⟨0, 1⟩)) :: H)) (fun (x : (Nat × Xm × Heap)) => x.1 ≤ 8 ∧ x.1 ≤ more.length ∧ XmH mb ((30 + 2 * i) + 2 * x.1) x.2.1 x.2.2 ∧ Past x.2.1) (fun (x : (Nat × Xm × Heap)) => more.length - x.1) (0, y1, HY2) ⟨Nat.zero_le _, Nat.zero_le _, hY2, hP1⟩ (sub_cons rfl (sub_cons rfl (sub_cons rfl (sub_cons rfl (sub_nil _))))) (sub_cons rfl (sub_nil _)) rfl zH ?_
      rintro ⟨i2, y, HY⟩ ⟨hi8, him, hY, hKy⟩
      dsimp only at hi8 him hY hKy ⊢
      simp only [List.cons_append, List.nil_append]
      refine W_seq ?_
      refine W_sr ?_
      refine W_move rfl rfl ?_
      refine W_move rfl rfl ?_
      refine W_len rfl ty42 rfl rfl ?_
      refine W_bin rfl rfl b_lss rfl ?_
      refine W_move rfl rfl ?_
      apply W_and
      iterate 4 exact rfl
      case h1 =>
        intro hg4
        refine W_gyes rfl rfl ?_
        refine W_move rfl rfl ?_
        refine W_gyes rfl rfl ?_
        refine W_bin rfl rfl b_lss rfl ?_
        exact W_met rfl zR
      refine W_nil ?_
      refine W_condPS (p := (i2 : Int) < (more.length : Int) ∧ (i2 : Int) < 8) rfl (by simp) (fun q2 => ?_) (fun q2 => ?_)
      · skip
        refine W_skip ?_
        refine W_seq ?_
        refine W_block ?_
        refine W_region ?_
        refine W_move rfl rfl ?_
        obtain ⟨kk, hkk⟩ : ∃ kk, more[i2]? = some kk := ⟨_, List.getElem?_eq_getElem (by omega)⟩
        obtain ⟨q1, p1, rfl, hcm⟩ := hrm.at (i := i2) (v := .int .u64 kk) (by rw [List.getElem?_map, hkk]; rfl)
        refine W_move rfl rfl ?_
        refine W_move rfl rfl ?_
        refine W_indexAddr (j := i2) rfl rfl ty42 ty22 rfl (by omega) rfl rfl ?_
        refine W_load (v := .int .u64 kk) rfl ty22 rfl (by rw [Nat.mul_one]; exact hcm.up zH) rfl ?_
        refine W_buildSlice (l := [.int .u64 5]) ty42 ty22 (.cons rfl rfl rfl rfl rfl .nil) rfl rfl rfl rfl rfl rfl rfl (fun b146 => ?_)
        refine W_call (.cons rfl (.cons rfl (.cons rfl (.cons rfl .nil)))) Tryz.call11 rfl ((hY.put hTab (by omega) (how := 0) (k := kk) (ws := [5]) (cap := 1) (by have := hum kk (List.mem_of_getElem? hkk); omega) (Holds.own (b := b146) zM) (H := (b146, .cells 22 (1 * 1) [.int .u64 5]) :: (b13, .cells 29 2 (hdC ⟨0, 1⟩)) :: H)).hsub zH) ?_
        rintro v H' ⟨HX4, hX4, rfl, rfl⟩
        refine W_nil ?_
        refine W_blk ?_
        refine W_region ?_
        refine W_move rfl rfl ?_
        refine W_bin rfl rfl (b_add (m := ((i2 + 1 : Nat) : Int)) ((i64w (by omega)).trans (by omega))) rfl ?_
        refine W_assign rfl rfl ?_
        refine W_nil ?_
        refine W_again (i2 + 1, (Xm.put y 0 kk [5]).1, HX4) ⟨by show i2 + 1 ≤ 8; omega, by show i2 + 1 ≤ more.length; omega, hX4.up (by show _ ≤ (30 + 2 * i) + 2 * (i2 + 1); omega), hKy.put hY.ok _ _ _⟩ (by show more.length - (i2 + 1) < more.length - i2; omega) (sub_cons rfl (sub_cons rfl (sub_cons rfl (sub_cons rfl (sub_cons rfl (sub_nil _)))))) rfl zH
      · skip
        refine W_exit rfl ?_
        refine W_sr ?_
        refine W_move rfl rfl ?_
        refine W_loadB (vs := hdC ⟨0, 1⟩) rfl ty29 rfl (b := b13) zM rfl rfl rfl ?_
        refine W_callq (.cons rfl (.cons rfl (.cons rfl .nil))) Tryz.call14 rfl (hY.load (h := ⟨0, 1⟩) (at_ := 0) (fun p hp => by repeat (first | exact List.mem_append_left _ hp | apply List.mem_cons_of_mem | apply List.mem_append_right))) ?_
        rw [hKy.load]
        dsimp only
        refine W_move rfl rfl ?_
        refine W_extract rfl rfl rfl ?_
        refine W_extract rfl rfl rfl ?_
        refine W_assign rfl rfl ?_
        refine W_assign rfl rfl ?_
        refine W_nil ?_
        refine W_sr ?_
        refine W_callp .nil Tryz.call16 rfl hTab xknown_pure ?_
        refine W_move rfl rfl ?_
        refine W_gyes rfl rfl ?_
        refine W_move rfl rfl ?_
        refine W_gyes rfl rfl ?_
        refine W_bin rfl rfl b_eql rfl ?_
        rw [decide_eq_true (by rfl)]
        first | refine W_pickt rfl rfl rfl ?_ | refine W_pickf rfl rfl rfl ?_
        refine W_move rfl rfl ?_
        refine W_gyes rfl rfl ?_
        refine W_move rfl rfl ?_
        refine W_gyes rfl rfl ?_
        refine W_bin rfl rfl b_eql rfl ?_
        rw [decide_eq_true (by rfl)]
        first | refine W_pickt rfl rfl rfl ?_ | refine W_pickf rfl rfl rfl ?_
        refine W_move rfl rfl ?_
        refine W_gyes rfl rfl ?_
        refine W_move rfl rfl ?_
        refine W_gyes rfl rfl ?_
        refine W_loadB (vs := hdC ⟨0, 1⟩) rfl ty29 rfl (b := b13) zM rfl rfl rfl ?_
        refine W_gyes rfl rfl ?_
        refine W_call (.cons rfl (.cons rfl (.cons rfl (.cons rfl .nil)))) Tryz.call21 rfl ((hY.store (h := ⟨0, 1⟩) (at_ := 0) (vv := 9) (H := (b13, .cells 29 2 (hdC ⟨0, 1⟩)) :: H)).hsub zH) ?_
        rintro v H' ⟨HY3, hY3, rfl, rfl⟩
        rw [(hKy.store 9).2] at hY3
        rw [(hKy.store 9).1]
        refine W_gyes rfl rfl ?_
        refine W_bin rfl rfl b_eql rfl ?_
        rw [decide_eq_true (by rfl)]
        first | refine W_pickt rfl rfl rfl ?_ | refine W_pickf rfl rfl rfl ?_
        refine W_move rfl rfl ?_
        refine W_gyes rfl rfl ?_
        refine W_move rfl rfl ?_
        refine W_gyes rfl rfl ?_
        refine W_loadB (vs := hdC ⟨0, 1⟩) rfl ty29 rfl (b := b13) zM rfl rfl rfl ?_
        refine W_gyes rfl rfl ?_
        refine W_callq (.cons rfl (.cons rfl .nil)) Tryz.call20 rfl (hY3.linked (h := ⟨0, 1⟩) (fun p hp => by repeat (first | exact List.mem_append_left _ hp | apply List.mem_cons_of_mem | apply List.mem_append_right))) ?_
        rw [hKy.linked]
        refine W_gyes rfl rfl ?_
        refine W_not rfl rfl ?_
        first | refine W_pickt rfl rfl rfl ?_ | refine W_pickf rfl rfl rfl ?_
        refine W_assign rfl rfl ?_
        refine W_nil ?_
        refine W_ret1m (H2 := H) Tryz.results5 rfl (.nil _) zH ?_
        exact ⟨rfl, rfl⟩
theorem xmapKeeps_pure {z key : Int} {ws more : List Int} {adw adm : Option Addr} {capw capm : Nat} (hkr : 0 ≤ key ∧ key ≤ 18446744073709551615) (hum : ∀ x ∈ more, 0 ≤ x ∧ x ≤ 18446744073709551615) (hlw : ws.length ≤ capw) (hlm : more.length ≤ 9223372036854775807) (hlw2 : ws.length ≤ 9223372036854775807) : Pure Tryz.prog (fun w => Tab w ∧ InRow w adw (ws.map (Value.int .u64)) ∧ InRow w adm (more.map (Value.int .u64))) 5 [.int .i64 z, .int .u64 key, .slice adw ws.length capw, .slice adm more.length capm] (.bool true) := fun w0 H hT => xmapKeeps_L (by omega) hum (Holds.old hT.2.1) (Holds.old hT.2.2) hlw hlm hlw2 hT.1
end Go.Proofs.YtphdlpmnidiliaaGreatDoor
