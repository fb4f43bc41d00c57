/-
  Own work: contracts of functions that the statement reaches, and plain facts on what they compute; each theorem says its conditions.
-/
import Derived.Test.YtphdlpmnidiliaaGreatDoorXpT5
import Derived.Test.YtphdlpmnidiliaaGreatDoorXpS1
import Derived.Test.YtphdlpmnidiliaaGreatDoorXpS2
import Derived.Lib.LaidTab
import Derived.Lib.LaidIn
import Derived.Stop.LaidErr
import Derived.Test.YtphdlpmnidiliaaGreatDoorCards
import Derived.Test.YtphdlpmnidiliaaGreatDoorTie
import Derived.Test.YtphdlpmnidiliaaGreatDoorXpS3
import Derived.Test.YtphdlpmnidiliaaGreatDoorXpA
set_option linter.all false
set_option linter.unusedSimpArgs false
set_option linter.unusedVariables false
namespace Go.Proofs.YtphdlpmnidiliaaGreatDoor
open Go Go.Sl
attribute [local irreducible] W
theorem Xm.Ok.del {x : Xm} (h : x.Ok) (k : Int) : (x.del k).1.Ok := by
  unfold Xm.del
  split
  · exact h
  · split
    · exact h.unlink k
    · exact h
theorem Xm.Ok.store {x : Xm} (h : x.Ok) (g : Hd) (at_ v : Int) : (x.store g at_ v).1.Ok := by
  unfold Xm.store
  split
  · exact h
  · split
    · exact h
    · exact h.cel g (fun c => ⟨c.key, c.w.put at_.toNat v⟩) (fun c _ _ => rfl)
theorem Xm.put_len {x : Xm} (h : x.Ok) {o : Int} (ho : o ∈ x.used) : (x.unlink o).1.C.length + 1 = x.C.length := delC_len h.nd (h.umem.1 ho)
theorem Xm.Ok.oldest {x : Xm} (h : x.Ok) (hc : x.C.length = x.entries) : x.used.headD 0 ∈ x.used := by
  have h1 := h.ulen
  have h2 := h.ent
  cases hu : x.used with
  | nil => rw [hu] at h1; simp at h1; omega
  | cons a l => exact List.mem_cons_self
theorem Xm.Ok.put {x : Xm} (h : x.Ok) (how : Int) {k : Int} (ws : List Int) (hk : 0 ≤ k ∧ k < 18446744073709551616) : (x.put how k ws).1.Ok := by
  unfold Xm.put
  split
  · exact h
  · split
    · exact h
    · split
      · rename_i g hf
        split
        · exact h
        · obtain ⟨i, s, h1, h2, h3, h4, h5⟩ := h.own hf
          have := (h.use (h.umem.2 (keyL_mem hf))).cel g (fun _ => ⟨k, W4.of ws⟩) (fun c _ hc => by
            subst hc
            show k = (celA x.L g).key
            obtain ⟨i', s', a1, a2, a3, a4, a5, a6⟩ := errA_ok (h.err0 hf)
            obtain rfl : i = i' := by omega
            obtain rfl : s = s' := Option.some.inj (h2.symm.trans a2)
            rw [a5, h5])
          exact this
      · rename_i hf
        have hno := fndC_none.1 hf
        split
        · exact h
        · rename_i hr
          obtain ⟨i, s, hfi, hs⟩ := Xm.free_slot (Classical.not_not.1 hr)
          split
          · rename_i hfull
            have ho := h.oldest hfull
            refine (h.unlink _).link (i := i) (s := s) hfi hs ?_ ?_ hk
            · show k ∉ keyL (delC x.C _)
              rw [keyL_del]
              exact fun hm => hno (List.mem_filter.1 hm).1
            · have := Xm.put_len h ho
              show (x.unlink (x.used.headD 0)).1.C.length < x.entries
              omega
          · exact h.link hfi hs hno (by have := h.le; omega) hk
theorem Xm.Ok.unlinks {x : Xm} (h : x.Ok) : ∀ (ks : List Int), (Xm.mk x.kind x.entries x.words true x.L (unlinkL x.C x.used ks).1 (unlinkL x.C x.used ks).2.1).Ok
  | [] => h.shut true
  | k :: ks => Xm.Ok.unlinks (h.unlink k) ks
theorem Xm.Ok.close {x : Xm} (h : x.Ok) : x.close.1.Ok := by
  unfold Xm.close
  split
  · exact h
  · exact h.unlinks _
theorem new_ok {kind entries words : Nat} (h1 : kind ≤ 2) (h2 : 1 ≤ entries ∧ entries ≤ 8) (h3 : 1 ≤ words ∧ words ≤ 4) : (Xm.new kind entries words).Ok := by
  unfold Xm.new
  exact arr_ok h1 h2 h3 (by split <;> omega)
inductive XmH (mb T : Nat) (x : Xm) : Heap → Prop
  | mk {ab tb bo : Nat} {HA HT HO : Heap} (hA : AreH ab x.L HA) (hB : TabH tb x.entries x.C HT) (hO : OrdH bo x.entries T x.used HO) (hx : x.Ok) : XmH mb T x ((mb, .cells 78 7 [.int .i64 (x.kind : Int), .int .i64 (x.entries : Int), .int .i64 (x.words : Int), .pointer (some ⟨ab, 0, none⟩), .pointer (some ⟨tb, 0, none⟩), .pointer (some ⟨bo, 0, none⟩), .bool x.closed]) :: (HA ++ (HT ++ HO)))
theorem XmH.ok {mb T : Nat} {x : Xm} {HX : Heap} (h : XmH mb T x HX) : x.Ok := by cases h; assumption
theorem XmH.up {mb T T' : Nat} {x : Xm} {HX : Heap} (h : XmH mb T x HX) (hl : T ≤ T') : XmH mb T' x HX := by
  cases h with
  | mk hA hB hO hx => exact .mk hA hB (hO.up hl) hx
section
variable {w0 : World} {H HX : Heap} {mb T : Nat} {x : Xm}
theorem XmH.look (hX : XmH mb T x HX) (hm : ∀ p ∈ HX, p ∈ H) {k : Int} : PureAt Tryz.prog w0 H 13 [.pointer (some ⟨mb, 0, none⟩), .int .u64 k] (.tuple #[.agg (List.toArray (hdC ((fndC x.C k).getD zHd))), .int .i64 (if (fndC x.C k).isSome then 0 else 4)]) := by
  obtain ⟨kind, entries, words, closed, L, C, used⟩ := x
  cases hX with
  | @mk ab tb bo HA HT HO hA hB hO hx => exact Look_q hB hm
theorem XmH.find (hX : XmH mb T x HX) (hTl : T ≤ 1000000) {k : Int} : LCalls Tryz.prog w0 17 #[.pointer (some ⟨mb, 0, none⟩), .int .u64 k] (HX ++ H) (fun v H' => ∃ HX', XmH mb (T + 1) (x.find k).1 HX' ∧ v = .tuple #[.agg (List.toArray (hdC (x.find k).2.1)), .int .i64 (x.find k).2.2] ∧ H' = HX' ++ H) := by
  obtain ⟨kind, entries, words, closed, L, C, used⟩ := x
  cases hX with
  | @mk ab tb bo HA HT HO hA hB hO hx =>
    show LCalls _ _ _ _ ((mb, .cells 78 7 [.int .i64 (kind : Int), .int .i64 (entries : Int), .int .i64 (words : Int), .pointer (some ⟨ab, 0, none⟩), .pointer (some ⟨tb, 0, none⟩), .pointer (some ⟨bo, 0, none⟩), .bool closed]) :: ((HA ++ (HT ++ HO)) ++ H)) _
    rw [List.append_assoc, List.append_assoc]
    refine (Find_at (H := H) (HA := HA) (closed := closed) (kind := kind) (words := words) hB hO hTl (k := k) (fun h => hx.umem.2 h)).mono ?_
    rintro v H' ⟨HO2, hO2, rfl, rfl⟩
    cases hf : fndC C k with
    | none =>
      rw [hf] at hO2
      have e : Xm.find ⟨kind, entries, words, closed, L, C, used⟩ k = (⟨kind, entries, words, closed, L, C, used⟩, zHd, 4) := by unfold Xm.find; dsimp only; rw [hf]
      rw [e]
      exact ⟨_, .mk hA hB hO2 hx, rfl, by show _ = (mb, .cells 78 7 [.int .i64 (kind : Int), .int .i64 (entries : Int), .int .i64 (words : Int), .pointer (some ⟨ab, 0, none⟩), .pointer (some ⟨tb, 0, none⟩), .pointer (some ⟨bo, 0, none⟩), .bool closed]) :: ((HA ++ (HT ++ HO2)) ++ H); rw [List.append_assoc, List.append_assoc]⟩
    | some g =>
      rw [hf] at hO2
      have e : Xm.find ⟨kind, entries, words, closed, L, C, used⟩ k = (Xm.use ⟨kind, entries, words, closed, L, C, used⟩ k, g, 0) := by unfold Xm.find; dsimp only; rw [hf]
      rw [e]
      exact ⟨_, .mk hA hB hO2 (hx.use (hx.umem.2 (keyL_mem hf))), rfl, by show _ = (mb, .cells 78 7 [.int .i64 (kind : Int), .int .i64 (entries : Int), .int .i64 (words : Int), .pointer (some ⟨ab, 0, none⟩), .pointer (some ⟨tb, 0, none⟩), .pointer (some ⟨bo, 0, none⟩), .bool closed]) :: ((HA ++ (HT ++ HO2)) ++ H); rw [List.append_assoc, List.append_assoc]⟩
theorem put_kind (x : Xm) (how k : Int) (ws : List Int) : (x.put how k ws).1.kind = x.kind ∧ (x.put how k ws).1.entries = x.entries ∧ (x.put how k ws).1.words = x.words ∧ (x.put how k ws).1.closed = x.closed := by
  have hl : ∀ (y : Xm) c, (y.link c).1.kind = y.kind ∧ (y.link c).1.entries = y.entries ∧ (y.link c).1.words = y.words ∧ (y.link c).1.closed = y.closed := fun y c => by
    unfold Xm.link
    split
    · split <;> exact ⟨rfl, rfl, rfl, rfl⟩
    · exact ⟨rfl, rfl, rfl, rfl⟩
  unfold Xm.put
  split
  · exact ⟨rfl, rfl, rfl, rfl⟩
  · split
    · exact ⟨rfl, rfl, rfl, rfl⟩
    · split
      · split <;> exact ⟨rfl, rfl, rfl, rfl⟩
      · split
        · exact ⟨rfl, rfl, rfl, rfl⟩
        · split
          · exact hl _ _
          · exact hl _ _
theorem del_kind (x : Xm) (k : Int) : (x.del k).1.kind = x.kind ∧ (x.del k).1.entries = x.entries ∧ (x.del k).1.words = x.words ∧ (x.del k).1.closed = x.closed ∧ (x.del k).1.L = x.L := by
  unfold Xm.del
  split
  · exact ⟨rfl, rfl, rfl, rfl, rfl⟩
  · split <;> exact ⟨rfl, rfl, rfl, rfl, rfl⟩
theorem store_kind (x : Xm) (h : Hd) (a v : Int) : (x.store h a v).1.kind = x.kind ∧ (x.store h a v).1.entries = x.entries ∧ (x.store h a v).1.words = x.words ∧ (x.store h a v).1.closed = x.closed ∧ (x.store h a v).1.C = x.C ∧ (x.store h a v).1.used = x.used := by
  unfold Xm.store
  split
  · exact ⟨rfl, rfl, rfl, rfl, rfl, rfl⟩
  · split <;> exact ⟨rfl, rfl, rfl, rfl, rfl, rfl⟩
theorem free_kind (x : Xm) (h : Hd) : (x.free h).1.kind = x.kind ∧ (x.free h).1.entries = x.entries ∧ (x.free h).1.words = x.words ∧ (x.free h).1.closed = x.closed ∧ (x.free h).1.C = x.C ∧ (x.free h).1.used = x.used := by
  unfold Xm.free
  split
  · exact ⟨rfl, rfl, rfl, rfl, rfl, rfl⟩
  · split <;> exact ⟨rfl, rfl, rfl, rfl, rfl, rfl⟩
theorem close_kind (x : Xm) : x.close.1.kind = x.kind ∧ x.close.1.entries = x.entries ∧ x.close.1.words = x.words ∧ x.close.1.closed = true ∧ x.close.1.L = x.L := by
  unfold Xm.close
  split
  · rename_i h; exact ⟨rfl, rfl, rfl, h, rfl⟩
  · exact ⟨rfl, rfl, rfl, rfl, rfl⟩
theorem XmH.of {x y : Xm} (hk : y.kind = x.kind ∧ y.entries = x.entries ∧ y.words = x.words) {ab tb bo : Nat} {HA HT HO : Heap} (hA : AreH ab y.L HA) (hB : TabH tb x.entries y.C HT) (hO : OrdH bo x.entries T y.used HO) (hx : y.Ok) : XmH mb T y ((mb, .cells 78 7 [.int .i64 (x.kind : Int), .int .i64 (x.entries : Int), .int .i64 (x.words : Int), .pointer (some ⟨ab, 0, none⟩), .pointer (some ⟨tb, 0, none⟩), .pointer (some ⟨bo, 0, none⟩), .bool y.closed]) :: (HA ++ (HT ++ HO))) := by
  rw [← hk.1, ← hk.2.1, ← hk.2.2]
  exact .mk hA (by rw [hk.2.1]; exact hB) (by rw [hk.2.1]; exact hO) hx
theorem XmH.put (hX : XmH mb T x HX) (hTab : Tab w0) (hTl : T ≤ 1000000) {how k : Int} {ws : List Int} {ad : Option Addr} {cap : Nat} (hk : 0 ≤ k ∧ k < 18446744073709551616) (hrow : Holds w0 H ad (ws.map (Value.int .u64))) : LCalls Tryz.prog w0 11 #[.pointer (some ⟨mb, 0, none⟩), .int .i64 how, .int .u64 k, .slice ad ws.length cap] (HX ++ H) (fun v H' => ∃ HX', XmH mb (T + 2) (Xm.put x how k ws).1 HX' ∧ v = .tuple #[.agg (List.toArray (puttC (Xm.put x how k ws).2.1)), .int .i64 (Xm.put x how k ws).2.2] ∧ H' = HX' ++ H) := by
  obtain ⟨kind, entries, words, closed, L, C, used⟩ := x
  cases hX with
  | @mk ab tb bo HA HT HO hA hB hO hx =>
    show LCalls _ _ _ _ ((mb, .cells 78 7 [.int .i64 (kind : Int), .int .i64 (entries : Int), .int .i64 (words : Int), .pointer (some ⟨ab, 0, none⟩), .pointer (some ⟨tb, 0, none⟩), .pointer (some ⟨bo, 0, none⟩), .bool closed]) :: ((HA ++ (HT ++ HO)) ++ H)) _
    rw [List.append_assoc, List.append_assoc]
    refine (Put_at (H := H) hA hB hO hTl hx (how := how) (k := k) (cap := cap) hrow hTab).mono ?_
    rintro v H' ⟨HA2, HT2, HO2, hA2, hB2, hO2, rfl, rfl⟩
    have hk' := put_kind ⟨kind, entries, words, closed, L, C, used⟩ how k ws
    refine ⟨_, XmH.of (x := ⟨kind, entries, words, closed, L, C, used⟩) ⟨hk'.1, hk'.2.1, hk'.2.2.1⟩ hA2 hB2 hO2 (hx.put how ws hk), rfl, ?_⟩
    rw [show ((Xm.put ⟨kind, entries, words, closed, L, C, used⟩ how k ws)).1.closed = closed from hk'.2.2.2]
    show _ = (mb, .cells 78 7 [.int .i64 (kind : Int), .int .i64 (entries : Int), .int .i64 (words : Int), .pointer (some ⟨ab, 0, none⟩), .pointer (some ⟨tb, 0, none⟩), .pointer (some ⟨bo, 0, none⟩), .bool closed]) :: ((HA2 ++ (HT2 ++ HO2)) ++ H)
    rw [List.append_assoc, List.append_assoc]
theorem XmH.del (hX : XmH mb T x HX) {k : Int} : LCalls Tryz.prog w0 12 #[.pointer (some ⟨mb, 0, none⟩), .int .u64 k] (HX ++ H) (fun v H' => ∃ HX', XmH mb T (Xm.del x k).1 HX' ∧ v = .tuple #[.agg (List.toArray (hdC (Xm.del x k).2.1)), .int .i64 (Xm.del x k).2.2] ∧ H' = HX' ++ H) := by
  obtain ⟨kind, entries, words, closed, L, C, used⟩ := x
  cases hX with
  | @mk ab tb bo HA HT HO hA hB hO hx =>
    show LCalls _ _ _ _ ((mb, .cells 78 7 [.int .i64 (kind : Int), .int .i64 (entries : Int), .int .i64 (words : Int), .pointer (some ⟨ab, 0, none⟩), .pointer (some ⟨tb, 0, none⟩), .pointer (some ⟨bo, 0, none⟩), .bool closed]) :: ((HA ++ (HT ++ HO)) ++ H)) _
    rw [List.append_assoc, List.append_assoc]
    refine (Del_at (H := H) (HA := HA) (L := L) (closed := closed) (words := words) hB hO (k := k)).mono ?_
    rintro v H' ⟨HT2, HO2, hB2, hO2, rfl, rfl⟩
    have hk' := del_kind ⟨kind, entries, words, closed, L, C, used⟩ k
    refine ⟨_, XmH.of (x := ⟨kind, entries, words, closed, L, C, used⟩) ⟨hk'.1, hk'.2.1, hk'.2.2.1⟩ (by rw [hk'.2.2.2.2]; exact hA) hB2 hO2 (hx.del k), rfl, ?_⟩
    rw [show ((Xm.del ⟨kind, entries, words, closed, L, C, used⟩ k)).1.closed = closed from hk'.2.2.2.1]
    show _ = (mb, .cells 78 7 [.int .i64 (kind : Int), .int .i64 (entries : Int), .int .i64 (words : Int), .pointer (some ⟨ab, 0, none⟩), .pointer (some ⟨tb, 0, none⟩), .pointer (some ⟨bo, 0, none⟩), .bool closed]) :: ((HA ++ (HT2 ++ HO2)) ++ H)
    rw [List.append_assoc, List.append_assoc]
theorem XmH.store (hX : XmH mb T x HX) {h : Hd} {at_ vv : Int} : LCalls Tryz.prog w0 21 #[.pointer (some ⟨mb, 0, none⟩), .agg (List.toArray (hdC h)), .int .i64 at_, .int .u64 vv] (HX ++ H) (fun v H' => ∃ HX', XmH mb T (Xm.store x h at_ vv).1 HX' ∧ v = .int .i64 (Xm.store x h at_ vv).2 ∧ H' = HX' ++ H) := by
  obtain ⟨kind, entries, words, closed, L, C, used⟩ := x
  cases hX with
  | @mk ab tb bo HA HT HO hA hB hO hx =>
    show LCalls _ _ _ _ ((mb, .cells 78 7 [.int .i64 (kind : Int), .int .i64 (entries : Int), .int .i64 (words : Int), .pointer (some ⟨ab, 0, none⟩), .pointer (some ⟨tb, 0, none⟩), .pointer (some ⟨bo, 0, none⟩), .bool closed]) :: ((HA ++ (HT ++ HO)) ++ H)) _
    rw [List.append_assoc, List.append_assoc]
    refine (Store_at (H := H) (HO := HO) (closed := closed) (kind := kind) hA hB (h := h) (at_ := at_) (v := vv) used hx.wrd.2).mono ?_
    rintro v H' ⟨HA2, hA2, rfl, rfl⟩
    have hk' := store_kind ⟨kind, entries, words, closed, L, C, used⟩ h at_ vv
    refine ⟨_, XmH.of (x := ⟨kind, entries, words, closed, L, C, used⟩) ⟨hk'.1, hk'.2.1, hk'.2.2.1⟩ hA2 (by rw [hk'.2.2.2.2.1]; exact hB) (by rw [hk'.2.2.2.2.2]; exact hO) (hx.store h at_ vv), rfl, ?_⟩
    rw [show ((Xm.store ⟨kind, entries, words, closed, L, C, used⟩ h at_ vv)).1.closed = closed from hk'.2.2.2.1]
    show _ = (mb, .cells 78 7 [.int .i64 (kind : Int), .int .i64 (entries : Int), .int .i64 (words : Int), .pointer (some ⟨ab, 0, none⟩), .pointer (some ⟨tb, 0, none⟩), .pointer (some ⟨bo, 0, none⟩), .bool closed]) :: ((HA2 ++ (HT ++ HO)) ++ H)
    rw [List.append_assoc, List.append_assoc]
theorem XmH.free (hX : XmH mb T x HX) {h : Hd} : LCalls Tryz.prog w0 19 #[.pointer (some ⟨mb, 0, none⟩), .agg (List.toArray (hdC h))] (HX ++ H) (fun v H' => ∃ HX', XmH mb T (Xm.free x h).1 HX' ∧ v = .int .i64 (Xm.free x h).2 ∧ H' = HX' ++ H) := by
  obtain ⟨kind, entries, words, closed, L, C, used⟩ := x
  cases hX with
  | @mk ab tb bo HA HT HO hA hB hO hx =>
    show LCalls _ _ _ _ ((mb, .cells 78 7 [.int .i64 (kind : Int), .int .i64 (entries : Int), .int .i64 (words : Int), .pointer (some ⟨ab, 0, none⟩), .pointer (some ⟨tb, 0, none⟩), .pointer (some ⟨bo, 0, none⟩), .bool closed]) :: ((HA ++ (HT ++ HO)) ++ H)) _
    rw [List.append_assoc, List.append_assoc]
    refine (Free_at (H := H) (HO := HO) (closed := closed) (kind := kind) (words := words) hA hB (h := h) used).mono ?_
    rintro v H' ⟨HA2, hA2, rfl, rfl⟩
    have hk' := free_kind ⟨kind, entries, words, closed, L, C, used⟩ h
    refine ⟨_, XmH.of (x := ⟨kind, entries, words, closed, L, C, used⟩) ⟨hk'.1, hk'.2.1, hk'.2.2.1⟩ hA2 (by rw [hk'.2.2.2.2.1]; exact hB) (by rw [hk'.2.2.2.2.2]; exact hO) (hx.free h), rfl, ?_⟩
    rw [show ((Xm.free ⟨kind, entries, words, closed, L, C, used⟩ h)).1.closed = closed from hk'.2.2.2.1]
    show _ = (mb, .cells 78 7 [.int .i64 (kind : Int), .int .i64 (entries : Int), .int .i64 (words : Int), .pointer (some ⟨ab, 0, none⟩), .pointer (some ⟨tb, 0, none⟩), .pointer (some ⟨bo, 0, none⟩), .bool closed]) :: ((HA2 ++ (HT ++ HO)) ++ H)
    rw [List.append_assoc, List.append_assoc]
theorem XmH.key (hX : XmH mb T x HX) (hm : ∀ p ∈ HX, p ∈ H) {h : Hd} : PureAt Tryz.prog w0 H 18 [.pointer (some ⟨mb, 0, none⟩), .agg (List.toArray (hdC h))] (.tuple #[.int .u64 (x.key h).1, .int .i64 (x.key h).2]) := by
  obtain ⟨kind, entries, words, closed, L, C, used⟩ := x
  cases hX with
  | @mk ab tb bo HA HT HO hA hB hO hx => exact Key_q (h := h) hA hB hm
theorem XmH.load (hX : XmH mb T x HX) (hm : ∀ p ∈ HX, p ∈ H) {h : Hd} {at_ : Int} : PureAt Tryz.prog w0 H 14 [.pointer (some ⟨mb, 0, none⟩), .agg (List.toArray (hdC h)), .int .i64 at_] (.tuple #[.int .u64 (x.load h at_).1, .int .i64 (x.load h at_).2]) := by
  obtain ⟨kind, entries, words, closed, L, C, used⟩ := x
  cases hX with
  | @mk ab tb bo HA HT HO hA hB hO hx => exact Load_q hA hB used hx.wrd.2 hm
theorem XmH.linked (hX : XmH mb T x HX) (hm : ∀ p ∈ HX, p ∈ H) {h : Hd} : PureAt Tryz.prog w0 H 20 [.pointer (some ⟨mb, 0, none⟩), .agg (List.toArray (hdC h))] (.bool (x.linked h)) := by
  obtain ⟨kind, entries, words, closed, L, C, used⟩ := x
  cases hX with
  | @mk ab tb bo HA HT HO hA hB hO hx => exact Linked_q hA hB used hm
theorem XmH.len (hX : XmH mb T x HX) (hm : ∀ p ∈ HX, p ∈ H) : PureAt Tryz.prog w0 H 9 [.pointer (some ⟨mb, 0, none⟩)] (.int .i64 (x.C.length : Int)) := by
  obtain ⟨kind, entries, words, closed, L, C, used⟩ := x
  cases hX with
  | @mk ab tb bo HA HT HO hA hB hO hx => exact Len_qm hA hB hm
theorem XmH.held (hX : XmH mb T x HX) (hm : ∀ p ∈ HX, p ∈ H) : PureAt Tryz.prog w0 H 10 [.pointer (some ⟨mb, 0, none⟩)] (.int .i64 ((cntA 1 x.L : Nat) : Int)) := by
  obtain ⟨kind, entries, words, closed, L, C, used⟩ := x
  cases hX with
  | @mk ab tb bo HA HT HO hA hB hO hx => exact Held_qm hA hB hm
theorem XmH.kindq (hX : XmH mb T x HX) (hm : ∀ p ∈ HX, p ∈ H) : PureAt Tryz.prog w0 H 29 [.pointer (some ⟨mb, 0, none⟩)] (.int .i64 (x.kind : Int)) := by
  obtain ⟨kind, entries, words, closed, L, C, used⟩ := x
  cases hX with
  | @mk ab tb bo HA HT HO hA hB hO hx => exact Kind_qm hA hB hm
theorem XmH.wordsq (hX : XmH mb T x HX) (hm : ∀ p ∈ HX, p ∈ H) : PureAt Tryz.prog w0 H 30 [.pointer (some ⟨mb, 0, none⟩)] (.int .i64 (x.words : Int)) := by
  obtain ⟨kind, entries, words, closed, L, C, used⟩ := x
  cases hX with
  | @mk ab tb bo HA HT HO hA hB hO hx => exact Words_qm hA hB hm
theorem XmH.keys (hX : XmH mb T x HX) : LCalls Tryz.prog w0 26 #[.pointer (some ⟨mb, 0, none⟩)] (HX ++ H) (fun v H' => ∃ X, OwnS 22 1 v (x.keys).length ((x.keys).map (Value.int .u64)) X ∧ H' = X ++ (HX ++ H)) := by
  obtain ⟨kind, entries, words, closed, L, C, used⟩ := x
  cases hX with
  | @mk ab tb bo HA HT HO hA hB hO hx =>
    show LCalls _ _ _ _ ((mb, .cells 78 7 [.int .i64 (kind : Int), .int .i64 (entries : Int), .int .i64 (words : Int), .pointer (some ⟨ab, 0, none⟩), .pointer (some ⟨tb, 0, none⟩), .pointer (some ⟨bo, 0, none⟩), .bool closed]) :: ((HA ++ (HT ++ HO)) ++ H)) _
    rw [List.append_assoc, List.append_assoc]
    refine (Keys_at (H := H) (closed := closed) hA hB hO hx).mono ?_
    rintro v H' ⟨X, hX, rfl⟩
    exact ⟨X, hX, by rw [List.cons_append, List.append_assoc, List.append_assoc]⟩
theorem XmH.close (hX : XmH mb T x HX) : LCalls Tryz.prog w0 15 #[.pointer (some ⟨mb, 0, none⟩)] (HX ++ H) (fun v H' => ∃ HX' OX, XmH mb T x.close.1 HX' ∧ OwnS 29 2 v (x.close.2).length ((x.close.2).flatMap hdC) OX ∧ H' = OX ++ (HX' ++ H)) := by
  obtain ⟨kind, entries, words, closed, L, C, used⟩ := x
  have hX0 := hX
  cases hX with
  | @mk ab tb bo HA HT HO hA hB hO hx =>
    cases closed with
    | true =>
      refine (Close_done (ab := ab) (tb := tb) (bo := bo) (HA := HA) (HT := HT) (HO := HO) (kind := kind) (entries := entries) (words := words) (fun p hp => List.mem_append_left _ hp)).mono ?_
      rintro v H' ⟨rfl, rfl⟩
      exact ⟨_, [], hX0, .nil, rfl⟩
    | false =>
      show LCalls _ _ _ _ ((mb, .cells 78 7 [.int .i64 (kind : Int), .int .i64 (entries : Int), .int .i64 (words : Int), .pointer (some ⟨ab, 0, none⟩), .pointer (some ⟨tb, 0, none⟩), .pointer (some ⟨bo, 0, none⟩), .bool false]) :: ((HA ++ (HT ++ HO)) ++ H)) _
      rw [List.append_assoc, List.append_assoc]
      refine (Close_go (H := H) hA hB hO (words := words) hx).mono ?_
      rintro v H' ⟨HT2, HO2, OX, hB2, hO2, hv, rfl⟩
      have hk' := close_kind ⟨kind, entries, words, false, L, C, used⟩
      refine ⟨_, OX, XmH.of (x := ⟨kind, entries, words, false, L, C, used⟩) ⟨hk'.1, hk'.2.1, hk'.2.2.1⟩ (by rw [hk'.2.2.2.2]; exact hA) hB2 hO2 hx.close, hv, ?_⟩
      rw [hk'.2.2.2.1, List.cons_append, List.append_assoc, List.append_assoc]
end
theorem XmH.new {w0 : World} {H : Heap} (hTab : Tab w0) {kind entries words : Nat} (h1 : kind ≤ 2) (h2 : 1 ≤ entries ∧ entries ≤ 8) (h3 : 1 ≤ words ∧ words ≤ 4) : LCalls Tryz.prog w0 8 #[.int .i64 (kind : Int), .int .i64 (entries : Int), .int .i64 (words : Int)] (H) (fun v H' => ∃ mb HX, XmH mb 8 (Xm.new kind entries words) HX ∧ v = .tuple #[.pointer (some ⟨mb, 0, none⟩), .int .i64 0] ∧ H' = HX ++ H) := by
  refine (New_go (H := H) h1 h2 h3 hTab).mono ?_
  rintro v H' ⟨mb, ab, tb, bo, HA, HT, HO, hA, hB, hO, rfl, rfl⟩
  refine ⟨mb, _, .mk (x := Xm.new kind entries words) hA hB hO (new_ok h1 h2 h3), rfl, ?_⟩
  show _ = (mb, .cells 78 7 [.int .i64 (kind : Int), .int .i64 (entries : Int), .int .i64 (words : Int), .pointer (some ⟨ab, 0, none⟩), .pointer (some ⟨tb, 0, none⟩), .pointer (some ⟨bo, 0, none⟩), .bool false]) :: ((HA ++ (HT ++ HO)) ++ H)
  rw [List.append_assoc, List.append_assoc]
end Go.Proofs.YtphdlpmnidiliaaGreatDoor
namespace Go.Proofs.YtphdlpmnidiliaaGreatDoor
open Go Go.Sl
attribute [local irreducible] W
set_option maxHeartbeats 1000000 in
theorem sameU_q {w0 : World} {H : Heap} {l r : List Int} {a1 a2 : Option Addr} {c1 c2 : Nat} (hl : Holds w0 H a1 (l.map (Value.int .u64))) (hr : Holds w0 H a2 (r.map (Value.int .u64))) (hn : l.length ≤ 4611686018427387904)  : PureAt Tryz.prog w0 H 25 [.slice a1 l.length c1, .slice a2 r.length c2] (.bool (decide (l = r))) := by
  refine L_enter Tryz.func25 rfl Tryz.ntmps25 rfl rfl ?_
  refine W_sr ?_
  refine W_assign rfl rfl ?_
  refine W_nil ?_
  refine W_seq ?_
  refine W_sr ?_
  refine W_move rfl rfl ?_
  refine W_len rfl ty42 rfl rfl ?_
  refine W_move rfl rfl ?_
  refine W_len rfl ty42 rfl rfl ?_
  refine W_bin rfl rfl b_neq rfl ?_
  refine W_nil ?_
  refine W_condPS (p := (l.length : Int) ≠ (r.length : Int)) rfl (by simp) (fun q0 => ?_) (fun q0 => ?_)
  · skip
    refine W_sr ?_
    refine W_assign rfl rfl ?_
    refine W_nil ?_
    refine W_ret1m (H2 := H) Tryz.results25 rfl (.nil _) zH ?_
    exact ⟨by rw [decide_eq_false (fun e => q0 (by rw [e]))], rfl⟩
  · skip
    refine W_skip ?_
    refine W_seq ?_
    refine W_sr ?_
    refine W_assign rfl rfl ?_
    refine W_nil ?_
    refine W_block ?_
    have hlen : l.length = r.length := by omega
    refine W_loopC (X := Nat) [(0, _), (1, _)] (fun (i : Nat) => [(5, .int .i64 (i : Int))]) (fun _ => _) (fun (i : Nat) => H) (fun (i : Nat) => i ≤ l.length ∧ l.take i = r.take i) (fun (i : Nat) => l.length - i) 0 ⟨Nat.zero_le _, rfl⟩ (sub_cons rfl (sub_cons rfl (sub_nil _))) (sub_cons rfl (sub_nil _)) rfl zH ?_
    rintro i ⟨hi, heq⟩
    simp only [List.cons_append, List.nil_append]
    refine W_seq ?_
    refine W_sr ?_
    refine W_move rfl rfl ?_
    refine W_move rfl rfl ?_
    refine W_len rfl ty42 rfl rfl ?_
    refine W_bin rfl rfl b_lss rfl ?_
    refine W_nil ?_
    refine W_condPS (p := (i : Int) < (l.length : Int)) rfl (by simp) (fun q1 => ?_) (fun q1 => ?_)
    · skip
      refine W_skip ?_
      refine W_seq ?_
      refine W_block ?_
      refine W_quietsr (by kernel_rfl) (by decide +kernel) ?_
      obtain ⟨x, hx⟩ : ∃ x, l[i]? = some x := ⟨_, List.getElem?_eq_getElem (by omega)⟩
      obtain ⟨q0, p0, rfl, hc⟩ := hl.at (i := i) (v := .int .u64 x) (by rw [List.getElem?_map, hx]; rfl)
      obtain ⟨y, hy⟩ : ∃ y, r[i]? = some y := ⟨_, List.getElem?_eq_getElem (by omega)⟩
      obtain ⟨q1, p1, rfl, hc'⟩ := hr.at (i := i) (v := .int .u64 y) (by rw [List.getElem?_map, hy]; rfl)
      refine WQ_x (X_move rfl) rfl ?_
      refine WQ_x (X_move rfl) rfl ?_
      refine WQ_x (X_indexAddr (j := i) rfl rfl ty42 ty22 rfl (by omega) rfl) rfl ?_
      refine WQ_x (X_load (v := .int .u64 x) rfl ty22 rfl (by rw [Nat.mul_one]; exact hc.up zH)) rfl ?_
      refine WQ_x (X_move rfl) rfl ?_
      refine WQ_x (X_move rfl) rfl ?_
      refine WQ_x (X_indexAddr (j := i) rfl rfl ty42 ty22 rfl (by omega) rfl) rfl ?_
      refine WQ_x (X_load (v := .int .u64 y) rfl ty22 rfl (by rw [Nat.mul_one]; exact hc'.up zH)) rfl ?_
      refine WQ_x (X_bin rfl rfl b_neq) rfl ?_
      refine WQ_nil ?_
      refine W_condPS (p := ¬ x = y) rfl (by simp) (fun q2 => ?_) (fun q2 => ?_)
      · skip
        refine W_sr ?_
        refine W_assign rfl rfl ?_
        refine W_nil ?_
        refine W_ret1m (H2 := H) Tryz.results25 rfl (.nil _) zH ?_
        exact ⟨by rw [decide_eq_false (fun e => q2 (by rw [e, hy] at hx; exact (Option.some.inj hx).symm))], rfl⟩
      · skip
        refine W_skip ?_
        refine W_blk ?_
        refine W_region ?_
        refine W_move rfl rfl ?_
        refine W_bin rfl rfl (b_add (m := ((i + 1 : Nat) : Int)) ((i64w (by omega)).trans (by omega))) rfl ?_
        refine W_assign rfl rfl ?_
        refine W_nil ?_
        refine W_again (i + 1) ⟨by omega, by rw [takeAt' hx, takeAt' hy, heq, Classical.not_not.1 q2]⟩ (by omega) (sub_cons rfl (sub_cons rfl (sub_cons rfl (sub_nil _)))) rfl zH
    · skip
      refine W_exit rfl ?_
      refine W_sr ?_
      refine W_assign rfl rfl ?_
      refine W_nil ?_
      refine W_ret1m (H2 := H) Tryz.results25 rfl (.nil _) zH ?_
      obtain rfl : i = l.length := by omega
      exact ⟨by rw [decide_eq_true (by rwa [List.take_length, hlen, List.take_length] at heq)], rfl⟩
def kA0 : Xm := Xm.new 2 2 1
def kA1 : Xm := (kA0.put 0 5 [50]).1
def kA2 : Xm := (kA1.put 0 6 [60]).1
def kA3 : Xm := (kA2.find 5).1
def kA4 : Xm := (kA3.put 0 7 [70]).1
def kB0 : Xm := Xm.new 1 1 1
def kB1 : Xm := (kB0.put 0 5 [50]).1
def kB2 : Xm := (kB1.put 0 6 []).1
def kB3 : Xm := (kB2.del 5).1
def kB4 : Xm := (kB3.put 0 6 []).1
def kB5 : Xm := (kB4.del 6).1
theorem kA_p : (kA1.put 0 6 [60]).2 = (⟨⟨1, 1⟩, zHd, false⟩, 0) := by decide
theorem kA_q : (kA3.put 0 7 [70]).2 = (⟨⟨2, 1⟩, ⟨1, 1⟩, true⟩, 0) := by decide
theorem kA_u : kA4.kind = 2 ∧ kA4.used = [5, 7] := by decide
theorem kA_h : cntA 1 kA4.L = 3 := by decide
theorem kB_a : (kB1.put 0 6 []).2 = (zPutt, 3) := by decide
theorem kB_b : (kB3.put 0 6 []).2.2 = 0 := by decide
theorem kB_c : (kB5.put 0 7 []).2.2 = 20 := by decide
set_option maxHeartbeats 4000000 in
theorem xknown_L {w0 : World} {H : Heap}  (hTab : Tab w0) : LCalls Tryz.prog w0 16 #[] (H) (fun v H' => v = .bool true ∧ H' = H) := by
  refine L_enter (l := []) Tryz.func16 rfl Tryz.ntmps16 rfl rfl ?_
  refine W_sr ?_
  refine W_assign rfl rfl ?_
  refine W_nil ?_
  refine W_sr ?_
  refine W_call (.cons rfl (.cons rfl (.cons rfl .nil))) Tryz.call8 rfl (XmH.new hTab (kind := 2) (entries := 2) (words := 1) (by decide) (by decide) (by decide)) ?_
  rintro v H' ⟨ma, HX0, hX0, rfl, rfl⟩
  replace hX0 : XmH _ _ kA0 _ := hX0
  refine W_move rfl rfl ?_
  refine W_extract rfl rfl rfl ?_
  refine W_extract rfl rfl rfl ?_
  refine W_assign rfl rfl ?_
  refine W_assign rfl rfl ?_
  refine W_nil ?_
  refine W_seq ?_
  refine W_sr ?_
  refine W_move rfl rfl ?_
  refine W_bin rfl rfl b_neq rfl ?_
  rw [decide_eq_false (by decide)]
  refine W_nil ?_
  refine W_condF rfl rfl ?_
  refine W_skip ?_
  refine W_sr ?_
  refine W_move rfl rfl ?_
  refine W_buildSlice (l := [.int .u64 50]) ty42 ty22 (.cons rfl rfl rfl rfl rfl .nil) rfl rfl rfl rfl rfl rfl rfl (fun b22 => ?_)
  refine W_call (.cons rfl (.cons rfl (.cons rfl (.cons rfl .nil)))) Tryz.call11 rfl ((hX0.put hTab (by decide) (how := 0) (k := 5) (ws := [50]) (cap := 1) (by decide) (Holds.own (b := b22) zM) (H := (b22, .cells 22 (1 * 1) [.int .u64 50]) :: H)).hsub zH) ?_
  rintro v H' ⟨HX1, hX1, rfl, rfl⟩
  replace hX1 : XmH _ _ kA1 _ := hX1
  refine W_nil ?_
  refine W_sr ?_
  refine W_move rfl rfl ?_
  refine W_buildSlice (l := [.int .u64 60]) ty42 ty22 (.cons rfl rfl rfl rfl rfl .nil) rfl rfl rfl rfl rfl rfl rfl (fun b26 => ?_)
  refine W_call (.cons rfl (.cons rfl (.cons rfl (.cons rfl .nil)))) Tryz.call11 rfl ((hX1.put hTab (by decide) (how := 0) (k := 6) (ws := [60]) (cap := 1) (by decide) (Holds.own (b := b26) zM) (H := (b26, .cells 22 (1 * 1) [.int .u64 60]) :: H)).hsub zH) ?_
  rintro v H' ⟨HX2, hX2, rfl, rfl⟩
  replace hX2 : XmH _ _ kA2 _ := hX2
  rw [show (Xm.put kA1 0 6 [60]).2.1 = ⟨⟨1, 1⟩, zHd, false⟩ from congrArg Prod.fst kA_p, show (Xm.put kA1 0 6 [60]).2.2 = 0 from congrArg Prod.snd kA_p]
  refine W_move rfl rfl ?_
  refine W_extract rfl rfl rfl ?_
  refine W_extract rfl rfl rfl ?_
  refine W_alloc (l := puttC zPutt) ty31 rfl rfl (fun b3 => ?_)
  refine W_storeA (l' := puttC ⟨⟨1, 1⟩, zHd, false⟩) rfl rfl ty31 rfl rfl (b := b3) zM (by exact Nat.le_refl 5) rfl zU ?_
  refine W_assign rfl rfl ?_
  refine W_nil ?_
  refine W_sr ?_
  refine W_move rfl rfl ?_
  refine W_call (.cons rfl (.cons rfl .nil)) Tryz.call17 rfl ((hX2.find (by decide) (k := 5) (H := (b3, .cells 31 5 (puttC ⟨⟨1, 1⟩, zHd, false⟩)) :: H)).hsub zH) ?_
  rintro v H' ⟨HX3, hX3, rfl, rfl⟩
  replace hX3 : XmH _ _ kA3 _ := hX3
  refine W_nil ?_
  refine W_sr ?_
  refine W_move rfl rfl ?_
  refine W_buildSlice (l := [.int .u64 70]) ty42 ty22 (.cons rfl rfl rfl rfl rfl .nil) rfl rfl rfl rfl rfl rfl rfl (fun b34 => ?_)
  refine W_call (.cons rfl (.cons rfl (.cons rfl (.cons rfl .nil)))) Tryz.call11 rfl ((hX3.put hTab (by decide) (how := 0) (k := 7) (ws := [70]) (cap := 1) (by decide) (Holds.own (b := b34) zM) (H := (b34, .cells 22 (1 * 1) [.int .u64 70]) :: (b3, .cells 31 5 (puttC ⟨⟨1, 1⟩, zHd, false⟩)) :: H)).hsub zH) ?_
  rintro v H' ⟨HX4, hX4, rfl, rfl⟩
  replace hX4 : XmH _ _ kA4 _ := hX4
  rw [show (Xm.put kA3 0 7 [70]).2.1 = ⟨⟨2, 1⟩, ⟨1, 1⟩, true⟩ from congrArg Prod.fst kA_q, show (Xm.put kA3 0 7 [70]).2.2 = 0 from congrArg Prod.snd kA_q]
  refine W_move rfl rfl ?_
  refine W_extract rfl rfl rfl ?_
  refine W_extract rfl rfl rfl ?_
  refine W_alloc (l := puttC zPutt) ty31 rfl rfl (fun b5 => ?_)
  refine W_storeA (l' := puttC ⟨⟨2, 1⟩, ⟨1, 1⟩, true⟩) rfl rfl ty31 rfl rfl (b := b5) zM (by exact Nat.le_refl 5) rfl zU ?_
  refine W_assign rfl rfl ?_
  refine W_nil ?_
  refine W_seq ?_
  refine W_sr ?_
  refine W_move rfl rfl ?_
  refine W_bin rfl rfl b_neq rfl ?_
  rw [decide_eq_false (by decide)]
  refine W_move rfl rfl ?_
  refine W_gyes rfl rfl ?_
  refine W_fieldAddr rfl fld31_2 (by decide) rfl ?_
  refine W_gyes rfl rfl ?_
  refine W_load (v := .bool true) rfl ty4 rfl (Cell.own (b := b5) zM rfl) rfl ?_
  refine W_gyes rfl rfl ?_
  refine W_not rfl rfl ?_
  first | refine W_pickt rfl rfl rfl ?_ | refine W_pickf rfl rfl rfl ?_
  refine W_move rfl rfl ?_
  refine W_gyes rfl rfl ?_
  refine W_fieldAddr rfl fld31_1 (by decide) rfl ?_
  refine W_gyes rfl rfl ?_
  refine W_loadB (vs := hdC ⟨1, 1⟩) rfl ty29 rfl (b := b5) zM rfl rfl rfl ?_
  refine W_gyes rfl rfl ?_
  refine W_fieldAddr rfl fld31_0 (by decide) rfl ?_
  refine W_gyes rfl rfl ?_
  refine W_loadB (vs := hdC ⟨1, 1⟩) rfl ty29 rfl (b := b3) zM rfl rfl rfl ?_
  refine W_gyes rfl rfl ?_
  refine W_x (X_neF (f := hdC) rfl rfl flat29 agg29 hdC_like hdC_inj gt29 (by decide)) (fun _ h => by cases h) rfl ?_
  first | refine W_pickt rfl rfl rfl ?_ | refine W_pickf rfl rfl rfl ?_
  refine W_move rfl rfl ?_
  refine W_gyes rfl rfl ?_
  refine W_move rfl rfl ?_
  refine W_gyes rfl rfl ?_
  refine W_call (.cons rfl .nil) Tryz.call26 rfl ((hX4.keys (H := (b5, .cells 31 5 (puttC ⟨⟨2, 1⟩, ⟨1, 1⟩, true⟩)) :: (b3, .cells 31 5 (puttC ⟨⟨1, 1⟩, zHd, false⟩)) :: H)).hsub zH) ?_
  rintro v H' ⟨X, hK, rfl⟩
  rw [show (Xm.keys kA4) = [5, 7] from by unfold Xm.keys; rw [if_pos kA_u.1, kA_u.2]] at hK
  obtain ⟨adk, capk, rfl, _, _, hrk⟩ := Holds.of_own (w0 := w0) (H := X ++ []) hK (fun p hp => List.mem_append_left _ hp)
  refine W_gyes rfl rfl ?_
  refine W_buildSlice (l := [.int .u64 5, .int .u64 7]) ty42 ty22 (.cons rfl rfl rfl rfl rfl (.cons rfl rfl rfl rfl rfl .nil)) rfl rfl rfl rfl rfl rfl rfl (fun b55 => ?_)
  refine W_gyes rfl rfl ?_
  refine W_callq (.cons rfl (.cons rfl .nil)) Tryz.call25 rfl (sameU_q (l := [5, 7]) (r := [5, 7]) (hrk.up zH) (Holds.own (b := b55) zM) (by decide)) ?_
  refine W_gyes rfl rfl ?_
  refine W_not rfl rfl ?_
  first | refine W_pickt rfl rfl rfl ?_ | refine W_pickf rfl rfl rfl ?_
  refine W_move rfl rfl ?_
  refine W_gyes rfl rfl ?_
  refine W_move rfl rfl ?_
  refine W_gyes rfl rfl ?_
  refine W_callq (.cons rfl .nil) Tryz.call10 rfl (hX4.held (fun p hp => by repeat (first | exact List.mem_append_left _ hp | apply List.mem_cons_of_mem | apply List.mem_append_right))) ?_
  rw [kA_h]
  refine W_gyes rfl rfl ?_
  refine W_bin rfl rfl b_neq rfl ?_
  rw [decide_eq_false (by decide)]
  first | refine W_pickt rfl rfl rfl ?_ | refine W_pickf rfl rfl rfl ?_
  refine W_nil ?_
  refine W_condF rfl rfl ?_
  refine W_skip ?_
  refine W_sr ?_
  refine W_call (.cons rfl (.cons rfl (.cons rfl .nil))) Tryz.call8 rfl (XmH.new hTab (kind := 1) (entries := 1) (words := 1) (by decide) (by decide) (by decide)) ?_
  rintro v H' ⟨mc, HY0, hY0, rfl, rfl⟩
  replace hY0 : XmH _ _ kB0 _ := hY0
  refine W_move rfl rfl ?_
  refine W_extract rfl rfl rfl ?_
  refine W_extract rfl rfl rfl ?_
  refine W_assign rfl rfl ?_
  refine W_assign rfl rfl ?_
  refine W_nil ?_
  refine W_sr ?_
  refine W_move rfl rfl ?_
  refine W_buildSlice (l := [.int .u64 50]) ty42 ty22 (.cons rfl rfl rfl rfl rfl .nil) rfl rfl rfl rfl rfl rfl rfl (fun b69 => ?_)
  refine W_call (.cons rfl (.cons rfl (.cons rfl (.cons rfl .nil)))) Tryz.call11 rfl ((hY0.put hTab (by decide) (how := 0) (k := 5) (ws := [50]) (cap := 1) (by decide) (Holds.own (b := b69) zM) (H := (b69, .cells 22 (1 * 1) [.int .u64 50]) :: H)).hsub zH) ?_
  rintro v H' ⟨HY1, hY1, rfl, rfl⟩
  replace hY1 : XmH _ _ kB1 _ := hY1
  refine W_nil ?_
  refine W_sr ?_
  refine W_move rfl rfl ?_
  refine W_call (.cons rfl (.cons rfl (.cons rfl (.cons rfl .nil)))) Tryz.call11 rfl ((hY1.put hTab (by decide) (how := 0) (k := 6) (ws := []) (cap := 0) (by decide) Holds.nil (H := H)).hsub zH) ?_
  rintro v H' ⟨HY2, hY2, rfl, rfl⟩
  replace hY2 : XmH _ _ kB2 _ := hY2
  rw [show (Xm.put kB1 0 6 []).2.1 = zPutt from congrArg Prod.fst kB_a, show (Xm.put kB1 0 6 []).2.2 = 3 from congrArg Prod.snd kB_a]
  refine W_move rfl rfl ?_
  refine W_extract rfl rfl rfl ?_
  refine W_extract rfl rfl rfl ?_
  refine W_alloc (l := puttC zPutt) ty31 rfl rfl (fun b9 => ?_)
  refine W_storeA (l' := puttC zPutt) rfl rfl ty31 rfl rfl (b := b9) zM (by exact Nat.le_refl 5) rfl zU ?_
  refine W_assign rfl rfl ?_
  refine W_nil ?_
  refine W_sr ?_
  refine W_move rfl rfl ?_
  refine W_call (.cons rfl (.cons rfl .nil)) Tryz.call12 rfl ((hY2.del (k := 5) (H := H)).hsub zH) ?_
  rintro v H' ⟨HY3, hY3, rfl, rfl⟩
  replace hY3 : XmH _ _ kB3 _ := hY3
  refine W_nil ?_
  refine W_sr ?_
  refine W_move rfl rfl ?_
  refine W_call (.cons rfl (.cons rfl (.cons rfl (.cons rfl .nil)))) Tryz.call11 rfl ((hY3.put hTab (by decide) (how := 0) (k := 6) (ws := []) (cap := 0) (by decide) Holds.nil (H := H)).hsub zH) ?_
  rintro v H' ⟨HY4, hY4, rfl, rfl⟩
  replace hY4 : XmH _ _ kB4 _ := hY4
  obtain ⟨p4, hp4⟩ : ∃ p4, p4 = (Xm.put kB3 0 6 []).2.1 := ⟨_, rfl⟩
  rw [← hp4, kB_b]
  refine W_move rfl rfl ?_
  refine W_extract rfl rfl rfl ?_
  refine W_extract rfl rfl rfl ?_
  refine W_alloc (l := puttC zPutt) ty31 rfl rfl (fun b11 => ?_)
  refine W_storeA (l' := puttC p4) rfl rfl ty31 rfl rfl (b := b11) zM (by exact Nat.le_refl 5) rfl zU ?_
  refine W_assign rfl rfl ?_
  refine W_nil ?_
  refine W_sr ?_
  refine W_move rfl rfl ?_
  refine W_call (.cons rfl (.cons rfl .nil)) Tryz.call12 rfl ((hY4.del (k := 6) (H := H)).hsub zH) ?_
  rintro v H' ⟨HY5, hY5, rfl, rfl⟩
  replace hY5 : XmH _ _ kB5 _ := hY5
  refine W_nil ?_
  refine W_sr ?_
  refine W_move rfl rfl ?_
  refine W_call (.cons rfl (.cons rfl (.cons rfl (.cons rfl .nil)))) Tryz.call11 rfl ((hY5.put hTab (by decide) (how := 0) (k := 7) (ws := []) (cap := 0) (by decide) Holds.nil (H := H)).hsub zH) ?_
  rintro v H' ⟨HY6, hY6, rfl, rfl⟩
  obtain ⟨p5, hp5⟩ : ∃ p5, p5 = (Xm.put kB5 0 7 []).2.1 := ⟨_, rfl⟩
  rw [← hp5, kB_c]
  refine W_move rfl rfl ?_
  refine W_extract rfl rfl rfl ?_
  refine W_extract rfl rfl rfl ?_
  refine W_alloc (l := puttC zPutt) ty31 rfl rfl (fun b13 => ?_)
  refine W_storeA (l' := puttC p5) rfl rfl ty31 rfl rfl (b := b13) zM (by exact Nat.le_refl 5) rfl zU ?_
  refine W_assign rfl rfl ?_
  refine W_nil ?_
  refine W_sr ?_
  refine W_move rfl rfl ?_
  refine W_bin rfl rfl b_eql rfl ?_
  refine W_move rfl rfl ?_
  refine W_gyes rfl rfl ?_
  refine W_move rfl rfl ?_
  refine W_gyes rfl rfl ?_
  refine W_bin rfl rfl b_eql rfl ?_
  first | refine W_pickt rfl rfl rfl ?_ | refine W_pickf rfl rfl rfl ?_
  refine W_move rfl rfl ?_
  refine W_gyes rfl rfl ?_
  refine W_move rfl rfl ?_
  refine W_gyes rfl rfl ?_
  refine W_bin rfl rfl b_eql rfl ?_
  first | refine W_pickt rfl rfl rfl ?_ | refine W_pickf rfl rfl rfl ?_
  refine W_assign rfl rfl ?_
  refine W_nil ?_
  refine W_ret1m (H2 := H) Tryz.results16 rfl (.nil _) zH ?_
  exact ⟨rfl, rfl⟩
theorem xknown_pure : Pure Tryz.prog Tab 16 [] (.bool true) := fun w0 H hT => xknown_L hT
end Go.Proofs.YtphdlpmnidiliaaGreatDoor
namespace Go.Proofs.YtphdlpmnidiliaaGreatDoor
open Go Go.Sl Go.ChangeShapes Go.WideShapes Go.ChangeAt Go.RowKit
set_option maxRecDepth 100000
theorem own : ownKnob Tryz.prog.godebug = none := by kernel_rfl
theorem kids : Kids Tryz.prog (· < Tryz.prog.types.size) := kids_rows (by kernel_rfl) (by kernel_rfl)
theorem full : ∀ t e, t < Tryz.prog.types.size → Tryz.prog.underlying t = some (.slice e) → 0 < Tryz.prog.cellsOf e := slices_full_of Tryz.prog (by kernel_rfl)
theorem u4 : Tryz.prog.underlying 4 = some .bool := by kernel_rfl
theorem u3 : Tryz.prog.underlying 3 = some (.int .i64) := by kernel_rfl
theorem u213 : Tryz.prog.underlying 213 = some (.array 64 5) := by kernel_rfl
theorem u5 : Tryz.prog.underlying 5 = some (.int .u8) := by kernel_rfl
theorem gDz : Tryz.prog.globalNamed "math/bits.deBruijn64tab" = some 0 := by kernel_rfl
theorem tDz : (Tryz.prog.globals[0]?).map (·.type) = some 213 := by kernel_rfl
abbrev laidL : List (String × DataW Unit) := [("math/bits.deBruijn64tab", Rows.laid_math_bits_deBruijn64tab)]
theorem tab_laid {W : World} (h : laidMetH Tryz.prog laidL W) : Tab W := fun j hj => by
  have h1 : Lib.TabIs Tryz.prog W "math/bits.deBruijn64tab" .u8 (Lib.deBruijn64tab.map fun z : Nat => (z : Int)) := Lib.tabIs_of_head (rest := []) gDz tDz u213 u5 (by kernel_rfl) (by kernel_rfl) (show laidMet Tryz.prog laidL W from h)
  have h2 := h1.cell gDz j (by rw [List.length_map]; exact hj)
  rw [h2]
  rw [List.getD_eq_getElem?_getD, List.getD_eq_getElem?_getD, List.getElem?_map]
  cases Lib.deBruijn64tab[j]? <;> rfl
noncomputable def laidWorld (os : Os) : World :=
  let w0 := World.holding Tryz.prog os ⟨#[], #[], []⟩
  let put (h : Array Obj) (g : Nat) (cs : Array Value) : Array Obj := h.modify g fun
    | .cells _ t frozen => .cells cs t frozen
    | o => o
  { w0 with heap := put w0.heap 0 (Lib.deBruijn64tab.map fun z : Nat => Value.int .u8 (z : Int)).toArray }
theorem laid_met (os : Os) (args : Array Value) : laidMet Tryz.prog laidL ((laidWorld os).forCall (fun _ _ => 0) ⟨#[], args, []⟩).memory :=
  laidMet_of_run' 8 (by kernel_rfl) (by kernel_rfl)
end Go.Proofs.YtphdlpmnidiliaaGreatDoor
namespace Go.Proofs.YtphdlpmnidiliaaGreatDoor
open Go Go.Sl
attribute [local irreducible] W
theorem unlinkL_nil : ∀ {C : List (Int × Hd)} {used ks : List Int}, (∀ k ∈ keyL C, k ∈ ks) → (unlinkL C used ks).1 = []
  | C, used, [], h => by
    cases C with
    | nil => rfl
    | cons p C => exact absurd (h p.1 List.mem_cons_self) (by simp)
  | C, used, k :: ks, h => unlinkL_nil (C := delC C k) (used := drop1O used k) (ks := ks) (fun k2 hk2 => by
      rw [keyL_del] at hk2
      obtain ⟨h1, h2⟩ := List.mem_filter.1 hk2
      rcases List.mem_cons.1 (h k2 h1) with e | h3
      · exact absurd e (of_decide_eq_true h2)
      · exact h3)
theorem unlinkL_len : ∀ (C : List (Int × Hd)) (used ks : List Int), (unlinkL C used ks).2.2.length = ks.length
  | _, _, [] => rfl
  | C, used, k :: ks => by show (_ :: (unlinkL (delC C k) (drop1O used k) ks).2.2).length = _; rw [List.length_cons, unlinkL_len, List.length_cons]
theorem close_is {y : Xm} (h : y.Ok) (hc : y.closed = false) : y.close.1.C = [] ∧ y.close.2.length = y.C.length := by
  unfold Xm.close
  rw [if_neg (by rw [hc]; decide)]
  refine ⟨unlinkL_nil (fun k hk => h.keysPerm.mem_iff.2 hk), ?_⟩
  show (unlinkL y.C y.used y.keys).2.2.length = _
  rw [unlinkL_len, h.keysLen]
end Go.Proofs.YtphdlpmnidiliaaGreatDoor
namespace Go.Proofs.YtphdlpmnidiliaaGreatDoor
open Go Go.Sl
attribute [local irreducible] W
def genD (s : Slt) : Int := if s.st = 2 then 256 else s.own.gen
def sdC (s : Slt) : List Value := [.int .i64 (genD s), .bool (decide (s.st = 1)), .int .i64 0]
theorem sdC_len (s : Slt) : (sdC s).length = 3 := rfl
abbrev sdR (L : List Slt) : List Value := L.flatMap sdC
theorem sdR_len (L : List Slt) : (sdR L).length = L.length * 3 := rows_len sdC_len L
theorem sdR_one (L : List Slt) : (sdR L).all Value.oneCell' = true := by
  rw [List.all_flatMap, List.all_eq_true]; exact fun t _ => rfl
structure Elm where
  key : Int
  slot : Int
  gen : Int
  w : W4
  linked : Bool
def Elm.hd (e : Elm) : Hd := ⟨e.slot, e.gen⟩
def elmC (e : Elm) : List Value := [.int .u64 e.key, .int .i64 e.slot, .int .i64 e.gen, .int .u64 e.w.a, .int .u64 e.w.b, .int .u64 e.w.c, .int .u64 e.w.d, .bool e.linked]
theorem elmC_len (e : Elm) : (elmC e).length = 8 := rfl
abbrev elR (E : List Elm) : List Value := E.flatMap elmC
theorem elR_len (E : List Elm) : (elR E).length = E.length * 8 := rows_len elmC_len E
theorem elR_one (E : List Elm) : (elR E).all Value.oneCell' = true := by
  rw [List.all_flatMap, List.all_eq_true]; exact fun t _ => rfl
def keC (p : Int × Hd) : List Value := [.int .u64 p.1, .int .i64 0]
theorem keC_len (p : Int × Hd) : (keC p).length = 2 := rfl
abbrev keR (C : List (Int × Hd)) : List Value := C.flatMap keC
theorem keR_len (C : List (Int × Hd)) : (keR C).length = C.length * 2 := rows_len keC_len C
theorem keR_one (C : List (Int × Hd)) : (keR C).all Value.oneCell' = true := by
  rw [List.all_flatMap, List.all_eq_true]; exact fun t _ => rfl
theorem rowU_one (l : List Int) : (l.map (Value.int .u64)).all Value.oneCell' = true := by
  rw [List.all_map, List.all_eq_true]; exact fun t _ => rfl
theorem findD {L : List Slt} (hk : AreOk L) (slot gen : Int) : (slot < 0 ∧ errA L ⟨slot, gen⟩ = 2) ∨ (0 ≤ slot ∧ (L.length : Int) ≤ slot ∧ errA L ⟨slot, gen⟩ = 2) ∨ (∃ i s, slot = (i : Nat) ∧ i < L.length ∧ L[i]? = some s ∧ s.st ≠ 1 ∧ errA L ⟨slot, gen⟩ = 7) ∨ (∃ i s, slot = (i : Nat) ∧ i < L.length ∧ L[i]? = some s ∧ s.st = 1 ∧ genD s ≠ gen ∧ errA L ⟨slot, gen⟩ = 7) ∨ (∃ i s, slot = (i : Nat) ∧ i < L.length ∧ L[i]? = some s ∧ s.st = 1 ∧ genD s = gen ∧ errA L ⟨slot, gen⟩ = 0) := by
  cases findA L ⟨slot, gen⟩ with
  | lo hi he hc hset => exact .inl ⟨hi, he⟩
  | hi hi he hc hset => exact .inr (.inl ⟨by have := hk.len; dsimp only at hi; omega, hi, he⟩)
  | un i s hi hs hu he hc hset => exact .inr (.inr (.inl ⟨i, s, hi, (List.getElem?_eq_some_iff.1 hs).1, hs, hu, he⟩))
  | old i s hi hs hu ho he hc hset =>
    refine .inr (.inr (.inr (.inl ⟨i, s, hi, (List.getElem?_eq_some_iff.1 hs).1, hs, hu, fun e => ho ?_, he⟩)))
    have h1 := (hk.own i s hs).1
    unfold genD at e
    rw [if_neg (by omega)] at e
    obtain ⟨⟨a, b⟩, st, c⟩ := s
    dsimp only at h1 e hi
    rw [h1, e, ← hi]
  | is i s hi hs hu ho he hc hset =>
    refine .inr (.inr (.inr (.inr ⟨i, s, hi, (List.getElem?_eq_some_iff.1 hs).1, hs, hu, ?_, he⟩)))
    unfold genD
    rw [if_neg (by omega), ho]
theorem cntA_snoc {n i : Nat} {L : List Slt} {s : Slt} (h : L[i]? = some s) : cntA n (L.take (i + 1)) = cntA n (L.take i) + (if s.st = n then 1 else 0) := by
  rw [takeAt' h]
  unfold cntA
  rw [List.countP_append, List.countP_singleton]
  congr 1
  by_cases e : s.st = n <;> simp [e]
theorem arrL_succ (i : Nat) : arrL (i + 1) 0 = arrL i 0 ++ [newS i] := by
  unfold arrL
  rw [List.range_succ, List.map_append]
  rfl
set_option maxHeartbeats 1000000 in
theorem dsFind_q {w0 : World} {H : Heap} {L : List Slt} {ad : Option Addr} {cap : Nat} (hk : AreOk L) (hrow : Holds w0 H ad (sdR L)) {slot gen : Int}  : PureAt Tryz.prog w0 H 69 [.slice ad L.length cap, .int .i64 slot, .int .i64 gen] (.int .i64 (errA L ⟨slot, gen⟩)) := by
  refine L_enter Tryz.func69 rfl Tryz.ntmps69 rfl rfl ?_
  refine W_sr ?_
  refine W_assign rfl rfl ?_
  refine W_nil ?_
  refine W_seq ?_
  refine W_sr ?_
  refine W_move rfl rfl ?_
  rcases findD hk slot gen with ⟨hi, he⟩ | ⟨h0, hi, he⟩ | ⟨i, s, rfl, hi, hs, hu, he⟩ | ⟨i, s, rfl, hi, hs, hu, hg, he⟩ | ⟨i, s, rfl, hi, hs, hu, hg, he⟩
  · skip
    refine W_bin rfl rfl b_lss rfl ?_
    first | rw [decide_eq_true (by omega)] | rw [decide_eq_false (by omega)]
    refine W_move rfl rfl ?_
    refine W_gno rfl rfl rfl ?_
    refine W_gno rfl rfl rfl ?_
    refine W_gno rfl rfl rfl ?_
    refine W_gno rfl rfl rfl ?_
    first | refine W_pickt rfl rfl rfl ?_ | refine W_pickf rfl rfl rfl ?_
    refine W_nil ?_
    refine W_condT rfl rfl ?_
    refine W_sr ?_
    refine W_assign rfl rfl ?_
    refine W_nil ?_
    refine W_ret1m (H2 := H) Tryz.results69 rfl (.nil _) zH ?_
    exact ⟨by rw [he], rfl⟩
  · skip
    refine W_bin rfl rfl b_lss rfl ?_
    first | rw [decide_eq_true (by omega)] | rw [decide_eq_false (by omega)]
    refine W_move rfl rfl ?_
    refine W_gyes rfl rfl ?_
    refine W_move rfl rfl ?_
    refine W_gyes rfl rfl ?_
    refine W_move rfl rfl ?_
    refine W_gyes rfl rfl ?_
    refine W_len rfl ty52 rfl rfl ?_
    refine W_gyes rfl rfl ?_
    refine W_bin rfl rfl b_geq rfl ?_
    first | rw [decide_eq_true (by omega)] | rw [decide_eq_false (by omega)]
    first | refine W_pickt rfl rfl rfl ?_ | refine W_pickf rfl rfl rfl ?_
    refine W_nil ?_
    refine W_condT rfl rfl ?_
    refine W_sr ?_
    refine W_assign rfl rfl ?_
    refine W_nil ?_
    refine W_ret1m (H2 := H) Tryz.results69 rfl (.nil _) zH ?_
    exact ⟨by rw [he], rfl⟩
  · skip
    obtain ⟨qk, pk, eqk, hkc⟩ := Holds.row sdC_len (by decide) hrow hs
    refine W_bin rfl rfl b_lss rfl ?_
    first | rw [decide_eq_true (by omega)] | rw [decide_eq_false (by omega)]
    refine W_move rfl rfl ?_
    refine W_gyes rfl rfl ?_
    refine W_move rfl rfl ?_
    refine W_gyes rfl rfl ?_
    refine W_move rfl rfl ?_
    refine W_gyes rfl rfl ?_
    refine W_len rfl ty52 rfl rfl ?_
    refine W_gyes rfl rfl ?_
    refine W_bin rfl rfl b_geq rfl ?_
    first | rw [decide_eq_true (by omega)] | rw [decide_eq_false (by omega)]
    first | refine W_pickt rfl rfl rfl ?_ | refine W_pickf rfl rfl rfl ?_
    refine W_nil ?_
    refine W_condF rfl rfl ?_
    refine W_skip ?_
    refine W_seq ?_
    refine W_sr ?_
    refine W_move rfl rfl ?_
    refine W_move rfl rfl ?_
    refine W_indexAddr (b := qk) (o := pk) (j := i) (by rw [← eqk]; rfl) rfl ty52 ty117 rfl (by omega) rfl rfl ?_
    refine W_fieldAddr rfl fld117_1 (by decide) rfl ?_
    refine W_load (v := .bool false) rfl ty4 rfl ((hkc 1 (.bool false) (by show some (Value.bool (decide _)) = _; rw [decide_eq_false hu])).up zH) rfl ?_
    refine W_not rfl rfl ?_
    refine W_move rfl rfl ?_
    refine W_gno rfl rfl rfl ?_
    refine W_gno rfl rfl rfl ?_
    refine W_gno rfl rfl rfl ?_
    refine W_gno rfl rfl rfl ?_
    refine W_gno rfl rfl rfl ?_
    refine W_gno rfl rfl rfl ?_
    refine W_gno rfl rfl rfl ?_
    first | refine W_pickt rfl rfl rfl ?_ | refine W_pickf rfl rfl rfl ?_
    refine W_nil ?_
    refine W_condT rfl rfl ?_
    refine W_sr ?_
    refine W_assign rfl rfl ?_
    refine W_nil ?_
    refine W_ret1m (H2 := H) Tryz.results69 rfl (.nil _) zH ?_
    exact ⟨by rw [he], rfl⟩
  · skip
    obtain ⟨qk, pk, eqk, hkc⟩ := Holds.row sdC_len (by decide) hrow hs
    refine W_bin rfl rfl b_lss rfl ?_
    first | rw [decide_eq_true (by omega)] | rw [decide_eq_false (by omega)]
    refine W_move rfl rfl ?_
    refine W_gyes rfl rfl ?_
    refine W_move rfl rfl ?_
    refine W_gyes rfl rfl ?_
    refine W_move rfl rfl ?_
    refine W_gyes rfl rfl ?_
    refine W_len rfl ty52 rfl rfl ?_
    refine W_gyes rfl rfl ?_
    refine W_bin rfl rfl b_geq rfl ?_
    first | rw [decide_eq_true (by omega)] | rw [decide_eq_false (by omega)]
    first | refine W_pickt rfl rfl rfl ?_ | refine W_pickf rfl rfl rfl ?_
    refine W_nil ?_
    refine W_condF rfl rfl ?_
    refine W_skip ?_
    refine W_seq ?_
    refine W_sr ?_
    refine W_move rfl rfl ?_
    refine W_move rfl rfl ?_
    refine W_indexAddr (b := qk) (o := pk) (j := i) (by rw [← eqk]; rfl) rfl ty52 ty117 rfl (by omega) rfl rfl ?_
    refine W_fieldAddr rfl fld117_1 (by decide) rfl ?_
    refine W_load (v := .bool true) rfl ty4 rfl ((hkc 1 (.bool true) (by show some (Value.bool (decide _)) = _; rw [decide_eq_true hu])).up zH) rfl ?_
    refine W_not rfl rfl ?_
    refine W_move rfl rfl ?_
    refine W_gyes rfl rfl ?_
    refine W_move rfl rfl ?_
    refine W_gyes rfl rfl ?_
    refine W_move rfl rfl ?_
    refine W_gyes rfl rfl ?_
    refine W_indexAddr (b := qk) (o := pk) (j := i) (by rw [← eqk]; rfl) rfl ty52 ty117 rfl (by omega) rfl rfl ?_
    refine W_gyes rfl rfl ?_
    refine W_fieldAddr rfl fld117_0 (by decide) rfl ?_
    refine W_gyes rfl rfl ?_
    refine W_load (v := .int .i64 (genD s)) rfl ty3 rfl ((hkc 0 (.int .i64 (genD s)) (rfl)).up zH) rfl ?_
    refine W_gyes rfl rfl ?_
    refine W_move rfl rfl ?_
    refine W_gyes rfl rfl ?_
    refine W_bin rfl rfl b_neq rfl ?_
    first | rw [decide_eq_true hg] | rw [decide_eq_false (fun h => h hg)]
    first | refine W_pickt rfl rfl rfl ?_ | refine W_pickf rfl rfl rfl ?_
    refine W_nil ?_
    refine W_condT rfl rfl ?_
    refine W_sr ?_
    refine W_assign rfl rfl ?_
    refine W_nil ?_
    refine W_ret1m (H2 := H) Tryz.results69 rfl (.nil _) zH ?_
    exact ⟨by rw [he], rfl⟩
  · skip
    obtain ⟨qk, pk, eqk, hkc⟩ := Holds.row sdC_len (by decide) hrow hs
    refine W_bin rfl rfl b_lss rfl ?_
    first | rw [decide_eq_true (by omega)] | rw [decide_eq_false (by omega)]
    refine W_move rfl rfl ?_
    refine W_gyes rfl rfl ?_
    refine W_move rfl rfl ?_
    refine W_gyes rfl rfl ?_
    refine W_move rfl rfl ?_
    refine W_gyes rfl rfl ?_
    refine W_len rfl ty52 rfl rfl ?_
    refine W_gyes rfl rfl ?_
    refine W_bin rfl rfl b_geq rfl ?_
    first | rw [decide_eq_true (by omega)] | rw [decide_eq_false (by omega)]
    first | refine W_pickt rfl rfl rfl ?_ | refine W_pickf rfl rfl rfl ?_
    refine W_nil ?_
    refine W_condF rfl rfl ?_
    refine W_skip ?_
    refine W_seq ?_
    refine W_sr ?_
    refine W_move rfl rfl ?_
    refine W_move rfl rfl ?_
    refine W_indexAddr (b := qk) (o := pk) (j := i) (by rw [← eqk]; rfl) rfl ty52 ty117 rfl (by omega) rfl rfl ?_
    refine W_fieldAddr rfl fld117_1 (by decide) rfl ?_
    refine W_load (v := .bool true) rfl ty4 rfl ((hkc 1 (.bool true) (by show some (Value.bool (decide _)) = _; rw [decide_eq_true hu])).up zH) rfl ?_
    refine W_not rfl rfl ?_
    refine W_move rfl rfl ?_
    refine W_gyes rfl rfl ?_
    refine W_move rfl rfl ?_
    refine W_gyes rfl rfl ?_
    refine W_move rfl rfl ?_
    refine W_gyes rfl rfl ?_
    refine W_indexAddr (b := qk) (o := pk) (j := i) (by rw [← eqk]; rfl) rfl ty52 ty117 rfl (by omega) rfl rfl ?_
    refine W_gyes rfl rfl ?_
    refine W_fieldAddr rfl fld117_0 (by decide) rfl ?_
    refine W_gyes rfl rfl ?_
    refine W_load (v := .int .i64 (genD s)) rfl ty3 rfl ((hkc 0 (.int .i64 (genD s)) (rfl)).up zH) rfl ?_
    refine W_gyes rfl rfl ?_
    refine W_move rfl rfl ?_
    refine W_gyes rfl rfl ?_
    refine W_bin rfl rfl b_neq rfl ?_
    first | rw [decide_eq_true hg] | rw [decide_eq_false (fun h => h hg)]
    first | refine W_pickt rfl rfl rfl ?_ | refine W_pickf rfl rfl rfl ?_
    refine W_nil ?_
    refine W_condF rfl rfl ?_
    refine W_skip ?_
    refine W_sr ?_
    refine W_assign rfl rfl ?_
    refine W_nil ?_
    refine W_ret1m (H2 := H) Tryz.results69 rfl (.nil _) zH ?_
    exact ⟨by rw [he], rfl⟩
set_option maxHeartbeats 1000000 in
theorem dsCount_q {w0 : World} {H : Heap} {L : List Slt} {ad : Option Addr} {cap : Nat} (hk : AreOk L) (h3 : ∀ s ∈ L, s.st = 0 ∨ s.st = 1 ∨ s.st = 2) (hrow : Holds w0 H ad (sdR L))  : PureAt Tryz.prog w0 H 24 [.slice ad L.length cap] (.tuple #[.int .i64 (cntA 1 L : Int), .int .i64 (cntA 0 L : Int)]) := by
  have hl64 := hk.len
  refine L_enter Tryz.func24 rfl Tryz.ntmps24 rfl rfl ?_
  refine W_sr ?_
  refine W_assign rfl rfl ?_
  refine W_assign rfl rfl ?_
  refine W_nil ?_
  refine W_sr ?_
  refine W_assign rfl rfl ?_
  refine W_assign rfl rfl ?_
  refine W_nil ?_
  refine W_seq ?_
  refine W_sr ?_
  refine W_assign rfl rfl ?_
  refine W_nil ?_
  refine W_block ?_
  refine W_loopC (X := Nat) [(0, _)] (fun (i : Nat) => [(4, .int .i64 (cntA 1 (L.take i) : Int)), (5, .int .i64 (cntA 0 (L.take i) : Int)), (6, .int .i64 (i : Int))]) (fun _ => _) (fun (i : Nat) => H) (fun (i : Nat) => i ≤ L.length) (fun (i : Nat) => L.length - i) 0 (Nat.zero_le _) (sub_cons rfl (sub_nil _)) (sub_cons rfl (sub_cons rfl (sub_cons rfl (sub_nil _)))) rfl zH ?_
  rintro i hi
  have hc1 : cntA 1 (L.take i) ≤ 64 := Nat.le_trans List.countP_le_length (by rw [List.length_take]; omega)
  have hc0 : cntA 0 (L.take i) ≤ 64 := Nat.le_trans List.countP_le_length (by rw [List.length_take]; omega)
  simp only [List.cons_append, List.nil_append]
  refine W_seq ?_
  refine W_sr ?_
  refine W_move rfl rfl ?_
  refine W_move rfl rfl ?_
  refine W_len rfl ty52 rfl rfl ?_
  refine W_bin rfl rfl b_lss rfl ?_
  refine W_nil ?_
  refine W_condPS (p := (i : Int) < (L.length : Int)) rfl (by simp) (fun q0 => ?_) (fun q0 => ?_)
  · skip
    refine W_skip ?_
    refine W_seq ?_
    refine W_block ?_
    refine W_sr ?_
    obtain ⟨s, hs⟩ : ∃ s, L[i]? = some s := ⟨_, List.getElem?_eq_getElem (by omega)⟩
    obtain ⟨qk, pk, eqk, hkc⟩ := Holds.row sdC_len (by decide) hrow hs
    have hs2 : s.st = 0 ∨ s.st = 1 ∨ s.st = 2 := h3 s (List.mem_of_getElem? hs)
    have hgn := hk.own i s hs
    refine W_move rfl rfl ?_
    refine W_move rfl rfl ?_
    refine W_indexAddr (b := qk) (o := pk) (j := i) (by rw [← eqk]; rfl) rfl ty52 ty117 rfl (by omega) rfl rfl ?_
    refine W_fieldAddr rfl fld117_1 (by decide) rfl ?_
    refine W_load (v := .bool (decide (s.st = 1))) rfl ty4 rfl ((hkc 1 (.bool (decide (s.st = 1))) (rfl)).up zH) rfl ?_
    refine W_nil ?_
    refine W_condPS (p := s.st = 1) rfl (by simp) (fun q1 => ?_) (fun q1 => ?_)
    · skip
      refine W_region ?_
      refine W_move rfl rfl ?_
      refine W_bin rfl rfl (b_add (m := ((cntA 1 (L.take i) + 1 : Nat) : Int)) (by rw [i64w (by omega)]; omega)) rfl ?_
      refine W_assign rfl rfl ?_
      refine W_nil ?_
      refine W_blk ?_
      refine W_region ?_
      refine W_move rfl rfl ?_
      refine W_bin rfl rfl (b_add (m := ((i + 1 : Nat) : Int)) ((i64w (by omega)).trans (by omega))) rfl ?_
      refine W_assign rfl rfl ?_
      refine W_nil ?_
      refine W_again (i + 1) (by omega) (by omega) (sub_cons (by rw [cntA_snoc hs, if_pos q1]; rfl) (sub_cons (by rw [cntA_snoc hs, if_neg (by omega)]; rfl) (sub_cons rfl (sub_cons rfl (sub_nil _))))) rfl zH
    · skip
      refine W_sr ?_
      refine W_move rfl rfl ?_
      refine W_move rfl rfl ?_
      refine W_indexAddr (b := qk) (o := pk) (j := i) (by rw [← eqk]; rfl) rfl ty52 ty117 rfl (by omega) rfl rfl ?_
      refine W_fieldAddr rfl fld117_0 (by decide) rfl ?_
      refine W_load (v := .int .i64 (genD s)) rfl ty3 rfl ((hkc 0 (.int .i64 (genD s)) (rfl)).up zH) rfl ?_
      refine W_bin rfl rfl b_leq rfl ?_
      refine W_nil ?_
      refine W_condPS (p := s.st ≠ 2) rfl (by unfold genD; by_cases e : s.st = 2 <;> simp [e]; omega) (fun q2 => ?_) (fun q2 => ?_)
      · skip
        refine W_region ?_
        refine W_move rfl rfl ?_
        refine W_bin rfl rfl (b_add (m := ((cntA 0 (L.take i) + 1 : Nat) : Int)) (by rw [i64w (by omega)]; omega)) rfl ?_
        refine W_assign rfl rfl ?_
        refine W_nil ?_
        refine W_blk ?_
        refine W_region ?_
        refine W_move rfl rfl ?_
        refine W_bin rfl rfl (b_add (m := ((i + 1 : Nat) : Int)) ((i64w (by omega)).trans (by omega))) rfl ?_
        refine W_assign rfl rfl ?_
        refine W_nil ?_
        refine W_again (i + 1) (by omega) (by omega) (sub_cons (by rw [cntA_snoc hs, if_neg (by omega)]; rfl) (sub_cons (by rw [cntA_snoc hs, if_pos (show s.st = 0 by omega)]; rfl) (sub_cons rfl (sub_cons rfl (sub_nil _))))) rfl zH
      · skip
        refine W_skip ?_
        refine W_blk ?_
        refine W_region ?_
        refine W_move rfl rfl ?_
        refine W_bin rfl rfl (b_add (m := ((i + 1 : Nat) : Int)) ((i64w (by omega)).trans (by omega))) rfl ?_
        refine W_assign rfl rfl ?_
        refine W_nil ?_
        refine W_again (i + 1) (by omega) (by omega) (sub_cons (by rw [cntA_snoc hs, if_neg (by omega)]; rfl) (sub_cons (by rw [cntA_snoc hs, if_neg (by omega)]; rfl) (sub_cons rfl (sub_cons rfl (sub_nil _))))) rfl zH
  · skip
    refine W_exit rfl ?_
    refine W_sr ?_
    refine W_move rfl rfl ?_
    refine W_move rfl rfl ?_
    refine W_assign rfl rfl ?_
    refine W_assign rfl rfl ?_
    refine W_nil ?_
    refine W_ret2m (H2 := H) Tryz.results24 rfl rfl (.nil _) zH ?_
    obtain rfl : i = L.length := by omega
    rw [List.take_length]
    exact ⟨rfl, rfl⟩
set_option maxHeartbeats 1000000 in
theorem dsNew_L {w0 : World} {H : Heap} {n : Nat} (hn : n ≤ 64)  : LCalls Tryz.prog w0 54 #[.int .i64 (n : Int)] (H) (fun v H' => ∃ X, OwnS 117 3 v n (sdR (arrL n 0)) X ∧ H' = X ++ H) := by
  refine L_enter (l := [.int .i64 (n : Int)]) Tryz.func54 rfl Tryz.ntmps54 rfl rfl ?_
  refine W_sr ?_
  refine W_assign rfl rfl ?_
  refine W_nil ?_
  refine W_sr ?_
  refine W_assign rfl rfl ?_
  refine W_nil ?_
  refine W_seq ?_
  refine W_sr ?_
  refine W_assign rfl rfl ?_
  refine W_nil ?_
  refine W_block ?_
  refine W_loopC (X := (Nat × Value × Heap)) [(0, _)] (fun (x : (Nat × Value × Heap)) => [(3, x.2.1), (4, .int .i64 (x.1 : Int))]) (fun _ => _) (fun (x : (Nat × Value × Heap)) => x.2.2 ++ H) (fun (x : (Nat × Value × Heap)) => x.1 ≤ n ∧ OwnS 117 3 x.2.1 x.1 (sdR (arrL x.1 0)) x.2.2) (fun (x : (Nat × Value × Heap)) => n - x.1) (0, .slice none 0 0, []) ⟨Nat.zero_le _, .nil⟩ (sub_cons rfl (sub_nil _)) (sub_cons rfl (sub_cons rfl (sub_nil _))) rfl zH ?_
  rintro ⟨i, v, X⟩ ⟨hi, hO⟩
  dsimp only at hi hO ⊢
  simp only [List.cons_append, List.nil_append]
  refine W_seq ?_
  refine W_sr ?_
  refine W_move rfl rfl ?_
  refine W_move rfl rfl ?_
  refine W_bin rfl rfl b_lss rfl ?_
  refine W_nil ?_
  refine W_condPS (p := (i : Int) < (n : Int)) rfl (by simp) (fun q0 => ?_) (fun q0 => ?_)
  · skip
    refine W_skip ?_
    refine W_seq ?_
    refine W_block ?_
    refine W_region ?_
    refine W_move rfl rfl ?_
    refine W_build (l := sdC (newS i)) ty117 pl117 (.cons rfl rfl rfl rfl rfl .nil) rfl rfl rfl ?_
    refine W_buildSlice (l := sdC (newS i)) ty52 ty117 (.cons rfl rfl rfl rfl rfl .nil) rfl rfl rfl rfl rfl rfl rfl (fun b12 => ?_)
    refine W_append (news := sdC (newS i)) (m := 1) (HB := X) (H0 := (b12, .cells 117 3 (sdC (newS i))) :: H) rfl rfl ty52 ty117 rfl (by decide) hO rfl (Holds.own (b := b12) zM) rfl (by simp only [maxLen]; omega) (by omega) zH rfl (fun v' X' hO' => ?_)
    refine W_assign rfl rfl ?_
    refine W_nil ?_
    refine W_blk ?_
    refine W_region ?_
    refine W_move rfl rfl ?_
    refine W_bin rfl rfl (b_add (m := ((i + 1 : Nat) : Int)) ((i64w (by omega)).trans (by omega))) rfl ?_
    refine W_assign rfl rfl ?_
    refine W_nil ?_
    refine W_again (i + 1, v', X') ⟨by show i + 1 ≤ n; omega, by show OwnS 117 3 v' (i + 1) (sdR (arrL (i + 1) 0)) X'; rw [arrL_succ]; unfold sdR; rw [List.flatMap_append]; exact hO'⟩ (by show n - (i + 1) < n - i; omega) (sub_cons rfl (sub_cons rfl (sub_cons rfl (sub_nil _)))) rfl zH
  · skip
    refine W_exit rfl ?_
    refine W_sr ?_
    refine W_move rfl rfl ?_
    refine W_assign rfl rfl ?_
    refine W_nil ?_
    refine W_ret1m (H2 := X ++ H) Tryz.results54 rfl (.nil _) zH ?_
    obtain rfl : i = n := by omega
    exact ⟨X, hO, rfl⟩
end Go.Proofs.YtphdlpmnidiliaaGreatDoor
namespace Go.Proofs.YtphdlpmnidiliaaGreatDoor
open Go Go.Sl
attribute [local irreducible] W
theorem sdC_rel (s : Slt) : sdC (relS s) = [.int .i64 (s.own.gen + 1), .bool false, .int .i64 0] := by
  unfold relS sdC genD
  split
  · rename_i h; rw [h]; rfl
  · rfl
theorem genD_one {s : Slt} (h : s.st ≠ 2) : genD s = s.own.gen := by unfold genD; rw [if_neg h]
theorem errA_own {L : List Slt} (hk : AreOk L) {i : Nat} {s : Slt} (hs : L[i]? = some s) (hu : s.st = 1) : errA L ⟨(i : Int), s.own.gen⟩ = 0 := by
  have h1 := (hk.own i s hs).1
  refine errA_is (i := i) rfl hs hu ?_
  obtain ⟨⟨a, b⟩, st, c⟩ := s
  dsimp only at h1 ⊢
  rw [h1]
theorem W4.of_snoc {l : List Int} {i : Nat} {z : Int} (h : l[i]? = some z) (hi : i < 4) : (W4.of (l.take i)).put i z = W4.of (l.take (i + 1)) := by
  rw [takeAt' h]
  have hl := (List.getElem?_eq_some_iff.1 h).1
  obtain ⟨p, hp⟩ : ∃ p, p = l.take i := ⟨_, rfl⟩
  have hpl : p.length = i := by rw [hp, List.length_take]; omega
  rw [← hp]
  match p, i, hpl, hi with
  | [], 0, _, _ => rfl
  | [_], 1, _, _ => rfl
  | [_, _], 2, _, _ => rfl
  | [_, _, _], 3, _, _ => rfl
theorem W4.of_four (l : List Int) : W4.of (l.take 4) = W4.of l := by
  match l with
  | [] => rfl
  | [_] => rfl
  | [_, _] => rfl
  | [_, _, _] => rfl
  | _ :: _ :: _ :: _ :: _ => rfl
set_option maxHeartbeats 1000000 in
theorem dsFree_L {w0 : World} {H : Heap} {L : List Slt} {ad : Option Addr} {cap i : Nat} {s : Slt} (hk : AreOk L) (hrow : Holds w0 H ad (sdR L)) (hs : L[i]? = some s) (hu : s.st = 1)  : LCalls Tryz.prog w0 91 #[.slice ad L.length cap, .int .i64 (i : Int), .int .i64 s.own.gen] (H) (fun v H' => ∃ ad1 cap1 X, v = .tuple #[.slice ad1 L.length cap1, .int .i64 0] ∧ OwnS 117 3 (.slice ad1 L.length cap1) L.length (sdR (L.set i (relS s))) X ∧ L.length ≤ cap1 ∧ H' = X ++ H) := by
  have hil := (List.getElem?_eq_some_iff.1 hs).1
  have hl64 := hk.len
  have hgn := hk.own i s hs
  refine L_enter (l := [.slice ad L.length cap, .int .i64 (i : Int), .int .i64 s.own.gen]) Tryz.func91 rfl Tryz.ntmps91 rfl rfl ?_
  refine W_sr ?_
  refine W_assign rfl rfl ?_
  refine W_assign rfl rfl ?_
  refine W_nil ?_
  refine W_sr ?_
  refine W_move rfl rfl ?_
  refine W_move rfl rfl ?_
  refine W_move rfl rfl ?_
  refine W_callq (.cons rfl (.cons rfl (.cons rfl .nil))) Tryz.call69 rfl (dsFind_q hk hrow) ?_
  rw [errA_own hk hs hu]
  refine W_assign rfl rfl ?_
  refine W_nil ?_
  refine W_seq ?_
  refine W_sr ?_
  refine W_move rfl rfl ?_
  refine W_bin rfl rfl b_neq rfl ?_
  refine W_nil ?_
  refine W_condF rfl rfl ?_
  refine W_skip ?_
  refine W_sr ?_
  refine W_buildSlice (l := []) ty52 ty117 .nil rfl rfl rfl rfl rfl rfl rfl (fun b18 => ?_)
  refine W_move rfl rfl ?_
  refine W_append (news := sdR L) (m := L.length) (HB := [(b18, .cells 117 0 [])]) (H0 := H) rfl rfl ty52 ty117 rfl (by decide) (OwnS.own (n := 0) (cap := 0) (xs := []) rfl (Nat.le_refl _) (Nat.zero_le _)) (sdR_len L) (hrow.up zH) (sdR_one _) (by simp only [maxLen]; omega) (by omega) zH rfl (fun v1 X1 hO1 => ?_)
  rw [Nat.zero_add] at hO1
  simp only [List.nil_append] at hO1
  obtain ⟨b1, cap1, rfl, rfl, hcap1⟩ := hO1.pos (by omega)
  have hmx : cap1 ≤ maxLen := by obtain ⟨_, _, e, _, h⟩ := hO1.shape; cases e; exact h
  simp only [List.cons_append, List.nil_append]
  refine W_assign rfl rfl ?_
  refine W_nil ?_
  refine W_sr ?_
  refine W_move rfl rfl ?_
  refine W_move rfl rfl ?_
  refine W_move rfl rfl ?_
  refine W_bin rfl rfl (b_add (m := s.own.gen + 1) (i64w (by omega))) rfl ?_
  refine W_build (l := [.int .i64 (s.own.gen + 1), .bool false, .int .i64 0]) ty117 pl117 (.cons rfl rfl rfl rfl rfl .nil) rfl rfl rfl ?_
  refine W_indexAddr (b := b1) (o := 0) (j := i) rfl rfl ty52 ty117 rfl (by omega) rfl rfl ?_
  refine W_storeA (l' := sdR (L.set i (relS s))) rfl rfl ty117 rfl rfl (b := b1) zM (by show 0 + i * 3 + 3 ≤ (sdR L).length; rw [sdR_len]; omega) (by rw [Nat.zero_add]; exact rows_spl (o := 0) sdC_len hs (by exact Nat.le_refl 3) (by rw [sdC_rel]; rfl)) zU ?_
  refine W_nil ?_
  refine W_sr ?_
  refine W_move rfl rfl ?_
  refine W_assign rfl rfl ?_
  refine W_assign rfl rfl ?_
  refine W_nil ?_
  refine W_ret2m (H2 := (b1, .cells 117 (cap1 * 3) (sdR (L.set i (relS s)))) :: H) Tryz.results91 rfl rfl (.nil _) zH ?_
  exact ⟨_, cap1, [_], rfl, OwnS.own (by rw [sdR_len, List.length_set]) hcap1 hmx, hcap1, rfl⟩
theorem sdC_one {s : Slt} (h : s.st = 0) {c : Cel} : sdC ({ s with st := 1, cel := c }) = [.int .i64 (genD s), .bool true, .int .i64 0] := by
  rw [genD_one (by omega)]; rfl
set_option maxHeartbeats 1000000 in
theorem dsPut_L {w0 : World} {H : Heap} {L : List Slt} {ad : Option Addr} {cap i : Nat} {s : Slt} (c : Cel) (hk : AreOk L) (h3 : ∀ s ∈ L, s.st = 0 ∨ s.st = 1 ∨ s.st = 2) (hrow : Holds w0 H ad (sdR L)) (hf : firstF L = some i) (hs : L[i]? = some s)  : LCalls Tryz.prog w0 86 #[.slice ad L.length cap, .int .i64 0] (H) (fun v H' => ∃ ad1 cap1 X, v = .tuple #[.slice ad1 L.length cap1, .int .i64 (i : Int), .int .i64 s.own.gen, .int .i64 0] ∧ OwnS 117 3 (.slice ad1 L.length cap1) L.length (sdR (L.set i { s with st := 1, cel := c })) X ∧ L.length ≤ cap1 ∧ H' = X ++ H) := by
  have hil := (List.getElem?_eq_some_iff.1 hs).1
  have hl64 := hk.len
  have hgn := hk.own i s hs
  have hs3 : (L.set i { s with st := 1, cel := c })[i]? = some { s with st := 1, cel := c } := List.getElem?_set_self hil
  obtain ⟨s2, hs2, hs0, hno⟩ := firstF_some hf
  obtain rfl : s = s2 := Option.some.inj (hs.symm.trans hs2)
  refine L_enter (l := [.slice ad L.length cap, .int .i64 0]) Tryz.func86 rfl Tryz.ntmps86 rfl rfl ?_
  refine W_sr ?_
  refine W_assign rfl rfl ?_
  refine W_assign rfl rfl ?_
  refine W_assign rfl rfl ?_
  refine W_assign rfl rfl ?_
  refine W_nil ?_
  refine W_sr ?_
  refine W_buildSlice (l := []) ty52 ty117 .nil rfl rfl rfl rfl rfl rfl rfl (fun b10 => ?_)
  refine W_move rfl rfl ?_
  refine W_append (news := sdR L) (m := L.length) (HB := [(b10, .cells 117 0 [])]) (H0 := H) rfl rfl ty52 ty117 rfl (by decide) (OwnS.own (n := 0) (cap := 0) (xs := []) rfl (Nat.le_refl _) (Nat.zero_le _)) (sdR_len L) (hrow.up zH) (sdR_one _) (by simp only [maxLen]; omega) (by omega) zH rfl (fun v1 X1 hO1 => ?_)
  rw [Nat.zero_add] at hO1
  simp only [List.nil_append] at hO1
  obtain ⟨b1, cap1, rfl, rfl, hcap1⟩ := hO1.pos (by omega)
  have hmx : cap1 ≤ maxLen := by obtain ⟨_, _, e, _, h⟩ := hO1.shape; cases e; exact h
  simp only [List.cons_append, List.nil_append]
  refine W_assign rfl rfl ?_
  refine W_nil ?_
  refine W_seq ?_
  refine W_sr ?_
  refine W_assign rfl rfl ?_
  refine W_nil ?_
  refine W_block ?_
  refine W_loopC (X := Nat) [(1, _), (8, _)] (fun (j : Nat) => [(9, .int .i64 (j : Int))]) (fun _ => _) (fun (j : Nat) => (b1, .cells 117 (cap1 * 3) (sdR L)) :: H) (fun (j : Nat) => j ≤ i) (fun (j : Nat) => i - j) 0 (Nat.zero_le _) (sub_cons rfl (sub_cons rfl (sub_nil _))) (sub_cons rfl (sub_nil _)) rfl zH ?_
  rintro j hj
  simp only [List.cons_append, List.nil_append]
  refine W_seq ?_
  refine W_sr ?_
  refine W_move rfl rfl ?_
  refine W_move rfl rfl ?_
  refine W_len rfl ty52 rfl rfl ?_
  refine W_bin rfl rfl b_lss rfl ?_
  refine W_nil ?_
  refine W_condT rfl (decide_eq_true (by omega)) ?_
  refine W_skip ?_
  refine W_seq ?_
  refine W_block ?_
  refine W_sr ?_
  obtain ⟨t, ht⟩ : ∃ t, L[j]? = some t := ⟨_, List.getElem?_eq_getElem (by omega)⟩
  obtain ⟨q0, p0, eq0, h0c⟩ := Holds.row sdC_len (by decide) (Holds.own (w0 := w0) (H := (b1, .cells 117 (cap1 * 3) (sdR L)) :: H) (b := b1) List.mem_cons_self) ht
  obtain ⟨rfl, rfl⟩ : b1 = q0 ∧ 0 = p0 := by cases eq0; exact ⟨rfl, rfl⟩
  have hgt := hk.own j t ht
  refine W_move rfl rfl ?_
  rcases h3 t (List.mem_of_getElem? ht) with hu | hu | hu
  · skip
    have hgd : genD t ≤ 255 := by rw [genD_one (by omega)]; omega
    have hub : decide (t.st = 1) = false := decide_eq_false (by omega)
    have hji : j = i := by
      rcases Nat.lt_or_ge j i with h | h
      · exact absurd hu (hno j t h ht)
      · omega
    subst hji
    obtain rfl : s = t := Option.some.inj (hs.symm.trans ht)
    refine W_move rfl rfl ?_
    refine W_indexAddr (b := b1) (o := 0) (j := j) rfl rfl ty52 ty117 rfl (by omega) rfl rfl ?_
    refine W_fieldAddr rfl fld117_1 (by decide) rfl ?_
    refine W_load (v := .bool false) rfl ty4 rfl ((h0c 1 (.bool false) (by show some (Value.bool (decide _)) = _; rw [hub])).up zH) rfl ?_
    refine W_not rfl rfl ?_
    refine W_move rfl rfl ?_
    refine W_gyes rfl rfl ?_
    refine W_move rfl rfl ?_
    refine W_gyes rfl rfl ?_
    refine W_move rfl rfl ?_
    refine W_gyes rfl rfl ?_
    refine W_indexAddr (b := b1) (o := 0) (j := j) rfl rfl ty52 ty117 rfl (by omega) rfl rfl ?_
    refine W_gyes rfl rfl ?_
    refine W_fieldAddr rfl fld117_0 (by decide) rfl ?_
    refine W_gyes rfl rfl ?_
    refine W_load (v := .int .i64 (genD s)) rfl ty3 rfl ((h0c 0 (.int .i64 (genD s)) rfl).up zH) rfl ?_
    refine W_gyes rfl rfl ?_
    refine W_bin rfl rfl b_leq rfl ?_
    first | rw [decide_eq_true hgd] | rw [decide_eq_false hgd]
    first | refine W_pickt rfl rfl rfl ?_ | refine W_pickf rfl rfl rfl ?_
    refine W_nil ?_
    refine W_condT rfl rfl ?_
    refine W_sr ?_
    refine W_move rfl rfl ?_
    refine W_move rfl rfl ?_
    refine W_move rfl rfl ?_
    refine W_move rfl rfl ?_
    refine W_move rfl rfl ?_
    refine W_indexAddr (b := b1) (o := 0) (j := j) rfl rfl ty52 ty117 rfl (by omega) rfl rfl ?_
    refine W_fieldAddr rfl fld117_1 (by decide) rfl ?_
    refine W_store (l' := sdR (L.set j { s with st := 1, cel := c })) rfl rfl ty4 rfl rfl (b := b1) zM (by rw [Nat.blt_eq, Nat.zero_add]; exact rows_lt (j := 1) sdC_len hs (by decide)) (by rw [Nat.zero_add]; exact rows_set (j := 1) sdC_len hs (by decide) (by show [Value.int .i64 (genD s), .bool true, .int .i64 0] = sdC { s with st := 1, cel := c }; rw [sdC_one hs0])) zU ?_
    refine W_indexAddr (b := b1) (o := 0) (j := j) rfl rfl ty52 ty117 rfl (by omega) rfl rfl ?_
    refine W_fieldAddr rfl fld117_2 (by decide) rfl ?_
    refine W_store (l' := sdR (L.set j { s with st := 1, cel := c })) rfl rfl ty3 rfl rfl (b := b1) zM (by rw [Nat.blt_eq, Nat.zero_add]; exact rows_lt (j := 2) sdC_len hs3 (by decide)) (by rw [Nat.zero_add]; have := rows_set (j := 2) (v := .int .i64 0) (x' := { s with st := 1, cel := c }) sdC_len hs3 (by decide) rfl; rw [set_same' hs3] at this; exact this) zU ?_
    refine W_nil ?_
    refine W_quietsr (by kernel_rfl) (by decide +kernel) ?_
    refine WQ_x (X_move rfl) rfl ?_
    refine WQ_x (X_move rfl) rfl ?_
    refine WQ_x (X_move rfl) rfl ?_
    refine WQ_x (X_move rfl) rfl ?_
    refine WQ_x (X_indexAddr (b := b1) (o := 0) (j := j) rfl rfl ty52 ty117 rfl (by omega) rfl) rfl ?_
    refine WQ_x (X_fieldAddr rfl fld117_0 (by decide)) rfl ?_
    refine WQ_x (X_load (v := .int .i64 s.own.gen) rfl ty3 rfl (Cell.own (b := b1) zM (by rw [Nat.zero_add]; exact rows_get (j := 0) sdC_len hs3 (by decide)))) rfl ?_
    refine WQ_x (X_assign rfl) rfl ?_
    refine WQ_x (X_assign rfl) rfl ?_
    refine WQ_x (X_assign rfl) rfl ?_
    refine WQ_x (X_assign rfl) rfl ?_
    refine WQ_nil ?_
    refine W_ret4G (H2 := (b1, .cells 117 (cap1 * 3) (sdR (L.set j { s with st := 1, cel := c }))) :: H) Tryz.results86 (.nil _) (.tmp rfl) (.tmp rfl) (.tmp rfl) (.tmp rfl) zH ?_
    exact ⟨_, cap1, [_], rfl, OwnS.own (by rw [sdR_len, List.length_set]) hcap1 hmx, hcap1, rfl⟩
  · skip
    have hub : decide (t.st = 1) = true := decide_eq_true hu
    have hji : j + 1 ≤ i := by
      rcases Nat.lt_or_ge j i with h | h
      · omega
      · obtain rfl : j = i := by omega
        obtain rfl : s = t := Option.some.inj (hs.symm.trans ht)
        omega
    refine W_move rfl rfl ?_
    refine W_indexAddr (b := b1) (o := 0) (j := j) rfl rfl ty52 ty117 rfl (by omega) rfl rfl ?_
    refine W_fieldAddr rfl fld117_1 (by decide) rfl ?_
    refine W_load (v := .bool true) rfl ty4 rfl ((h0c 1 (.bool true) (by show some (Value.bool (decide _)) = _; rw [hub])).up zH) rfl ?_
    refine W_not rfl rfl ?_
    refine W_move rfl rfl ?_
    refine W_gno rfl rfl rfl ?_
    refine W_gno rfl rfl rfl ?_
    refine W_gno rfl rfl rfl ?_
    refine W_gno rfl rfl rfl ?_
    refine W_gno rfl rfl rfl ?_
    refine W_gno rfl rfl rfl ?_
    first | refine W_pickt rfl rfl rfl ?_ | refine W_pickf rfl rfl rfl ?_
    refine W_nil ?_
    refine W_condF rfl rfl ?_
    refine W_skip ?_
    refine W_blk ?_
    refine W_region ?_
    refine W_move rfl rfl ?_
    refine W_bin rfl rfl (b_add (m := ((j + 1 : Nat) : Int)) ((i64w (by omega)).trans (by omega))) rfl ?_
    refine W_assign rfl rfl ?_
    refine W_nil ?_
    refine W_again (j + 1) hji (by omega) (sub_cons rfl (sub_cons rfl (sub_cons rfl (sub_nil _)))) rfl zH
  · skip
    have hgd : ¬ genD t ≤ 255 := by unfold genD; rw [if_pos hu]; decide
    have hub : decide (t.st = 1) = false := decide_eq_false (by omega)
    have hji : j + 1 ≤ i := by
      rcases Nat.lt_or_ge j i with h | h
      · omega
      · obtain rfl : j = i := by omega
        obtain rfl : s = t := Option.some.inj (hs.symm.trans ht)
        omega
    refine W_move rfl rfl ?_
    refine W_indexAddr (b := b1) (o := 0) (j := j) rfl rfl ty52 ty117 rfl (by omega) rfl rfl ?_
    refine W_fieldAddr rfl fld117_1 (by decide) rfl ?_
    refine W_load (v := .bool false) rfl ty4 rfl ((h0c 1 (.bool false) (by show some (Value.bool (decide _)) = _; rw [hub])).up zH) rfl ?_
    refine W_not rfl rfl ?_
    refine W_move rfl rfl ?_
    refine W_gyes rfl rfl ?_
    refine W_move rfl rfl ?_
    refine W_gyes rfl rfl ?_
    refine W_move rfl rfl ?_
    refine W_gyes rfl rfl ?_
    refine W_indexAddr (b := b1) (o := 0) (j := j) rfl rfl ty52 ty117 rfl (by omega) rfl rfl ?_
    refine W_gyes rfl rfl ?_
    refine W_fieldAddr rfl fld117_0 (by decide) rfl ?_
    refine W_gyes rfl rfl ?_
    refine W_load (v := .int .i64 (genD t)) rfl ty3 rfl ((h0c 0 (.int .i64 (genD t)) rfl).up zH) rfl ?_
    refine W_gyes rfl rfl ?_
    refine W_bin rfl rfl b_leq rfl ?_
    first | rw [decide_eq_true hgd] | rw [decide_eq_false hgd]
    first | refine W_pickt rfl rfl rfl ?_ | refine W_pickf rfl rfl rfl ?_
    refine W_nil ?_
    refine W_condF rfl rfl ?_
    refine W_skip ?_
    refine W_blk ?_
    refine W_region ?_
    refine W_move rfl rfl ?_
    refine W_bin rfl rfl (b_add (m := ((j + 1 : Nat) : Int)) ((i64w (by omega)).trans (by omega))) rfl ?_
    refine W_assign rfl rfl ?_
    refine W_nil ?_
    refine W_again (j + 1) hji (by omega) (sub_cons rfl (sub_cons rfl (sub_cons rfl (sub_nil _)))) rfl zH
set_option maxHeartbeats 1000000 in
theorem dval_q {w0 : World} {H : Heap} {l : List Int} {ad : Option Addr} {cap : Nat} (hrow : Holds w0 H ad (l.map (Value.int .u64)))  : PureAt Tryz.prog w0 H 87 [.slice ad l.length cap] (.agg (List.toArray (W4.of l).vals)) := by
  refine L_enter Tryz.func87 rfl Tryz.ntmps87 rfl rfl ?_
  refine W_sr ?_
  refine W_alloc (l := zW.vals) ty69 rfl rfl (fun b2 => ?_)
  refine W_nil ?_
  refine W_sr ?_
  refine W_alloc (l := zW.vals) ty69 rfl rfl (fun b3 => ?_)
  refine W_nil ?_
  refine W_seq ?_
  refine W_sr ?_
  refine W_assign rfl rfl ?_
  refine W_nil ?_
  refine W_block ?_
  refine W_loopC (X := Nat) [(0, _), (2, _), (3, _)] (fun (i : Nat) => [(4, .int .i64 (i : Int))]) (fun _ => _) (fun (i : Nat) => (b3, .cells 69 4 (W4.of (l.take i)).vals) :: (b2, .cells 69 4 zW.vals) :: H) (fun (i : Nat) => i ≤ l.length ∧ i ≤ 4) (fun (i : Nat) => l.length - i) 0 ⟨Nat.zero_le _, Nat.zero_le _⟩ (sub_cons rfl (sub_cons rfl (sub_cons rfl (sub_nil _)))) (sub_cons rfl (sub_nil _)) rfl zH ?_
  rintro i ⟨hi, hi4⟩
  simp only [List.cons_append, List.nil_append]
  refine W_seq ?_
  refine W_sr ?_
  refine W_move rfl rfl ?_
  refine W_move rfl rfl ?_
  refine W_len rfl ty42 rfl rfl ?_
  refine W_bin rfl rfl b_lss rfl ?_
  refine W_move rfl rfl ?_
  apply W_and
  iterate 4 exact rfl
  case h1 =>
    intro hg4
    refine W_gyes rfl rfl ?_
    refine W_move rfl rfl ?_
    refine W_gyes rfl rfl ?_
    refine W_bin rfl rfl b_lss rfl ?_
    exact W_met rfl zR
  refine W_nil ?_
  refine W_condPS (p := (i : Int) < (l.length : Int) ∧ (i : Int) < 4) rfl (by first | exact Iff.rfl | simp) (fun q0 => ?_) (fun q0 => ?_)
  · skip
    refine W_skip ?_
    refine W_seq ?_
    refine W_block ?_
    refine W_region ?_
    obtain ⟨z, hz⟩ : ∃ z, l[i]? = some z := ⟨_, List.getElem?_eq_getElem (by omega)⟩
    obtain ⟨q0, p0, rfl, hc⟩ := hrow.at (i := i) (v := .int .u64 z) (by rw [List.getElem?_map, hz]; rfl)
    refine W_move rfl rfl ?_
    refine W_move rfl rfl ?_
    refine W_move rfl rfl ?_
    refine W_indexAddr (j := i) rfl rfl ty42 ty22 rfl (by omega) rfl rfl ?_
    refine W_load (v := .int .u64 z) rfl ty22 rfl (by rw [Nat.mul_one]; exact hc.up zH) rfl ?_
    refine W_indexAddrA (j := i) rfl rfl ty69 ty22 (by first | rfl | omega) (by omega) rfl rfl ?_
    refine W_store (l' := ((W4.of (l.take i)).put i z).vals) rfl rfl ty22 rfl rfl (b := b3) zM (by show Nat.blt _ 4 = true; rw [Nat.blt_eq]; omega) (by rw [Nat.zero_add, Nat.mul_one]; exact W4.set (by omega)) zU ?_
    refine W_nil ?_
    refine W_blk ?_
    refine W_region ?_
    refine W_move rfl rfl ?_
    refine W_bin rfl rfl (b_add (m := ((i + 1 : Nat) : Int)) ((i64w (by omega)).trans (by omega))) rfl ?_
    refine W_assign rfl rfl ?_
    refine W_nil ?_
    refine W_again (i + 1) ⟨by omega, by omega⟩ (by omega) (sub_cons rfl (sub_cons rfl (sub_cons rfl (sub_cons rfl (sub_nil _))))) rfl (by rw [← W4.of_snoc hz (by omega)]; first | exact hsubI | (repeat (first | with_reducible exact HSub.refl _ | refine HSub.cons zT ?_ | refine HSub.app zS ?_ | exact HSub.nil _ | exact HSub.refl _ | refine HSub.drop ?_ | refine HSub.dropS ?_)))
  · skip
    refine W_exit rfl ?_
    refine W_sr ?_
    refine W_loadB (vs := (W4.of (l.take i)).vals) rfl ty69 rfl (b := b3) zM rfl rfl rfl ?_
    refine W_storeA (l' := (W4.of (l.take i)).vals) rfl rfl ty69 rfl rfl (b := b2) zM (by exact Nat.le_refl 4) rfl zU ?_
    refine W_nil ?_
    refine W_ret1cO (H2 := H) Tryz.results87 rfl (.nil _) ty69 rfl zM rfl zH ?_
    have e : W4.of (l.take i) = W4.of l := by
      rcases Nat.lt_or_ge i l.length with h | h
      · obtain rfl : i = 4 := by omega
        exact W4.of_four l
      · rw [List.take_of_length_le h]
    exact ⟨by rw [e], rfl⟩
end Go.Proofs.YtphdlpmnidiliaaGreatDoor
namespace Go.Proofs.YtphdlpmnidiliaaGreatDoor
open Go Go.Sl
attribute [local irreducible] W
def DxV (w0 : World) (HR : Heap) (x : Xm) (E : List Elm) (cs : List Value) : Prop := ∃ ads caps ade cape adc capc adu capu, cs = [.int .i64 (x.kind : Int), .int .i64 (x.entries : Int), .int .i64 (x.words : Int), .bool x.closed, .slice ads (x.L).length caps, .slice ade (E).length cape, .slice adc (x.C).length capc, .slice adu (x.used).length capu] ∧ Holds w0 HR ads (sdR x.L) ∧ x.L.length ≤ caps ∧ Holds w0 HR ade (elR E) ∧ E.length ≤ cape ∧ Holds w0 HR adc (keR x.C) ∧ x.C.length ≤ capc ∧ Holds w0 HR adu (x.used.map (Value.int .u64)) ∧ x.used.length ≤ capu
def fndE (E : List Elm) (k : Int) : Option Nat := E.findIdx? (fun e => e.linked && decide (e.key = k))
def zI (o : Option Nat) : Int := match o with
  | some i => (i : Int)
  | none => -1
def atE (E : List Elm) (slot gen : Int) : Option Nat := E.findIdx? (fun e => decide (e.slot = slot) && decide (e.gen = gen))
def atX (L : List Slt) (E : List Elm) (slot gen : Int) : Int × Int := if errA L ⟨slot, gen⟩ ≠ 0 then (-1, errA L ⟨slot, gen⟩) else match atE E slot gen with
  | some i => ((i : Int), 0)
  | none => (-1, 7)
theorem idx_hit {α : Type} {l : List α} {f : α → Bool} {i : Nat} {x : α} (h : l[i]? = some x) (e : f x = true) (hf : ∀ (j : Nat) y, j < i → l[j]? = some y → ¬ f y = true) : l.findIdx? f = some i := by
  obtain ⟨hl, hp⟩ := List.getElem?_eq_some_iff.1 h
  exact List.findIdx?_eq_some_iff_getElem.2 ⟨hl, by rw [hp]; exact e, fun j hj => hf j _ hj (List.getElem?_eq_getElem (by omega))⟩
theorem idx_none {α : Type} {l : List α} {f : α → Bool} (hf : ∀ (j : Nat) y, j < l.length → l[j]? = some y → ¬ f y = true) : l.findIdx? f = none := by
  rw [List.findIdx?_eq_none_iff]
  intro p hp
  obtain ⟨j, hj, e⟩ := List.getElem_of_mem hp
  exact Bool.not_eq_true _ ▸ hf j p hj (by rw [List.getElem?_eq_getElem hj, e])
theorem idx_at {α : Type} {l : List α} {f : α → Bool} {i : Nat} (h : l.findIdx? f = some i) : ∃ x, l[i]? = some x ∧ f x = true := by
  obtain ⟨h1, h2, h3⟩ := List.findIdx?_eq_some_iff_getElem.1 h
  exact ⟨l[i], List.getElem?_eq_getElem h1, h2⟩
set_option maxHeartbeats 1000000 in
theorem dxFind_q {w0 : World} {H : Heap} {HR : Heap} {x : Xm} {E : List Elm} {cs : List Value} (hv : DxV w0 HR x E cs) (hHR : HSub H HR) {k : Int} (hEl : E.length ≤ 1000)  : PureAt Tryz.prog w0 H 58 [.agg (List.toArray cs), .int .u64 k] (.int .i64 (zI (fndE E k))) := by
  obtain ⟨ads, caps, ade, cape, adc, capc, adu, capu, rfl, hS0, hSc, hE0, hEc, hC0, hCc, hU0, hUc⟩ := hv
  have hS := hS0.up hHR
  have hE := hE0.up hHR
  have hC := hC0.up hHR
  have hU := hU0.up hHR
  refine L_enter Tryz.func58 rfl Tryz.ntmps58 rfl rfl ?_
  refine W_sr ?_
  refine W_box (l := [.int .i64 (x.kind : Int), .int .i64 (x.entries : Int), .int .i64 (x.words : Int), .bool x.closed, .slice ads (x.L).length caps, .slice ade (E).length cape, .slice adc (x.C).length capc, .slice adu (x.used).length capu]) rfl rfl rfl (fun b2 => ?_)
  refine W_assign rfl rfl ?_
  refine W_nil ?_
  refine W_seq ?_
  refine W_sr ?_
  refine W_assign rfl rfl ?_
  refine W_nil ?_
  refine W_block ?_
  refine W_loopC (X := Nat) [(1, _), (2, _)] (fun (i : Nat) => [(5, .int .i64 (i : Int))]) (fun _ => _) (fun (i : Nat) => (b2, .cells 56 8 [.int .i64 (x.kind : Int), .int .i64 (x.entries : Int), .int .i64 (x.words : Int), .bool x.closed, .slice ads (x.L).length caps, .slice ade (E).length cape, .slice adc (x.C).length capc, .slice adu (x.used).length capu]) :: H) (fun (i : Nat) => i ≤ E.length ∧ ∀ (j : Nat) y, j < i → E[j]? = some y → ¬ (y.linked && decide (y.key = k)) = true) (fun (i : Nat) => E.length - i) 0 ⟨Nat.zero_le _, fun j q hj => absurd hj (Nat.not_lt_zero _)⟩ (sub_cons rfl (sub_cons rfl (sub_nil _))) (sub_cons rfl (sub_nil _)) rfl zH ?_
  rintro i ⟨hi, hno⟩
  simp only [List.cons_append, List.nil_append]
  refine W_seq ?_
  refine W_sr ?_
  refine W_move rfl rfl ?_
  refine W_fieldAddr rfl fld56_5 (by decide) rfl ?_
  refine W_load (v := .slice ade (E).length cape) rfl ty53 rfl (Cell.own (b := b2) zM rfl) rfl ?_
  refine W_len rfl ty53 rfl rfl ?_
  refine W_bin rfl rfl b_lss rfl ?_
  refine W_nil ?_
  refine W_condPS (p := (i : Int) < (E.length : Int)) rfl (by simp) (fun q0 => ?_) (fun q0 => ?_)
  · skip
    refine W_skip ?_
    refine W_seq ?_
    refine W_block ?_
    refine W_sr ?_
    obtain ⟨e, he⟩ : ∃ e, E[i]? = some e := ⟨_, List.getElem?_eq_getElem (by omega)⟩
    obtain ⟨qk, pk, eqk, hkc⟩ := Holds.row elmC_len (by decide) hE he
    refine W_fieldAddr rfl fld56_5 (by decide) rfl ?_
    refine W_load (v := .slice ade (E).length cape) rfl ty53 rfl (Cell.own (b := b2) zM rfl) rfl ?_
    refine W_move rfl rfl ?_
    refine W_indexAddr (b := qk) (o := pk) (j := i) (by rw [← eqk]; rfl) rfl ty53 ty71 rfl (by omega) rfl rfl ?_
    refine W_fieldAddr rfl fld71_4 (by decide) rfl ?_
    refine W_load (v := .bool e.linked) rfl ty4 rfl ((hkc 7 (.bool e.linked) (rfl)).up zH) rfl ?_
    refine W_move rfl rfl ?_
    apply W_and
    iterate 4 exact rfl
    case h1 =>
      intro hg6
      refine W_gyes rfl rfl ?_
      refine W_fieldAddr rfl fld56_5 (by decide) rfl ?_
      refine W_gyes rfl rfl ?_
      refine W_load (v := .slice ade (E).length cape) rfl ty53 rfl (Cell.own (b := b2) zM rfl) rfl ?_
      refine W_gyes rfl rfl ?_
      refine W_move rfl rfl ?_
      refine W_gyes rfl rfl ?_
      refine W_indexAddr (b := qk) (o := pk) (j := i) (by rw [← eqk]; rfl) rfl ty53 ty71 rfl (by omega) rfl rfl ?_
      refine W_gyes rfl rfl ?_
      refine W_fieldAddr rfl fld71_0 (by decide) rfl ?_
      refine W_gyes rfl rfl ?_
      refine W_load (v := .int .u64 e.key) rfl ty22 rfl ((hkc 0 (.int .u64 e.key) (rfl)).up zH) rfl ?_
      refine W_gyes rfl rfl ?_
      refine W_move rfl rfl ?_
      refine W_gyes rfl rfl ?_
      refine W_bin rfl rfl b_eql rfl ?_
      exact W_met rfl zR
    refine W_nil ?_
    refine W_condPS (p := (e.linked && decide (e.key = k)) = true) rfl (by simp) (fun q1 => ?_) (fun q1 => ?_)
    · skip
      refine W_sr ?_
      refine W_move rfl rfl ?_
      refine W_assign rfl rfl ?_
      refine W_nil ?_
      refine W_ret1m (H2 := H) Tryz.results58 rfl (.nil _) zH ?_
      refine ⟨?_, rfl⟩
      unfold fndE
      rw [idx_hit he q1 hno]; rfl
    · skip
      refine W_skip ?_
      refine W_blk ?_
      refine W_region ?_
      refine W_move rfl rfl ?_
      refine W_bin rfl rfl (b_add (m := ((i + 1 : Nat) : Int)) ((i64w (by omega)).trans (by omega))) rfl ?_
      refine W_assign rfl rfl ?_
      refine W_nil ?_
      refine W_again (i + 1) ⟨by omega, fun j y hj hy => by
          by_cases c : j = i
          · subst c
            obtain rfl := Option.some.inj (hy.symm.trans he)
            exact q1
          · exact hno j y (by omega) hy⟩ (by omega) (sub_cons rfl (sub_cons rfl (sub_cons rfl (sub_nil _)))) rfl zH
  · skip
    refine W_exit rfl ?_
    refine W_sr ?_
    refine W_assign rfl rfl ?_
    refine W_nil ?_
    refine W_ret1m (H2 := H) Tryz.results58 rfl (.nil _) zH ?_
    refine ⟨?_, rfl⟩
    unfold fndE
    rw [idx_none (fun j q hj hq => hno j q (by omega) hq)]; rfl
set_option maxHeartbeats 1000000 in
theorem dxAt_q {w0 : World} {H : Heap} {HR : Heap} {x : Xm} {E : List Elm} {cs : List Value} (hv : DxV w0 HR x E cs) (hHR : HSub H HR) {slot gen : Int} (hk : AreOk x.L) (hEl : E.length ≤ 1000)  : PureAt Tryz.prog w0 H 32 [.agg (List.toArray cs), .int .i64 slot, .int .i64 gen] (.tuple #[.int .i64 (atX x.L E slot gen).1, .int .i64 (atX x.L E slot gen).2]) := by
  obtain ⟨ads, caps, ade, cape, adc, capc, adu, capu, rfl, hS0, hSc, hE0, hEc, hC0, hCc, hU0, hUc⟩ := hv
  have hS := hS0.up hHR
  have hE := hE0.up hHR
  have hC := hC0.up hHR
  have hU := hU0.up hHR
  refine L_enter Tryz.func32 rfl Tryz.ntmps32 rfl rfl ?_
  refine W_sr ?_
  refine W_box (l := [.int .i64 (x.kind : Int), .int .i64 (x.entries : Int), .int .i64 (x.words : Int), .bool x.closed, .slice ads (x.L).length caps, .slice ade (E).length cape, .slice adc (x.C).length capc, .slice adu (x.used).length capu]) rfl rfl rfl (fun b3 => ?_)
  refine W_assign rfl rfl ?_
  refine W_assign rfl rfl ?_
  refine W_nil ?_
  refine W_sr ?_
  refine W_fieldAddr rfl fld56_4 (by decide) rfl ?_
  refine W_load (v := .slice ads (x.L).length caps) rfl ty52 rfl (Cell.own (b := b3) zM rfl) rfl ?_
  refine W_move rfl rfl ?_
  refine W_move rfl rfl ?_
  refine W_callq (.cons rfl (.cons rfl (.cons rfl .nil))) Tryz.call69 rfl (dsFind_q hk (hS.up zH)) ?_
  refine W_assign rfl rfl ?_
  refine W_nil ?_
  refine W_seq ?_
  refine W_sr ?_
  refine W_move rfl rfl ?_
  refine W_bin rfl rfl b_neq rfl ?_
  refine W_nil ?_
  refine W_condPS (p := errA x.L ⟨slot, gen⟩ ≠ 0) rfl (by simp) (fun q0 => ?_) (fun q0 => ?_)
  · skip
    refine W_sr ?_
    refine W_move rfl rfl ?_
    refine W_assign rfl rfl ?_
    refine W_assign rfl rfl ?_
    refine W_nil ?_
    refine W_ret2m (H2 := H) Tryz.results32 rfl rfl (.nil _) zH ?_
    exact ⟨by unfold atX; rw [if_pos q0], rfl⟩
  · skip
    refine W_skip ?_
    refine W_seq ?_
    refine W_sr ?_
    refine W_assign rfl rfl ?_
    refine W_nil ?_
    refine W_block ?_
    refine W_loopC (X := Nat) [(1, _), (2, _), (3, _)] (fun (i : Nat) => [(9, .int .i64 (i : Int))]) (fun _ => _) (fun (i : Nat) => (b3, .cells 56 8 [.int .i64 (x.kind : Int), .int .i64 (x.entries : Int), .int .i64 (x.words : Int), .bool x.closed, .slice ads (x.L).length caps, .slice ade (E).length cape, .slice adc (x.C).length capc, .slice adu (x.used).length capu]) :: H) (fun (i : Nat) => i ≤ E.length ∧ ∀ (j : Nat) y, j < i → E[j]? = some y → ¬ (decide (y.slot = slot) && decide (y.gen = gen)) = true) (fun (i : Nat) => E.length - i) 0 ⟨Nat.zero_le _, fun j q hj => absurd hj (Nat.not_lt_zero _)⟩ (sub_cons rfl (sub_cons rfl (sub_cons rfl (sub_nil _)))) (sub_cons rfl (sub_nil _)) rfl zH ?_
    rintro i ⟨hi, hno⟩
    simp only [List.cons_append, List.nil_append]
    refine W_seq ?_
    refine W_sr ?_
    refine W_move rfl rfl ?_
    refine W_fieldAddr rfl fld56_5 (by decide) rfl ?_
    refine W_load (v := .slice ade (E).length cape) rfl ty53 rfl (Cell.own (b := b3) zM rfl) rfl ?_
    refine W_len rfl ty53 rfl rfl ?_
    refine W_bin rfl rfl b_lss rfl ?_
    refine W_nil ?_
    refine W_condPS (p := (i : Int) < (E.length : Int)) rfl (by simp) (fun q1 => ?_) (fun q1 => ?_)
    · skip
      refine W_skip ?_
      refine W_seq ?_
      refine W_block ?_
      refine W_sr ?_
      obtain ⟨e, he⟩ : ∃ e, E[i]? = some e := ⟨_, List.getElem?_eq_getElem (by omega)⟩
      obtain ⟨qk, pk, eqk, hkc⟩ := Holds.row elmC_len (by decide) hE he
      refine W_fieldAddr rfl fld56_5 (by decide) rfl ?_
      refine W_load (v := .slice ade (E).length cape) rfl ty53 rfl (Cell.own (b := b3) zM rfl) rfl ?_
      refine W_move rfl rfl ?_
      refine W_indexAddr (b := qk) (o := pk) (j := i) (by rw [← eqk]; rfl) rfl ty53 ty71 rfl (by omega) rfl rfl ?_
      refine W_fieldAddr rfl fld71_1 (by decide) rfl ?_
      refine W_load (v := .int .i64 e.slot) rfl ty3 rfl ((hkc 1 (.int .i64 e.slot) (rfl)).up zH) rfl ?_
      refine W_move rfl rfl ?_
      refine W_bin rfl rfl b_eql rfl ?_
      refine W_move rfl rfl ?_
      apply W_and
      iterate 4 exact rfl
      case h1 =>
        intro hg8
        refine W_gyes rfl rfl ?_
        refine W_fieldAddr rfl fld56_5 (by decide) rfl ?_
        refine W_gyes rfl rfl ?_
        refine W_load (v := .slice ade (E).length cape) rfl ty53 rfl (Cell.own (b := b3) zM rfl) rfl ?_
        refine W_gyes rfl rfl ?_
        refine W_move rfl rfl ?_
        refine W_gyes rfl rfl ?_
        refine W_indexAddr (b := qk) (o := pk) (j := i) (by rw [← eqk]; rfl) rfl ty53 ty71 rfl (by omega) rfl rfl ?_
        refine W_gyes rfl rfl ?_
        refine W_fieldAddr rfl fld71_2 (by decide) rfl ?_
        refine W_gyes rfl rfl ?_
        refine W_load (v := .int .i64 e.gen) rfl ty3 rfl ((hkc 2 (.int .i64 e.gen) (rfl)).up zH) rfl ?_
        refine W_gyes rfl rfl ?_
        refine W_move rfl rfl ?_
        refine W_gyes rfl rfl ?_
        refine W_bin rfl rfl b_eql rfl ?_
        exact W_met rfl zR
      refine W_nil ?_
      refine W_condPS (p := (decide (e.slot = slot) && decide (e.gen = gen)) = true) rfl (by simp) (fun q2 => ?_) (fun q2 => ?_)
      · skip
        refine W_sr ?_
        refine W_move rfl rfl ?_
        refine W_assign rfl rfl ?_
        refine W_assign rfl rfl ?_
        refine W_nil ?_
        refine W_ret2m (H2 := H) Tryz.results32 rfl rfl (.nil _) zH ?_
        refine ⟨?_, rfl⟩
        unfold atX atE
        rw [if_neg q0, idx_hit he q2 hno]
      · skip
        refine W_skip ?_
        refine W_blk ?_
        refine W_region ?_
        refine W_move rfl rfl ?_
        refine W_bin rfl rfl (b_add (m := ((i + 1 : Nat) : Int)) ((i64w (by omega)).trans (by omega))) rfl ?_
        refine W_assign rfl rfl ?_
        refine W_nil ?_
        refine W_again (i + 1) ⟨by omega, fun j y hj hy => by
            by_cases c : j = i
            · subst c
              obtain rfl := Option.some.inj (hy.symm.trans he)
              exact q2
            · exact hno j y (by omega) hy⟩ (by omega) (sub_cons rfl (sub_cons rfl (sub_cons rfl (sub_cons rfl (sub_nil _))))) rfl zH
    · skip
      refine W_exit rfl ?_
      refine W_sr ?_
      refine W_assign rfl rfl ?_
      refine W_assign rfl rfl ?_
      refine W_nil ?_
      refine W_ret2m (H2 := H) Tryz.results32 rfl rfl (.nil _) zH ?_
      refine ⟨?_, rfl⟩
      unfold atX atE
      rw [if_neg q0, idx_none (fun j q hj hq => hno j q (by omega) hq)]
set_option maxHeartbeats 2000000 in
theorem dxset_L {w0 : World} {H : Heap} {HR : Heap} {x : Xm} {E : List Elm} {cs : List Value} (hv : DxV w0 HR x E cs) (hHR : HSub H HR) {i : Nat} {o : Elm} (hi : i < E.length) (hEl : E.length ≤ 1000)  : LCalls Tryz.prog w0 89 #[.agg (List.toArray cs), .int .i64 (i : Int), .agg (List.toArray (elmC o))] (H) (fun v H' => ∃ cs1 X, v = .agg (List.toArray cs1) ∧ DxV w0 (X ++ HR) (x) (E.set i o) cs1 ∧ H' = X ++ H) := by
  obtain ⟨ads, caps, ade, cape, adc, capc, adu, capu, rfl, hS0, hSc, hE0, hEc, hC0, hCc, hU0, hUc⟩ := hv
  have hS := hS0.up hHR
  have hE := hE0.up hHR
  have hC := hC0.up hHR
  have hU := hU0.up hHR
  refine L_enter (l := [.agg (List.toArray [.int .i64 (x.kind : Int), .int .i64 (x.entries : Int), .int .i64 (x.words : Int), .bool x.closed, .slice ads (x.L).length caps, .slice ade (E).length cape, .slice adc (x.C).length capc, .slice adu (x.used).length capu]), .int .i64 (i : Int), .agg (List.toArray (elmC o))]) Tryz.func89 rfl Tryz.ntmps89 rfl rfl ?_
  refine W_sr ?_
  refine W_box (l := [.int .i64 (x.kind : Int), .int .i64 (x.entries : Int), .int .i64 (x.words : Int), .bool x.closed, .slice ads (x.L).length caps, .slice ade (E).length cape, .slice adc (x.C).length capc, .slice adu (x.used).length capu]) rfl rfl rfl (fun b3 => ?_)
  refine W_box (l := elmC o) rfl rfl rfl (fun b5 => ?_)
  refine W_alloc (l := [.int .i64 0, .int .i64 0, .int .i64 0, .bool false, .slice none 0 0, .slice none 0 0, .slice none 0 0, .slice none 0 0]) ty56 rfl rfl (fun b6 => ?_)
  refine W_nil ?_
  refine W_sr ?_
  refine W_buildSlice (l := []) ty53 ty71 .nil rfl rfl rfl rfl rfl rfl rfl (fun b8 => ?_)
  refine W_fieldAddr rfl fld56_5 (by decide) rfl ?_
  refine W_load (v := .slice ade (E).length cape) rfl ty53 rfl (Cell.own (b := b3) zM rfl) rfl ?_
  refine W_append (news := elR E) (m := E.length) (HB := [(b8, .cells 71 0 [])]) (H0 := (b3, .cells 56 8 [.int .i64 (x.kind : Int), .int .i64 (x.entries : Int), .int .i64 (x.words : Int), .bool x.closed, .slice ads (x.L).length caps, .slice ade (E).length cape, .slice adc (x.C).length capc, .slice adu (x.used).length capu]) :: (b5, .cells 71 8 (elmC o)) :: (b6, .cells 56 8 [.int .i64 0, .int .i64 0, .int .i64 0, .bool false, .slice none 0 0, .slice none 0 0, .slice none 0 0, .slice none 0 0]) :: H) rfl rfl ty53 ty71 rfl (by decide) (OwnS.own (n := 0) (cap := 0) (xs := []) rfl (Nat.le_refl _) (Nat.zero_le _)) (elR_len E) (hE.up zH) (elR_one _) (by simp only [maxLen]; omega) (by omega) zH rfl (fun v1 X1 hO1 => ?_)
  rw [Nat.zero_add] at hO1
  simp only [List.nil_append] at hO1
  obtain ⟨b1, cap1, rfl, rfl, hcap1⟩ := hO1.pos (by omega)
  simp only [List.cons_append, List.nil_append]
  refine W_assign rfl rfl ?_
  refine W_nil ?_
  refine W_sr ?_
  refine W_move rfl rfl ?_
  refine W_move rfl rfl ?_
  refine W_loadB (vs := elmC o) rfl ty71 rfl (b := b5) zM rfl rfl rfl ?_
  refine W_indexAddr (b := b1) (o := 0) (j := i) rfl rfl ty53 ty71 rfl (by omega) rfl rfl ?_
  refine W_storeA (l' := elR (E.set i o)) rfl rfl ty71 rfl rfl (b := b1) zM (by show 0 + i * 8 + 8 ≤ (elR E).length; rw [elR_len]; omega) (by rw [Nat.zero_add]; exact rows_spl (o := 0) elmC_len (List.getElem?_eq_getElem hi) (by exact Nat.le_refl 8) rfl) zU ?_
  refine W_nil ?_
  refine W_sr ?_
  refine W_move rfl rfl ?_
  refine W_fieldAddr rfl fld56_5 (by decide) rfl ?_
  refine W_store (l' := [.int .i64 (x.kind : Int), .int .i64 (x.entries : Int), .int .i64 (x.words : Int), .bool x.closed, .slice ads (x.L).length caps, .slice (some ⟨b1, 0, none⟩) E.length cap1, .slice adc (x.C).length capc, .slice adu (x.used).length capu]) rfl rfl ty53 rfl rfl (b := b3) zM rfl rfl zU ?_
  refine W_nil ?_
  refine W_sr ?_
  refine W_loadB (vs := [.int .i64 (x.kind : Int), .int .i64 (x.entries : Int), .int .i64 (x.words : Int), .bool x.closed, .slice ads (x.L).length caps, .slice (some ⟨b1, 0, none⟩) E.length cap1, .slice adc (x.C).length capc, .slice adu (x.used).length capu]) rfl ty56 rfl (b := b3) zM rfl rfl rfl ?_
  refine W_storeA (l' := [.int .i64 (x.kind : Int), .int .i64 (x.entries : Int), .int .i64 (x.words : Int), .bool x.closed, .slice ads (x.L).length caps, .slice (some ⟨b1, 0, none⟩) E.length cap1, .slice adc (x.C).length capc, .slice adu (x.used).length capu]) rfl rfl ty56 rfl rfl (b := b6) zM (by exact Nat.le_refl 8) rfl zU ?_
  refine W_nil ?_
  refine W_ret1cO (H2 := (b1, .cells 71 (cap1 * 8) (elR (E.set i o))) :: H) Tryz.results89 rfl (.nil _) ty56 rfl zM rfl zH ?_
  refine ⟨_, [_], rfl, ⟨ads, caps, some ⟨b1, 0, none⟩, cap1, adc, capc, adu, capu, by rw [List.length_set], hS0.up (.drop (.refl _)), hSc, Holds.own List.mem_cons_self, by rw [List.length_set]; exact hcap1, hC0.up (.drop (.refl _)), hCc, hU0.up (.drop (.refl _)), hUc⟩, rfl⟩
theorem drop1O_hit {l : List Int} {i : Nat} {z k : Int} (h : l[i]? = some z) (e : z ≠ k) : drop1O (l.take (i + 1)) k = drop1O (l.take i) k ++ [z] := by
  rw [takeAt' h]; unfold drop1O; rw [List.filter_append]; simp [e]
theorem drop1O_miss {l : List Int} {i : Nat} {z k : Int} (h : l[i]? = some z) (e : ¬ z ≠ k) : drop1O (l.take (i + 1)) k = drop1O (l.take i) k := by
  rw [takeAt' h]; unfold drop1O; rw [List.filter_append]; simp at e; simp [e]
set_option maxHeartbeats 2000000 in
theorem dxUse_L {w0 : World} {H : Heap} {HR : Heap} {x : Xm} {E : List Elm} {cs : List Value} (hv : DxV w0 HR x E cs) (hHR : HSub H HR) {k : Int} (hul : x.used.length ≤ 1000)  : LCalls Tryz.prog w0 59 #[.agg (List.toArray cs), .int .u64 k] (H) (fun v H' => ∃ cs1 X, v = .agg (List.toArray cs1) ∧ DxV w0 (X ++ HR) (x.use k) (E) cs1 ∧ H' = X ++ H) := by
  obtain ⟨ads, caps, ade, cape, adc, capc, adu, capu, rfl, hS0, hSc, hE0, hEc, hC0, hCc, hU0, hUc⟩ := hv
  have hS := hS0.up hHR
  have hE := hE0.up hHR
  have hC := hC0.up hHR
  have hU := hU0.up hHR
  refine L_enter (l := [.agg (List.toArray [.int .i64 (x.kind : Int), .int .i64 (x.entries : Int), .int .i64 (x.words : Int), .bool x.closed, .slice ads (x.L).length caps, .slice ade (E).length cape, .slice adc (x.C).length capc, .slice adu (x.used).length capu]), .int .u64 k]) Tryz.func59 rfl Tryz.ntmps59 rfl rfl ?_
  refine W_sr ?_
  refine W_box (l := [.int .i64 (x.kind : Int), .int .i64 (x.entries : Int), .int .i64 (x.words : Int), .bool x.closed, .slice ads (x.L).length caps, .slice ade (E).length cape, .slice adc (x.C).length capc, .slice adu (x.used).length capu]) rfl rfl rfl (fun b2 => ?_)
  refine W_alloc (l := [.int .i64 0, .int .i64 0, .int .i64 0, .bool false, .slice none 0 0, .slice none 0 0, .slice none 0 0, .slice none 0 0]) ty56 rfl rfl (fun b4 => ?_)
  refine W_nil ?_
  refine W_sr ?_
  refine W_assign rfl rfl ?_
  refine W_nil ?_
  refine W_seq ?_
  refine W_sr ?_
  refine W_assign rfl rfl ?_
  refine W_nil ?_
  refine W_block ?_
  refine W_loopC (X := (Nat × Value × Heap)) [(1, _), (2, _), (4, _)] (fun (z : (Nat × Value × Heap)) => [(5, z.2.1), (6, .int .i64 (z.1 : Int))]) (fun _ => _) (fun (z : (Nat × Value × Heap)) => z.2.2 ++ ((b2, .cells 56 8 [.int .i64 (x.kind : Int), .int .i64 (x.entries : Int), .int .i64 (x.words : Int), .bool x.closed, .slice ads (x.L).length caps, .slice ade (E).length cape, .slice adc (x.C).length capc, .slice adu (x.used).length capu]) :: (b4, .cells 56 8 [.int .i64 0, .int .i64 0, .int .i64 0, .bool false, .slice none 0 0, .slice none 0 0, .slice none 0 0, .slice none 0 0]) :: H)) (fun (z : (Nat × Value × Heap)) => z.1 ≤ x.used.length ∧ OwnS 22 1 z.2.1 (drop1O (x.used.take z.1) k).length ((drop1O (x.used.take z.1) k).map (Value.int .u64)) z.2.2) (fun (z : (Nat × Value × Heap)) => x.used.length - z.1) (0, .slice none 0 0, []) ⟨Nat.zero_le _, .nil⟩ (sub_cons rfl (sub_cons rfl (sub_cons rfl (sub_nil _)))) (sub_cons rfl (sub_cons rfl (sub_nil _))) rfl zH ?_
  rintro ⟨i, v, X⟩ ⟨hi, hO⟩
  dsimp only at hi hO ⊢
  have hql : (drop1O (x.used.take i) k).length ≤ 1000 := by unfold drop1O; exact Nat.le_trans (List.length_filter_le _ _) (by rw [List.length_take]; omega)
  simp only [List.cons_append, List.nil_append]
  refine W_seq ?_
  refine W_sr ?_
  refine W_move rfl rfl ?_
  refine W_fieldAddr rfl fld56_7 (by decide) rfl ?_
  refine W_load (v := .slice adu (x.used).length capu) rfl ty42 rfl (Cell.own (b := b2) zM rfl) rfl ?_
  refine W_len rfl ty42 rfl rfl ?_
  refine W_bin rfl rfl b_lss rfl ?_
  refine W_nil ?_
  refine W_condPS (p := (i : Int) < (x.used.length : Int)) rfl (by simp) (fun q0 => ?_) (fun q0 => ?_)
  · skip
    refine W_skip ?_
    refine W_seq ?_
    refine W_block ?_
    refine W_sr ?_
    obtain ⟨z, hz⟩ : ∃ z, x.used[i]? = some z := ⟨_, List.getElem?_eq_getElem (by omega)⟩
    obtain ⟨q0, p0, rfl, hc⟩ := hU.at (i := i) (v := .int .u64 z) (by rw [List.getElem?_map, hz]; rfl)
    refine W_fieldAddr rfl fld56_7 (by decide) rfl ?_
    refine W_load (v := .slice (some ⟨q0, p0, none⟩) (x.used).length capu) rfl ty42 rfl (Cell.own (b := b2) zM rfl) rfl ?_
    refine W_move rfl rfl ?_
    refine W_indexAddr (j := i) rfl rfl ty42 ty22 rfl (by omega) rfl rfl ?_
    refine W_load (v := .int .u64 z) rfl ty22 rfl (by rw [Nat.mul_one]; exact hc.up zH) rfl ?_
    refine W_move rfl rfl ?_
    refine W_bin rfl rfl b_neq rfl ?_
    refine W_nil ?_
    refine W_condPS (p := z ≠ k) rfl (by simp) (fun q1 => ?_) (fun q1 => ?_)
    · skip
      refine W_region ?_
      refine W_move rfl rfl ?_
      refine W_fieldAddr rfl fld56_7 (by decide) rfl ?_
      refine W_load (v := .slice (some ⟨q0, p0, none⟩) (x.used).length capu) rfl ty42 rfl (Cell.own (b := b2) zM rfl) rfl ?_
      refine W_move rfl rfl ?_
      refine W_indexAddr (j := i) rfl rfl ty42 ty22 rfl (by omega) rfl rfl ?_
      refine W_load (v := .int .u64 z) rfl ty22 rfl (by rw [Nat.mul_one]; exact hc.up zH) rfl ?_
      refine W_buildSlice (l := [.int .u64 z]) ty42 ty22 (.cons rfl rfl rfl rfl rfl .nil) rfl rfl rfl rfl rfl rfl rfl (fun b27 => ?_)
      refine W_append (news := [.int .u64 z]) (m := 1) (HB := X) (H0 := (b27, .cells 22 1 [.int .u64 z]) :: (b2, .cells 56 8 [.int .i64 (x.kind : Int), .int .i64 (x.entries : Int), .int .i64 (x.words : Int), .bool x.closed, .slice ads (x.L).length caps, .slice ade (E).length cape, .slice adc (x.C).length capc, .slice (some ⟨q0, p0, none⟩) (x.used).length capu]) :: (b4, .cells 56 8 [.int .i64 0, .int .i64 0, .int .i64 0, .bool false, .slice none 0 0, .slice none 0 0, .slice none 0 0, .slice none 0 0]) :: H) rfl rfl ty42 ty22 rfl (by decide) hO rfl (Holds.own (b := b27) zM) rfl (by simp only [maxLen]; omega) (by omega) zH rfl (fun v' X' hO' => ?_)
      refine W_assign rfl rfl ?_
      refine W_nil ?_
      refine W_blk ?_
      refine W_region ?_
      refine W_move rfl rfl ?_
      refine W_bin rfl rfl (b_add (m := ((i + 1 : Nat) : Int)) ((i64w (by omega)).trans (by omega))) rfl ?_
      refine W_assign rfl rfl ?_
      refine W_nil ?_
      refine W_again (i + 1, v', X') ⟨by show i + 1 ≤ x.used.length; omega, by show OwnS 22 1 v' (drop1O (x.used.take (i + 1)) k).length ((drop1O (x.used.take (i + 1)) k).map (Value.int .u64)) X'; rw [drop1O_hit hz q1, List.length_append, List.map_append]; exact hO'⟩ (by show x.used.length - (i + 1) < x.used.length - i; omega) (sub_cons rfl (sub_cons rfl (sub_cons rfl (sub_cons rfl (sub_cons rfl (sub_nil _)))))) rfl zH
    · skip
      refine W_skip ?_
      refine W_blk ?_
      refine W_region ?_
      refine W_move rfl rfl ?_
      refine W_bin rfl rfl (b_add (m := ((i + 1 : Nat) : Int)) ((i64w (by omega)).trans (by omega))) rfl ?_
      refine W_assign rfl rfl ?_
      refine W_nil ?_
      refine W_again (i + 1, v, X) ⟨by show i + 1 ≤ x.used.length; omega, by show OwnS 22 1 v (drop1O (x.used.take (i + 1)) k).length ((drop1O (x.used.take (i + 1)) k).map (Value.int .u64)) X; rw [drop1O_miss hz q1]; exact hO⟩ (by show x.used.length - (i + 1) < x.used.length - i; omega) (sub_cons rfl (sub_cons rfl (sub_cons rfl (sub_cons rfl (sub_cons rfl (sub_nil _)))))) rfl zH
  · skip
    refine W_exit rfl ?_
    refine W_sr ?_
    obtain rfl : i = x.used.length := by omega
    rw [List.take_length] at hO hql
    refine W_move rfl rfl ?_
    refine W_move rfl rfl ?_
    refine W_buildSlice (l := [.int .u64 k]) ty42 ty22 (.cons rfl rfl rfl rfl rfl .nil) rfl rfl rfl rfl rfl rfl rfl (fun b31 => ?_)
    refine W_append (news := [.int .u64 k]) (m := 1) (HB := X) (H0 := (b31, .cells 22 1 [.int .u64 k]) :: (b2, .cells 56 8 [.int .i64 (x.kind : Int), .int .i64 (x.entries : Int), .int .i64 (x.words : Int), .bool x.closed, .slice ads (x.L).length caps, .slice ade (E).length cape, .slice adc (x.C).length capc, .slice adu (x.used).length capu]) :: (b4, .cells 56 8 [.int .i64 0, .int .i64 0, .int .i64 0, .bool false, .slice none 0 0, .slice none 0 0, .slice none 0 0, .slice none 0 0]) :: H) rfl rfl ty42 ty22 rfl (by decide) hO rfl (Holds.own (b := b31) zM) rfl (by simp only [maxLen]; omega) (by omega) zH rfl (fun v1 X1 hO1 => ?_)
    rw [show ((drop1O x.used k).map (Value.int .u64) ++ [Value.int .u64 k] : List Value) = (drop1O x.used k ++ [k]).map (Value.int .u64) by rw [List.map_append]; rfl, show (drop1O x.used k).length + 1 = (drop1O x.used k ++ [k]).length by rw [List.length_append]; rfl] at hO1
    obtain ⟨ad2, cap2, rfl, hc2, _⟩ := hO1.shape
    refine W_fieldAddr rfl fld56_7 (by decide) rfl ?_
    refine W_store (l' := [.int .i64 (x.kind : Int), .int .i64 (x.entries : Int), .int .i64 (x.words : Int), .bool x.closed, .slice ads (x.L).length caps, .slice ade (E).length cape, .slice adc (x.C).length capc, .slice ad2 (drop1O x.used k ++ [k]).length cap2]) rfl rfl ty42 rfl rfl (b := b2) zM rfl rfl zU ?_
    refine W_nil ?_
    refine W_sr ?_
    refine W_loadB (vs := [.int .i64 (x.kind : Int), .int .i64 (x.entries : Int), .int .i64 (x.words : Int), .bool x.closed, .slice ads (x.L).length caps, .slice ade (E).length cape, .slice adc (x.C).length capc, .slice ad2 (drop1O x.used k ++ [k]).length cap2]) rfl ty56 rfl (b := b2) zM rfl rfl rfl ?_
    refine W_storeA (l' := [.int .i64 (x.kind : Int), .int .i64 (x.entries : Int), .int .i64 (x.words : Int), .bool x.closed, .slice ads (x.L).length caps, .slice ade (E).length cape, .slice adc (x.C).length capc, .slice ad2 (drop1O x.used k ++ [k]).length cap2]) rfl rfl ty56 rfl rfl (b := b4) zM (by exact Nat.le_refl 8) rfl zU ?_
    refine W_nil ?_
    refine W_ret1cO (H2 := X1 ++ H) Tryz.results59 rfl (.nil _) ty56 rfl zM rfl zH ?_
    refine ⟨_, X1, rfl, ⟨ads, caps, ade, cape, adc, capc, ad2, cap2, rfl, hS0.up (.dropS (.refl _)), hSc, hE0.up (.dropS (.refl _)), hEc, hC0.up (.dropS (.refl _)), hCc, hO1.toHolds (fun p hp => List.mem_append_left _ hp), hc2⟩, rfl⟩
end Go.Proofs.YtphdlpmnidiliaaGreatDoor
namespace Go.Proofs.YtphdlpmnidiliaaGreatDoor
open Go Go.Sl
attribute [local irreducible] W
def fndK (C : List (Int × Hd)) (k : Int) : Option Nat := C.findIdx? (fun p => decide (p.1 = k))
theorem fndK_none {C : List (Int × Hd)} {k : Int} (h : k ∉ keyL C) : fndK C k = none := by
  unfold fndK
  rw [List.findIdx?_eq_none_iff]
  intro p hp
  exact decide_eq_false fun e => h (List.mem_map.2 ⟨p, hp, e⟩)
theorem fndK_some {C : List (Int × Hd)} {k : Int} (h : k ∈ keyL C) : ∃ i p, fndK C k = some i ∧ C[i]? = some p ∧ p.1 = k := by
  cases hf : fndK C k with
  | none =>
    unfold fndK at hf
    rw [List.findIdx?_eq_none_iff] at hf
    obtain ⟨p, hp, e⟩ := List.mem_map.1 h
    exact absurd e (of_decide_eq_false (hf p hp))
  | some i =>
    obtain ⟨p, h1, h2⟩ := idx_at hf
    exact ⟨i, p, rfl, h1, of_decide_eq_true h2⟩
set_option maxHeartbeats 1000000 in
theorem dkFind_q {w0 : World} {H : Heap} {C : List (Int × Hd)} {ad : Option Addr} {cap : Nat} (hrow : Holds w0 H ad (keR C)) (hCl : C.length ≤ 1000) {k : Int}  : PureAt Tryz.prog w0 H 109 [.slice ad C.length cap, .int .u64 k] (.int .i64 (zI (fndK C k))) := by
  refine L_enter Tryz.func109 rfl Tryz.ntmps109 rfl rfl ?_
  refine W_sr ?_
  refine W_assign rfl rfl ?_
  refine W_nil ?_
  refine W_seq ?_
  refine W_sr ?_
  refine W_assign rfl rfl ?_
  refine W_nil ?_
  refine W_block ?_
  refine W_loopC (X := Nat) [(0, _), (1, _)] (fun (i : Nat) => [(5, .int .i64 (i : Int))]) (fun _ => _) (fun (i : Nat) => H) (fun (i : Nat) => i ≤ C.length ∧ ∀ (j : Nat) y, j < i → C[j]? = some y → ¬ decide (y.1 = k) = true) (fun (i : Nat) => C.length - i) 0 ⟨Nat.zero_le _, fun j q hj => absurd hj (Nat.not_lt_zero _)⟩ (sub_cons rfl (sub_cons rfl (sub_nil _))) (sub_cons rfl (sub_nil _)) rfl zH ?_
  rintro i ⟨hi, hno⟩
  simp only [List.cons_append, List.nil_append]
  refine W_seq ?_
  refine W_sr ?_
  refine W_move rfl rfl ?_
  refine W_move rfl rfl ?_
  refine W_len rfl ty54 rfl rfl ?_
  refine W_bin rfl rfl b_lss rfl ?_
  refine W_nil ?_
  refine W_condPS (p := (i : Int) < (C.length : Int)) rfl (by simp) (fun q0 => ?_) (fun q0 => ?_)
  · skip
    refine W_skip ?_
    refine W_seq ?_
    refine W_block ?_
    refine W_sr ?_
    obtain ⟨p, hp⟩ : ∃ p, C[i]? = some p := ⟨_, List.getElem?_eq_getElem (by omega)⟩
    obtain ⟨qk, pk, eqk, hkc⟩ := Holds.row keC_len (by decide) hrow hp
    refine W_move rfl rfl ?_
    refine W_move rfl rfl ?_
    refine W_indexAddr (b := qk) (o := pk) (j := i) (by rw [← eqk]; rfl) rfl ty54 ty178 rfl (by omega) rfl rfl ?_
    refine W_fieldAddr rfl fld178_0 (by decide) rfl ?_
    refine W_load (v := .int .u64 p.1) rfl ty22 rfl ((hkc 0 (.int .u64 p.1) (rfl)).up zH) rfl ?_
    refine W_move rfl rfl ?_
    refine W_bin rfl rfl b_eql rfl ?_
    refine W_nil ?_
    refine W_condPS (p := decide (p.1 = k) = true) rfl (by simp) (fun q1 => ?_) (fun q1 => ?_)
    · skip
      refine W_sr ?_
      refine W_move rfl rfl ?_
      refine W_assign rfl rfl ?_
      refine W_nil ?_
      refine W_ret1m (H2 := H) Tryz.results109 rfl (.nil _) zH ?_
      refine ⟨?_, rfl⟩
      unfold fndK
      rw [idx_hit hp q1 hno]; rfl
    · skip
      refine W_skip ?_
      refine W_blk ?_
      refine W_region ?_
      refine W_move rfl rfl ?_
      refine W_bin rfl rfl (b_add (m := ((i + 1 : Nat) : Int)) ((i64w (by omega)).trans (by omega))) rfl ?_
      refine W_assign rfl rfl ?_
      refine W_nil ?_
      refine W_again (i + 1) ⟨by omega, fun j y hj hy => by
          by_cases c : j = i
          · subst c
            obtain rfl := Option.some.inj (hy.symm.trans hp)
            exact q1
          · exact hno j y (by omega) hy⟩ (by omega) (sub_cons rfl (sub_cons rfl (sub_cons rfl (sub_nil _)))) rfl zH
  · skip
    refine W_exit rfl ?_
    refine W_sr ?_
    refine W_assign rfl rfl ?_
    refine W_nil ?_
    refine W_ret1m (H2 := H) Tryz.results109 rfl (.nil _) zH ?_
    refine ⟨?_, rfl⟩
    unfold fndK
    rw [idx_none (fun j q hj hq => hno j q (by omega) hq)]; rfl
set_option maxHeartbeats 1000000 in
theorem dkPut_L {w0 : World} {H : Heap} {C : List (Int × Hd)} {ad : Option Addr} {cap : Nat} (hrow : Holds w0 H ad (keR C)) (hCl : C.length ≤ 1000) {k : Int} (g : Hd) (hno : k ∉ keyL C) (hC64 : C.length < 64)  : LCalls Tryz.prog w0 88 #[.slice ad C.length cap, .int .u64 k, .int .i64 0, .int .i64 64] (H) (fun v H' => ∃ ad1 cap1 X, v = .tuple #[.slice ad1 (C.length + 1) cap1, .bool false, .int .i64 0] ∧ OwnS 178 2 (.slice ad1 (C.length + 1) cap1) (C.length + 1) (keR ((k, g) :: C)) X ∧ C.length + 1 ≤ cap1 ∧ H' = X ++ H) := by
  refine L_enter (l := [.slice ad C.length cap, .int .u64 k, .int .i64 0, .int .i64 64]) Tryz.func88 rfl Tryz.ntmps88 rfl rfl ?_
  refine W_sr ?_
  refine W_assign rfl rfl ?_
  refine W_assign rfl rfl ?_
  refine W_assign rfl rfl ?_
  refine W_nil ?_
  refine W_sr ?_
  refine W_move rfl rfl ?_
  refine W_move rfl rfl ?_
  refine W_callq (.cons rfl (.cons rfl .nil)) Tryz.call109 rfl (dkFind_q (k := k) hrow hCl) ?_
  rw [fndK_none hno]
  refine W_assign rfl rfl ?_
  refine W_nil ?_
  refine W_seq ?_
  refine W_sr ?_
  refine W_move rfl rfl ?_
  refine W_bin rfl rfl b_geq rfl ?_
  refine W_nil ?_
  refine W_condF rfl rfl ?_
  refine W_skip ?_
  refine W_seq ?_
  refine W_sr ?_
  refine W_move rfl rfl ?_
  refine W_len rfl ty54 rfl rfl ?_
  refine W_move rfl rfl ?_
  refine W_bin rfl rfl b_geq rfl ?_
  refine W_nil ?_
  refine W_condF rfl (decide_eq_false (by omega)) ?_
  refine W_skip ?_
  refine W_sr ?_
  refine W_move rfl rfl ?_
  refine W_move rfl rfl ?_
  refine W_build (l := keC (k, g)) ty178 pl178 (.cons rfl rfl rfl rfl rfl (.cons rfl rfl rfl rfl rfl .nil)) rfl rfl rfl ?_
  refine W_buildSlice (l := keC (k, g)) ty54 ty178 (.cons rfl rfl rfl rfl rfl .nil) rfl rfl rfl rfl rfl rfl rfl (fun b35 => ?_)
  refine W_move rfl rfl ?_
  refine W_append (news := keR C) (m := C.length) (HB := [(b35, .cells 178 2 (keC (k, g)))]) (H0 := H) rfl rfl ty54 ty178 rfl (by decide) (OwnS.own (n := 1) (cap := 1) (xs := keC (k, g)) rfl (Nat.le_refl _) (by decide)) (keR_len C) (hrow.up zH) (keR_one C) (by simp only [maxLen]; omega) (by omega) zH rfl (fun v1 X1 hO1 => ?_)
  obtain ⟨ad1, cap1, rfl, hc1, _⟩ := hO1.shape
  rw [show 1 + C.length = C.length + 1 by omega] at hO1 hc1 ⊢
  refine W_assign rfl rfl ?_
  refine W_assign rfl rfl ?_
  refine W_assign rfl rfl ?_
  refine W_nil ?_
  refine W_ret3m (H2 := X1 ++ H) Tryz.results88 rfl rfl rfl (.nil _) zH ?_
  exact ⟨ad1, cap1, X1, rfl, hO1, hc1, rfl⟩
set_option maxHeartbeats 1000000 in
theorem dkDel_L {w0 : World} {H : Heap} {C : List (Int × Hd)} {ad : Option Addr} {cap : Nat} (hrow : Holds w0 H ad (keR C)) (hCl : C.length ≤ 1000) {k : Int} (hcap : C.length ≤ cap) (hn : (keyL C).Nodup) (hk : k ∈ keyL C)  : LCalls Tryz.prog w0 110 #[.slice ad C.length cap, .int .u64 k] (H) (fun v H' => ∃ ad1 cap1 X, v = .tuple #[.slice ad1 (delC C k).length cap1, .bool true] ∧ OwnS 178 2 (.slice ad1 (delC C k).length cap1) (delC C k).length (keR (delC C k)) X ∧ (delC C k).length ≤ cap1 ∧ H' = X ++ H) := by
  obtain ⟨i, p, hfi, hp, rfl⟩ := fndK_some hk
  have hil := (List.getElem?_eq_some_iff.1 hp).1
  rw [delC_at hn hp]
  refine L_enter (l := [.slice ad C.length cap, .int .u64 p.1]) Tryz.func110 rfl Tryz.ntmps110 rfl rfl ?_
  refine W_sr ?_
  refine W_assign rfl rfl ?_
  refine W_assign rfl rfl ?_
  refine W_nil ?_
  refine W_sr ?_
  refine W_move rfl rfl ?_
  refine W_move rfl rfl ?_
  refine W_callq (.cons rfl (.cons rfl .nil)) Tryz.call109 rfl (dkFind_q (k := p.1) hrow hCl) ?_
  rw [hfi, show zI (some i) = (i : Int) from rfl]
  refine W_assign rfl rfl ?_
  refine W_nil ?_
  refine W_seq ?_
  refine W_sr ?_
  refine W_move rfl rfl ?_
  refine W_bin rfl rfl b_lss rfl ?_
  refine W_nil ?_
  refine W_condF rfl (decide_eq_false (by omega)) ?_
  refine W_skip ?_
  refine W_sr ?_
  refine W_buildSlice (l := []) ty54 ty178 .nil rfl rfl rfl rfl rfl rfl rfl (fun b14 => ?_)
  refine W_move rfl rfl ?_
  refine W_move rfl rfl ?_
  obtain ⟨b0, o0, rfl, _⟩ := Holds.row keC_len (by decide) hrow hp
  refine W_slice0 (hh := i) rfl ty54 ty178 rfl ⟨_, rfl⟩ (by omega) rfl ?_
  refine W_append (news := keR (C.take i)) (m := i) (HB := [(b14, .cells 178 0 [])]) (H0 := H) rfl rfl ty54 ty178 rfl (by decide) (OwnS.own (n := 0) (cap := 0) (xs := []) rfl (Nat.le_refl _) (Nat.zero_le _)) (by rw [keR_len, List.length_take]; congr 1; omega) (by show Holds _ _ _ ((C.take i).flatMap keC); rw [← flat_take keC_len]; exact (hrow.take _).up zH) (keR_one _) (by simp only [maxLen]; omega) (by omega) (.refl _) rfl (fun v1 X1 hO1 => ?_)
  refine W_assign rfl rfl ?_
  refine W_nil ?_
  refine W_sr ?_
  refine W_move rfl rfl ?_
  refine W_move rfl rfl ?_
  refine W_move rfl rfl ?_
  refine W_bin rfl rfl (b_add (m := ((i + 1 : Nat) : Int)) (by rw [i64w (by omega)]; omega)) rfl ?_
  obtain ⟨o1, ho1⟩ : ∃ o1, o1 = if cap = i + 1 then o0 else o0 + (i + 1) * 2 := ⟨_, rfl⟩
  have hdr : Holds w0 H (some ⟨b0, o1, none⟩) (keR (C.drop (i + 1))) := by
    rw [keR, ← rows_drop keC_len]
    exact Holds.drop (cap := cap * 2) hrow (by rw [keR_len]; omega) (fun h => by rw [ho1, if_neg (by omega)])
  refine W_x (X_sliceAt (l := i + 1) (hh := C.length) rfl ty54 ty178 ⟨_, rfl⟩ rfl (by omega) hcap ho1) (fun _ h => by cases h) rfl ?_
  refine W_append (news := keR (C.drop (i + 1))) (m := C.length - (i + 1)) (HB := X1) (H0 := H) rfl rfl ty54 ty178 rfl (by decide) hO1 (by rw [keR_len, List.length_drop]) (hdr.up zH) (keR_one _) (by simp only [maxLen]; omega) (by omega) zH rfl (fun v2 X2 hO2 => ?_)
  rw [Nat.zero_add, show i + (C.length - (i + 1)) = (C.take i ++ C.drop (i + 1)).length by rw [List.length_append, List.length_take, List.length_drop]; omega] at hO2
  obtain ⟨ad1, cap1, rfl, hc1, _⟩ := hO2.shape
  refine W_assign rfl rfl ?_
  refine W_assign rfl rfl ?_
  refine W_nil ?_
  refine W_ret2m (H2 := X2 ++ H) Tryz.results110 rfl rfl (.nil _) zH ?_
  refine ⟨ad1, cap1, X2, rfl, ?_, hc1, rfl⟩
  rw [keR, List.flatMap_append]
  exact hO2
set_option maxHeartbeats 1000000 in
theorem dBucket_q {w0 : World} {H : Heap} {k : Int}  : PureAt Tryz.prog w0 H 122 [.int .u64 k, .int .i64 8] (.int .i64 ((bkt k : Nat) : Int)) := by
  obtain ⟨y, hy⟩ : ∃ y : Int, y = k * 11400714819323198485 % 18446744073709551616 := ⟨_, rfl⟩
  obtain ⟨q, hq⟩ : ∃ q : Int, q = y / 4294967296 := ⟨_, rfl⟩
  have hb : ((bkt k : Nat) : Int) = q % 8 := by rw [bkt_is, hq, hy]; omega
  have hy0 : 0 ≤ y ∧ y < 18446744073709551616 := by rw [hy]; omega
  have hq0 : 0 ≤ q ∧ q < 4294967296 := by rw [hq]; omega
  have hwy : IntKind.u64.wrap (k * 11400714819323198485) = y := by rw [hy]; simp [IntKind.wrap, IntKind.signed, IntKind.bits]
  clear hy
  refine L_enter Tryz.func122 rfl Tryz.ntmps122 rfl rfl ?_
  refine W_sr ?_
  refine W_assign rfl rfl ?_
  refine W_nil ?_
  refine W_sr ?_
  refine W_move rfl rfl ?_
  refine W_bin rfl rfl (b_mul (m := y) hwy) rfl ?_
  refine W_assign rfl rfl ?_
  refine W_nil ?_
  refine W_sr ?_
  refine W_move rfl rfl ?_
  refine W_bin rfl rfl (b_quo (by decide) (m := q) (by rw [hq, Int.tdiv_eq_ediv_of_nonneg hy0.1]; exact u64w (by omega))) rfl ?_
  refine W_move rfl rfl ?_
  refine W_conv (m := 8) rfl ty3 ty22 (by decide) rfl ?_
  refine W_bin rfl rfl (b_rem (by decide) (m := ((bkt k : Nat) : Int)) (by rw [hb, Int.tmod_eq_emod_of_nonneg hq0.1])) rfl ?_
  refine W_conv rfl ty22 ty3 (i64w (by omega)) rfl ?_
  refine W_assign rfl rfl ?_
  refine W_nil ?_
  refine W_ret1m (H2 := H) Tryz.results122 rfl (.nil _) zH ?_
  exact ⟨rfl, rfl⟩
theorem inB_hit {C : List (Int × Hd)} {i b : Nat} {p : Int × Hd} (h : C[i]? = some p) (e : bkt p.1 = b) : keyL (inB (C.take (i + 1)) b) = keyL (inB (C.take i) b) ++ [p.1] := by
  rw [takeAt' h]; unfold inB; rw [List.filter_append, List.filter_cons_of_pos (by simpa using e)]; simp [keyL]
theorem inB_miss {C : List (Int × Hd)} {i b : Nat} {p : Int × Hd} (h : C[i]? = some p) (e : ¬ bkt p.1 = b) : keyL (inB (C.take (i + 1)) b) = keyL (inB (C.take i) b) := by
  rw [takeAt' h]; unfold inB; rw [List.filter_append, List.filter_cons_of_neg (by simpa using e)]; simp [keyL]
set_option maxHeartbeats 1000000 in
theorem dChain_L {w0 : World} {H : Heap} {C : List (Int × Hd)} {ad : Option Addr} {cap : Nat} (hrow : Holds w0 H ad (keR C)) (hCl : C.length ≤ 1000) {b : Nat}  : LCalls Tryz.prog w0 95 #[.slice ad C.length cap, .int .i64 (b : Int), .int .i64 8] (H) (fun v H' => ∃ X, OwnS 22 1 v (keyL (inB C b)).length ((keyL (inB C b)).map (Value.int .u64)) X ∧ H' = X ++ H) := by
  refine L_enter (l := [.slice ad C.length cap, .int .i64 (b : Int), .int .i64 8]) Tryz.func95 rfl Tryz.ntmps95 rfl rfl ?_
  refine W_sr ?_
  refine W_assign rfl rfl ?_
  refine W_nil ?_
  refine W_sr ?_
  refine W_assign rfl rfl ?_
  refine W_nil ?_
  refine W_seq ?_
  refine W_sr ?_
  refine W_assign rfl rfl ?_
  refine W_nil ?_
  refine W_block ?_
  refine W_loopC (X := (Nat × Value × Heap)) [(0, _), (1, _), (2, _)] (fun (z : (Nat × Value × Heap)) => [(7, z.2.1), (8, .int .i64 (z.1 : Int))]) (fun _ => _) (fun (z : (Nat × Value × Heap)) => z.2.2 ++ H) (fun (z : (Nat × Value × Heap)) => z.1 ≤ C.length ∧ OwnS 22 1 z.2.1 (keyL (inB (C.take z.1) b)).length ((keyL (inB (C.take z.1) b)).map (Value.int .u64)) z.2.2) (fun (z : (Nat × Value × Heap)) => C.length - z.1) (0, .slice none 0 0, []) ⟨Nat.zero_le _, .nil⟩ (sub_cons rfl (sub_cons rfl (sub_cons rfl (sub_nil _)))) (sub_cons rfl (sub_cons rfl (sub_nil _))) rfl zH ?_
  rintro ⟨i, v, X⟩ ⟨hi, hO⟩
  dsimp only at hi hO ⊢
  have hql : (keyL (inB (C.take i) b)).length ≤ 1000 := by rw [List.length_map]; exact Nat.le_trans (inB_len _ _) (by rw [List.length_take]; omega)
  simp only [List.cons_append, List.nil_append]
  refine W_seq ?_
  refine W_sr ?_
  refine W_move rfl rfl ?_
  refine W_move rfl rfl ?_
  refine W_len rfl ty54 rfl rfl ?_
  refine W_bin rfl rfl b_lss rfl ?_
  refine W_nil ?_
  refine W_condPS (p := (i : Int) < (C.length : Int)) rfl (by simp) (fun q0 => ?_) (fun q0 => ?_)
  · skip
    refine W_skip ?_
    refine W_seq ?_
    refine W_block ?_
    refine W_sr ?_
    obtain ⟨p, hp⟩ : ∃ p, C[i]? = some p := ⟨_, List.getElem?_eq_getElem (by omega)⟩
    obtain ⟨qk, pk, eqk, hkc⟩ := Holds.row keC_len (by decide) hrow hp
    refine W_move rfl rfl ?_
    refine W_move rfl rfl ?_
    refine W_indexAddr (b := qk) (o := pk) (j := i) (by rw [← eqk]; rfl) rfl ty54 ty178 rfl (by omega) rfl rfl ?_
    refine W_fieldAddr rfl fld178_0 (by decide) rfl ?_
    refine W_load (v := .int .u64 p.1) rfl ty22 rfl ((hkc 0 (.int .u64 p.1) (rfl)).up zH) rfl ?_
    refine W_move rfl rfl ?_
    refine W_callq (.cons rfl (.cons rfl .nil)) Tryz.call122 rfl dBucket_q ?_
    refine W_move rfl rfl ?_
    refine W_bin rfl rfl b_eql rfl ?_
    refine W_nil ?_
    refine W_condPS (p := bkt p.1 = b) rfl (by rw [decide_eq_true_eq]; omega) (fun q1 => ?_) (fun q1 => ?_)
    · skip
      refine W_region ?_
      refine W_move rfl rfl ?_
      refine W_move rfl rfl ?_
      refine W_move rfl rfl ?_
      refine W_indexAddr (b := qk) (o := pk) (j := i) (by rw [← eqk]; rfl) rfl ty54 ty178 rfl (by omega) rfl rfl ?_
      refine W_fieldAddr rfl fld178_0 (by decide) rfl ?_
      refine W_load (v := .int .u64 p.1) rfl ty22 rfl ((hkc 0 (.int .u64 p.1) (rfl)).up zH) rfl ?_
      refine W_buildSlice (l := [.int .u64 p.1]) ty42 ty22 (.cons rfl rfl rfl rfl rfl .nil) rfl rfl rfl rfl rfl rfl rfl (fun b30 => ?_)
      refine W_append (news := [.int .u64 p.1]) (m := 1) (HB := X) (H0 := (b30, .cells 22 1 [.int .u64 p.1]) :: H) rfl rfl ty42 ty22 rfl (by decide) hO rfl (Holds.own (b := b30) zM) rfl (by simp only [maxLen]; omega) (by omega) zH rfl (fun v' X' hO' => ?_)
      refine W_assign rfl rfl ?_
      refine W_nil ?_
      refine W_blk ?_
      refine W_region ?_
      refine W_move rfl rfl ?_
      refine W_bin rfl rfl (b_add (m := ((i + 1 : Nat) : Int)) ((i64w (by omega)).trans (by omega))) rfl ?_
      refine W_assign rfl rfl ?_
      refine W_nil ?_
      refine W_again (i + 1, v', X') ⟨by show i + 1 ≤ C.length; omega, by show OwnS 22 1 v' (keyL (inB (C.take (i + 1)) b)).length ((keyL (inB (C.take (i + 1)) b)).map (Value.int .u64)) X'; rw [inB_hit hp q1, List.length_append, List.map_append]; exact hO'⟩ (by show C.length - (i + 1) < C.length - i; omega) (sub_cons rfl (sub_cons rfl (sub_cons rfl (sub_cons rfl (sub_cons rfl (sub_nil _)))))) rfl zH
    · skip
      refine W_skip ?_
      refine W_blk ?_
      refine W_region ?_
      refine W_move rfl rfl ?_
      refine W_bin rfl rfl (b_add (m := ((i + 1 : Nat) : Int)) ((i64w (by omega)).trans (by omega))) rfl ?_
      refine W_assign rfl rfl ?_
      refine W_nil ?_
      refine W_again (i + 1, v, X) ⟨by show i + 1 ≤ C.length; omega, by show OwnS 22 1 v (keyL (inB (C.take (i + 1)) b)).length ((keyL (inB (C.take (i + 1)) b)).map (Value.int .u64)) X; rw [inB_miss hp q1]; exact hO⟩ (by show C.length - (i + 1) < C.length - i; omega) (sub_cons rfl (sub_cons rfl (sub_cons rfl (sub_cons rfl (sub_cons rfl (sub_nil _)))))) rfl zH
  · skip
    refine W_exit rfl ?_
    refine W_sr ?_
    refine W_move rfl rfl ?_
    refine W_assign rfl rfl ?_
    refine W_nil ?_
    refine W_ret1m (H2 := X ++ H) Tryz.results95 rfl (.nil _) zH ?_
    obtain rfl : i = C.length := by omega
    rw [List.take_length] at hO
    exact ⟨X, hO, rfl⟩
theorem keys_bound {C : List (Int × Hd)} (hC : C.length ≤ 1000) : ∀ {i : Nat}, i ≤ 8 → ((List.range i).flatMap (fun b => (inB C b).map (·.1))).length ≤ 8000 := by
  have key : ∀ i : Nat, ((List.range i).flatMap (fun b => (inB C b).map (·.1))).length ≤ i * 1000 := by
    intro i
    induction i with
    | zero => simp
    | succ i ih =>
      rw [List.range_succ, List.flatMap_append, List.flatMap_singleton, List.length_append, List.length_map]
      have := inB_len C i
      omega
  intro i hi
  have := key i
  omega
set_option maxHeartbeats 1000000 in
theorem dkKeys_L {w0 : World} {H : Heap} {C : List (Int × Hd)} {ad : Option Addr} {cap : Nat} (hrow : Holds w0 H ad (keR C)) (hCl : C.length ≤ 1000)  : LCalls Tryz.prog w0 68 #[.slice ad C.length cap, .int .i64 8] (H) (fun v H' => ∃ X, OwnS 22 1 v (keysC C).length ((keysC C).map (Value.int .u64)) X ∧ H' = X ++ H) := by
  refine L_enter (l := [.slice ad C.length cap, .int .i64 8]) Tryz.func68 rfl Tryz.ntmps68 rfl rfl ?_
  refine W_sr ?_
  refine W_assign rfl rfl ?_
  refine W_nil ?_
  refine W_sr ?_
  refine W_assign rfl rfl ?_
  refine W_nil ?_
  refine W_seq ?_
  refine W_sr ?_
  refine W_assign rfl rfl ?_
  refine W_nil ?_
  refine W_block ?_
  refine W_loopC (X := (Nat × Value × Heap)) [(0, _), (1, _)] (fun (z : (Nat × Value × Heap)) => [(5, z.2.1), (6, .int .i64 (z.1 : Int))]) (fun _ => _) (fun (z : (Nat × Value × Heap)) => z.2.2 ++ H) (fun (z : (Nat × Value × Heap)) => z.1 ≤ 8 ∧ OwnS 22 1 z.2.1 ((List.range z.1).flatMap (fun b => (inB C b).map (·.1))).length (((List.range z.1).flatMap (fun b => (inB C b).map (·.1))).map (Value.int .u64)) z.2.2) (fun (z : (Nat × Value × Heap)) => 8 - z.1) (0, .slice none 0 0, []) ⟨Nat.zero_le _, .nil⟩ (sub_cons rfl (sub_cons rfl (sub_nil _))) (sub_cons rfl (sub_cons rfl (sub_nil _))) rfl zH ?_
  rintro ⟨i, v, X⟩ ⟨hi, hO⟩
  dsimp only at hi hO ⊢
  have hql : ((List.range i).flatMap (fun b => (inB C b).map (·.1))).length ≤ 8000 := keys_bound hCl hi
  have hqi : (keyL (inB C i)).length ≤ 1000 := by rw [List.length_map]; exact Nat.le_trans (inB_len _ _) hCl
  simp only [List.cons_append, List.nil_append]
  refine W_seq ?_
  refine W_sr ?_
  refine W_move rfl rfl ?_
  refine W_move rfl rfl ?_
  refine W_bin rfl rfl b_lss rfl ?_
  refine W_nil ?_
  refine W_condPS (p := (i : Int) < 8) rfl (by simp) (fun q0 => ?_) (fun q0 => ?_)
  · skip
    refine W_skip ?_
    refine W_seq ?_
    refine W_block ?_
    refine W_region ?_
    refine W_move rfl rfl ?_
    refine W_move rfl rfl ?_
    refine W_move rfl rfl ?_
    refine W_move rfl rfl ?_
    refine W_call (.cons rfl (.cons rfl (.cons rfl .nil))) Tryz.call95 rfl (LCalls.hsub (dChain_L (b := i) (hrow.up zH) hCl (H := X ++ H)) zH) ?_
    rintro v2 H' ⟨Xc, hOc, rfl⟩
    obtain ⟨ad3, cap3, rfl, hc3, _⟩ := hOc.shape
    refine W_append (news := (keyL (inB C i)).map (Value.int .u64)) (m := (keyL (inB C i)).length) (HB := X) (H0 := Xc ++ H) rfl rfl ty42 ty22 rfl (by decide) hO (by simp) (hOc.toHolds (fun p hp => by first | exact List.mem_append_left _ hp | exact List.mem_append_right _ (List.mem_append_left _ hp))) (rowU_one _) (by simp only [maxLen]; omega) (by omega) zH rfl (fun v' X' hO' => ?_)
    refine W_assign rfl rfl ?_
    refine W_nil ?_
    refine W_blk ?_
    refine W_region ?_
    refine W_move rfl rfl ?_
    refine W_bin rfl rfl (b_add (m := ((i + 1 : Nat) : Int)) ((i64w (by omega)).trans (by omega))) rfl ?_
    refine W_assign rfl rfl ?_
    refine W_nil ?_
    refine W_again (i + 1, v', X') ⟨by show i + 1 ≤ 8; omega, by show OwnS 22 1 v' ((List.range (i + 1)).flatMap (fun b => (inB C b).map (·.1))).length (((List.range (i + 1)).flatMap (fun b => (inB C b).map (·.1))).map (Value.int .u64)) X'; rw [List.range_succ, List.flatMap_append, List.flatMap_singleton, List.length_append, List.map_append]; exact hO'⟩ (by show 8 - (i + 1) < 8 - i; omega) (sub_cons rfl (sub_cons rfl (sub_cons rfl (sub_cons rfl (sub_nil _))))) rfl zH
  · skip
    refine W_exit rfl ?_
    refine W_sr ?_
    refine W_move rfl rfl ?_
    refine W_assign rfl rfl ?_
    refine W_nil ?_
    refine W_ret1m (H2 := X ++ H) Tryz.results68 rfl (.nil _) zH ?_
    obtain rfl : i = 8 := by omega
    exact ⟨X, hO, rfl⟩
end Go.Proofs.YtphdlpmnidiliaaGreatDoor
