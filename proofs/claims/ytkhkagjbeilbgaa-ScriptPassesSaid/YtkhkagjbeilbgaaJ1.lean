/-
  Own work: contracts of functions that the statement reaches, and plain facts on what they compute; each theorem says its conditions.
-/
import Derived.Deep.Slices
import Derived.Test.YtkhkagjbeilbgaaJ0
import Derived.Test.YtkhkagjbeilbgaaS20
set_option linter.all false
set_option linter.unusedSimpArgs false
set_option linter.unusedVariables false
namespace Go.Proofs.Ytkhkagjbeilbgaa
open Go Go.Sl Go.Script Go.Deep Go.ChangeShapes Go.WideShapes Go.ChangeAt Go.RowKit
set_option maxRecDepth 100000
theorem u39 : Try.prog.underlying 39 = some (.slice 33) := by kernel_rfl
theorem k39 : Try.prog.cellsOf 39 = 1 := by kernel_rfl

section
variable {H : Type} {enc : TypeId × Value → H} {w : World} {base : Nat} {held : Bool}
theorem open_st {fuel : Nat} {cs : List Value} {x : DataW H × List MemPlace} (h : DataW.trod enc Try.prog w base (fun _ => true) held fuel 33 cs = some x) : ∃ r : Sr, cs = r.cells ∧ StOk r.st ∧ r.st.raw.length ≤ r.cap ∧ r.cap ≤ maxLen ∧ InRow w r.ad (bytesV r.st.raw) := by
  obtain ⟨xs, n, _, _, hl, hlen, hf⟩ := DataW.trod_struct (ty33.und) h
  rw [show Try.prog.cellsOf 33 = 7 by kernel_rfl] at hl
  match cs, hl with
  | [a0, a1, a2, a3, a4, a5, a6], _ =>
    have at_ : ∀ (i : Nat) (f : Field) (t : TypeId) (v : Value), (#[⟨"Kind", 3, 0, false, "", "", 0⟩, ⟨"A", 3, 1, false, "", "", 8⟩, ⟨"B", 3, 2, false, "", "", 16⟩, ⟨"C", 3, 3, false, "", "", 24⟩, ⟨"X", 27, 4, false, "", "", 32⟩, ⟨"Y", 27, 5, false, "", "", 40⟩, ⟨"Raw", 22, 6, false, "", "", 48⟩] : Array Field)[i]? = some f → f.type = t → Try.prog.cellsOf t = 1 → (([a0, a1, a2, a3, a4, a5, a6] : List Value).drop f.offset).take 1 = [v] → i < 7 → ∃ y, DataW.trod enc Try.prog w base (fun _ => true) held n t [v] = some y := fun i f t v hif ht hc hv hi => by
      have h1 := hf i f hif
      rw [ht, hc, hv] at h1
      have hx : xs[i]? = some (xs[i]'(by rw [hlen]; exact hi)) := List.getElem?_eq_getElem _
      rw [hx] at h1
      exact ⟨_, h1⟩
    have int : ∀ v, (∃ y, DataW.trod enc Try.prog w base (fun _ => true) held n 3 [v] = some y) → ∃ m, v = .int .i64 m ∧ I64 m := fun v ⟨y, hy⟩ => by
      obtain ⟨m, e, _, hw⟩ := DataW.trod_int u3 hy
      cases e
      exact ⟨m, rfl, by simp [Lit.wf, IntKind.min, IntKind.max, IntKind.signed, IntKind.bits] at hw; exact ⟨by omega, by omega⟩⟩
    have word : ∀ v, (∃ y, DataW.trod enc Try.prog w base (fun _ => true) held n 27 [v] = some y) → ∃ m, v = .int .u64 m ∧ Wd m := fun v ⟨y, hy⟩ => by
      obtain ⟨m, e, _, hw⟩ := DataW.trod_int u27 hy
      cases e
      exact ⟨m, rfl, by simp [Lit.wf, IntKind.min, IntKind.max, IntKind.signed, IntKind.bits] at hw; exact ⟨by omega, by omega⟩⟩
    obtain ⟨m0, rfl, h0⟩ := int a0 (at_ 0 _ 3 a0 rfl rfl k3 rfl (by decide))
    obtain ⟨m1, rfl, h1⟩ := int a1 (at_ 1 _ 3 a1 rfl rfl k3 rfl (by decide))
    obtain ⟨m2, rfl, h2⟩ := int a2 (at_ 2 _ 3 a2 rfl rfl k3 rfl (by decide))
    obtain ⟨m3, rfl, h3⟩ := int a3 (at_ 3 _ 3 a3 rfl rfl k3 rfl (by decide))
    obtain ⟨m4, rfl, h4⟩ := word a4 (at_ 4 _ 27 a4 rfl rfl k27 rfl (by decide))
    obtain ⟨m5, rfl, h5⟩ := word a5 (at_ 5 _ 27 a5 rfl rfl k27 rfl (by decide))
    obtain ⟨y6, hy6⟩ := at_ 6 _ 22 a6 rfl rfl k22 rfl (by decide)
    rcases open_ints u22 u5 k5 hy6 with ⟨hcs, _⟩ | ⟨a', len', cap', zs, hcs, _, hle, hmax, hlen', _, hcell, hwf⟩
    · cases hcs
      exact ⟨⟨⟨m0, m1, m2, m3, m4, m5, []⟩, none, 0⟩, rfl, ⟨h0, h1, h2, h3, h4, h5, fun _ hb => by cases hb⟩, Nat.le_refl _, Nat.zero_le _, InRow.nil⟩
    · cases hcs
      simp only [if_true] at hlen'
      have hl : (zs.take len').length = len' := by rw [List.length_take]; omega
      refine ⟨⟨⟨m0, m1, m2, m3, m4, m5, zs.take len'⟩, some a', cap'⟩, ?_, ⟨h0, h1, h2, h3, h4, h5, fun b hb => ?_⟩, ?_, hmax, InRow.of_spot fun j v hj => ?_⟩
      · show [_, _, _, _, _, _, Value.slice (some a') len' cap'] = [_, _, _, _, _, _, Value.slice (some a') (zs.take len').length cap']
        rw [hl]
      · have := hwf b (List.mem_of_mem_take hb); simp [Lit.wf, IntKind.min, IntKind.max, IntKind.signed, IntKind.bits] at this; exact ⟨by omega, by omega⟩
      · show (zs.take len').length ≤ cap'; omega
      · have hj' : j < len' := by have := (List.getElem?_eq_some_iff.1 hj).1; simp [bytesV] at this; omega
        rw [hcell j (by omega)]
        simp [bytesV, List.getElem?_take, hj'] at hj
        obtain ⟨z, hz, rfl⟩ := hj
        simp [List.getD, hz]
theorem open_stv {r : Reach} {b0 : Nat} {v : Value} {d : DataW H} {ps : List MemPlace} (hval : Value.okWide Try.prog w r b0 33 v) (hd : DataW.Trod enc Try.prog w base (fun _ => true) held 33 v d ps) :
    ∃ q : Sr, v = .agg q.cells.toArray ∧ StOk q.st ∧ q.st.raw.length ≤ q.cap ∧ q.cap ≤ maxLen ∧ InRow w q.ad (bytesV q.st.raw) := by
  obtain ⟨cs, rfl, _⟩ := okWide_struct ty33.und hval
  obtain ⟨n, hn⟩ := hd
  obtain ⟨q, e, h⟩ := open_st hn
  exact ⟨q, by have : cs.toList = q.cells := e; rw [← this], h⟩
end

theorem add_add (a : Addr) (m n : Nat) : (a.add m).add n = a.add (m + n) := by
  unfold Addr.add
  by_cases hm : m = 0
  · subst hm; simp
  · by_cases hn : n = 0
    · subst hn; simp [hm]
    · have h : m + n ≠ 0 := by omega
      simp [hm, hn, Nat.add_assoc]
section
variable {H : Type} {enc : TypeId × Value → H} {w : World} {base : Nat} {held : Bool}
theorem open_sts {fuel len cap : Nat} {a : Option Addr} {x : DataW H × List MemPlace} (hf : DataW.trod enc Try.prog w base (fun _ => true) held fuel 39 (Value.slice a len cap).cells.toList = some x) :
    ∃ l : List Sr, len = l.length ∧ l.length ≤ cap ∧ cap ≤ maxLen ∧ InRow w a (srRow l) ∧ Given w l := by
  rcases Go.Deep.open_slice u39 hf with ⟨hcs, _⟩ | ⟨a', len', cap', m, n, D, Pl, hcs, _, hle, hmax, hm, _, hel⟩
  · simp [Value.cells] at hcs
    obtain ⟨rfl, rfl, rfl⟩ := hcs
    exact ⟨[], rfl, Nat.le_refl _, Nat.zero_le _, InRow.nil, fun r hr => (by simp at hr), fun r hr => (by simp at hr), fun r hr => (by simp at hr)⟩
  · simp [Value.cells] at hcs
    obtain ⟨rfl, rfl, rfl⟩ := hcs
    have hlm : len ≤ m := by rw [hm]; split <;> omega
    have hall : ∀ i, i < len → ∃ y : Sr, w.cells? base (a'.add (i * 7)) 7 = some y.cells ∧ StOk y.st ∧ y.st.raw.length ≤ y.cap ∧ y.cap ≤ maxLen ∧ InRow w y.ad (bytesV y.st.raw) := fun i hi => by
      obtain ⟨cs, h1, h2⟩ := hel i (by omega)
      rw [show Try.prog.cellsOf 33 = 7 by kernel_rfl] at h1
      obtain ⟨y, rfl, hy⟩ := open_st h2
      exact ⟨y, h1, hy⟩
    haveI : Inhabited Sr := ⟨⟨zeroS, none, 0⟩⟩
    obtain ⟨Y, hY⟩ := choose_lt hall
    have hmem : ∀ r ∈ (List.range len).map Y, StOk r.st ∧ r.st.raw.length ≤ r.cap ∧ r.cap ≤ maxLen ∧ InRow w r.ad (bytesV r.st.raw) := fun r hr => by
      obtain ⟨i, hi, rfl⟩ := List.mem_map.1 hr
      exact (hY i (List.mem_range.1 hi)).2
    refine ⟨(List.range len).map Y, by simp, by simpa using hle, hmax, InRow.of_spot fun j v hj => ?_, fun r hr => (hmem r hr).1, fun r hr => (hmem r hr).2.1, fun r hr => (hmem r hr).2.2.2⟩
    have hjl : j < len * 7 := by
      have := (List.getElem?_eq_some_iff.1 hj).1
      rw [flat_length sr_len] at this
      simpa using this
    have hi : j / 7 < len := by omega
    have hc := (hY (j / 7) hi).1
    obtain ⟨_, _, hcell⟩ := World.cells?_some hc
    have h1 := hcell (j % 7) (Nat.mod_lt _ (by decide))
    have hk : j % 7 < (Y (j / 7)).cells.length := by rw [sr_len]; exact Nat.mod_lt _ (by decide)
    have h2 := flat_at (l := (List.range len).map Y) sr_len (i := j / 7) (x := Y (j / 7)) (by simp [hi]) (j % 7) _ (List.getElem?_eq_getElem hk)
    rw [show j / 7 * 7 + j % 7 = j by omega] at h2
    have h2' : (srRow ((List.range len).map Y))[j]? = some ((Y (j / 7)).cells[j % 7]'hk) := h2
    rw [hj] at h2'
    rw [Option.some.inj h2', ← List.getElem?_eq_getElem hk, ← h1]
    congr 1
    rw [add_add, show j / 7 * 7 + j % 7 = j by omega]
end
end Go.Proofs.Ytkhkagjbeilbgaa
