/-
  Proved: the statement 1CardSaid, as the row gives it, under no condition of its own.
-/
import Derived.Test.YtpfoecmianohjaaDoorJ0
import Derived.Test.YtpfoecmianohjaaDoorC16
import Derived.Deep.Slices
set_option linter.all false
set_option linter.unusedSimpArgs false
set_option linter.unusedVariables false
namespace Go.Proofs.YtpfoecmianohjaaDoor
open Go Go.Sl Go.Deep Go.ChangeShapes Go.WideShapes Go.ChangeAt Go.RowKit
set_option maxRecDepth 100000
theorem u43 : Tryd.prog.underlying 43 = some (.slice 59) := by kernel_rfl
theorem c59 : Tryd.prog.cellsOf 59 = 5 := by kernel_rfl
theorem c3 : Tryd.prog.cellsOf 3 = 1 := by kernel_rfl
theorem add_add (a : Addr) (m n : Nat) : (a.add m).add n = a.add (m + n) := by
  unfold Addr.add
  by_cases hm : m = 0
  · subst hm; simp
  · by_cases hn : n = 0
    · subst hn; simp [hm]
    · have h : m + n ≠ 0 := by omega
      simp [hm, hn, Nat.add_assoc]
section
variable {H : Type} {enc : TypeId × Value → H} {w : World} {base : Nat} {spare : Nat → Bool} {held : Bool}
/-- an instruction, as it is read -/
theorem open_ins {fuel : Nat} {cs : List Value} {x : DataW H × List MemPlace} (h : DataW.trod enc Tryd.prog w base spare held fuel 59 cs = some x) : ∃ y : Ins, cs = y.cells ∧ y.Ok := by
  obtain ⟨xs, n, _, _, hl, hlen, hf⟩ := DataW.trod_struct (ty59.und) h
  rw [c59] at hl
  match cs, hl with
  | [a0, a1, a2, a3, a4], _ =>
    have one : ∀ (i : Nat) (f : Field) (v : Value), (#[⟨"Op", 3, 0, false, "", "", 0⟩, ⟨"Dst", 3, 1, false, "", "", 8⟩, ⟨"Src", 3, 2, false, "", "", 16⟩, ⟨"Off", 3, 3, false, "", "", 24⟩, ⟨"Imm", 3, 4, false, "", "", 32⟩] : Array Field)[i]? = some f → f.type = 3 → (([a0, a1, a2, a3, a4] : List Value).drop f.offset).take 1 = [v] → i < 5 → ∃ m, v = .int .i64 m ∧ I64 m := fun i f v hif ht hv hi => by
      have h1 := hf i f hif
      rw [ht, c3, hv] at h1
      have hx : xs[i]? = some (xs[i]'(by rw [hlen]; exact hi)) := List.getElem?_eq_getElem _
      rw [hx] at h1
      obtain ⟨m, e, _, hw⟩ := DataW.trod_int u3 h1
      cases e
      exact ⟨m, rfl, by simp [Lit.wf, IntKind.min, IntKind.max, IntKind.signed, IntKind.bits] at hw; exact ⟨by omega, by omega⟩⟩
    obtain ⟨m0, rfl, h0⟩ := one 0 _ a0 rfl rfl rfl (by decide)
    obtain ⟨m1, rfl, h1⟩ := one 1 _ a1 rfl rfl rfl (by decide)
    obtain ⟨m2, rfl, h2⟩ := one 2 _ a2 rfl rfl rfl (by decide)
    obtain ⟨m3, rfl, h3⟩ := one 3 _ a3 rfl rfl rfl (by decide)
    obtain ⟨m4, rfl, h4⟩ := one 4 _ a4 rfl rfl rfl (by decide)
    exact ⟨⟨m0, m1, m2, m3, m4⟩, rfl, ⟨h0, h1, h2, h3, h4⟩⟩
theorem open_inss {fuel len cap : Nat} {a : Option Addr} {x : DataW H × List MemPlace} (hf : DataW.trod enc Tryd.prog w base spare held fuel 43 (Value.slice a len cap).cells.toList = some x) :
    ∃ l : List Ins, len = l.length ∧ l.length ≤ cap ∧ cap ≤ maxLen ∧ InsOk l ∧ InRow w a (insRow l) := by
  rcases Go.Deep.open_slice u43 hf with ⟨hcs, _⟩ | ⟨a', len', cap', m, n, D, Pl, hcs, _, hle, hmax, hm, _, hel⟩
  · simp [Value.cells] at hcs
    obtain ⟨rfl, rfl, rfl⟩ := hcs
    exact ⟨[], rfl, Nat.le_refl _, Nat.zero_le _, fun x hx => (by simp at hx), InRow.nil⟩
  · simp [Value.cells] at hcs
    obtain ⟨rfl, rfl, rfl⟩ := hcs
    have hlm : len ≤ m := by rw [hm]; split <;> omega
    have hall : ∀ i, i < len → ∃ y : Ins, w.cells? base (a'.add (i * 5)) 5 = some y.cells ∧ y.Ok := fun i hi => by
      obtain ⟨cs, h1, h2⟩ := hel i (by omega)
      rw [c59] at h1
      obtain ⟨y, rfl, hy⟩ := open_ins h2
      exact ⟨y, h1, hy⟩
    haveI : Inhabited Ins := ⟨⟨0, 0, 0, 0, 0⟩⟩
    obtain ⟨Y, hY⟩ := choose_lt hall
    refine ⟨(List.range len).map Y, by simp, by simpa using hle, hmax, fun x hx => ?_, InRow.of_spot fun j v hj => ?_⟩
    · obtain ⟨i, hi, rfl⟩ := List.mem_map.1 hx
      exact (hY i (List.mem_range.1 hi)).2
    · have hjl : j < len * 5 := by
        have := (List.getElem?_eq_some_iff.1 hj).1
        rw [flat_length cells_len] at this
        simpa using this
      have hi : j / 5 < len := by omega
      have hc := (hY (j / 5) hi).1
      obtain ⟨_, _, hcell⟩ := World.cells?_some hc
      have h1 := hcell (j % 5) (Nat.mod_lt _ (by decide))
      have hk : j % 5 < (Y (j / 5)).cells.length := by rw [cells_len]; exact Nat.mod_lt _ (by decide)
      have h2 := flat_at (l := (List.range len).map Y) cells_len (i := j / 5) (x := Y (j / 5)) (by simp [hi]) (j % 5) _ (List.getElem?_eq_getElem hk)
      rw [show j / 5 * 5 + j % 5 = j by omega] at h2
      have h2' : (insRow ((List.range len).map Y))[j]? = some ((Y (j / 5)).cells[j % 5]'hk) := h2
      rw [hj] at h2'
      rw [Option.some.inj h2', ← List.getElem?_eq_getElem hk, ← h1]
      congr 1
      rw [add_add, show j / 5 * 5 + j % 5 = j by omega]
end
end Go.Proofs.YtpfoecmianohjaaDoor
