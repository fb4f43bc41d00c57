/-
  Own work: the small logic, more of its rules; of any program.
-/
import Derived.Test.YtknbohnoiigioaaSlRet
import Derived.Laws.Cover3
import Derived.Laws.IdiomStrings
set_option linter.all false
set_option linter.unusedSimpArgs false
set_option linter.unusedVariables false
namespace Go.Sl
open Go.RowKit
section
variable {P : Program} {rd : Option Nat} {w0 : World} {Q : Exit → Act → World → Prop} {n : Nat} {ds : List Deferred} {k : List It} {env env' : Env} {H H' : Heap} {all : Array Oper} {rest : List Oper}
variable {d : Nat} {x y c : Operand} {t u ty : TypeId} {pos : String} {aft : Array Edge} {v : Value}
/-- a slice held against nil -/
theorem X_sliceNil {ad : Option Addr} {len cap s by_ : Nat} {e : TypeId} {z : Value} {C : World → Prop} (hx : opv env x = some (.slice ad len cap)) (hy : opv env y = some (.slice none 0 0)) (ht : Ty P t (.slice e) s z by_) :
    Ex P n env C (.binOp .eql t x y u) ty (.bool ad.isNone) := fun a w d pos aft g ha _ => by
  have he : (eqGuard .eql t x y (.slice ad len cap) (.slice none 0 0)).run P w = .ok () w := by simp [eqGuard]
  have h2 : (Go.binOp .eql t (.slice ad len cap) (.slice none 0 0)).run P w = .ok (.bool ad.isNone) w := by
    have := run_equal_slice_nil (P := P) w t e ad len cap ht.und
    simp [Go.binOp, this, Result.andThen]
  simp [execOp, ha.opv hx, ha.opv hy, he, h2, Result.andThen]
theorem X_sliceNotNil {ad : Option Addr} {len cap s by_ : Nat} {e : TypeId} {z : Value} {C : World → Prop} (hx : opv env x = some (.slice ad len cap)) (hy : opv env y = some (.slice none 0 0)) (ht : Ty P t (.slice e) s z by_) :
    Ex P n env C (.binOp .neq t x y u) ty (.bool (!ad.isNone)) := fun a w d pos aft g ha _ => by
  have he : (eqGuard .neq t x y (.slice ad len cap) (.slice none 0 0)).run P w = .ok () w := by simp [eqGuard]
  simp [execOp, ha.opv hx, ha.opv hy, he, run_neq_slice_nil (P := P) w t e ad len cap ht.und, Result.andThen]
/-- a slice of bytes as a string -/
def b8 (l : List Int) : List UInt8 := l.map fun z => UInt8.ofNat z.toNat
theorem X_convBS {ad : Option Addr} {cap s1 s2 by1 by2 s3 by3 : Nat} {e : TypeId} {z1 z2 z3 : Value} {l : List Int} (hx : opv env x = some (.slice ad l.length cap)) (ht : Ty P t (.slice e) s1 z1 by1) (he : Ty P e (.int .u8) s3 z3 by3) (hu : Ty P u .string s2 z2 by2)
    (hh : Holds w0 H ad (l.map (.int .u8))) (hb : ∀ b ∈ l, 0 ≤ b ∧ b < 256) :
    Ex P n env (Sat w0 H) (.convert t u x) ty (.string ⟨(b8 l).toArray⟩) := fun a w d pos aft g ha hs => by
  have hr : (convert t u (.slice ad l.length cap)).run P w = .ok (.string ⟨(b8 l).toArray⟩) w := by
    cases l with
    | nil =>
      cases ad with
      | none => rw [run_convert_bytes_string w t u e none _ cap ht.und he.und hu.und]; rfl
      | some a0 => exact run_convert_bytes_back w t u e a0 cap [] ht.und he.und hu.und (fun j hj => by simp at hj)
    | cons b l =>
      obtain ⟨bb, o, rfl, _⟩ := hh 0 (.int .u8 b) rfl
      have := run_convert_bytes_back (P := P) w t u e ⟨bb, o, none⟩ cap (b8 (b :: l)) ht.und he.und hu.und (fun j hj => by
        have hj' : j < (b :: l).length := by simpa [b8] using hj
        obtain ⟨b2, o2, e2, hc⟩ := hh j (.int .u8 ((b :: l)[j])) (by rw [List.getElem?_map, List.getElem?_eq_getElem hj']; rfl)
        cases e2
        rw [addr_add, hc w hs]
        have hbb := hb _ (List.getElem_mem hj')
        simp only [b8, List.getElem_map]
        congr 2
        rw [UInt8.toNat_ofNat']
        omega)
      have hl : (b8 (b :: l)).length = (b :: l).length := by simp [b8]
      rw [hl] at this
      exact this
  simp [execOp, ha.opv hx, hr, Result.andThen]
theorem b8_inj {l m : List Int} (hl : ∀ b ∈ l, 0 ≤ b ∧ b < 256) (hm : ∀ b ∈ m, 0 ≤ b ∧ b < 256) (h : b8 l = b8 m) : l = m := by
  induction l generalizing m with
  | nil => cases m with
    | nil => rfl
    | cons x m => simp [b8] at h
  | cons x l ih => cases m with
    | nil => simp [b8] at h
    | cons y m =>
      simp only [b8, List.map_cons, List.cons.injEq] at h
      have h1 := hl x List.mem_cons_self
      have h2 := hm y List.mem_cons_self
      have h3 := congrArg UInt8.toNat h.1
      rw [UInt8.toNat_ofNat', UInt8.toNat_ofNat'] at h3
      rw [ih (fun b hb => hl b (List.mem_cons_of_mem _ hb)) (fun b hb => hm b (List.mem_cons_of_mem _ hb)) h.2, show x = y by omega]
theorem ba_toList (l : List UInt8) : (⟨l.toArray⟩ : ByteArray).toList = l := by simpa using ByteArray.toList_eq ⟨l.toArray⟩
theorem b8_eq {l m : List Int} (hl : ∀ b ∈ l, 0 ≤ b ∧ b < 256) (hm : ∀ b ∈ m, 0 ≤ b ∧ b < 256) : ((⟨(b8 l).toArray⟩ : ByteArray).toList == (⟨(b8 m).toArray⟩ : ByteArray).toList) = decide (l = m) := by
  rw [ba_toList, ba_toList]
  by_cases h : l = m
  · subst h; simp
  · rw [decide_eq_false h, ← Bool.not_eq_true, beq_iff_eq]
    exact fun e => h (b8_inj hl hm e)
end
end Go.Sl
