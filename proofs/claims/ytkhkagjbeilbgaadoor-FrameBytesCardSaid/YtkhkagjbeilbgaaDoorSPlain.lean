/-
  Own work: contracts of functions that the statement reaches, and plain facts on what they compute; each theorem says its conditions.
-/
import Derived.Test.YtkhkagjbeilbgaaDoorSlCore
set_option linter.all false
set_option linter.unusedSimpArgs false
set_option linter.unusedVariables false
namespace Go.Script
/-! ## Steps, as data -/
structure St where
  kind : Int
  a : Int
  b : Int
  c : Int
  x : Int
  y : Int
  raw : List Int
deriving DecidableEq
def zeroS : St := ⟨0, 0, 0, 0, 0, 0, []⟩
structure En where
  at_ : Nat
  st : St
  err : Int
deriving DecidableEq
def isK (k : Int) : Bool := decide (0 ≤ k) && decide (k ≤ 17)
def tabW : List (List Nat) := [[1,0,0,0,0],[1,1,0,0,0],[1,0,0,0,0],[1,0,0,0,0],[1,0,0,0,0],[1,0,0,0,0],[1,0,0,0,0],[1,1,1,0,0],[1,1,2,8,0],[1,1,0,8,8],[1,0,0,8,0],[1,0,0,8,0],[1,0,0,0,0],[1,0,0,0,0],[1,0,0,0,0],[0,0,0,0,0],[0,0,0,0,0],[1,0,0,0,0]]
def tabB : List (List Int) := [[1,255,0,0,0,0],[0,63,0,255,0,0],[0,15,0,0,0,0],[0,15,0,0,0,0],[0,15,0,0,0,0],[0,255,0,0,0,0],[0,1,0,0,0,0],[0,2,1,8,1,4],[0,15,0,63,1,256],[0,3,0,2,0,0],[0,3,0,0,0,0],[0,3,0,0,0,0],[0,3,0,0,0,0],[0,31,0,0,0,0],[0,31,0,0,0,0],[0,0,0,0,0,0],[0,0,0,0,0,0],[0,15,0,0,0,0]]
def shW (k : Int) : List Nat := if isK k then tabW.getD k.toNat [] else [0,0,0,0,0]
def shB (k : Int) : List Int := if isK k then tabB.getD k.toNat [] else [0,0,0,0,0,0]
theorem isK_nat {k : Int} (h : isK k = true) : ∃ n : Fin 18, k = (n.val : Int) := by
  simp only [isK, Bool.and_eq_true, decide_eq_true_eq] at h
  exact ⟨⟨k.toNat, by omega⟩, by show k = (k.toNat : Int); omega⟩
theorem shW_len (k : Int) : (shW k).length = 5 := by
  unfold shW
  cases h : isK k with
  | false => rfl
  | true =>
    obtain ⟨n, rfl⟩ := isK_nat h
    have : ∀ n : Fin 18, (tabW.getD ((n.val : Int)).toNat []).length = 5 := by decide +kernel
    simpa using this n
theorem shB_len (k : Int) : (shB k).length = 6 := by
  unfold shB
  cases h : isK k with
  | false => rfl
  | true =>
    obtain ⟨n, rfl⟩ := isK_nat h
    have : ∀ n : Fin 18, (tabB.getD ((n.val : Int)).toNat []).length = 6 := by decide +kernel
    simpa using this n
def rawOk (k n : Int) : Bool := if k = 5 then decide (1 ≤ n) && decide (n ≤ 16) else if k = 6 then decide (8 ≤ n) && decide (n ≤ 512) && decide (n % 8 = 0) else decide (n = 0)
def u64 (z : Int) : Int := z % 18446744073709551616
def St.parts (s : St) : List Int := [u64 s.a, u64 s.b, u64 s.c, s.x, s.y]
def St.abc (s : St) : List Int := [s.a, s.b, s.c]
/-- a part that the kind doesn't use isn't 0 -/
def badForm (w : List Nat) (p : List Int) (i : Nat) : Bool := decide (w.getD i 0 = 0) && decide (p.getD i 0 ≠ 0)
def outB (bs : List Int) (l : List Int) (i : Nat) : Bool := decide (l.getD i 0 < bs.getD (2 * i) 0) || decide (bs.getD (2 * i + 1) 0 < l.getD i 0)
def chk (s : St) : Int :=
  if isK s.kind = false then 11
  else if (List.range 5).any (badForm (shW s.kind) s.parts) then 9
  else if 0 < s.raw.length ∧ s.kind ≠ 5 ∧ s.kind ≠ 6 then 9
  else if (List.range 3).any (outB (shB s.kind) s.abc) then 2
  else if rawOk s.kind s.raw.length = false then 8
  else 0
/-! ### Bytes of numbers -/
def lowL (n : Int) : Nat → List Int
  | 0 => []
  | k + 1 => n % 256 :: lowL (n / 256) k
def numL : List Int → Int
  | [] => 0
  | b :: l => b + 256 * numL l
theorem lowL_len : ∀ (k : Nat) (n : Int), (lowL n k).length = k
  | 0, _ => rfl
  | k + 1, n => by simp [lowL, lowL_len k]
def Bytes (l : List Int) : Prop := ∀ b ∈ l, 0 ≤ b ∧ b < 256
theorem lowL_bytes : ∀ (k : Nat) (n : Int), Bytes (lowL n k)
  | 0, _ => fun _ h => by cases h
  | k + 1, n => fun b h => by
    rcases List.mem_cons.1 h with rfl | h
    · exact ⟨Int.emod_nonneg _ (by decide), Int.emod_lt_of_pos _ (by decide)⟩
    · exact lowL_bytes k _ b h
theorem numL_nonneg : ∀ {l : List Int}, Bytes l → 0 ≤ numL l
  | [], _ => Int.le_refl _
  | b :: l, h => by
    have h1 := h b List.mem_cons_self
    have h2 := numL_nonneg (l := l) (fun x hx => h x (List.mem_cons_of_mem _ hx))
    show 0 ≤ b + 256 * numL l
    omega
theorem numL_lt : ∀ {l : List Int}, Bytes l → numL l < 256 ^ l.length
  | [], _ => by decide
  | b :: l, h => by
    have h1 := h b List.mem_cons_self
    have h2 := numL_lt (l := l) (fun x hx => h x (List.mem_cons_of_mem _ hx))
    show b + 256 * numL l < 256 ^ (l.length + 1)
    rw [Int.pow_succ]
    omega
theorem num_low : ∀ (k : Nat) (n : Int), 0 ≤ n → n < 256 ^ k → numL (lowL n k) = n
  | 0, n, h1, h2 => by simp at h2; show (0 : Int) = n; omega
  | k + 1, n, h1, h2 => by
    rw [Int.pow_succ] at h2
    have := num_low k (n / 256) (by omega) (by omega)
    show n % 256 + 256 * numL (lowL (n / 256) k) = n
    rw [this]; omega
theorem low_num : ∀ {l : List Int}, Bytes l → lowL (numL l) l.length = l
  | [], _ => rfl
  | b :: l, h => by
    have h1 := h b List.mem_cons_self
    have h2 := low_num (l := l) (fun x hx => h x (List.mem_cons_of_mem _ hx))
    show (b + 256 * numL l) % 256 :: lowL ((b + 256 * numL l) / 256) l.length = b :: l
    rw [show (b + 256 * numL l) % 256 = b by omega, show (b + 256 * numL l) / 256 = numL l by omega, h2]
/-! ### Entries -/
def sumL (w : List Nat) : Nat := w.foldl (· + ·) 0
/-- so many bytes of each part -/
def partsL (p : List Int) (w : List Nat) : List Int := (List.range 5).flatMap fun i => lowL (p.getD i 0) (w.getD i 0)
def encB (s : St) : List Int := partsL s.parts (shW s.kind) ++ s.raw
def enc (s : St) : List Int := s.kind :: lowL (sumL (shW s.kind) + s.raw.length : Nat) 2 ++ encB s
/-- the numbers of bytes, one behind the other -/
def takeN : List Nat → List Int → List Int
  | [], _ => []
  | w :: ws, b => numL (b.take w) :: takeN ws (b.drop w)
def i64 (z : Int) : Int := (z + 9223372036854775808) % 18446744073709551616 - 9223372036854775808
def ofN (k : Int) (n : List Int) (raw : List Int) : St := ⟨k, i64 (n.getD 0 0), i64 (n.getD 1 0), i64 (n.getD 2 0), n.getD 3 0, n.getD 4 0, raw⟩
def one (k : Int) (b : List Int) : St × Int :=
  if isK k = false then (zeroS, 11)
  else if b.length < sumL (shW k) ∨ rawOk k (b.length - sumL (shW k) : Nat) = false then (zeroS, 9)
  else
    let s := ofN k (takeN (shW k) b) (b.drop (sumL (shW k)))
    if chk s = 0 then (s, 0) else (zeroS, chk s)
def parseF : Nat → Nat → List Int → List En
  | 0, _, _ => []
  | f + 1, at_, b =>
    if b.length = 0 then []
    else if b.length < 3 then [⟨at_, zeroS, 10⟩]
    else
      let n := (numL ((b.drop 1).take 2)).toNat
      if b.length < 3 + n then [⟨at_, zeroS, 10⟩]
      else
        let r := one (b.getD 0 0) ((b.drop 3).take n)
        ⟨at_, r.1, r.2⟩ :: parseF f (at_ + (3 + n)) (b.drop (3 + n))
def parse (b : List Int) : List En := parseF b.length 0 b
theorem parseF_fuel : ∀ (f g at_ : Nat) (b : List Int), b.length ≤ f → b.length ≤ g → parseF f at_ b = parseF g at_ b
  | 0, 0, _, _, _, _ => rfl
  | 0, g + 1, at_, b, h, _ => by
    have : b.length = 0 := by omega
    simp [parseF, this]
  | f + 1, 0, at_, b, _, h => by
    have : b.length = 0 := by omega
    simp [parseF, this]
  | f + 1, g + 1, at_, b, h1, h2 => by
    unfold parseF
    by_cases h0 : b.length = 0
    · rw [if_pos h0, if_pos h0]
    · rw [if_neg h0, if_neg h0]
      by_cases h3 : b.length < 3
      · rw [if_pos h3, if_pos h3]
      · rw [if_neg h3, if_neg h3]
        simp only
        split
        · rfl
        · rw [parseF_fuel f g _ _ (by simp; omega) (by simp; omega)]
/-- what comes at a place -/
def from_ (b : List Int) (at_ : Nat) : List En := parseF (b.length - at_) at_ (b.drop at_)
theorem from_end {b : List Int} {at_ : Nat} (h : b.length ≤ at_) : from_ b at_ = [] := by
  unfold from_
  rw [show b.length - at_ = 0 by omega]; rfl
theorem from_short {b : List Int} {at_ : Nat} (h0 : at_ < b.length) (h : b.length - at_ < 3) : from_ b at_ = [⟨at_, zeroS, 10⟩] := by
  unfold from_
  obtain ⟨f, hf⟩ : ∃ f, b.length - at_ = f + 1 := ⟨b.length - at_ - 1, by omega⟩
  rw [hf]
  unfold parseF
  rw [if_neg (by simp; omega), if_pos (by simp; omega)]
theorem from_step {b : List Int} {at_ n : Nat} (h : ¬ b.length - at_ < 3) (hn : n = (numL (((b.drop at_).drop 1).take 2)).toNat) :
    from_ b at_ = if b.length - at_ < 3 + n then [⟨at_, zeroS, 10⟩] else ⟨at_, (one (b.getD at_ 0) (((b.drop at_).drop 3).take n)).1, (one (b.getD at_ 0) (((b.drop at_).drop 3).take n)).2⟩ :: from_ b (at_ + (3 + n)) := by
  conv => lhs; unfold from_
  obtain ⟨f, hf⟩ : ∃ f, b.length - at_ = f + 1 := ⟨b.length - at_ - 1, by omega⟩
  rw [hf]
  unfold parseF
  rw [if_neg (by simp; omega), if_neg (by simp; omega)]
  simp only [List.length_drop, ← hn]
  rw [← hf]
  split
  · rfl
  · have e : (b.drop at_).getD 0 0 = b.getD at_ 0 := by simp [List.getD]
    rw [e]
    congr 1
    unfold from_
    rw [List.drop_drop]
    exact parseF_fuel _ _ _ _ (by simp; omega) (by simp)
theorem parse_from (b : List Int) : parse b = from_ b 0 := by simp [parse, from_]
end Go.Script
