/-
  nums: what its functions compute.
-/
import Derived.Test.YtcffibbdbalmjaaQF
set_option linter.unusedVariables false
set_option linter.unusedSimpArgs false
namespace Go.Q
theorem drop_of {α : Type} {l : List α} {k : Nat} {x : α} (h : l[k]? = some x) : l.drop k = x :: l.drop (k + 1) := by
  obtain ⟨hlt, rfl⟩ := List.getElem?_eq_some_iff.1 h
  exact List.drop_eq_getElem_cons hlt
def sumS (s : Int) : List Int → Int
  | [] => s
  | n :: l => if 9223372036854775807 - s < n then 9223372036854775807 else sumS (s + max n 0) l
def fitsS (n : Int) (m : Nat) : Bool := decide (0 ≤ n) && (decide ((m : Int) = 8) || decide (Int.fdiv n (2 ^ (min (8 * (m : Int)).toNat 64)) = 0))
/-- a number's j lowest bytes, the highest first -/
def beFrom (n : Int) : Nat → List UInt8
  | 0 => []
  | j + 1 => by8 (n / 2 ^ (8 * j)) :: beFrom n j
theorem beFrom_pred {n : Int} {j : Nat} (h : 0 < j) : beFrom n j = by8 (n / 2 ^ (8 * (j - 1))) :: beFrom n (j - 1) := by
  obtain ⟨j, rfl⟩ : ∃ i, j = i + 1 := ⟨j - 1, by omega⟩
  rfl
theorem by8_shift (n : Int) {j : Nat} (h : 1 ≤ j) (h8 : j ≤ 8) : by8 (Int.fdiv n (2 ^ (min (8 * ((j : Int) - 1)).toNat 64))) = by8 (n / 2 ^ (8 * (j - 1))) := by
  have e : min (8 * ((j : Int) - 1)).toNat 64 = 8 * (j - 1) := by omega
  rw [e, Int.fdiv_eq_ediv_of_nonneg _ (by exact Int.le_of_lt (Int.pow_pos (by omega)))]
theorem beFrom_length (n : Int) (j : Nat) : (beFrom n j).length = j := by induction j <;> simp [beFrom, *]
def putS (m : Nat) (l : List Int) : List UInt8 := if 1 ≤ m ∧ m ≤ 8 ∧ ∀ x ∈ l, fitsS x m = true then l.flatMap (beFrom · m) else []
theorem putS_no {m : Nat} {l : List Int} {x : Int} (h : x ∈ l) (hf : fitsS x m = false) : putS m l = [] := by
  rw [putS, if_neg]
  rintro ⟨_, _, h3⟩
  rw [h3 x h] at hf; cases hf
theorem putS_yes {m : Nat} {l : List Int} (h1 : 1 ≤ m) (h8 : m ≤ 8) (h : ∀ x ∈ l, fitsS x m = true) : putS m l = l.flatMap (beFrom · m) := by
  rw [putS, if_pos ⟨h1, h8, h⟩]
/-- bytes as a number, the highest first -/
def beVal (l : List UInt8) : Int := l.foldl (fun n b => n * 256 + b.toNat) 0
theorem beVal_snoc (l : List UInt8) (b : UInt8) : beVal (l ++ [b]) = beVal l * 256 + b.toNat := by simp [beVal]
theorem beVal_nonneg (l : List UInt8) : 0 ≤ beVal l := by
  have : ∀ (l : List UInt8) (n : Int), 0 ≤ n → 0 ≤ l.foldl (fun n b => n * 256 + (b.toNat : Int)) n := by
    intro l
    induction l with
    | nil => intro n h; exact h
    | cons b l ih => intro n h; exact ih _ (show 0 ≤ n * 256 + (b.toNat : Int) by omega)
  exact this l 0 (by omega)
theorem foldl_bound : ∀ (l : List UInt8) (n : Int), 0 ≤ n → l.foldl (fun n b => n * 256 + (b.toNat : Int)) n < (n + 1) * 256 ^ l.length := by
  intro l
  induction l with
  | nil => intro n _; simp; omega
  | cons b l ih =>
    intro n h
    have hb := b.toNat_lt
    refine Int.lt_of_lt_of_le (ih (n * 256 + b.toNat) (by omega)) ?_
    have h1 : (n * 256 + (b.toNat : Int) + 1) ≤ (n + 1) * 256 := by omega
    have h2 : (0 : Int) ≤ 256 ^ l.length := Int.le_of_lt (Int.pow_pos (by omega))
    have h3 := Int.mul_le_mul_of_nonneg_right h1 h2
    rw [List.length_cons, Int.pow_succ, ← Int.mul_assoc, Int.mul_right_comm]
    exact h3
theorem beVal_lt_pow (l : List UInt8) : beVal l < 256 ^ l.length := by
  have := foldl_bound l 0 (by omega); simpa [beVal] using this
theorem pow_mono {a b : Nat} (h : a ≤ b) : (256 : Int) ^ a ≤ 256 ^ b := by
  have h2 := Int.ofNat_le.2 (Nat.pow_le_pow_right (n := 256) (by omega) h)
  rw [Int.natCast_pow, Int.natCast_pow] at h2
  exact h2
theorem beVal_lt {s : List UInt8} {i m : Nat} (h : i < m) (h8 : m ≤ 8) (hs : m ≤ s.length) (hc : m ≤ 7 ∨ ∀ c, s[0]? = some c → c.toNat ≤ 127) : beVal (s.take i) < 36028797018963968 := by
  have hl : (s.take i).length = i := by rw [List.length_take]; omega
  rcases hc with hc | hc
  · have h1 := beVal_lt_pow (s.take i)
    rw [hl] at h1
    have h2 := pow_mono (show i ≤ 6 by omega)
    have : (256 : Int) ^ 6 = 281474976710656 := by decide
    omega
  · cases i with
    | zero => simp [beVal]
    | succ i =>
      cases s with
      | nil => simp at hs; omega
      | cons c s =>
        have hcc := hc c rfl
        rw [List.take_succ_cons]
        have h1 := foldl_bound (s.take i) c.toNat (by omega)
        have hl' : (s.take i).length = i := by simpa using hl
        rw [hl'] at h1
        have h2 := pow_mono (show i ≤ 6 by omega)
        have h3 : (256 : Int) ^ 6 = 281474976710656 := by decide
        have h4 : ((c.toNat : Int) + 1) * 256 ^ i ≤ 128 * 256 ^ i := Int.mul_le_mul_of_nonneg_right (by omega) (Int.le_of_lt (Int.pow_pos (by omega)))
        have h5 : beVal (c :: s.take i) = (s.take i).foldl (fun n b => n * 256 + (b.toNat : Int)) c.toNat := by simp [beVal]
        rw [h5]
        omega
theorem or8 {x : Int} (h0 : 0 ≤ x) (h1 : x < 36028797018963968) (b : UInt8) : IntKind.wrap .i64 ((BitVec.ofInt 64 (x * 256) ||| BitVec.ofInt 64 (b.toNat : Int)).toNat : Int) = x * 256 + b.toNat := by
  obtain ⟨n, rfl⟩ := Int.eq_ofNat_of_zero_le h0
  have hb := b.toNat_lt
  have e1 : (BitVec.ofInt 64 ((n : Int) * 256)).toNat = n * 256 := by
    rw [show ((n : Int) * 256) = ((n * 256 : Nat) : Int) by omega, BitVec.ofInt_natCast, BitVec.toNat_ofNat]
    exact Nat.mod_eq_of_lt (by omega)
  have e2 : (BitVec.ofInt 64 (b.toNat : Int)).toNat = b.toNat := by
    rw [BitVec.ofInt_natCast, BitVec.toNat_ofNat]
    exact Nat.mod_eq_of_lt (by omega)
  have e3 : n * 256 ||| b.toNat = n * 256 + b.toNat := by
    have := Nat.shiftLeft_add_eq_or_of_lt (i := 8) (b := b.toNat) (by omega) n
    rw [Nat.shiftLeft_eq, show 2 ^ 8 = 256 from rfl] at this
    omega
  rw [BitVec.toNat_or, e1, e2, e3]
  rw [w64 (by omega) (by omega)]
  omega
def takeS (s : List UInt8) (m : Nat) : Int × List UInt8 × Bool :=
  if 1 ≤ m ∧ m ≤ 8 ∧ m ≤ s.length ∧ (m ≤ 7 ∨ ∀ c, s[0]? = some c → c.toNat ≤ 127) then (beVal (s.take m), s.drop m, true) else (0, s, false)
theorem takeS_yes {s : List UInt8} {m : Nat} (h1 : 1 ≤ m) (h2 : m ≤ 8) (h3 : m ≤ s.length) (h4 : m ≤ 7 ∨ ∀ c, s[0]? = some c → c.toNat ≤ 127) : takeS s m = (beVal (s.take m), s.drop m, true) := by
  rw [takeS, if_pos ⟨h1, h2, h3, h4⟩]
theorem takeS_no {s : List UInt8} {m : Nat} (h : (m < 1 ∨ 8 < m) ∨ s.length < m ∨ (m = 8 ∧ ∃ c, s[0]? = some c ∧ 127 < c.toNat)) : takeS s m = (0, s, false) := by
  rw [takeS, if_neg]
  rintro ⟨h1, h2, h3, h4⟩
  rcases h with h | h | ⟨h, c, hc, hh⟩
  · omega
  · omega
  · rcases h4 with h4 | h4
    · omega
    · have := h4 c hc; omega
end Go.Q
