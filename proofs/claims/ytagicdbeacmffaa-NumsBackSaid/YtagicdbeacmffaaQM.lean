/-
  Plain laws of numbers that are laid, and taken.
-/
import Derived.Test.YtagicdbeacmffaaQNums
namespace Go.Q
set_option linter.unusedSimpArgs false
set_option linter.unusedVariables false
theorem two_pow8 (j : Nat) : ((2 : Int) ^ (8 * j)) = ((256 ^ j : Nat) : Int) := by
  induction j with
  | zero => rfl
  | succ j ih => rw [Nat.mul_succ, Int.pow_add, ih, Nat.pow_succ, Int.natCast_mul]; rfl
theorem by8_nat (m : Nat) (j : Nat) : (by8 ((m : Int) / 2 ^ (8 * j))).toNat = m / 256 ^ j % 256 := by
  unfold by8
  rw [UInt8.toNat_ofNat', two_pow8, ← Int.natCast_ediv]
  omega
theorem fold_be (m : Nat) : ∀ (j : Nat) (acc : Int), (beFrom (m : Int) j).foldl (fun n b => n * 256 + (b.toNat : Int)) acc = acc * ((256 ^ j : Nat) : Int) + ((m % 256 ^ j : Nat) : Int)
  | 0, acc => by simp [beFrom, Nat.mod_one]
  | j + 1, acc => by
    rw [show beFrom (m : Int) (j + 1) = by8 ((m : Int) / 2 ^ (8 * j)) :: beFrom (m : Int) j from rfl, List.foldl_cons, fold_be m j, by8_nat, Nat.pow_succ, Nat.mod_mul, Int.add_mul, Int.mul_assoc, Int.natCast_mul, Int.natCast_add, Int.natCast_mul, Int.mul_comm 256, Int.mul_comm ((m / 256 ^ j % 256 : Nat) : Int), show ((256 : Nat) : Int) = 256 from rfl]
    omega
theorem beVal_be (m j : Nat) (h : m < 256 ^ j) : beVal (beFrom (m : Int) j) = m := by
  rw [beVal, fold_be, Nat.mod_eq_of_lt h]; omega
/-- a number that fits is below the power -/
theorem fits_nat {n : Int} {k : Nat} (h : fitsS n k = true) (h1 : 1 ≤ k) (h8 : k ≤ 8) (hn : n ≤ 9223372036854775807) : ∃ m : Nat, n = m ∧ m < 256 ^ k ∧ m ≤ 9223372036854775807 := by
  simp only [fitsS, Bool.and_eq_true, Bool.or_eq_true, decide_eq_true_eq] at h
  obtain ⟨h0, h2⟩ := h
  refine ⟨n.toNat, by omega, ?_, by omega⟩
  rcases h2 with h2 | h2
  · obtain rfl : k = 8 := by omega
    omega
  · rw [show (min (8 * (k : Int)).toNat 64) = 8 * k from by omega, two_pow8, Int.fdiv_eq_ediv_of_nonneg _ (Int.natCast_nonneg _), show n = ((n.toNat : Nat) : Int) from by omega, ← Int.natCast_ediv] at h2
    have h3 : n.toNat / 256 ^ k = 0 := by omega
    exact (Nat.div_eq_zero_iff.1 h3).resolve_left (Nat.pos_iff_ne_zero.1 (Nat.pow_pos (by omega)))
theorem be_first {m : Nat} (h : m ≤ 9223372036854775807) : ∀ c, (beFrom (m : Int) 8)[0]? = some c → c.toNat ≤ 127 := by
  intro c hc
  rw [show beFrom (m : Int) 8 = by8 ((m : Int) / 2 ^ (8 * 7)) :: beFrom (m : Int) 7 from rfl] at hc
  have : c = by8 ((m : Int) / 2 ^ (8 * 7)) := by simpa using hc.symm
  subst this
  rw [by8_nat]
  omega
theorem put_one_fits {n : Int} {k : Nat} (h1 : 1 ≤ k) (h8 : k ≤ 8) (h : fitsS n k = true) : putS k [n] = beFrom n k := by
  rw [putS_yes h1 h8 (by simpa using h)]; simp
theorem put_one_no {n : Int} {k : Nat} (h1 : 1 ≤ k) (h8 : k ≤ 8) (h : putS k [n] = []) : fitsS n k = false := by
  cases hf : fitsS n k with
  | false => rfl
  | true =>
    rw [put_one_fits h1 h8 hf] at h
    have := congrArg List.length h
    rw [beFrom_length] at this
    simp at this; omega
theorem put_one_yes {n : Int} {k : Nat} (h1 : 1 ≤ k) (h8 : k ≤ 8) (h : putS k [n] ≠ []) : fitsS n k = true := by
  cases hf : fitsS n k with
  | true => rfl
  | false => exact absurd (putS_no (List.mem_singleton.2 rfl) hf) h
theorem back_law {n : Int} {k : Nat} {more : List UInt8} (h1 : 1 ≤ k) (h8 : k ≤ 8) (hn : n ≤ 9223372036854775807) (h : putS k [n] ≠ []) : takeS (putS k [n] ++ more) k = (n, more, true) := by
  have hf := put_one_yes h1 h8 h
  obtain ⟨m, rfl, hm, hm2⟩ := fits_nat hf h1 h8 hn
  rw [put_one_fits h1 h8 hf, takeS_yes h1 h8 (by rw [List.length_append, beFrom_length]; omega) ?_]
  · rw [List.take_left' (beFrom_length _ _), List.drop_left' (beFrom_length _ _), beVal_be m k hm]
  · rcases Nat.lt_or_ge k 8 with g | g
    · exact .inl (by omega)
    · obtain rfl : k = 8 := by omega
      refine .inr fun c hc => be_first hm2 c ?_
      rw [List.getElem?_append_left (by rw [beFrom_length]; omega)] at hc
      exact hc
theorem div_mod_pow (x j : Nat) : x / 256 ^ j % 256 = x % 256 ^ (j + 1) / 256 ^ j := by rw [Nat.pow_succ, Nat.mod_mul_right_div_self]
theorem be_mod (x k : Nat) : ∀ j, j ≤ k → beFrom (x : Int) j = beFrom ((x % 256 ^ k : Nat) : Int) j
  | 0, _ => rfl
  | j + 1, h => by
    show by8 ((x : Int) / 2 ^ (8 * j)) :: beFrom (x : Int) j = by8 (((x % 256 ^ k : Nat) : Int) / 2 ^ (8 * j)) :: beFrom ((x % 256 ^ k : Nat) : Int) j
    rw [be_mod x k j (by omega)]
    congr 1
    rw [← UInt8.toNat_inj, by8_nat, by8_nat, div_mod_pow, div_mod_pow, Nat.mod_mod_of_dvd _ (Nat.pow_dvd_pow 256 h)]
theorem be_less : ∀ (k a b : Nat), a < 256 ^ k → b < 256 ^ k → Op.bytesLess (beFrom (a : Int) k) (beFrom (b : Int) k) = decide (a < b)
  | 0, a, b, ha, hb => by simp at ha hb; subst ha hb; rfl
  | k + 1, a, b, ha, hb => by
    have hp : 0 < 256 ^ k := Nat.pow_pos (by omega)
    show (by8 ((a : Int) / 2 ^ (8 * k)) < by8 ((b : Int) / 2 ^ (8 * k)) || (by8 ((a : Int) / 2 ^ (8 * k)) == by8 ((b : Int) / 2 ^ (8 * k)) && Op.bytesLess (beFrom (a : Int) k) (beFrom (b : Int) k))) = _
    rw [be_mod a k k (Nat.le_refl _), be_mod b k k (Nat.le_refl _), be_less k _ _ (Nat.mod_lt _ hp) (Nat.mod_lt _ hp)]
    have qa : a / 256 ^ k < 256 := (Nat.div_lt_iff_lt_mul hp).2 (by rw [Nat.pow_succ] at ha; omega)
    have qb : b / 256 ^ k < 256 := (Nat.div_lt_iff_lt_mul hp).2 (by rw [Nat.pow_succ] at hb; omega)
    have e1 : (by8 ((a : Int) / 2 ^ (8 * k)) < by8 ((b : Int) / 2 ^ (8 * k))) ↔ a / 256 ^ k < b / 256 ^ k := by
      rw [UInt8.lt_iff_toNat_lt, by8_nat, by8_nat, Nat.mod_eq_of_lt qa, Nat.mod_eq_of_lt qb]
    have e2 : (by8 ((a : Int) / 2 ^ (8 * k)) = by8 ((b : Int) / 2 ^ (8 * k))) ↔ a / 256 ^ k = b / 256 ^ k := by
      rw [← UInt8.toNat_inj, by8_nat, by8_nat, Nat.mod_eq_of_lt qa, Nat.mod_eq_of_lt qb]
    have da := Nat.div_add_mod a (256 ^ k)
    have db := Nat.div_add_mod b (256 ^ k)
    rw [Bool.eq_iff_iff]
    simp only [Bool.or_eq_true, Bool.and_eq_true, decide_eq_true_eq, beq_iff_eq, e1, e2]
    rcases Nat.lt_trichotomy (a / 256 ^ k) (b / 256 ^ k) with g | g | g
    · exact ⟨fun _ => Nat.lt_of_div_lt_div g, fun _ => .inl g⟩
    · rw [← g] at db
      constructor
      · rintro (h | ⟨_, h⟩)
        · omega
        · omega
      · intro h; exact .inr ⟨g, by omega⟩
    · have := Nat.lt_of_div_lt_div g
      constructor
      · rintro (h | ⟨h, _⟩) <;> omega
      · intro h; omega
theorem be_inj (k a b : Nat) (ha : a < 256 ^ k) (hb : b < 256 ^ k) (h : beFrom (a : Int) k = beFrom (b : Int) k) : a = b := by
  have h1 := beVal_be a k ha
  rw [h, beVal_be b k hb] at h1
  omega
end Go.Q
namespace Go.Q
theorem put_one_len (k : Nat) (n : Int) : (putS k [n]).length ≤ 8 := by
  unfold putS
  split
  · rename_i h; simp [beFrom_length]; omega
  · simp
theorem put_two_no {k : Nat} {a b : Int} (h1 : 1 ≤ k) (h8 : k ≤ 8) (h : putS k [a] = [] ∨ putS k [b] = []) : putS k [a, b] = [] := by
  rcases h with h | h
  · exact putS_no (List.mem_cons_self ..) (put_one_no h1 h8 h)
  · exact putS_no (List.mem_cons_of_mem _ (List.mem_singleton.2 rfl)) (put_one_no h1 h8 h)
theorem put_two {k : Nat} {a b : Int} (h1 : 1 ≤ k) (h8 : k ≤ 8) (ha : putS k [a] ≠ []) (hb : putS k [b] ≠ []) : putS k [a, b] = putS k [a] ++ putS k [b] := by
  have fa := put_one_yes h1 h8 ha
  have fb := put_one_yes h1 h8 hb
  rw [put_one_fits h1 h8 fa, put_one_fits h1 h8 fb, putS_yes h1 h8 (by simp [fa, fb])]
  simp
theorem put_one_length {k : Nat} {a : Int} (h1 : 1 ≤ k) (h8 : k ≤ 8) (ha : putS k [a] ≠ []) : (putS k [a]).length = k := by
  rw [put_one_fits h1 h8 (put_one_yes h1 h8 ha), beFrom_length]
theorem rises_less {k : Nat} {a b : Int} (h1 : 1 ≤ k) (h8 : k ≤ 8) (ha : putS k [a] ≠ []) (hb : putS k [b] ≠ []) (ma : a ≤ 9223372036854775807) (mb : b ≤ 9223372036854775807) : Op.bytesLess (putS k [a]) (putS k [b]) = decide (a < b) := by
  have fa := put_one_yes h1 h8 ha
  have fb := put_one_yes h1 h8 hb
  rw [put_one_fits h1 h8 fa, put_one_fits h1 h8 fb]
  obtain ⟨x, rfl, hx, _⟩ := fits_nat fa h1 h8 ma
  obtain ⟨y, rfl, hy, _⟩ := fits_nat fb h1 h8 mb
  rw [be_less k x y hx hy]
  simp
theorem rises_same {k : Nat} {a b : Int} (h1 : 1 ≤ k) (h8 : k ≤ 8) (ha : putS k [a] ≠ []) (hb : putS k [b] ≠ []) (ma : a ≤ 9223372036854775807) (mb : b ≤ 9223372036854775807) : decide (putS k [a] = putS k [b]) = decide (a = b) := by
  have fa := put_one_yes h1 h8 ha
  have fb := put_one_yes h1 h8 hb
  rw [put_one_fits h1 h8 fa, put_one_fits h1 h8 fb]
  obtain ⟨x, rfl, hx, _⟩ := fits_nat fa h1 h8 ma
  obtain ⟨y, rfl, hy, _⟩ := fits_nat fb h1 h8 mb
  by_cases e : x = y
  · subst e; simp
  · rw [decide_eq_false (fun h => e (be_inj k x y hx hy h)), decide_eq_false (by omega)]
end Go.Q
