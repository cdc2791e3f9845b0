/-
  Plain laws of numbers that are laid, and taken.
-/
import Derived.Test.YtagicdbeacmffaaQNums
set_option linter.unusedVariables false
set_option linter.unusedSimpArgs false
namespace Go.Q
theorem two_pow8 (j : Nat) : ((2 : Int) ^ (8 * j)) = ((256 ^ j : Nat) : Int) := by
  induction j with
  | zero => rfl
  | succ j ih => rw [Nat.mul_succ, Int.pow_add, ih, Nat.pow_succ, Int.natCast_mul]; rfl
theorem by8_nat (m : Nat) (j : Nat) : (by8 ((m : Int) / 2 ^ (8 * j))).toNat = m / 256 ^ j % 256 := by
  unfold by8
  rw [UInt8.toNat_ofNat', two_pow8, ← Int.natCast_ediv]
  omega
theorem fold_be (m : Nat) : ∀ (j : Nat) (acc : Int), (beFrom (m : Int) j).foldl (fun n b => n * 256 + (b.toNat : Int)) acc = acc * ((256 ^ j : Nat) : Int) + ((m % 256 ^ j : Nat) : Int)
  | 0, acc => by simp [beFrom, Nat.mod_one]
  | j + 1, acc => by
    rw [show beFrom (m : Int) (j + 1) = by8 ((m : Int) / 2 ^ (8 * j)) :: beFrom (m : Int) j from rfl, List.foldl_cons, fold_be m j, by8_nat, Nat.pow_succ, Nat.mod_mul, Int.add_mul, Int.mul_assoc, Int.natCast_mul, Int.natCast_add, Int.natCast_mul, Int.mul_comm 256, Int.mul_comm ((m / 256 ^ j % 256 : Nat) : Int), show ((256 : Nat) : Int) = 256 from rfl]
    omega
theorem beVal_be (m j : Nat) (h : m < 256 ^ j) : beVal (beFrom (m : Int) j) = m := by
  rw [beVal, fold_be, Nat.mod_eq_of_lt h]; omega
/-- a number that fits is below the power -/
theorem fits_nat {n : Int} {k : Nat} (h : fitsS n k = true) (h1 : 1 ≤ k) (h8 : k ≤ 8) (hn : n ≤ 9223372036854775807) : ∃ m : Nat, n = m ∧ m < 256 ^ k ∧ m ≤ 9223372036854775807 := by
  simp only [fitsS, Bool.and_eq_true, Bool.or_eq_true, decide_eq_true_eq] at h
  obtain ⟨h0, h2⟩ := h
  refine ⟨n.toNat, by omega, ?_, by omega⟩
  rcases h2 with h2 | h2
  · obtain rfl : k = 8 := by omega
    omega
  · rw [show (min (8 * (k : Int)).toNat 64) = 8 * k from by omega, two_pow8, Int.fdiv_eq_ediv_of_nonneg _ (Int.natCast_nonneg _), show n = ((n.toNat : Nat) : Int) from by omega, ← Int.natCast_ediv] at h2
    have h3 : n.toNat / 256 ^ k = 0 := by omega
    exact (Nat.div_eq_zero_iff.1 h3).resolve_left (Nat.pos_iff_ne_zero.1 (Nat.pow_pos (by omega)))
theorem be_first {m : Nat} (h : m ≤ 9223372036854775807) : ∀ c, (beFrom (m : Int) 8)[0]? = some c → c.toNat ≤ 127 := by
  intro c hc
  rw [show beFrom (m : Int) 8 = by8 ((m : Int) / 2 ^ (8 * 7)) :: beFrom (m : Int) 7 from rfl] at hc
  have : c = by8 ((m : Int) / 2 ^ (8 * 7)) := by simpa using hc.symm
  subst this
  rw [by8_nat]
  omega
theorem put_one_fits {n : Int} {k : Nat} (h1 : 1 ≤ k) (h8 : k ≤ 8) (h : fitsS n k = true) : putS k [n] = beFrom n k := by
  rw [putS_yes h1 h8 (by simpa using h)]; simp
theorem put_one_no {n : Int} {k : Nat} (h1 : 1 ≤ k) (h8 : k ≤ 8) (h : putS k [n] = []) : fitsS n k = false := by
  cases hf : fitsS n k with
  | false => rfl
  | true =>
    rw [put_one_fits h1 h8 hf] at h
    have := congrArg List.length h
    rw [beFrom_length] at this
    simp at this; omega
theorem put_one_yes {n : Int} {k : Nat} (h1 : 1 ≤ k) (h8 : k ≤ 8) (h : putS k [n] ≠ []) : fitsS n k = true := by
  cases hf : fitsS n k with
  | true => rfl
  | false => exact absurd (putS_no (List.mem_singleton.2 rfl) hf) h
theorem back_law {n : Int} {k : Nat} {more : List UInt8} (h1 : 1 ≤ k) (h8 : k ≤ 8) (hn : n ≤ 9223372036854775807) (h : putS k [n] ≠ []) : takeS (putS k [n] ++ more) k = (n, more, true) := by
  have hf := put_one_yes h1 h8 h
  obtain ⟨m, rfl, hm, hm2⟩ := fits_nat hf h1 h8 hn
  rw [put_one_fits h1 h8 hf, takeS_yes h1 h8 (by rw [List.length_append, beFrom_length]; omega) ?_]
  · rw [List.take_left' (beFrom_length _ _), List.drop_left' (beFrom_length _ _), beVal_be m k hm]
  · rcases Nat.lt_or_ge k 8 with g | g
    · exact .inl (by omega)
    · obtain rfl : k = 8 := by omega
      refine .inr fun c hc => be_first hm2 c ?_
      rw [List.getElem?_append_left (by rw [beFrom_length]; omega)] at hc
      exact hc
theorem div_mod_pow (x j : Nat) : x / 256 ^ j % 256 = x % 256 ^ (j + 1) / 256 ^ j := by rw [Nat.pow_succ, Nat.mod_mul_right_div_self]
theorem be_mod (x k : Nat) : ∀ j, j ≤ k → beFrom (x : Int) j = beFrom ((x % 256 ^ k : Nat) : Int) j
  | 0, _ => rfl
  | j + 1, h => by
    show by8 ((x : Int) / 2 ^ (8 * j)) :: beFrom (x : Int) j = by8 (((x % 256 ^ k : Nat) : Int) / 2 ^ (8 * j)) :: beFrom ((x % 256 ^ k : Nat) : Int) j
    rw [be_mod x k j (by omega)]
    congr 1
    rw [← UInt8.toNat_inj, by8_nat, by8_nat, div_mod_pow, div_mod_pow, Nat.mod_mod_of_dvd _ (Nat.pow_dvd_pow 256 h)]
theorem be_less : ∀ (k a b : Nat), a < 256 ^ k → b < 256 ^ k → Op.bytesLess (beFrom (a : Int) k) (beFrom (b : Int) k) = decide (a < b)
  | 0, a, b, ha, hb => by simp at ha hb; subst ha hb; rfl
  | k + 1, a, b, ha, hb => by
    have hp : 0 < 256 ^ k := Nat.pow_pos (by omega)
    show (by8 ((a : Int) / 2 ^ (8 * k)) < by8 ((b : Int) / 2 ^ (8 * k)) || (by8 ((a : Int) / 2 ^ (8 * k)) == by8 ((b : Int) / 2 ^ (8 * k)) && Op.bytesLess (beFrom (a : Int) k) (beFrom (b : Int) k))) = _
    rw [be_mod a k k (Nat.le_refl _), be_mod b k k (Nat.le_refl _), be_less k _ _ (Nat.mod_lt _ hp) (Nat.mod_lt _ hp)]
    have qa : a / 256 ^ k < 256 := (Nat.div_lt_iff_lt_mul hp).2 (by rw [Nat.pow_succ] at ha; omega)
    have qb : b / 256 ^ k < 256 := (Nat.div_lt_iff_lt_mul hp).2 (by rw [Nat.pow_succ] at hb; omega)
    have e1 : (by8 ((a : Int) / 2 ^ (8 * k)) < by8 ((b : Int) / 2 ^ (8 * k))) ↔ a / 256 ^ k < b / 256 ^ k := by
      rw [UInt8.lt_iff_toNat_lt, by8_nat, by8_nat, Nat.mod_eq_of_lt qa, Nat.mod_eq_of_lt qb]
    have e2 : (by8 ((a : Int) / 2 ^ (8 * k)) = by8 ((b : Int) / 2 ^ (8 * k))) ↔ a / 256 ^ k = b / 256 ^ k := by
      rw [← UInt8.toNat_inj, by8_nat, by8_nat, Nat.mod_eq_of_lt qa, Nat.mod_eq_of_lt qb]
    have da := Nat.div_add_mod a (256 ^ k)
    have db := Nat.div_add_mod b (256 ^ k)
    rw [Bool.eq_iff_iff]
    simp only [Bool.or_eq_true, Bool.and_eq_true, decide_eq_true_eq, beq_iff_eq, e1, e2]
    rcases Nat.lt_trichotomy (a / 256 ^ k) (b / 256 ^ k) with g | g | g
    · exact ⟨fun _ => Nat.lt_of_div_lt_div g, fun _ => .inl g⟩
    · rw [← g] at db
      constructor
      · rintro (h | ⟨_, h⟩)
        · omega
        · omega
      · intro h; exact .inr ⟨g, by omega⟩
    · have := Nat.lt_of_div_lt_div g
      constructor
      · rintro (h | ⟨h, _⟩) <;> omega
      · intro h; omega
theorem be_inj (k a b : Nat) (ha : a < 256 ^ k) (hb : b < 256 ^ k) (h : beFrom (a : Int) k = beFrom (b : Int) k) : a = b := by
  have h1 := beVal_be a k ha
  rw [h, beVal_be b k hb] at h1
  omega
end Go.Q
namespace Go.Q
theorem put_one_len (k : Nat) (n : Int) : (putS k [n]).length ≤ 8 := by
  unfold putS
  split
  · rename_i h; simp [beFrom_length]; omega
  · simp
theorem put_two_no {k : Nat} {a b : Int} (h1 : 1 ≤ k) (h8 : k ≤ 8) (h : putS k [a] = [] ∨ putS k [b] = []) : putS k [a, b] = [] := by
  rcases h with h | h
  · exact putS_no (List.mem_cons_self ..) (put_one_no h1 h8 h)
  · exact putS_no (List.mem_cons_of_mem _ (List.mem_singleton.2 rfl)) (put_one_no h1 h8 h)
theorem put_two {k : Nat} {a b : Int} (h1 : 1 ≤ k) (h8 : k ≤ 8) (ha : putS k [a] ≠ []) (hb : putS k [b] ≠ []) : putS k [a, b] = putS k [a] ++ putS k [b] := by
  have fa := put_one_yes h1 h8 ha
  have fb := put_one_yes h1 h8 hb
  rw [put_one_fits h1 h8 fa, put_one_fits h1 h8 fb, putS_yes h1 h8 (by simp [fa, fb])]
  simp
theorem put_one_length {k : Nat} {a : Int} (h1 : 1 ≤ k) (h8 : k ≤ 8) (ha : putS k [a] ≠ []) : (putS k [a]).length = k := by
  rw [put_one_fits h1 h8 (put_one_yes h1 h8 ha), beFrom_length]
theorem rises_less {k : Nat} {a b : Int} (h1 : 1 ≤ k) (h8 : k ≤ 8) (ha : putS k [a] ≠ []) (hb : putS k [b] ≠ []) (ma : a ≤ 9223372036854775807) (mb : b ≤ 9223372036854775807) : Op.bytesLess (putS k [a]) (putS k [b]) = decide (a < b) := by
  have fa := put_one_yes h1 h8 ha
  have fb := put_one_yes h1 h8 hb
  rw [put_one_fits h1 h8 fa, put_one_fits h1 h8 fb]
  obtain ⟨x, rfl, hx, _⟩ := fits_nat fa h1 h8 ma
  obtain ⟨y, rfl, hy, _⟩ := fits_nat fb h1 h8 mb
  rw [be_less k x y hx hy]
  simp
theorem rises_same {k : Nat} {a b : Int} (h1 : 1 ≤ k) (h8 : k ≤ 8) (ha : putS k [a] ≠ []) (hb : putS k [b] ≠ []) (ma : a ≤ 9223372036854775807) (mb : b ≤ 9223372036854775807) : decide (putS k [a] = putS k [b]) = decide (a = b) := by
  have fa := put_one_yes h1 h8 ha
  have fb := put_one_yes h1 h8 hb
  rw [put_one_fits h1 h8 fa, put_one_fits h1 h8 fb]
  obtain ⟨x, rfl, hx, _⟩ := fits_nat fa h1 h8 ma
  obtain ⟨y, rfl, hy, _⟩ := fits_nat fb h1 h8 mb
  by_cases e : x = y
  · subst e; simp
  · rw [decide_eq_false (fun h => e (be_inj k x y hx hy h)), decide_eq_false (by omega)]
end Go.Q
namespace Go.Q
theorem be_zero (n : Nat) (i : Nat) (h : n < 256 ^ i) : ∀ j, beFrom (n : Int) (i + j) = List.replicate j (0 : UInt8) ++ beFrom (n : Int) i
  | 0 => rfl
  | j + 1 => by
    show by8 ((n : Int) / 2 ^ (8 * (i + j))) :: beFrom (n : Int) (i + j) = _
    rw [be_zero n i h j, List.replicate_succ]
    have : by8 ((n : Int) / 2 ^ (8 * (i + j))) = 0 := by
      rw [← UInt8.toNat_inj, by8_nat, Nat.div_eq_of_lt (Nat.lt_of_lt_of_le h (Nat.pow_le_pow_right (by omega) (by omega)))]; rfl
    rw [this]; rfl
theorem set_put {j : Nat} {l : List UInt8} {b : UInt8} (h : 0 < j) : (List.replicate j (0 : UInt8) ++ l).set (j - 1) b = List.replicate (j - 1) 0 ++ b :: l := by
  obtain ⟨i, rfl⟩ : ∃ i, j = i + 1 := ⟨j - 1, by omega⟩
  rw [Nat.add_sub_cancel, List.replicate_succ', List.append_assoc, List.set_append_right _ _ (by simp)]
  simp
theorem by8_mod (y : Int) : by8 (y % 256) = by8 y := by unfold by8; rw [Int.emod_emod_of_dvd _ (by decide)]
theorem fits_iff {n : Nat} {m : Nat} (h8 : m ≤ 8) (hn : (n : Int) ≤ 9223372036854775807) : fitsS (n : Int) m = decide (n < 256 ^ m) := by
  rw [Bool.eq_iff_iff]
  simp only [fitsS, Bool.and_eq_true, Bool.or_eq_true, decide_eq_true_eq]
  rw [show (min (8 * (m : Int)).toNat 64) = 8 * m from by omega, two_pow8, Int.fdiv_eq_ediv_of_nonneg _ (Int.natCast_nonneg _), ← Int.natCast_ediv]
  have hp : 0 < 256 ^ m := Nat.pow_pos (by omega)
  constructor
  · rintro ⟨_, h | h⟩
    · obtain rfl : m = 8 := by omega
      omega
    · exact (Nat.div_eq_zero_iff.1 (by omega : n / 256 ^ m = 0)).resolve_left (by omega)
  · intro h; exact ⟨by omega, .inr (by rw [Nat.div_eq_of_lt h]; rfl)⟩
end Go.Q
namespace Go.Q
theorem refput_set {lc : List UInt8} {n y i : Int} {m j : Nat} (h : lc = List.replicate j 0 ++ beFrom n (m - j)) (h0 : 0 < j) (hj : j ≤ m) (hi : i = (j : Int) - 1) (hy : 0 ≤ n → y = n / ((256 ^ (m - j) : Nat) : Int)) (hn : 0 ≤ n) :
    lc.set i.toNat (by8 (y % 256)) = List.replicate (j - 1) 0 ++ beFrom n (m - (j - 1)) := by
  rw [h, show i.toNat = j - 1 from by omega, set_put h0, by8_mod, hy hn, show m - (j - 1) = (m - j) + 1 from by omega]
  congr 1
  show _ = by8 (n / 2 ^ (8 * (m - j))) :: beFrom n (m - j)
  rw [two_pow8]
theorem refput_div {n y : Int} {m j : Nat} (hy : 0 ≤ n → y = n / ((256 ^ (m - j) : Nat) : Int)) (h0 : 0 < j) (hj : j ≤ m) : 0 ≤ n → y / 256 = n / ((256 ^ (m - (j - 1)) : Nat) : Int) := by
  intro hn
  rw [hy hn, show m - (j - 1) = (m - j) + 1 from by omega, Nat.pow_succ, Int.natCast_mul, Int.ediv_ediv_of_nonneg (Int.natCast_nonneg _)]; rfl
theorem refput_low {n y : Int} {m j : Nat} (hj : j ≤ m) (hy : 0 ≤ n → y = n / ((256 ^ (m - j) : Nat) : Int)) (hn : 0 ≤ n) (h : j = 0 ∨ y ≤ 0) (hy0 : y = 0) : n.toNat < 256 ^ (m - j) := by
  have := hy hn
  rw [hy0, show n = ((n.toNat : Nat) : Int) from by omega, ← Int.natCast_ediv] at this
  exact (Nat.div_eq_zero_iff.1 (by omega : n.toNat / 256 ^ (m - j) = 0)).resolve_left (Nat.pos_iff_ne_zero.1 (Nat.pow_pos (by omega)))
theorem refput_ok {n y : Int} {m j : Nat} (hm : 1 ≤ m ∧ m ≤ 8) (hn : -9223372036854775808 ≤ n ∧ n ≤ 9223372036854775807) (hj : j ≤ m) (hy : 0 ≤ n → y = n / ((256 ^ (m - j) : Nat) : Int)) (hneg : n < 0 → j = m ∧ y = n) (h : j = 0 ∨ y ≤ 0) : decide (y = 0) = fitsS n m := by
  rcases (by omega : n < 0 ∨ 0 ≤ n) with g | g
  · rw [decide_eq_false (by have := hneg g; omega)]
    simp only [fitsS]
    rw [decide_eq_false (by omega)]; rfl
  · have e : n = ((n.toNat : Nat) : Int) := by omega
    rw [e, fits_iff hm.2 (by omega)]
    have hyn : 0 ≤ y := by rw [hy g]; exact Int.ediv_nonneg g (Int.natCast_nonneg _)
    have hy' := hy g
    rw [e, ← Int.natCast_ediv] at hy'
    by_cases hy0 : y = 0
    · have := refput_low hj hy g h hy0
      rw [decide_eq_true hy0, decide_eq_true (Nat.lt_of_lt_of_le this (Nat.pow_le_pow_right (by omega) (by omega)))]
    · have hj0 : j = 0 := by omega
      subst hj0
      rw [decide_eq_false hy0, decide_eq_false]
      intro hl
      rw [Nat.sub_zero, Nat.div_eq_of_lt hl] at hy'
      exact hy0 hy'
theorem refput_be {n y : Int} {m j : Nat} {lc : List UInt8} (hm : 1 ≤ m ∧ m ≤ 8) (hn : -9223372036854775808 ≤ n ∧ n ≤ 9223372036854775807) (hj : j ≤ m) (hlc : lc = List.replicate j 0 ++ beFrom n (m - j)) (hy : 0 ≤ n → y = n / ((256 ^ (m - j) : Nat) : Int)) (hneg : n < 0 → j = m ∧ y = n) (h : j = 0 ∨ y ≤ 0) :
    fitsS n m = true → lc = beFrom n m := by
  intro hf
  rw [← refput_ok hm hn hj hy hneg h, decide_eq_true_eq] at hf
  rcases (by omega : n < 0 ∨ 0 ≤ n) with g | g
  · have := hneg g; omega
  · have hl := refput_low hj hy g h hf
    have := be_zero n.toNat (m - j) hl j
    rw [show ((n.toNat : Nat) : Int) = n from by omega, show m - j + j = m from by omega] at this
    rw [hlc, this]
end Go.Q
namespace Go.Q
theorem take_true {s : List UInt8} {m : Nat} (h : (takeS s m).2.2 = true) : 1 ≤ m ∧ m ≤ s.length ∧ (takeS s m).2.1 = s.drop m := by
  unfold takeS at h ⊢
  split at h
  · rename_i g; rw [if_pos g]; exact ⟨g.1, g.2.2.1, rfl⟩
  · cases h
theorem take_false {s : List UInt8} {m : Nat} (h : (takeS s m).2.2 = false) : (takeS s m).2.1 = s := by
  unfold takeS at h ⊢
  split at h
  · cases h
  · rename_i g; rw [if_neg g]
theorem put_none {m : Nat} {l : List Int} (h : ¬ (1 ≤ m ∧ m ≤ 8) ∨ ∃ x ∈ l, fitsS x m = false) : putS m l = [] := by
  rcases h with h | ⟨x, hx, h⟩
  · rw [putS, if_neg (fun g => h ⟨g.1, g.2.1⟩)]
  · exact putS_no hx h
theorem fits_nonneg {n : Int} {m : Nat} (h : fitsS n m = true) : 0 ≤ n := by
  simp only [fitsS, Bool.and_eq_true, decide_eq_true_eq] at h; exact h.1
end Go.Q
