/-
  Layer 3, the plain law: what is opened is what was made.
-/
import Derived.Test.YtagicdbeacmffaaDoorQFrame
set_option linter.unusedVariables false
set_option linter.unusedSimpArgs false
namespace Go.Q
theorem take_be {n : Int} {k : Nat} {more : List UInt8} (h1 : 1 ≤ k) (h8 : k ≤ 8) (hn : n ≤ 9223372036854775807) (h : fitsS n k = true) : takeS (beFrom n k ++ more) k = (n, more, true) := by
  have e := put_one_fits h1 h8 h
  have hne : putS k [n] ≠ [] := fun g => by
    have := beFrom_length n k
    rw [← e, g] at this
    simp at this; omega
  have := back_law (more := more) h1 h8 hn hne
  rwa [e] at this
theorem take_rest_le (s : List UInt8) (m : Nat) : (takeS s m).2.1.length ≤ s.length := by
  unfold takeS
  split
  · simp only [List.length_drop]; omega
  · exact Nat.le_refl _
theorem beVal_one (c : UInt8) : beVal [c] = (c.toNat : Int) := by simp [beVal]
theorem take_one (s : List UInt8) : 0 ≤ (takeS s 1).1 ∧ (takeS s 1).1 ≤ 255 := by
  cases s with
  | nil => unfold takeS; rw [if_neg (by simp)]; simp
  | cons c t =>
    rw [takeS_yes (by decide) (by decide) (by simp) (.inl (by decide))]
    have := c.toNat_lt
    show 0 ≤ beVal [c] ∧ beVal [c] ≤ 255
    rw [beVal_one]; omega
theorem take_one_ok {s : List UInt8} : (takeS s 1).2.2 = decide (1 ≤ s.length) := by
  cases s with
  | nil => unfold takeS; rw [if_neg (by simp)]; rfl
  | cons c t => rw [takeS_yes (by decide) (by decide) (by simp) (.inl (by decide))]; simp
/-- what is read at the beginning -/
def fO (s : List UInt8) : Fr := ⟨(takeS (takeS s 1).2.1 4).1, (takeS (takeS (takeS s 1).2.1 4).2.1 8).1, (takeS (takeS (takeS (takeS s 1).2.1 4).2.1 8).2.1 8).1, (s.take (21 + (takeS s 1).1).toNat).drop 21⟩
def opensB (s : List UInt8) : Bool := (takeS s 1).2.2 && decide ((takeS s 1).1 + 25 ≤ (s.length : Int)) && rightS (fO s) && decide (makeS (fO s) = s.take ((takeS s 1).1 + 25).toNat)
def oF (s : List UInt8) : Fr := if opensB s = true then fO s else ⟨0, 0, 0, []⟩
def oN (s : List UInt8) : Int := if opensB s = true then (takeS s 1).1 + 25 else 0
theorem made_flat {f : Fr} (h : rightS f = true) (more : List UInt8) :
    makeS f ++ more = beFrom ((f.data.length : Nat) : Int) 1 ++ (beFrom f.ep 4 ++ (beFrom f.pl 8 ++ (beFrom f.gsn 8 ++ (f.data ++ (laidS (crcS (headS f ++ f.data)) ++ more))))) := by
  rw [makeS_yes h, sealS]; simp [headS]
theorem made_takes {f : Fr} (h : rightS f = true) (more : List UInt8) : (takeS (makeS f ++ more) 1) = (((f.data.length : Nat) : Int), beFrom f.ep 4 ++ (beFrom f.pl 8 ++ (beFrom f.gsn 8 ++ (f.data ++ (laidS (crcS (headS f ++ f.data)) ++ more)))), true) ∧ fO (makeS f ++ more) = f := by
  obtain ⟨h1, h2, h3, h4⟩ := fits_head h
  obtain ⟨r1, r2, r3, r4, r5, r6, r7⟩ := rightS_of h
  have e1 := take_be (more := beFrom f.ep 4 ++ (beFrom f.pl 8 ++ (beFrom f.gsn 8 ++ (f.data ++ (laidS (crcS (headS f ++ f.data)) ++ more))))) (by decide) (by decide) (by omega) h1
  have e2 := take_be (more := beFrom f.pl 8 ++ (beFrom f.gsn 8 ++ (f.data ++ (laidS (crcS (headS f ++ f.data)) ++ more)))) (by decide) (by decide) (by omega) h2
  have e3 := take_be (more := beFrom f.gsn 8 ++ (f.data ++ (laidS (crcS (headS f ++ f.data)) ++ more))) (by decide) (by decide) (by omega) h3
  have e4 := take_be (more := f.data ++ (laidS (crcS (headS f ++ f.data)) ++ more)) (by decide) (by decide) (by omega) h4
  have hf := made_flat h more
  refine ⟨by rw [hf]; exact e1, ?_⟩
  have hd : ((makeS f ++ more).take (21 + ((f.data.length : Nat) : Int)).toNat).drop 21 = f.data := by
    rw [makeS_yes h, sealS, show (21 + ((f.data.length : Nat) : Int)).toNat = 21 + f.data.length by omega]
    have hl : (headS f ++ f.data).length = 21 + f.data.length := by rw [List.length_append, headS_len]
    rw [← hl, List.append_assoc, List.take_left, ← headS_len f, List.drop_left]
  have e1' := e1
  rw [← hf] at e1'
  unfold fO
  rw [e1']
  simp only [e2, e3, e4, hd]
theorem made_opens {f : Fr} (h : rightS f = true) (more : List UInt8) : opensB (makeS f ++ more) = true := by
  obtain ⟨h1, h2⟩ := made_takes h more
  have hl := makeS_len h
  unfold opensB
  rw [h2, h1, h, Bool.true_and, Bool.and_true, Bool.and_eq_true]
  refine ⟨decide_eq_true (by simp only [List.length_append]; omega), decide_eq_true ?_⟩
  rw [show (((f.data.length : Nat) : Int) + 25).toNat = (makeS f).length by omega, List.take_left]
theorem made_oF {f : Fr} (h : rightS f = true) (more : List UInt8) : oF (makeS f ++ more) = f ∧ oN (makeS f ++ more) = ((f.data.length : Nat) : Int) + 25 := by
  unfold oF oN
  rw [if_pos (made_opens h more), if_pos (made_opens h more), (made_takes h more).1, (made_takes h more).2]
  exact ⟨rfl, rfl⟩
theorem opens_made {s : List UInt8} (h : opensB s = true) : rightS (fO s) = true ∧ ((fO s).data.length : Int) = (takeS s 1).1 ∧ s = makeS (fO s) ++ s.drop ((takeS s 1).1 + 25).toNat ∧ (takeS s 1).1 + 25 ≤ (s.length : Int) := by
  unfold opensB at h
  rw [Bool.and_eq_true, Bool.and_eq_true, Bool.and_eq_true] at h
  obtain ⟨⟨⟨h1, h2⟩, h3⟩, h4⟩ := h
  have h2 := of_decide_eq_true h2
  have h4 := of_decide_eq_true h4
  have h0 := take_one s
  refine ⟨h3, ?_, by rw [h4, List.take_append_drop], h2⟩
  show ((((s.take (21 + (takeS s 1).1).toNat).drop 21).length : Nat) : Int) = _
  rw [List.length_drop, List.length_take]; omega
/-- an opened one is a made one with something behind -/
theorem opens_iff {s : List UInt8} : opensB s = true ↔ ∃ f more, rightS f = true ∧ s = makeS f ++ more := by
  constructor
  · intro h; obtain ⟨h1, _, h3, _⟩ := opens_made h; exact ⟨_, _, h1, h3⟩
  · rintro ⟨f, more, h, rfl⟩; exact made_opens h more
/-- as the document has it -/
def fR (s : List UInt8) (c : UInt8) : Fr := ⟨(takeS (s.drop 1) 4).1, (takeS (s.drop 5) 8).1, (takeS (s.drop 13) 8).1, (s.take (21 + (c.toNat : Int)).toNat).drop 21⟩
theorem drop_be (a b c : List UInt8) (n : Nat) (h : a.length = n) : (a ++ b).drop n = b := by rw [← h, List.drop_left]
theorem ref_opens {s : List UInt8} {c : UInt8} (hc : s[0]? = some c) (h25 : 25 ≤ s.length) (hl : 25 + (c.toNat : Int) ≤ (s.length : Int)) :
    opensB s = ((takeS (s.drop 5) 8).2.2 && (takeS (s.drop 13) 8).2.2 && rightS (fR s c) && decide (makeS (fR s c) = s.take (25 + ((fR s c).data.length : Int)).toNat)) ∧
    (opensB s = true → fO s = fR s c ∧ (takeS s 1).1 = (c.toNat : Int)) := by
  have key : opensB s = true → (takeS (s.drop 5) 8).2.2 = true ∧ (takeS (s.drop 13) 8).2.2 = true ∧ fO s = fR s c ∧ (takeS s 1).1 = (c.toNat : Int) := by
    intro h
    obtain ⟨f, more, hr, rfl⟩ := opens_iff.1 h
    obtain ⟨h1, h2, h3, h4⟩ := fits_head hr
    obtain ⟨r1, r2, r3, r4, r5, r6, r7⟩ := rightS_of hr
    have hf := made_flat hr more
    have d1 : (makeS f ++ more).drop 1 = beFrom f.ep 4 ++ (beFrom f.pl 8 ++ (beFrom f.gsn 8 ++ (f.data ++ (laidS (crcS (headS f ++ f.data)) ++ more)))) := by rw [hf]; exact drop_be _ _ [] 1 (beFrom_length _ _)
    have d5 : (makeS f ++ more).drop 5 = beFrom f.pl 8 ++ (beFrom f.gsn 8 ++ (f.data ++ (laidS (crcS (headS f ++ f.data)) ++ more))) := by
      rw [show (5 : Nat) = 1 + 4 from rfl, ← List.drop_drop, d1]; exact drop_be _ _ [] 4 (beFrom_length _ _)
    have d13 : (makeS f ++ more).drop 13 = beFrom f.gsn 8 ++ (f.data ++ (laidS (crcS (headS f ++ f.data)) ++ more)) := by
      rw [show (13 : Nat) = 5 + 8 from rfl, ← List.drop_drop, d5]; exact drop_be _ _ [] 8 (beFrom_length _ _)
    have e2 := take_be (more := beFrom f.pl 8 ++ (beFrom f.gsn 8 ++ (f.data ++ (laidS (crcS (headS f ++ f.data)) ++ more)))) (by decide) (by decide) (by omega) h2
    have e3 := take_be (more := beFrom f.gsn 8 ++ (f.data ++ (laidS (crcS (headS f ++ f.data)) ++ more))) (by decide) (by decide) (by omega) h3
    have e4 := take_be (more := f.data ++ (laidS (crcS (headS f ++ f.data)) ++ more)) (by decide) (by decide) (by omega) h4
    obtain ⟨m1, m2⟩ := made_takes hr more
    have hc2 : ((f.data.length : Nat) : Int) = (c.toNat : Int) := by
      have b1 : (makeS f ++ more).take 1 = beFrom ((f.data.length : Nat) : Int) 1 := by rw [hf]; exact List.take_left' (beFrom_length _ _)
      have b2 : (makeS f ++ more).take 1 = [c] := by
        cases hm : (makeS f ++ more) with
        | nil => rw [hm] at hc; simp at hc
        | cons x t => rw [hm] at hc; simp at hc; rw [hc]; rfl
      have b3 := take_be (more := []) (by decide : 1 ≤ 1) (by decide) (by omega) h1
      rw [← b1, b2, List.append_nil, takeS_yes (by decide) (by decide) (by simp) (.inl (by decide))] at b3
      have b4 := congrArg (fun x => x.1) b3
      simp only [List.take] at b4
      rw [beVal_one] at b4
      exact b4.symm
    refine ⟨by rw [d5, e3], by rw [d13, e4], ?_, by rw [m1]; exact hc2⟩
    rw [m2]
    unfold fR
    rw [d1, d5, d13, e2, e3, e4, ← hc2]
    have := congrArg Fr.data m2
    unfold fO at this
    rw [m1] at this
    simp only at this
    rw [this]
  have dl : ((fR s c).data.length : Int) = (c.toNat : Int) := by
    show ((((s.take (21 + (c.toNat : Int)).toNat).drop 21).length : Nat) : Int) = _
    rw [List.length_drop, List.length_take]; omega
  refine ⟨?_, fun h => ⟨(key h).2.2.1, (key h).2.2.2⟩⟩
  apply Bool.eq_iff_iff.2
  rw [Bool.and_eq_true, Bool.and_eq_true, Bool.and_eq_true]
  constructor
  · intro h
    obtain ⟨k1, k2, k3, k4⟩ := key h
    obtain ⟨o1, o2, o3, o4⟩ := opens_made h
    refine ⟨⟨⟨k1, k2⟩, by rw [← k3]; exact o1⟩, decide_eq_true ?_⟩
    rw [dl, ← k3]
    have h' := h
    unfold opensB at h'
    rw [Bool.and_eq_true, Bool.and_eq_true, Bool.and_eq_true] at h'
    have h4 := of_decide_eq_true h'.2
    rw [h4, k4, Int.add_comm]
  · rintro ⟨⟨⟨k1, k2⟩, k3⟩, k4⟩
    have k4 := of_decide_eq_true k4
    exact opens_iff.2 ⟨fR s c, s.drop (25 + ((fR s c).data.length : Int)).toNat, k3, by rw [k4, List.take_append_drop]⟩
theorem ref_yes {s : List UInt8} {c : UInt8} (hc : s[0]? = some c) (h25 : 25 ≤ s.length) (hl : 25 + (c.toNat : Int) ≤ (s.length : Int)) (k1 : (takeS (s.drop 5) 8).2.2 = true) (k2 : (takeS (s.drop 13) 8).2.2 = true) (k3 : rightS (fR s c) = true)
    (k4 : makeS (fR s c) = s.take (25 + ((fR s c).data.length : Int)).toNat) : opensB s = true := by rw [(ref_opens hc h25 hl).1, k1, k2, k3, decide_eq_true k4]; rfl
theorem ref_no {s : List UInt8} {c : UInt8} (hc : s[0]? = some c) (h25 : 25 ≤ s.length) (hl : 25 + (c.toNat : Int) ≤ (s.length : Int)) (h : (takeS (s.drop 5) 8).2.2 = false ∨ (takeS (s.drop 13) 8).2.2 = false ∨ rightS (fR s c) = false ∨
    makeS (fR s c) ≠ s.take (25 + ((fR s c).data.length : Int)).toNat) : opensB s = false := by
  rw [(ref_opens hc h25 hl).1]
  rcases h with h | h | h | h
  · rw [h]; simp
  · rw [h]; simp
  · rw [h]; simp
  · rw [decide_eq_false h]; simp
theorem oF_no {s : List UInt8} (h : opensB s = false) : oF s = ⟨0, 0, 0, []⟩ ∧ oN s = 0 := by
  unfold oF oN; rw [h]; exact ⟨rfl, rfl⟩
theorem oN_yes {s : List UInt8} (h : opensB s = true) : oN s = 25 + ((oF s).data.length : Int) := by
  unfold oF oN; rw [if_pos h, if_pos h, (opens_made h).2.1, Int.add_comm]
theorem oF_le (s : List UInt8) : (oF s).data.length ≤ s.length := by
  unfold oF
  split
  · show ((s.take (21 + (takeS s 1).1).toNat).drop 21).length ≤ s.length
    rw [List.length_drop, List.length_take]; omega
  · exact Nat.zero_le _
theorem not_t {b : Bool} (h : (!b) = true) : b = false := by cases b <;> simp_all
theorem not_f {b : Bool} (h : (!b) = false) : b = true := by cases b <;> simp_all
theorem opens_yes {s : List UInt8} (h1 : (takeS s 1).2.2 = true) (h2 : (takeS s 1).1 + 25 ≤ (s.length : Int)) (h3 : rightS (fO s) = true) (h4 : makeS (fO s) = s.take ((takeS s 1).1 + 25).toNat) : opensB s = true := by
  unfold opensB; rw [h1, h3, decide_eq_true h2, decide_eq_true h4]; rfl
theorem opens_no1 {s : List UInt8} (h : (takeS s 1).2.2 = false) : opensB s = false := by unfold opensB; rw [h]; rfl
theorem opens_no2 {s : List UInt8} (h : (s.length : Int) < (takeS s 1).1 + 25) : opensB s = false := by
  unfold opensB; rw [decide_eq_false (show ¬ (takeS s 1).1 + 25 ≤ (s.length : Int) by omega)]; simp
theorem opens_no3 {s : List UInt8} (h : rightS (fO s) = false) : opensB s = false := by unfold opensB; rw [h]; simp
theorem opens_no4 {s : List UInt8} (h : makeS (fO s) ≠ s.take ((takeS s 1).1 + 25).toNat) : opensB s = false := by unfold opensB; rw [decide_eq_false h]; simp
theorem opens_short {s : List UInt8} (h : s.length < 25) : opensB s = false := opens_no2 (by have := take_one s; omega)
theorem take_one_at {s : List UInt8} {c : UInt8} (hc : s[0]? = some c) : (takeS s 1).1 = (c.toNat : Int) := by
  cases s with
  | nil => simp at hc
  | cons x t =>
    have e : x = c := by simpa using hc
    subst e
    rw [takeS_yes (by decide) (by decide) (by simp) (.inl (by decide))]
    exact beVal_one x
theorem opens_short2 {s : List UInt8} {c : UInt8} (hc : s[0]? = some c) (h : (s.length : Int) < 25 + (c.toNat : Int)) : opensB s = false := opens_no2 (by rw [take_one_at hc]; omega)
theorem rest_le1 {s : List UInt8} (h : s.length ≤ 9000000000000000000) : (takeS s 1).2.1.length ≤ 9223372036854775807 := by have := take_rest_le s 1; omega
theorem rest_le2 {s : List UInt8} (h : s.length ≤ 9000000000000000000) : (takeS (takeS s 1).2.1 4).2.1.length ≤ 9223372036854775807 := by have := take_rest_le s 1; have := take_rest_le (takeS s 1).2.1 4; omega
theorem rest_le3 {s : List UInt8} (h : s.length ≤ 9000000000000000000) : (takeS (takeS (takeS s 1).2.1 4).2.1 8).2.1.length ≤ 9223372036854775807 := by
  have := take_rest_le s 1; have := take_rest_le (takeS s 1).2.1 4; have := take_rest_le (takeS (takeS s 1).2.1 4).2.1 8; omega
end Go.Q
