/-
  Parts of a walk: what functions of the program compute, each told by a theorem (QFrame2, QPageB, QDp9, QDp11, QDp2, QEq, QDEq, QDp6, QDp12, QDp10).
-/
import Derived.Test.YtcffibbdbalmjaaDoorB3
import Derived.Laws.StructEq
set_option linter.unusedVariables false
set_option linter.unusedSimpArgs false
set_option linter.unnecessarySimpa false
namespace Go.Q
theorem take_be {n : Int} {k : Nat} {more : List UInt8} (h1 : 1 ≤ k) (h8 : k ≤ 8) (hn : n ≤ 9223372036854775807) (h : fitsS n k = true) : takeS (beFrom n k ++ more) k = (n, more, true) := by
  have e := put_one_fits h1 h8 h
  have hne : putS k [n] ≠ [] := fun g => by
    have := beFrom_length n k
    rw [← e, g] at this
    simp at this; omega
  have := back_law (more := more) h1 h8 hn hne
  rwa [e] at this
theorem take_rest_le (s : List UInt8) (m : Nat) : (takeS s m).2.1.length ≤ s.length := by
  unfold takeS
  split
  · simp only [List.length_drop]; omega
  · exact Nat.le_refl _
theorem beVal_one (c : UInt8) : beVal [c] = (c.toNat : Int) := by simp [beVal]
theorem take_one (s : List UInt8) : 0 ≤ (takeS s 1).1 ∧ (takeS s 1).1 ≤ 255 := by
  cases s with
  | nil => unfold takeS; rw [if_neg (by simp)]; simp
  | cons c t =>
    rw [takeS_yes (by decide) (by decide) (by simp) (.inl (by decide))]
    have := c.toNat_lt
    show 0 ≤ beVal [c] ∧ beVal [c] ≤ 255
    rw [beVal_one]; omega
theorem take_one_ok {s : List UInt8} : (takeS s 1).2.2 = decide (1 ≤ s.length) := by
  cases s with
  | nil => unfold takeS; rw [if_neg (by simp)]; rfl
  | cons c t => rw [takeS_yes (by decide) (by decide) (by simp) (.inl (by decide))]; simp
/-- what is read at the beginning -/
def fO (s : List UInt8) : Fr := ⟨(takeS (takeS s 1).2.1 4).1, (takeS (takeS (takeS s 1).2.1 4).2.1 8).1, (takeS (takeS (takeS (takeS s 1).2.1 4).2.1 8).2.1 8).1, (s.take (21 + (takeS s 1).1).toNat).drop 21⟩
def opensB (s : List UInt8) : Bool := (takeS s 1).2.2 && decide ((takeS s 1).1 + 25 ≤ (s.length : Int)) && rightS (fO s) && decide (makeS (fO s) = s.take ((takeS s 1).1 + 25).toNat)
def oF (s : List UInt8) : Fr := if opensB s = true then fO s else ⟨0, 0, 0, []⟩
def oN (s : List UInt8) : Int := if opensB s = true then (takeS s 1).1 + 25 else 0
theorem made_flat {f : Fr} (h : rightS f = true) (more : List UInt8) :
    makeS f ++ more = beFrom ((f.data.length : Nat) : Int) 1 ++ (beFrom f.ep 4 ++ (beFrom f.pl 8 ++ (beFrom f.gsn 8 ++ (f.data ++ (laidS (crcS (headS f ++ f.data)) ++ more))))) := by
  rw [makeS_yes h, sealS]; simp [headS]
theorem made_takes {f : Fr} (h : rightS f = true) (more : List UInt8) : (takeS (makeS f ++ more) 1) = (((f.data.length : Nat) : Int), beFrom f.ep 4 ++ (beFrom f.pl 8 ++ (beFrom f.gsn 8 ++ (f.data ++ (laidS (crcS (headS f ++ f.data)) ++ more)))), true) ∧ fO (makeS f ++ more) = f := by
  obtain ⟨h1, h2, h3, h4⟩ := fits_head h
  obtain ⟨r1, r2, r3, r4, r5, r6, r7⟩ := rightS_of h
  have e1 := take_be (more := beFrom f.ep 4 ++ (beFrom f.pl 8 ++ (beFrom f.gsn 8 ++ (f.data ++ (laidS (crcS (headS f ++ f.data)) ++ more))))) (by decide) (by decide) (by omega) h1
  have e2 := take_be (more := beFrom f.pl 8 ++ (beFrom f.gsn 8 ++ (f.data ++ (laidS (crcS (headS f ++ f.data)) ++ more)))) (by decide) (by decide) (by omega) h2
  have e3 := take_be (more := beFrom f.gsn 8 ++ (f.data ++ (laidS (crcS (headS f ++ f.data)) ++ more))) (by decide) (by decide) (by omega) h3
  have e4 := take_be (more := f.data ++ (laidS (crcS (headS f ++ f.data)) ++ more)) (by decide) (by decide) (by omega) h4
  have hf := made_flat h more
  refine ⟨by rw [hf]; exact e1, ?_⟩
  have hd : ((makeS f ++ more).take (21 + ((f.data.length : Nat) : Int)).toNat).drop 21 = f.data := by
    rw [makeS_yes h, sealS, show (21 + ((f.data.length : Nat) : Int)).toNat = 21 + f.data.length by omega]
    have hl : (headS f ++ f.data).length = 21 + f.data.length := by rw [List.length_append, headS_len]
    rw [← hl, List.append_assoc, List.take_left, ← headS_len f, List.drop_left]
  have e1' := e1
  rw [← hf] at e1'
  unfold fO
  rw [e1']
  simp only [e2, e3, e4, hd]
theorem made_opens {f : Fr} (h : rightS f = true) (more : List UInt8) : opensB (makeS f ++ more) = true := by
  obtain ⟨h1, h2⟩ := made_takes h more
  have hl := makeS_len h
  unfold opensB
  rw [h2, h1, h, Bool.true_and, Bool.and_true, Bool.and_eq_true]
  refine ⟨decide_eq_true (by simp only [List.length_append]; omega), decide_eq_true ?_⟩
  rw [show (((f.data.length : Nat) : Int) + 25).toNat = (makeS f).length by omega, List.take_left]
theorem made_oF {f : Fr} (h : rightS f = true) (more : List UInt8) : oF (makeS f ++ more) = f ∧ oN (makeS f ++ more) = ((f.data.length : Nat) : Int) + 25 := by
  unfold oF oN
  rw [if_pos (made_opens h more), if_pos (made_opens h more), (made_takes h more).1, (made_takes h more).2]
  exact ⟨rfl, rfl⟩
theorem opens_made {s : List UInt8} (h : opensB s = true) : rightS (fO s) = true ∧ ((fO s).data.length : Int) = (takeS s 1).1 ∧ s = makeS (fO s) ++ s.drop ((takeS s 1).1 + 25).toNat ∧ (takeS s 1).1 + 25 ≤ (s.length : Int) := by
  unfold opensB at h
  rw [Bool.and_eq_true, Bool.and_eq_true, Bool.and_eq_true] at h
  obtain ⟨⟨⟨h1, h2⟩, h3⟩, h4⟩ := h
  have h2 := of_decide_eq_true h2
  have h4 := of_decide_eq_true h4
  have h0 := take_one s
  refine ⟨h3, ?_, by rw [h4, List.take_append_drop], h2⟩
  show ((((s.take (21 + (takeS s 1).1).toNat).drop 21).length : Nat) : Int) = _
  rw [List.length_drop, List.length_take]; omega
/-- an opened one is a made one with something behind -/
theorem opens_iff {s : List UInt8} : opensB s = true ↔ ∃ f more, rightS f = true ∧ s = makeS f ++ more := by
  constructor
  · intro h; obtain ⟨h1, _, h3, _⟩ := opens_made h; exact ⟨_, _, h1, h3⟩
  · rintro ⟨f, more, h, rfl⟩; exact made_opens h more
/-- as the document has it -/
def fR (s : List UInt8) (c : UInt8) : Fr := ⟨(takeS (s.drop 1) 4).1, (takeS (s.drop 5) 8).1, (takeS (s.drop 13) 8).1, (s.take (21 + (c.toNat : Int)).toNat).drop 21⟩
theorem drop_be (a b c : List UInt8) (n : Nat) (h : a.length = n) : (a ++ b).drop n = b := by rw [← h, List.drop_left]
theorem ref_opens {s : List UInt8} {c : UInt8} (hc : s[0]? = some c) (h25 : 25 ≤ s.length) (hl : 25 + (c.toNat : Int) ≤ (s.length : Int)) :
    opensB s = ((takeS (s.drop 5) 8).2.2 && (takeS (s.drop 13) 8).2.2 && rightS (fR s c) && decide (makeS (fR s c) = s.take (25 + ((fR s c).data.length : Int)).toNat)) ∧
    (opensB s = true → fO s = fR s c ∧ (takeS s 1).1 = (c.toNat : Int)) := by
  have key : opensB s = true → (takeS (s.drop 5) 8).2.2 = true ∧ (takeS (s.drop 13) 8).2.2 = true ∧ fO s = fR s c ∧ (takeS s 1).1 = (c.toNat : Int) := by
    intro h
    obtain ⟨f, more, hr, rfl⟩ := opens_iff.1 h
    obtain ⟨h1, h2, h3, h4⟩ := fits_head hr
    obtain ⟨r1, r2, r3, r4, r5, r6, r7⟩ := rightS_of hr
    have hf := made_flat hr more
    have d1 : (makeS f ++ more).drop 1 = beFrom f.ep 4 ++ (beFrom f.pl 8 ++ (beFrom f.gsn 8 ++ (f.data ++ (laidS (crcS (headS f ++ f.data)) ++ more)))) := by rw [hf]; exact drop_be _ _ [] 1 (beFrom_length _ _)
    have d5 : (makeS f ++ more).drop 5 = beFrom f.pl 8 ++ (beFrom f.gsn 8 ++ (f.data ++ (laidS (crcS (headS f ++ f.data)) ++ more))) := by
      rw [show (5 : Nat) = 1 + 4 from rfl, ← List.drop_drop, d1]; exact drop_be _ _ [] 4 (beFrom_length _ _)
    have d13 : (makeS f ++ more).drop 13 = beFrom f.gsn 8 ++ (f.data ++ (laidS (crcS (headS f ++ f.data)) ++ more)) := by
      rw [show (13 : Nat) = 5 + 8 from rfl, ← List.drop_drop, d5]; exact drop_be _ _ [] 8 (beFrom_length _ _)
    have e2 := take_be (more := beFrom f.pl 8 ++ (beFrom f.gsn 8 ++ (f.data ++ (laidS (crcS (headS f ++ f.data)) ++ more)))) (by decide) (by decide) (by omega) h2
    have e3 := take_be (more := beFrom f.gsn 8 ++ (f.data ++ (laidS (crcS (headS f ++ f.data)) ++ more))) (by decide) (by decide) (by omega) h3
    have e4 := take_be (more := f.data ++ (laidS (crcS (headS f ++ f.data)) ++ more)) (by decide) (by decide) (by omega) h4
    obtain ⟨m1, m2⟩ := made_takes hr more
    have hc2 : ((f.data.length : Nat) : Int) = (c.toNat : Int) := by
      have b1 : (makeS f ++ more).take 1 = beFrom ((f.data.length : Nat) : Int) 1 := by rw [hf]; exact List.take_left' (beFrom_length _ _)
      have b2 : (makeS f ++ more).take 1 = [c] := by
        cases hm : (makeS f ++ more) with
        | nil => rw [hm] at hc; simp at hc
        | cons x t => rw [hm] at hc; simp at hc; rw [hc]; rfl
      have b3 := take_be (more := []) (by decide : 1 ≤ 1) (by decide) (by omega) h1
      rw [← b1, b2, List.append_nil, takeS_yes (by decide) (by decide) (by simp) (.inl (by decide))] at b3
      have b4 := congrArg (fun x => x.1) b3
      simp only [List.take] at b4
      rw [beVal_one] at b4
      exact b4.symm
    refine ⟨by rw [d5, e3], by rw [d13, e4], ?_, by rw [m1]; exact hc2⟩
    rw [m2]
    unfold fR
    rw [d1, d5, d13, e2, e3, e4, ← hc2]
    have := congrArg Fr.data m2
    unfold fO at this
    rw [m1] at this
    simp only at this
    rw [this]
  have dl : ((fR s c).data.length : Int) = (c.toNat : Int) := by
    show ((((s.take (21 + (c.toNat : Int)).toNat).drop 21).length : Nat) : Int) = _
    rw [List.length_drop, List.length_take]; omega
  refine ⟨?_, fun h => ⟨(key h).2.2.1, (key h).2.2.2⟩⟩
  apply Bool.eq_iff_iff.2
  rw [Bool.and_eq_true, Bool.and_eq_true, Bool.and_eq_true]
  constructor
  · intro h
    obtain ⟨k1, k2, k3, k4⟩ := key h
    obtain ⟨o1, o2, o3, o4⟩ := opens_made h
    refine ⟨⟨⟨k1, k2⟩, by rw [← k3]; exact o1⟩, decide_eq_true ?_⟩
    rw [dl, ← k3]
    have h' := h
    unfold opensB at h'
    rw [Bool.and_eq_true, Bool.and_eq_true, Bool.and_eq_true] at h'
    have h4 := of_decide_eq_true h'.2
    rw [h4, k4, Int.add_comm]
  · rintro ⟨⟨⟨k1, k2⟩, k3⟩, k4⟩
    have k4 := of_decide_eq_true k4
    exact opens_iff.2 ⟨fR s c, s.drop (25 + ((fR s c).data.length : Int)).toNat, k3, by rw [k4, List.take_append_drop]⟩
theorem ref_yes {s : List UInt8} {c : UInt8} (hc : s[0]? = some c) (h25 : 25 ≤ s.length) (hl : 25 + (c.toNat : Int) ≤ (s.length : Int)) (k1 : (takeS (s.drop 5) 8).2.2 = true) (k2 : (takeS (s.drop 13) 8).2.2 = true) (k3 : rightS (fR s c) = true)
    (k4 : makeS (fR s c) = s.take (25 + ((fR s c).data.length : Int)).toNat) : opensB s = true := by rw [(ref_opens hc h25 hl).1, k1, k2, k3, decide_eq_true k4]; rfl
theorem ref_no {s : List UInt8} {c : UInt8} (hc : s[0]? = some c) (h25 : 25 ≤ s.length) (hl : 25 + (c.toNat : Int) ≤ (s.length : Int)) (h : (takeS (s.drop 5) 8).2.2 = false ∨ (takeS (s.drop 13) 8).2.2 = false ∨ rightS (fR s c) = false ∨
    makeS (fR s c) ≠ s.take (25 + ((fR s c).data.length : Int)).toNat) : opensB s = false := by
  rw [(ref_opens hc h25 hl).1]
  rcases h with h | h | h | h
  · rw [h]; simp
  · rw [h]; simp
  · rw [h]; simp
  · rw [decide_eq_false h]; simp
theorem oF_no {s : List UInt8} (h : opensB s = false) : oF s = ⟨0, 0, 0, []⟩ ∧ oN s = 0 := by
  unfold oF oN; rw [h]; exact ⟨rfl, rfl⟩
theorem oN_yes {s : List UInt8} (h : opensB s = true) : oN s = 25 + ((oF s).data.length : Int) := by
  unfold oF oN; rw [if_pos h, if_pos h, (opens_made h).2.1, Int.add_comm]
theorem oF_le (s : List UInt8) : (oF s).data.length ≤ s.length := by
  unfold oF
  split
  · show ((s.take (21 + (takeS s 1).1).toNat).drop 21).length ≤ s.length
    rw [List.length_drop, List.length_take]; omega
  · exact Nat.zero_le _
theorem not_t {b : Bool} (h : (!b) = true) : b = false := by cases b <;> simp_all
theorem not_f {b : Bool} (h : (!b) = false) : b = true := by cases b <;> simp_all
theorem opens_yes {s : List UInt8} (h1 : (takeS s 1).2.2 = true) (h2 : (takeS s 1).1 + 25 ≤ (s.length : Int)) (h3 : rightS (fO s) = true) (h4 : makeS (fO s) = s.take ((takeS s 1).1 + 25).toNat) : opensB s = true := by
  unfold opensB; rw [h1, h3, decide_eq_true h2, decide_eq_true h4]; rfl
theorem opens_no1 {s : List UInt8} (h : (takeS s 1).2.2 = false) : opensB s = false := by unfold opensB; rw [h]; rfl
theorem opens_no2 {s : List UInt8} (h : (s.length : Int) < (takeS s 1).1 + 25) : opensB s = false := by
  unfold opensB; rw [decide_eq_false (show ¬ (takeS s 1).1 + 25 ≤ (s.length : Int) by omega)]; simp
theorem opens_no3 {s : List UInt8} (h : rightS (fO s) = false) : opensB s = false := by unfold opensB; rw [h]; simp
theorem opens_no4 {s : List UInt8} (h : makeS (fO s) ≠ s.take ((takeS s 1).1 + 25).toNat) : opensB s = false := by unfold opensB; rw [decide_eq_false h]; simp
theorem opens_short {s : List UInt8} (h : s.length < 25) : opensB s = false := opens_no2 (by have := take_one s; omega)
theorem take_one_at {s : List UInt8} {c : UInt8} (hc : s[0]? = some c) : (takeS s 1).1 = (c.toNat : Int) := by
  cases s with
  | nil => simp at hc
  | cons x t =>
    have e : x = c := by simpa using hc
    subst e
    rw [takeS_yes (by decide) (by decide) (by simp) (.inl (by decide))]
    exact beVal_one x
theorem opens_short2 {s : List UInt8} {c : UInt8} (hc : s[0]? = some c) (h : (s.length : Int) < 25 + (c.toNat : Int)) : opensB s = false := opens_no2 (by rw [take_one_at hc]; omega)
theorem rest_le1 {s : List UInt8} (h : s.length ≤ 9000000000000000000) : (takeS s 1).2.1.length ≤ 9223372036854775807 := by have := take_rest_le s 1; omega
theorem rest_le2 {s : List UInt8} (h : s.length ≤ 9000000000000000000) : (takeS (takeS s 1).2.1 4).2.1.length ≤ 9223372036854775807 := by have := take_rest_le s 1; have := take_rest_le (takeS s 1).2.1 4; omega
theorem rest_le3 {s : List UInt8} (h : s.length ≤ 9000000000000000000) : (takeS (takeS (takeS s 1).2.1 4).2.1 8).2.1.length ≤ 9223372036854775807 := by
  have := take_rest_le s 1; have := take_rest_le (takeS s 1).2.1 4; have := take_rest_le (takeS (takeS s 1).2.1 4).2.1 8; omega
end Go.Q
namespace Go.Q
theorem be1 (n : Int) : beFrom n 1 = [by8 n] := by simp [beFrom]
theorem put1 {x : Int} (h : 0 ≤ x ∧ x ≤ 255) : putS 1 [x] = beFrom x 1 := by
  rw [putS_yes (by decide) (by decide) (fun y hy => by rw [List.mem_singleton.1 hy]; exact fits_lit (b := 256) h.1 (by omega) (by decide) (by decide) (by omega))]; simp
theorem put8 {x : Int} (h : 0 ≤ x ∧ x ≤ 9223372036854775807) : putS 8 [x] = beFrom x 8 := by
  rw [putS_yes (by decide) (by decide) (fun y hy => by rw [List.mem_singleton.1 hy]; exact fits_lit (b := 9223372036854775808) h.1 (by omega) (by decide) (by decide) (by omega))]; simp
def shortB (s : Bs) : Bs := beFrom (s.length : Int) 1 ++ s
theorem shortB_len (s : Bs) : (shortB s).length = s.length + 1 := by unfold shortB; rw [List.length_append, beFrom_length]; omega
def cellB (c : Cel) : Bs := shortB c.1 ++ shortB c.2
def headB (no gsn : Int) (n : Nat) : Bs := beFrom no 1 ++ beFrom gsn 8 ++ beFrom (n : Int) 1
theorem headB_len (no gsn : Int) (n : Nat) : (headB no gsn n).length = 10 := by unfold headB; simp [beFrom_length]
def bodyB (no gsn : Int) (l : List Cel) : Bs := headB no gsn l.length ++ l.flatMap cellB
def fullB (no gsn : Int) (l : List Cel) : Bs := bodyB no gsn l ++ List.replicate (252 - (bodyB no gsn l).length) 0
def laidP (no gsn : Int) (l : List Cel) : Bs := if pageR no gsn l = true then sealS (fullB no gsn l) else []
theorem celOk_len {c : Cel} (h : celOk c = true) : c.1.length ≤ 8 ∧ c.2.length ≤ 16 := by
  unfold celOk keyR valR at h
  simp only [Bool.and_eq_true, decide_eq_true_eq] at h
  omega
theorem cellB_len {c : Cel} (h : celOk c = true) : (cellB c).length ≤ 26 := by
  have := celOk_len h
  unfold cellB; rw [List.length_append, shortB_len, shortB_len]; omega
theorem cells_len : ∀ {l : List Cel}, (∀ c ∈ l, celOk c = true) → (l.flatMap cellB).length ≤ 26 * l.length
  | [], _ => by simp
  | c :: t, h => by
    have h1 := cellB_len (h c (List.mem_cons_self ..))
    have h2 := cells_len fun a ha => h a (List.mem_cons_of_mem c ha)
    rw [List.flatMap_cons, List.length_append, List.length_cons]; omega
theorem bodyB_len {no gsn : Int} {l : List Cel} (h : pageR no gsn l = true) : (bodyB no gsn l).length ≤ 218 := by
  have h1 := cellsR_iff.1 (pageR_iff.1 h).2
  have h2 := cells_len h1.1
  unfold bodyB; rw [List.length_append, headB_len]; omega
theorem fullB_len {no gsn : Int} {l : List Cel} (h : pageR no gsn l = true) : (fullB no gsn l).length = 252 := by
  have := bodyB_len h
  unfold fullB; rw [List.length_append, List.length_replicate]; omega
theorem laidP_len {no gsn : Int} {l : List Cel} (h : pageR no gsn l = true) : (laidP no gsn l).length = 256 := by
  unfold laidP; rw [if_pos h, sealS, List.length_append, laidS_len, fullB_len h]
theorem laidP_no {no gsn : Int} {l : List Cel} (h : pageR no gsn l = false) : laidP no gsn l = [] := by
  unfold laidP; rw [if_neg (by rw [h]; decide)]
theorem laidP_le (no gsn : Int) (l : List Cel) : (laidP no gsn l).length ≤ 256 := by
  cases h : pageR no gsn l with
  | true => rw [laidP_len h]; exact Nat.le_refl _
  | false => rw [laidP_no h]; simp
/-! ### a text with its length ahead -/
def textS (s : Bs) : Bs × Bs × Bool := if (takeS s 1).2.2 = true ∧ (takeS s 1).1 ≤ ((takeS s 1).2.1.length : Int) then ((takeS s 1).2.1.take (takeS s 1).1.toNat, (takeS s 1).2.1.drop (takeS s 1).1.toNat, true) else ([], [], false)
theorem textS_short {k more : Bs} (h : k.length ≤ 255) : textS (shortB k ++ more) = (k, more, true) := by
  unfold textS shortB
  rw [List.append_assoc, take_be (by decide) (by decide) (by omega) (fits_lit (b := 256) (by omega) (by omega) (by decide) (by decide) (by omega))]
  rw [if_pos ⟨rfl, by simp only [List.length_append]; omega⟩]
  simp
theorem textS_le (s : Bs) : (textS s).1.length ≤ 255 ∧ (textS s).2.1.length ≤ s.length := by
  unfold textS
  split
  · have h1 := take_one s
    have h2 := take_rest_le s 1
    simp only [List.length_take, List.length_drop]
    omega
  · simp
/-- the cells, as page.Read takes them -/
def goP : Nat → Int → Bs → List Cel → Bool × List Cel
  | 0, _, _, acc => (true, acc)
  | f + 1, n, rest, acc => if 0 < n then
      (if (textS rest).2.2 = true then
        (if (textS (textS rest).2.1).2.2 = true then goP f (n - 1) (textS (textS rest).2.1).2.1 (acc ++ [((textS rest).1, (textS (textS rest).2.1).1)])
         else (false, acc ++ [((textS rest).1, (textS (textS rest).2.1).1)]))
       else (false, acc ++ [((textS rest).1, [])]))
    else (true, acc)
theorem goP_laid : ∀ (l : List Cel) (f : Nat) (more : Bs) (acc : List Cel), (∀ c ∈ l, celOk c = true) → l.length ≤ f → goP f (l.length : Int) (l.flatMap cellB ++ more) acc = (true, acc ++ l)
  | [], 0, _, _, _, _ => by simp [goP]
  | [], f + 1, _, _, _, _ => by rw [goP, if_neg (by simp)]; simp
  | c :: t, 0, _, _, _, h => by simp at h
  | c :: t, f + 1, more, acc, hc, hf => by
    have h1 := celOk_len (hc c (List.mem_cons_self ..))
    have e : (c :: t).flatMap cellB ++ more = shortB c.1 ++ (shortB c.2 ++ (t.flatMap cellB ++ more)) := by
      rw [List.flatMap_cons, cellB]; simp only [List.append_assoc]
    rw [goP, if_pos (by simp only [List.length_cons]; omega), e, textS_short (by omega)]
    simp only
    rw [textS_short (by omega)]
    simp only [if_true]
    rw [show (((c :: t).length : Nat) : Int) - 1 = (t.length : Int) by simp only [List.length_cons]; omega, goP_laid t f more _ (fun a ha => hc a (List.mem_cons_of_mem c ha)) (by simpa using hf)]
    simp
def goP0 (s : Bs) : Bool × List Cel := if (takeS (takeS s 1).2.1 8).2.2 = true then goP 8 (takeS (takeS (takeS s 1).2.1 8).2.1 1).1 (takeS (takeS (takeS s 1).2.1 8).2.1 1).2.1 [] else (false, [])
def readP (s : Bs) : Bool × Int × Int × List Cel :=
  if s.length = 256 ∧ (goP0 s).1 = true ∧ laidP (takeS s 1).1 (takeS (takeS s 1).2.1 8).1 (goP0 s).2 = s then (true, (takeS s 1).1, (takeS (takeS s 1).2.1 8).1, (goP0 s).2) else (false, 0, 0, [])
theorem readP_true {s : Bs} (h : (readP s).1 = true) : pageR (readP s).2.1 (readP s).2.2.1 (readP s).2.2.2 = true ∧ laidP (readP s).2.1 (readP s).2.2.1 (readP s).2.2.2 = s := by
  unfold readP at h ⊢
  split at h
  · rename_i g
    rw [if_pos g]
    refine ⟨?_, g.2.2⟩
    cases e : pageR (takeS s 1).1 (takeS (takeS s 1).2.1 8).1 (goP0 s).2 with
    | true => rfl
    | false => have := g.2.2; rw [laidP_no e] at this; have := g.1; rw [← ‹[] = s›] at this; simp at this
  · cases h
theorem laid_takes {no gsn : Int} {l : List Cel} (h : pageR no gsn l = true) : ∃ tail : Bs, laidP no gsn l = beFrom no 1 ++ (beFrom gsn 8 ++ (beFrom (l.length : Int) 1 ++ (l.flatMap cellB ++ tail))) := by
  refine ⟨List.replicate (252 - (bodyB no gsn l).length) 0 ++ laidS (crcS (fullB no gsn l)), ?_⟩
  unfold laidP
  rw [if_pos h, sealS]
  have e : fullB no gsn l = beFrom no 1 ++ (beFrom gsn 8 ++ (beFrom (l.length : Int) 1 ++ (l.flatMap cellB ++ List.replicate (252 - (bodyB no gsn l).length) 0))) := by
    have e2 : bodyB no gsn l = beFrom no 1 ++ (beFrom gsn 8 ++ (beFrom (l.length : Int) 1 ++ l.flatMap cellB)) := by unfold bodyB headB; simp only [List.append_assoc]
    have e3 : fullB no gsn l = bodyB no gsn l ++ List.replicate (252 - (bodyB no gsn l).length) 0 := rfl
    rw [e3]
    generalize List.replicate (252 - (bodyB no gsn l).length) (0 : UInt8) = z
    rw [e2]; simp only [List.append_assoc]
  generalize laidS (crcS (fullB no gsn l)) = y
  rw [e]
  simp only [List.append_assoc]
theorem readP_laid {no gsn : Int} {l : List Cel} (h : pageR no gsn l = true) : readP (laidP no gsn l) = (true, no, gsn, l) := by
  obtain ⟨tail, ht⟩ := laid_takes h
  have hp := pageR_iff.1 h
  have hc := cellsR_iff.1 hp.2
  have t1 : takeS (laidP no gsn l) 1 = (no, beFrom gsn 8 ++ (beFrom (l.length : Int) 1 ++ (l.flatMap cellB ++ tail)), true) := by
    rw [ht]; exact take_be (by decide) (by decide) (by omega) (fits_lit (b := 256) (by omega) (by omega) (by decide) (by decide) (by omega))
  have t2 : takeS (beFrom gsn 8 ++ (beFrom (l.length : Int) 1 ++ (l.flatMap cellB ++ tail))) 8 = (gsn, beFrom (l.length : Int) 1 ++ (l.flatMap cellB ++ tail), true) :=
    take_be (by decide) (by decide) (by omega) (fits_lit (b := 9223372036854775808) (by omega) (by omega) (by decide) (by decide) (by omega))
  have t3 : takeS (beFrom (l.length : Int) 1 ++ (l.flatMap cellB ++ tail)) 1 = ((l.length : Int), l.flatMap cellB ++ tail, true) :=
    take_be (by decide) (by decide) (by omega) (fits_lit (b := 256) (by omega) (by omega) (by decide) (by decide) (by omega))
  have hg : goP0 (laidP no gsn l) = (true, l) := by
    unfold goP0
    simp only [t1, t2, t3, if_true]
    rw [goP_laid l 8 tail [] hc.1 hc.2.2]; rfl
  unfold readP
  rw [hg, t1]
  simp only
  rw [t2]
  simp only
  rw [if_pos ⟨laidP_len h, trivial, trivial⟩]
/-! ### as the document takes them -/
def byteN (s : Bs) (i : Nat) : Nat := (s[i]?.getD 0).toNat
def goR (s : Bs) : Nat → Nat → List Cel → Bool × List Cel
  | 0, _, acc => (true, acc)
  | f + 1, at_, acc => if byteN s at_ ≤ 8 then
      (if byteN s (at_ + 1 + byteN s at_) ≤ 16 then
        goR s f (at_ + 2 + byteN s at_ + byteN s (at_ + 1 + byteN s at_)) (acc ++ [((s.take (at_ + 1 + byteN s at_)).drop (at_ + 1), (s.take (at_ + 2 + byteN s at_ + byteN s (at_ + 1 + byteN s at_))).drop (at_ + 2 + byteN s at_))])
       else (false, acc))
    else (false, acc)
theorem byte_at {pre t : Bs} {b : UInt8} : byteN (pre ++ b :: t) pre.length = b.toNat := by
  unfold byteN; rw [List.getElem?_append_right (Nat.le_refl _)]; simp
theorem by8_len {n : Nat} (h : n ≤ 255) : (by8 (n : Int)).toNat = n := by
  unfold by8; rw [UInt8.toNat_ofNat']; omega
theorem goR_laid : ∀ (l : List Cel) (pre more : Bs) (acc : List Cel), (∀ c ∈ l, celOk c = true) → goR (pre ++ (l.flatMap cellB ++ more)) l.length pre.length acc = (true, acc ++ l)
  | [], _, _, _, _ => by simp [goR]
  | c :: t, pre, more, acc, hc => by
    have h1 := celOk_len (hc c (List.mem_cons_self ..))
    have e : pre ++ ((c :: t).flatMap cellB ++ more) = pre ++ (by8 (c.1.length : Int) :: (c.1 ++ (by8 (c.2.length : Int) :: (c.2 ++ (t.flatMap cellB ++ more))))) := by
      rw [List.flatMap_cons, cellB, shortB, shortB, be1, be1]; simp only [List.append_assoc, List.cons_append, List.nil_append]
    have e2 : pre ++ ((c :: t).flatMap cellB ++ more) = (pre ++ by8 (c.1.length : Int) :: c.1) ++ (by8 (c.2.length : Int) :: (c.2 ++ (t.flatMap cellB ++ more))) := by rw [e]; simp
    have e3 : pre ++ ((c :: t).flatMap cellB ++ more) = (pre ++ cellB c) ++ (t.flatMap cellB ++ more) := by rw [List.flatMap_cons]; simp only [List.append_assoc]
    have b1 : byteN (pre ++ ((c :: t).flatMap cellB ++ more)) pre.length = c.1.length := by rw [e, byte_at, by8_len (by omega)]
    have l2 : (pre ++ by8 (c.1.length : Int) :: c.1).length = pre.length + 1 + c.1.length := by simp only [List.length_append, List.length_cons]; omega
    have b2 : byteN (pre ++ ((c :: t).flatMap cellB ++ more)) (pre.length + 1 + c.1.length) = c.2.length := by rw [e2, ← l2, byte_at, by8_len (by omega)]
    have l3 : (pre ++ cellB c).length = pre.length + 2 + c.1.length + c.2.length := by unfold cellB; simp only [List.length_append, shortB_len]; omega
    rw [List.length_cons, goR, b1, if_pos h1.1, b2, if_pos h1.2]
    have k1 : ((pre ++ ((c :: t).flatMap cellB ++ more)).take (pre.length + 1 + c.1.length)).drop (pre.length + 1) = c.1 := by
      rw [e2, ← l2, List.take_left' rfl, show pre ++ by8 (c.1.length : Int) :: c.1 = (pre ++ [by8 (c.1.length : Int)]) ++ c.1 by simp, show pre.length + 1 = (pre ++ [by8 (c.1.length : Int)]).length by simp, List.drop_left' rfl]
    have k2 : ((pre ++ ((c :: t).flatMap cellB ++ more)).take (pre.length + 2 + c.1.length + c.2.length)).drop (pre.length + 2 + c.1.length) = c.2 := by
      rw [e3, ← l3, List.take_left' rfl]
      rw [show pre ++ cellB c = (pre ++ shortB c.1 ++ beFrom (c.2.length : Int) 1) ++ c.2 by unfold cellB; rw [show shortB c.2 = beFrom (c.2.length : Int) 1 ++ c.2 from rfl]; simp only [List.append_assoc]]
      rw [show pre.length + 2 + c.1.length = (pre ++ shortB c.1 ++ beFrom (c.2.length : Int) 1).length by simp only [List.length_append, shortB_len, beFrom_length]; omega, List.drop_left' rfl]
    rw [k1, k2, e3, ← l3, goR_laid t (pre ++ cellB c) more _ (fun a ha => hc a (List.mem_cons_of_mem c ha))]
    simp
def goR0 (s : Bs) : Bool × List Cel := if (takeS (s.drop 1) 8).2.2 = true then goR s (min (byteN s 9) 8) 10 [] else (false, [])
def readR (s : Bs) : Bool × Int × Int × List Cel :=
  if s.length = 256 ∧ (goR0 s).1 = true ∧ pageR (byteN s 0) (takeS (s.drop 1) 8).1 (goR0 s).2 = true ∧ laidP (byteN s 0) (takeS (s.drop 1) 8).1 (goR0 s).2 = s then (true, (byteN s 0 : Int), (takeS (s.drop 1) 8).1, (goR0 s).2) else (false, 0, 0, [])
theorem readR_laid {no gsn : Int} {l : List Cel} (h : pageR no gsn l = true) : readR (laidP no gsn l) = (true, no, gsn, l) := by
  obtain ⟨tail, ht⟩ := laid_takes h
  have hp := pageR_iff.1 h
  have hc := cellsR_iff.1 hp.2
  obtain ⟨n0, hn0⟩ : ∃ n : Nat, no = (n : Int) := ⟨no.toNat, by omega⟩
  have b0 : byteN (laidP no gsn l) 0 = n0 := by
    rw [ht, be1]
    have := byte_at (pre := []) (b := by8 no) (t := beFrom gsn 8 ++ (beFrom (l.length : Int) 1 ++ (l.flatMap cellB ++ tail)))
    rw [hn0] at this ⊢
    rw [by8_len (by omega)] at this
    exact this
  have d1 : (laidP no gsn l).drop 1 = beFrom gsn 8 ++ (beFrom (l.length : Int) 1 ++ (l.flatMap cellB ++ tail)) := by rw [ht, be1]; rfl
  have t2 : takeS ((laidP no gsn l).drop 1) 8 = (gsn, beFrom (l.length : Int) 1 ++ (l.flatMap cellB ++ tail), true) := by
    rw [d1]; exact take_be (by decide) (by decide) (by omega) (fits_lit (b := 9223372036854775808) (by omega) (by omega) (by decide) (by decide) (by omega))
  have e9 : laidP no gsn l = (beFrom no 1 ++ beFrom gsn 8) ++ (by8 (l.length : Int) :: (l.flatMap cellB ++ tail)) := by rw [ht, be1 (l.length : Int)]; simp only [List.append_assoc, List.cons_append, List.nil_append]
  have b9 : byteN (laidP no gsn l) 9 = l.length := by
    have := byte_at (pre := beFrom no 1 ++ beFrom gsn 8) (b := by8 (l.length : Int)) (t := l.flatMap cellB ++ tail)
    rw [← e9, by8_len (by omega), List.length_append, beFrom_length, beFrom_length] at this
    exact this
  have hg : goR0 (laidP no gsn l) = (true, l) := by
    unfold goR0
    rw [t2, if_pos rfl, b9, Nat.min_eq_left (by omega)]
    have e10 : laidP no gsn l = (beFrom no 1 ++ beFrom gsn 8 ++ beFrom (l.length : Int) 1) ++ (l.flatMap cellB ++ tail) := by rw [ht]; simp only [List.append_assoc]
    have := goR_laid l (beFrom no 1 ++ beFrom gsn 8 ++ beFrom (l.length : Int) 1) tail [] hc.1
    rw [← e10] at this
    simpa [beFrom_length] using this
  unfold readR
  rw [hg, b0, t2, ← hn0]
  simp only
  rw [if_pos ⟨laidP_len h, trivial, h, trivial⟩]
theorem readR_true {s : Bs} (h : (readR s).1 = true) : pageR (readR s).2.1 (readR s).2.2.1 (readR s).2.2.2 = true ∧ laidP (readR s).2.1 (readR s).2.2.1 (readR s).2.2.2 = s := by
  unfold readR at h ⊢
  split at h
  · rename_i g; rw [if_pos g]; exact ⟨g.2.2.1, g.2.2.2⟩
  · cases h
theorem readP_false {s : Bs} (h : (readP s).1 = false) : readP s = (false, 0, 0, []) := by
  unfold readP at h ⊢
  split at h
  · cases h
  · rename_i g; rw [if_neg g]
theorem readR_false {s : Bs} (h : (readR s).1 = false) : readR s = (false, 0, 0, []) := by
  unfold readR at h ⊢
  split at h
  · cases h
  · rename_i g; rw [if_neg g]
/-- both are the page whose bytes these are -/
theorem read_eq (s : Bs) : readP s = readR s := by
  cases h : (readP s).1 with
  | true =>
    obtain ⟨h1, h2⟩ := readP_true h
    have e := readR_laid h1
    rw [h2] at e
    rw [e, ← h]
  | false =>
    cases g : (readR s).1 with
    | true =>
      obtain ⟨h1, h2⟩ := readR_true g
      have e := readP_laid h1
      rw [h2] at e
      rw [e] at h; cases h
    | false => rw [readP_false h, readR_false g]
theorem text_no {s : Bs} (h : (takeS s 1).2.2 = false ∨ ((takeS s 1).2.1.length : Int) < (takeS s 1).1) : textS s = ([], [], false) := by
  unfold textS; rw [if_neg]; rintro ⟨g1, g2⟩
  rcases h with h | h
  · rw [g1] at h; cases h
  · omega
theorem text_yes {s : Bs} (h1 : (takeS s 1).2.2 = true) (h2 : ¬ ((takeS s 1).2.1.length : Int) < (takeS s 1).1) : textS s = ((takeS s 1).2.1.take (takeS s 1).1.toNat, (takeS s 1).2.1.drop (takeS s 1).1.toNat, true) := by
  unfold textS; rw [if_pos ⟨h1, by omega⟩]
/-- where page.Read's loop stands -/
def goS (ok : Bool) (n : Int) (rest : Bs) (acc : List Cel) : Bool × List Cel := if ok = true then goP (8 - acc.length) n rest acc else (false, acc)
theorem goS_step {n : Int} {rest r3 : Bs} {acc : List Cel} {X : Bool × List Cel} {ok : Bool} (h : X = goS ok n rest acc) (hok : ok = true) (hn : 0 < n) (ha : acc.length < 8) :
    X = if (textS rest).2.2 = true then goS (textS (textS rest).2.1).2.2 (n - 1) (textS (textS rest).2.1).2.1 (acc ++ [((textS rest).1, (textS (textS rest).2.1).1)]) else goS false (n - 1) r3 (acc ++ [((textS rest).1, [])]) := by
  subst hok
  obtain ⟨f, hf⟩ : ∃ f, 8 - acc.length = f + 1 := ⟨7 - acc.length, by omega⟩
  rw [h, goS, if_pos rfl, hf, goP, if_pos hn]
  have hl : ∀ c : Cel, 8 - (acc ++ [c]).length = f := fun c => by simp only [List.length_append, List.length_cons, List.length_nil]; omega
  by_cases g1 : (textS rest).2.2 = true
  · rw [if_pos g1, if_pos g1]
    unfold goS
    rw [hl]
  · rw [if_neg g1, if_neg g1]
    simp [goS]
theorem goS_end {n : Int} {rest : Bs} {acc : List Cel} {X : Bool × List Cel} {ok : Bool} (h : X = goS ok n rest acc) (he : ok = false ∨ ¬ 0 < n ∨ ¬ acc.length < 8) : X = (ok, acc) := by
  rw [h]; unfold goS
  cases ok with
  | false => simp
  | true =>
    rw [if_pos rfl]
    rcases he with he | he | he
    · cases he
    · cases 8 - acc.length with
      | zero => rfl
      | succ f => rw [goP, if_neg he]
    · rw [show 8 - acc.length = 0 by omega]; rfl
theorem goS_start (s : Bs) : goP0 s = goS (takeS (takeS s 1).2.1 8).2.2 (takeS (takeS (takeS s 1).2.1 8).2.1 1).1 (takeS (takeS (takeS s 1).2.1 8).2.1 1).2.1 [] := rfl
theorem readP_yes {s : Bs} {l : List Cel} (h : s.length = 256) (hg : goP0 s = (true, l)) (hl : laidP (takeS s 1).1 (takeS (takeS s 1).2.1 8).1 l = s) : readP s = (true, (takeS s 1).1, (takeS (takeS s 1).2.1 8).1, l) := by
  unfold readP; rw [hg, if_pos ⟨h, rfl, hl⟩]
theorem readP_no {s : Bs} (h : ¬ s.length = 256 ∨ (goP0 s).1 = false ∨ laidP (takeS s 1).1 (takeS (takeS s 1).2.1 8).1 (goP0 s).2 ≠ s) : readP s = (false, 0, 0, []) := by
  unfold readP; rw [if_neg]; rintro ⟨g1, g2, g3⟩
  rcases h with h | h | h
  · exact h g1
  · rw [g2] at h; cases h
  · exact h g3
/-! ### the document's bytes -/
theorem head_ref (no gsn : Int) (n : Nat) : [by8 no] ++ beFrom gsn 8 ++ [by8 (n : Int)] = headB no gsn n := by unfold headB; rw [be1, be1]
theorem cell_ref {t : Bs} {l : List Cel} {k : Nat} {c : Cel} {h0 : Bs} (h : t = h0 ++ (l.take k).flatMap cellB) (hx : l[k]? = some c) : t ++ [by8 (c.1.length : Int)] ++ c.1 ++ [by8 (c.2.length : Int)] ++ c.2 = h0 ++ (l.take (k + 1)).flatMap cellB := by
  rw [take_succ_of hx, List.flatMap_append, h]
  simp [cellB, shortB, be1]
theorem full_ref {no gsn : Int} {l : List Cel} {u : Bs} {j : Nat} (h : pageR no gsn l = true) (hu : u = bodyB no gsn l ++ List.replicate j 0) (hl : u.length = 252) : u ++ laidS (crcS u) = laidP no gsn l := by
  have e : u = fullB no gsn l := by
    rw [hu, List.length_append, List.length_replicate] at hl
    rw [hu]; unfold fullB; rw [show j = 252 - (bodyB no gsn l).length by omega]
  unfold laidP; rw [if_pos h, sealS, e]
theorem byteN_of {s : Bs} {i : Nat} {c : UInt8} (h : s[i]? = some c) : byteN s i = c.toNat := by unfold byteN; rw [h]; rfl
/-- where the document's loop stands -/
def grS (s : Bs) (ok : Bool) (f at_ : Nat) (acc : List Cel) : Bool × List Cel := if ok = true then goR s f at_ acc else (false, acc)
theorem grS_no1 {s : Bs} {ok : Bool} {f at_ : Nat} {acc : List Cel} {X : Bool × List Cel} {c : UInt8} (h : X = grS s ok f at_ acc) (hok : ok = true) (hf : 0 < f) (hc : s[at_]? = some c) (h8 : ¬ (c.toNat : Int) ≤ 8) : X = (false, acc) := by
  obtain ⟨f, rfl⟩ : ∃ g, f = g + 1 := ⟨f - 1, by omega⟩
  rw [h, grS, if_pos hok, goR, byteN_of hc, if_neg (by omega)]
theorem grS_no2 {s : Bs} {ok : Bool} {f at_ a : Nat} {acc : List Cel} {X : Bool × List Cel} {c d : UInt8} (h : X = grS s ok f at_ acc) (hok : ok = true) (hf : 0 < f) (hc : s[at_]? = some c) (h8 : (c.toNat : Int) ≤ 8) (hd : s[a]? = some d) (ha : a = at_ + 1 + c.toNat) (h16 : ¬ (d.toNat : Int) ≤ 16) : X = (false, acc) := by
  obtain ⟨f, rfl⟩ : ∃ g, f = g + 1 := ⟨f - 1, by omega⟩
  subst ha
  rw [h, grS, if_pos hok, goR, byteN_of hc, if_pos (by omega), byteN_of hd, if_neg (by omega)]
theorem grS_go {s : Bs} {ok : Bool} {f f2 at_ a a1 a2 a3 a4 b : Nat} {acc : List Cel} {X : Bool × List Cel} {c d : UInt8} (h : X = grS s ok f at_ acc) (hok : ok = true) (hf : f = f2 + 1) (hc : s[at_]? = some c) (h8 : (c.toNat : Int) ≤ 8) (hd : s[a]? = some d) (ha : a = at_ + 1 + c.toNat) (h16 : (d.toNat : Int) ≤ 16)
    (e1 : a1 = at_ + 1) (e2 : a2 = at_ + 1 + c.toNat) (e3 : a3 = at_ + 2 + c.toNat) (e4 : a4 = at_ + 2 + c.toNat + d.toNat) (eb : b = at_ + 2 + c.toNat + d.toNat) {ok2 : Bool} (hok2 : ok2 = true) : X = grS s ok2 f2 b (acc ++ [((s.take a2).drop a1, (s.take a4).drop a3)]) := by
  subst hf ha e1 e2 e3 e4 eb hok2
  rw [h, grS, if_pos hok, goR, byteN_of hc, if_pos (by omega), byteN_of hd, if_pos (by omega), grS, if_pos rfl]
theorem grS_end {s : Bs} {ok : Bool} {f at_ : Nat} {acc : List Cel} {X : Bool × List Cel} (h : X = grS s ok f at_ acc) (he : ok = false ∨ f = 0) : X = (ok, acc) := by
  rw [h]; unfold grS
  cases ok with
  | false => simp
  | true => rcases he with e | e
            · cases e
            · rw [if_pos rfl, e]; rfl
theorem goR0_start {s : Bs} {c : UInt8} (hc : s[9]? = some c) : goR0 s = grS s (takeS (s.drop 1) 8).2.2 (min c.toNat 8 - 0) 10 [] := by
  unfold goR0 grS; rw [byteN_of hc]; rfl
theorem readR_yes {s : Bs} {l : List Cel} {c : UInt8} (h : s.length = 256) (hc : s[0]? = some c) (hg : goR0 s = (true, l)) (hr : pageR (c.toNat : Int) (takeS (s.drop 1) 8).1 l = true) (hl : laidP (c.toNat : Int) (takeS (s.drop 1) 8).1 l = s) : readR s = (true, (c.toNat : Int), (takeS (s.drop 1) 8).1, l) := by
  unfold readR; rw [hg, byteN_of hc, if_pos ⟨h, rfl, hr, hl⟩]
theorem readR_no {s : Bs} {c : UInt8} {g : Bool × List Cel} (hg : goR0 s = g) (hc : s[0]? = some c) (h : g.1 = false ∨ pageR (c.toNat : Int) (takeS (s.drop 1) 8).1 g.2 = false ∨ laidP (c.toNat : Int) (takeS (s.drop 1) 8).1 g.2 ≠ s) : readR s = (false, 0, 0, []) := by
  unfold readR; rw [hg, byteN_of hc, if_neg]; rintro ⟨_, g1, g2, g3⟩
  rcases h with h | h | h
  · rw [g1] at h; cases h
  · rw [g2] at h; cases h
  · exact h g3
theorem readR_short {s : Bs} (h : ¬ s.length = 256) : readR s = (false, 0, 0, []) := by
  unfold readR; rw [if_neg (fun g => h g.1)]
end Go.Q
namespace Go.Q
theorem cell_prog {t : Bs} {l : List Cel} {k : Nat} {c : Cel} {h0 : Bs} (h : t = h0 ++ (l.take k).flatMap cellB) (hx : l[k]? = some c) : t ++ (shortB c.1 ++ shortB c.2) = h0 ++ (l.take (k + 1)).flatMap cellB := by
  rw [take_succ_of hx, List.flatMap_append, h]
  simp [cellB]
end Go.Q
namespace Go.Q
open Go.Proofs
set_option linter.unusedVariables false
set_option maxRecDepth 100000
attribute [local irreducible] wpList OK Code.wp
set_option maxHeartbeats 4000000 in
theorem short_c {E w : World} {R : List Hp} {s : Bs}  (hH : Has E w [R]) (hl : s.length ≤ 255) :
    Calls Tryd.prog 54 #[(S s)] w fun e w' => e = .returned (S (shortB s)) ∧ Has E w' [R] := by
  refine c_enter (args := [(S s)]) Tryd.func54 rfl Tryd.ntmps54 (by simp) ?_
  refine wp_seq_k fun K1 hK1 => ?_
  refine c_region ?_
  refine s_op (o_assign (v := (S ([] : List UInt8))) rfl ?_)
  refine s_nil ?_
  refine t_norm (hK1 _ _ ?_)
  refine wp_seq_k fun K2 hK2 => ?_
  refine c_region ?_
  refine s_op (o_move (v := (S s)) rfl ?_)
  refine s_op (o_slen Tryd.underlying9 rfl ?_)
  refine s_op (o_buildSlice (ps := #[(0, (.int .i64 (s.length : Int)))]) (cells := #[(.int .i64 (s.length : Int))]) Tryd.underlying56 ti3 (by decide) (parts1 rfl) (by kernel_rfl) hH fun b3 w4 hH5 => ?_)
  refine s_op (o_callf (vs := #[(.int .i64 1), (.slice (some ⟨b3, 0, none⟩) 1 1)]) ca53 rfl (args2 rfl rfl) (put_c hH5.all 1 (l := [(s.length : Int)]) ((sl_lit (f := iV) (l := [(s.length : Int)]) rfl rfl (by simp)).mono (seg_sub 0 rfl)) (by simp)) ?_)
  rintro _ w8 ⟨rfl, hX6⟩
  refine ⟨_, rfl, ?_⟩
  have hH7 := hX6.of_all
  refine s_op (o_move (v := (S s)) rfl ?_)
  refine s_op (o_sadd rfl rfl (by rw [put1 (by omega), beFrom_length]; omega) ?_)
  refine s_op (o_assign (v := (S ((putS 1 [(s.length : Int)]) ++ s))) rfl ?_)
  refine s_nil ?_
  refine t_norm (hK2 _ _ ?_)
  refine wp_ret ?_
  refine c_ret1 Tryd.results54  (v := (S ((putS 1 [(s.length : Int)]) ++ s))) rfl ?_
  have q9 : (shortB s) = (putS 1 [(s.length : Int)]) ++ s := by unfold shortB; rw [put1 (by omega)]
  have hH10 : Has E w8 [R] := (hH7.front 1 rfl).first 1 rfl
  exact ⟨by rw [q9], hH10⟩
set_option maxHeartbeats 4000000 in
theorem plaid_c {E w : World} {R : List Hp} {no : Int} {gsn : Int} {v_l : Value} {l : List Cel}  (hH : Has E w [R]) (h_l : Sl R 2 v_l l.length (l.flatMap ceC)) (hg : CellsAt R 0 0 nibV) :
    Calls Tryd.prog 21 #[(.agg #[(.int .i64 no), (.int .i64 gsn), v_l])] w fun e w' => e = .returned (S (laidP no gsn l)) ∧ Has E w' [R] := by
  have hn_ := h_l.le
  refine c_enter (args := [(.agg #[(.int .i64 no), (.int .i64 gsn), v_l])]) Tryd.func21 rfl Tryd.ntmps21 (by simp) ?_
  refine wp_seq_k fun K1 hK1 => ?_
  refine c_region ?_
  refine s_op (o_box (cs := #[(.int .i64 no), (.int .i64 gsn), v_l]) rfl rfl hH fun b2 w3 hH4 => ?_)
  refine s_op (o_assign (v := (S ([] : List UInt8))) rfl ?_)
  refine s_nil ?_
  refine t_norm (hK1 _ _ ?_)
  refine wp_seq_k fun K5 hK5 => ?_
  refine wp_seq_k fun K6 hK6 => ?_
  refine c_region ?_
  refine s_op (o_loadN (cs := [(.int .i64 no), (.int .i64 gsn), v_l]) Tryd.underlying24 rfl ti24 rfl hH4 (seg_sub 0 rfl) (CellsAt.one rfl) ?_)
  refine s_op (o_callf (vs := #[(.agg #[(.int .i64 no), (.int .i64 gsn), v_l])]) ca10 rfl (args1 rfl) (pright_c (no := no) (gsn := gsn) (l := l) hH4.all (h_l.mono (seg_sub 1 rfl))) ?_)
  rintro _ w9 ⟨rfl, hX7⟩
  refine ⟨_, rfl, ?_⟩
  have hH8 := hX7.of_all
  refine s_op (o_not rfl ?_)
  refine s_nil ?_
  refine t_norm (hK6 _ _ ?_)
  refine c_condb rfl (fun h10 => ?_) (fun h10 => ?_)
  · -- !(pageR no gsn l)
    have h10_n : (pageR no gsn l) = false := by simpa using h10
    refine wp_seq_k fun K11 hK11 => ?_
    refine c_region ?_
    refine s_op (o_assign (v := (S ([] : List UInt8))) rfl ?_)
    refine s_nil ?_
    refine t_norm (hK11 _ _ ?_)
    refine wp_ret ?_
    refine t_ret (c_ret1 Tryd.results21  (v := (S ([] : List UInt8))) rfl ?_)
    have hE_ := laidP_no (no := no) (gsn := gsn) (l := l) (by first | (simpa using h10) | (simpa using h10_n))
    have q12 : (laidP no gsn l) = ([] : List UInt8) := by exact hE_
    have hH13 : Has E w9 [R] := (hH8.front 1 rfl).first 1 rfl
    exact ⟨by rw [q12], hH13⟩
  · -- not: !(pageR no gsn l)
    have h10_n : (pageR no gsn l) = true := by simpa using h10
    have hR_ : pageR no gsn l = true := by simpa using h10
    have hP_ := pageR_iff.1 hR_
    have hCe_ := cellsR_iff.1 hP_.2
    have hB_ := bodyB_len hR_
    have hu_ : putS 1 [no] ++ putS 8 [gsn] ++ putS 1 [((l.length : Nat) : Int)] = headB no gsn l.length := by rw [put1 (by omega), put8 (by omega), put1 (by omega)]; rfl
    refine wp_skip ?_
    refine t_norm (hK5 _ _ ?_)
    refine wp_seq_k fun K14 hK14 => ?_
    refine c_region ?_
    refine s_op (o_alloc (cs := #[(.pointer none), (.slice none 0 0)]) ti90 rfl hH8 fun b15 w16 hH17 => ?_)
    refine s_nil ?_
    refine t_norm (hK14 _ _ ?_)
    refine wp_seq_k fun K18 hK18 => ?_
    refine c_flow4 [[Hp.one b15 (.cells #[(.pointer none), (.slice none 0 0)] 90 (0, 0))], [Hp.one b2 (.cells #[(.int .i64 no), (.int .i64 gsn), v_l] 24 (0, 0))], R] (fun i_ => match i_ with | _ => []) (fun i_ v_ h_ m_ => match i_ with | 0 => v_ = (.pointer (some ⟨b2, 0, none⟩)) ∧ h_ = [] | 1 => v_ = (.int .i64 no) ∧ h_ = [] | 2 => ∃ (b19 : Nat), v_ = (.slice (some ⟨b19, 0, none⟩) 1 1) ∧ h_ = [Hp.one b19 (.cells #[(.int .i64 no)] 3 (0, 0))] | 3 => v_ = (S (putS 1 [no])) ∧ h_ = [] | 4 => v_ = (.pointer (some ⟨b2, 1, none⟩)) ∧ h_ = [] | 5 => v_ = (.int .i64 gsn) ∧ h_ = [] | 6 => ∃ (b25 : Nat), v_ = (.slice (some ⟨b25, 0, none⟩) 1 1) ∧ h_ = [Hp.one b25 (.cells #[(.int .i64 gsn)] 3 (0, 0))] | 7 => v_ = (S (putS 8 [gsn])) ∧ h_ = [] | 8 => v_ = (S ((putS 1 [no]) ++ (putS 8 [gsn]))) ∧ h_ = [] | 9 => v_ = (.pointer (some ⟨b2, 2, none⟩)) ∧ h_ = [] | 10 => v_ = v_l ∧ h_ = [] | 11 => v_ = (.int .i64 ((l.length : Nat) : Int)) ∧ h_ = [] | 12 => ∃ (b31 : Nat), v_ = (.slice (some ⟨b31, 0, none⟩) 1 1) ∧ h_ = [Hp.one b31 (.cells #[(.int .i64 ((l.length : Nat) : Int))] 3 (0, 0))] | 13 => v_ = (S (putS 1 [((l.length : Nat) : Int)])) ∧ h_ = [] | _ => True) mixed 14 (by kernel_rfl) (by decide) (by kernel_rfl) (flow_has (cs := []) hH17 rfl) ?_ ?_
    · intro i_ o_ him_ ho_ r' w' G hs_ ht
      match i_, ho_, him_ with
      | 0, ho_, him_ =>
        obtain rfl := Option.some.inj ho_
        have e1 : r' 1 = (.pointer (some ⟨b2, 0, none⟩)) := ht.was 1 (by kernel_rfl)
        have hG := ht.has.drop
        refine GOK.free rfl ?_
        refine o_fieldAddr (k := 0) (fun _ => by kernel_rfl) e1 ?_
        exact ⟨_, ⟨rfl, rfl⟩, hG⟩
      | 1, ho_, him_ =>
        obtain rfl := Option.some.inj ho_
        obtain ⟨e9, eh0⟩ := (ht.done 0 _ rfl rfl).1
        have hG := ht.has.drop
        refine GOK.free rfl ?_
        refine o_load1 (v := (.int .i64 no)) Tryd.underlying3 rfl e9 hG (ht.fr [Hp.one b2 (.cells #[(.int .i64 no), (.int .i64 gsn), v_l] 24 (0, 0))] (by simp)) (CellsAt.one rfl) ?_
        exact ⟨_, ⟨rfl, rfl⟩, hG⟩
      | 2, ho_, him_ =>
        obtain rfl := Option.some.inj ho_
        obtain ⟨e10, eh1⟩ := (ht.done 1 _ rfl rfl).1
        have hG := ht.has.drop
        refine GOK.free rfl ?_
        refine o_buildSlice (ps := #[(0, (.int .i64 no))]) (cells := #[(.int .i64 no)]) Tryd.underlying56 ti3 (by decide) (parts1 e10) (by kernel_rfl) hG fun b19 w20 hH21 => ?_
        exact ⟨_, ⟨b19, rfl, rfl⟩, hH21⟩
      | 3, ho_, him_ =>
        obtain rfl := Option.some.inj ho_
        obtain ⟨b19, e11, eh2⟩ := (ht.done 2 _ rfl rfl).1
        have hG := ht.has.drop
        refine GOK.free rfl ?_
        refine o_callf (vs := #[(.int .i64 1), (.slice (some ⟨b19, 0, none⟩) 1 1)]) ca53 rfl (args2 rfl e11) (put_c hG.all 1 (l := [no]) ((sl_lit (f := iV) (l := [no]) rfl rfl (by simp)).mono (eh2 ▸ (ht.done 2 _ rfl rfl).2)) (by simp)) ?_
        rintro _ w24 ⟨rfl, hX22⟩
        refine ⟨_, rfl, ?_⟩
        have hH23 := hX22.of_all
        exact ⟨_, ⟨rfl, rfl⟩, hH23⟩
      | 4, ho_, him_ =>
        obtain rfl := Option.some.inj ho_
        have e1 : r' 1 = (.pointer (some ⟨b2, 0, none⟩)) := ht.was 1 (by kernel_rfl)
        have hG := ht.has.drop
        refine GOK.free rfl ?_
        refine o_fieldAddr (k := 1) (fun _ => by kernel_rfl) e1 ?_
        exact ⟨_, ⟨rfl, rfl⟩, hG⟩
      | 5, ho_, him_ =>
        obtain rfl := Option.some.inj ho_
        obtain ⟨e13, eh4⟩ := (ht.done 4 _ rfl rfl).1
        have hG := ht.has.drop
        refine GOK.free rfl ?_
        refine o_load1 (v := (.int .i64 gsn)) Tryd.underlying3 rfl e13 hG (ht.fr [Hp.one b2 (.cells #[(.int .i64 no), (.int .i64 gsn), v_l] 24 (0, 0))] (by simp)) (CellsAt.one rfl) ?_
        exact ⟨_, ⟨rfl, rfl⟩, hG⟩
      | 6, ho_, him_ =>
        obtain rfl := Option.some.inj ho_
        obtain ⟨e14, eh5⟩ := (ht.done 5 _ rfl rfl).1
        have hG := ht.has.drop
        refine GOK.free rfl ?_
        refine o_buildSlice (ps := #[(0, (.int .i64 gsn))]) (cells := #[(.int .i64 gsn)]) Tryd.underlying56 ti3 (by decide) (parts1 e14) (by kernel_rfl) hG fun b25 w26 hH27 => ?_
        exact ⟨_, ⟨b25, rfl, rfl⟩, hH27⟩
      | 7, ho_, him_ =>
        obtain rfl := Option.some.inj ho_
        obtain ⟨b19, e11, eh2⟩ := (ht.done 2 _ rfl rfl).1
        obtain ⟨b25, e15, eh6⟩ := (ht.done 6 _ rfl rfl).1
        have hG := ht.has.drop
        refine GOK.free rfl ?_
        refine o_callf (vs := #[(.int .i64 8), (.slice (some ⟨b25, 0, none⟩) 1 1)]) ca53 rfl (args2 rfl e15) (put_c hG.all 8 (l := [gsn]) ((sl_lit (f := iV) (l := [gsn]) rfl rfl (by simp)).mono (eh6 ▸ (ht.done 6 _ rfl rfl).2)) (by simp)) ?_
        rintro _ w30 ⟨rfl, hX28⟩
        refine ⟨_, rfl, ?_⟩
        have hH29 := hX28.of_all
        exact ⟨_, ⟨rfl, rfl⟩, hH29⟩
      | 8, ho_, him_ =>
        obtain rfl := Option.some.inj ho_
        obtain ⟨b19, e11, eh2⟩ := (ht.done 2 _ rfl rfl).1
        obtain ⟨e12, eh3⟩ := (ht.done 3 _ rfl rfl).1
        obtain ⟨b25, e15, eh6⟩ := (ht.done 6 _ rfl rfl).1
        obtain ⟨e16, eh7⟩ := (ht.done 7 _ rfl rfl).1
        have hG := ht.has.drop
        refine GOK.free rfl ?_
        refine o_sadd e12 e16 (by first | (rw [put1 (by omega), put8 (by omega)]; simp only [beFrom_length, List.length_append]; omega) | (rw [put1 (by omega), put8 (by omega), put1 (by omega)]; simp only [beFrom_length, List.length_append]; omega) | (simp only [List.length_append, shortB_len]; omega)) ?_
        exact ⟨_, ⟨rfl, rfl⟩, hG⟩
      | 9, ho_, him_ =>
        obtain rfl := Option.some.inj ho_
        have e1 : r' 1 = (.pointer (some ⟨b2, 0, none⟩)) := ht.was 1 (by kernel_rfl)
        have hG := ht.has.drop
        refine GOK.free rfl ?_
        refine o_fieldAddr (k := 2) (fun _ => by kernel_rfl) e1 ?_
        exact ⟨_, ⟨rfl, rfl⟩, hG⟩
      | 10, ho_, him_ =>
        obtain rfl := Option.some.inj ho_
        obtain ⟨e18, eh9⟩ := (ht.done 9 _ rfl rfl).1
        have hG := ht.has.drop
        refine GOK.free rfl ?_
        refine o_load1 (v := v_l) Tryd.underlying22 rfl e18 hG (ht.fr [Hp.one b2 (.cells #[(.int .i64 no), (.int .i64 gsn), v_l] 24 (0, 0))] (by simp)) (CellsAt.one rfl) ?_
        exact ⟨_, ⟨rfl, rfl⟩, hG⟩
      | 11, ho_, him_ =>
        obtain rfl := Option.some.inj ho_
        obtain ⟨e19, eh10⟩ := (ht.done 10 _ rfl rfl).1
        have hG := ht.has.drop
        refine GOK.free rfl ?_
        refine o_lenS Tryd.underlying22 e19 h_l ?_
        exact ⟨_, ⟨rfl, rfl⟩, hG⟩
      | 12, ho_, him_ =>
        obtain rfl := Option.some.inj ho_
        obtain ⟨e20, eh11⟩ := (ht.done 11 _ rfl rfl).1
        have hG := ht.has.drop
        refine GOK.free rfl ?_
        refine o_buildSlice (ps := #[(0, (.int .i64 ((l.length : Nat) : Int)))]) (cells := #[(.int .i64 ((l.length : Nat) : Int))]) Tryd.underlying56 ti3 (by decide) (parts1 e20) (by kernel_rfl) hG fun b31 w32 hH33 => ?_
        exact ⟨_, ⟨b31, rfl, rfl⟩, hH33⟩
      | 13, ho_, him_ =>
        obtain rfl := Option.some.inj ho_
        obtain ⟨b19, e11, eh2⟩ := (ht.done 2 _ rfl rfl).1
        obtain ⟨b25, e15, eh6⟩ := (ht.done 6 _ rfl rfl).1
        obtain ⟨b31, e21, eh12⟩ := (ht.done 12 _ rfl rfl).1
        have hG := ht.has.drop
        refine GOK.free rfl ?_
        refine o_callf (vs := #[(.int .i64 1), (.slice (some ⟨b31, 0, none⟩) 1 1)]) ca53 rfl (args2 rfl e21) (put_c hG.all 1 (l := [((l.length : Nat) : Int)]) ((sl_lit (f := iV) (l := [((l.length : Nat) : Int)]) rfl rfl (by simp)).mono (eh12 ▸ (ht.done 12 _ rfl rfl).2)) (by simp)) ?_
        rintro _ w36 ⟨rfl, hX34⟩
        refine ⟨_, rfl, ?_⟩
        have hH35 := hX34.of_all
        exact ⟨_, ⟨rfl, rfl⟩, hH35⟩
      | i_ + 14, ho_, him_ => exact absurd him_ (by omega)
    · intro vs37 hs38 w39 hT40 hC_ hH41
      obtain ⟨e0_, eh0_⟩ := hT40 0 _ (by decide) rfl
      obtain ⟨e1_, eh1_⟩ := hT40 1 _ (by decide) rfl
      obtain ⟨b19, e2_, eh2_⟩ := hT40 2 _ (by decide) rfl
      obtain ⟨e3_, eh3_⟩ := hT40 3 _ (by decide) rfl
      obtain ⟨e4_, eh4_⟩ := hT40 4 _ (by decide) rfl
      obtain ⟨e5_, eh5_⟩ := hT40 5 _ (by decide) rfl
      obtain ⟨b25, e6_, eh6_⟩ := hT40 6 _ (by decide) rfl
      obtain ⟨e7_, eh7_⟩ := hT40 7 _ (by decide) rfl
      obtain ⟨e8_, eh8_⟩ := hT40 8 _ (by decide) rfl
      obtain ⟨e9_, eh9_⟩ := hT40 9 _ (by decide) rfl
      obtain ⟨e10_, eh10_⟩ := hT40 10 _ (by decide) rfl
      obtain ⟨e11_, eh11_⟩ := hT40 11 _ (by decide) rfl
      obtain ⟨b31, e12_, eh12_⟩ := hT40 12 _ (by decide) rfl
      obtain ⟨e13_, eh13_⟩ := hT40 13 _ (by decide) rfl
      have hH42 : Has E w39 ([[Hp.one b15 (.cells #[(.pointer none), (.slice none 0 0)] 90 (0, 0))], [Hp.one b2 (.cells #[(.int .i64 no), (.int .i64 gsn), v_l] 24 (0, 0))], R] ++ [[Hp.one b19 (.cells #[(.int .i64 no)] 3 (0, 0))], [Hp.one b25 (.cells #[(.int .i64 gsn)] 3 (0, 0))], [Hp.one b31 (.cells #[(.int .i64 ((l.length : Nat) : Int))] 3 (0, 0))]]) := flow_back (cs := [[Hp.one b19 (.cells #[(.int .i64 no)] 3 (0, 0))], [Hp.one b25 (.cells #[(.int .i64 gsn)] 3 (0, 0))], [Hp.one b31 (.cells #[(.int .i64 ((l.length : Nat) : Int))] 3 (0, 0))]]) hH41 (by show (hs38 0 ++ (hs38 1 ++ (hs38 2 ++ (hs38 3 ++ (hs38 4 ++ (hs38 5 ++ (hs38 6 ++ (hs38 7 ++ (hs38 8 ++ (hs38 9 ++ (hs38 10 ++ (hs38 11 ++ (hs38 12 ++ (hs38 13 ++ (hs38 14 ++ (hs38 15 ++ [])))))))))))))))) = _; rw [eh0_, eh1_, eh2_, eh3_, eh4_, eh5_, eh6_, eh7_, eh8_, eh9_, eh10_, eh11_, eh12_, eh13_, hC_ 14 (by decide) (by decide), hC_ 15 (by decide) (by decide)]; rfl)
      generalize hr44 : puts vs37 _ 0 _ = r43
      have e45_0 : r43 0 = (.agg #[(.int .i64 no), (.int .i64 gsn), v_l]) := by rw [← hr44]; exact rfl
      have e45_1 : r43 1 = (.pointer (some ⟨b2, 0, none⟩)) := by rw [← hr44]; exact rfl
      have e45_2 : r43 2 = (S ([] : List UInt8)) := by rw [← hr44]; exact rfl
      have e45_3 : r43 3 = (.pointer (some ⟨b15, 0, none⟩)) := by rw [← hr44]; exact rfl
      have e45_8 : r43 8 = (.bool (!(pageR no gsn l))) := by rw [← hr44]; exact rfl
      have e45_17 : r43 17 = (S ((putS 1 [no]) ++ (putS 8 [gsn]))) := by rw [← hr44]; exact e8_
      have e45_22 : r43 22 = (S (putS 1 [((l.length : Nat) : Int)])) := by rw [← hr44]; exact e13_
      refine s_op (o_sadd e45_17 e45_22 (by first | (rw [put1 (by omega), put8 (by omega)]; simp only [beFrom_length, List.length_append]; omega) | (rw [put1 (by omega), put8 (by omega), put1 (by omega)]; simp only [beFrom_length, List.length_append]; omega) | (simp only [List.length_append, shortB_len]; omega)) ?_)
      refine s_op (o_callf (vs := #[(.pointer (some ⟨b15, 0, none⟩)), (S (((putS 1 [no]) ++ (putS 8 [gsn])) ++ (putS 1 [((l.length : Nat) : Int)])))]) ca52 rfl (args2 e45_3 rfl) (bws hH42.all1 (Bld.new b15) (((putS 1 [no]) ++ (putS 8 [gsn])) ++ (putS 1 [((l.length : Nat) : Int)])) (by first | (rw [hu_, headB_len]; simp; done) | (rw [hu_, headB_len]; simp only [List.length_nil]; omega) | (simp only [List.length_append, shortB_len]; omega))) ?_)
      rintro _ w50 ⟨sg46, rfl, hB47, hX48⟩
      refine ⟨_, rfl, ?_⟩
      have hH49 : Has E w50 [sg46, [Hp.one b2 (.cells #[(.int .i64 no), (.int .i64 gsn), v_l] 24 (0, 0))], R, [Hp.one b19 (.cells #[(.int .i64 no)] 3 (0, 0))], [Hp.one b25 (.cells #[(.int .i64 gsn)] 3 (0, 0))], [Hp.one b31 (.cells #[(.int .i64 ((l.length : Nat) : Int))] 3 (0, 0))]] := hX48.of_all1
      refine s_nil ?_
      refine t_norm (hK18 _ _ ?_)
      refine wp_seq_k fun K51 hK51 => ?_
      refine wp_seq_k fun K52 hK52 => ?_
      refine c_region ?_
      refine s_op (o_fieldAddr (k := 2) (fun _ => by kernel_rfl) e45_1 ?_)
      refine s_op (o_load1 (v := v_l) Tryd.underlying22 rfl rfl hH49 (seg_sub 1 rfl) (CellsAt.one rfl) ?_)
      refine s_op (o_lenS Tryd.underlying22 rfl h_l ?_)
      refine s_op (o_move (v := (.int .i64 0)) rfl ?_)
      refine s_nil ?_
      refine t_norm (hK52 _ _ ?_)
      refine wp_block ?_
      let I54 : Nat → (Nat → Value) → World → Prop := fun n__ r__ w__ => ∃ (k : Nat) (sgB : List Hp) (acc : Bs), n__ = l.length - k ∧ Has E w__ [sgB, [Hp.one b2 (.cells #[(.int .i64 no), (.int .i64 gsn), v_l] 24 (0, 0))], R, [Hp.one b19 (.cells #[(.int .i64 no)] 3 (0, 0))], [Hp.one b25 (.cells #[(.int .i64 gsn)] 3 (0, 0))], [Hp.one b31 (.cells #[(.int .i64 ((l.length : Nat) : Int))] 3 (0, 0))]] ∧ (k ≤ l.length) ∧ (Bld b15 acc sgB) ∧ (acc = headB no gsn l.length ++ (l.take k).flatMap cellB) ∧ (acc.length ≤ 10 + 26 * k) ∧ r__ 0 = (.agg #[(.int .i64 no), (.int .i64 gsn), v_l]) ∧ r__ 1 = (.pointer (some ⟨b2, 0, none⟩)) ∧ r__ 2 = (S ([] : List UInt8)) ∧ r__ 3 = (.pointer (some ⟨b15, 0, none⟩)) ∧ r__ 8 = (.bool (!(pageR no gsn l))) ∧ r__ 26 = v_l ∧ r__ 27 = (.int .i64 ((l.length : Nat) : Int)) ∧ r__ 28 = (.int .i64 (k : Int))
      refine c_loop I54 _ ⟨0, sg46, (([] : Bs) ++ (((putS 1 [no]) ++ (putS 8 [gsn])) ++ (putS 1 [((l.length : Nat) : Int)]))), rfl, hH49, Nat.zero_le _, hB47, (by rw [List.nil_append, hu_]; simp), (by rw [List.nil_append, hu_, headB_len]; omega), e45_0, e45_1, e45_2, e45_3, e45_8, rfl, rfl, rfl⟩ ?_
      rintro n_ r57 w55 ⟨k, sgB, acc, rfl, hH56, hk, hB, hacc, hal, e53_0, e53_1, e53_2, e53_3, e53_8, e53_26, e53_27, e53_28⟩
      refine wp_seq_k fun K58 hK58 => ?_
      refine c_region ?_
      refine s_op (o_lss (a := (k : Int)) (b := ((l.length : Nat) : Int)) e53_28 e53_27 ?_)
      refine s_nil ?_
      refine t_norm (hK58 _ _ ?_)
      refine wp_seq_k fun K59 hK59 => ?_
      refine c_cond rfl (fun h60 => ?_) (fun h60 => ?_)
      · -- (k : Int) < ((l.length : Nat) : Int)
        refine wp_skip ?_
        refine t_norm (hK59 _ _ ?_)
        refine wp_seq_k fun K61 hK61 => ?_
        refine wp_block ?_
        refine wp_seq_k fun K62 hK62 => ?_
        refine c_region ?_
        obtain ⟨x66, hx67⟩ : ∃ x_, l[((k : Int)).toNat]? = some x_ := get_some (by omega)
        refine s_op (o_indexF ceC_len Tryd.underlying22 ti45 e53_26 h_l rfl e53_28 (by omega) hx67 fun b63 o64 hc65 => ?_)
        have hcl_ := celOk_len (hCe_.1 _ (List.mem_of_getElem? hx67))
        refine s_op (o_loadN (cs := [(S x66.1), (S x66.2)]) Tryd.underlying45 rfl ti45 rfl hH56 (seg_sub 2 rfl) hc65 ?_)
        refine s_op (o_alloc (cs := #[(S ([] : List UInt8)), (S ([] : List UInt8))]) ti45 rfl hH56 fun b68 w69 hH70 => ?_)
        refine s_eff (o_storeN (vs := [(S x66.1), (S x66.2)]) (c' := #[(S x66.1), (S x66.2)]) ti45 rfl rfl rfl rfl (by intro u hu; simp only [List.mem_cons, List.not_mem_nil, or_false] at hu; rcases hu with rfl | rfl <;> first | rfl) (by simp) (by kernel_rfl) (hH70.front 0 rfl) fun w71 hH72 => ?_)
        refine s_nil ?_
        refine t_norm (hK62 _ _ ?_)
        refine Rest.region mixed (by kernel_rfl) ?_
        have hH73 : Has E { w71 with drawn := w71.drawn + 1 } [[Hp.one b68 (.cells #[(S x66.1), (S x66.2)] 45 (0, 0))], sgB, [Hp.one b2 (.cells #[(.int .i64 no), (.int .i64 gsn), v_l] 24 (0, 0))], R, [Hp.one b19 (.cells #[(.int .i64 no)] 3 (0, 0))], [Hp.one b25 (.cells #[(.int .i64 gsn)] 3 (0, 0))], [Hp.one b31 (.cells #[(.int .i64 ((l.length : Nat) : Int))] 3 (0, 0))]] := Has0.drew hH72 _
        refine Rest.phaseA (fun w_ => Has E w_ [[Hp.one b68 (.cells #[(S x66.1), (S x66.2)] 45 (0, 0))]]) 0 5 5 rfl (by decide) (by kernel_rfl) ?_
        refine a_op 0 rfl (by kernel_rfl) (fun w_ h_ => o_fieldAddr (k := 0) (fun _ => by kernel_rfl) rfl ⟨rfl, rfl⟩) ?_
        refine a_op 1 rfl (by kernel_rfl) (fun w_ h_ => o_load1 (v := (S x66.1)) Tryd.underlying9 rfl rfl h_ (seg_sub 0 rfl) (CellsAt.one rfl) ⟨rfl, rfl⟩) ?_
        refine a_op 3 rfl (by kernel_rfl) (fun w_ h_ => o_fieldAddr (k := 1) (fun _ => by kernel_rfl) rfl ⟨rfl, rfl⟩) ?_
        refine a_op 4 rfl (by kernel_rfl) (fun w_ h_ => o_load1 (v := (S x66.2)) Tryd.underlying9 rfl rfl h_ (seg_sub 0 rfl) (CellsAt.one rfl) ⟨rfl, rfl⟩) ?_
        have hH74 : Has E { w71 with drawn := w71.drawn + 1 } [[Hp.one b68 (.cells #[(S x66.1), (S x66.2)] 45 (0, 0))]] := hH73.first 1 rfl
        refine a_w 2 rfl (by kernel_rfl) hH74 (o_callf (vs := #[(S x66.1)]) ca54 rfl (args1 rfl) (short_c (s := x66.1) hH73.all (by first | omega | (simp only []; omega) | (simp; done) | (simp; omega))) ?_)
        rintro _ w77 ⟨rfl, hX75⟩
        refine ⟨_, rfl, ?_⟩
        have hH76 := hX75.of_all
        have hH78 : Has E w77 [[Hp.one b68 (.cells #[(S x66.1), (S x66.2)] 45 (0, 0))]] := hH76.first 1 rfl
        refine a_done (by kernel_rfl) hH78 ?_
        refine r_op 5 rfl (by kernel_rfl) (o_callf (vs := #[(S x66.2)]) ca54 rfl (args1 rfl) (short_c (s := x66.2) hH76.all (by first | omega | (simp only []; omega) | (simp; done) | (simp; omega))) ?_)
        rintro _ w81 ⟨rfl, hX79⟩
        refine ⟨_, rfl, ?_⟩
        have hH80 := hX79.of_all
        refine r_op 6 rfl (by kernel_rfl) (o_sadd rfl rfl (by first | (rw [put1 (by omega), put8 (by omega)]; simp only [beFrom_length, List.length_append]; omega) | (rw [put1 (by omega), put8 (by omega), put1 (by omega)]; simp only [beFrom_length, List.length_append]; omega) | (simp only [List.length_append, shortB_len]; omega)) ?_)
        refine r_op 7 rfl (by kernel_rfl) (o_callf (vs := #[(.pointer (some ⟨b15, 0, none⟩)), (S ((shortB x66.1) ++ (shortB x66.2)))]) ca52 rfl (args2 e53_3 rfl) (bws (hH80.front 1 rfl).all1 hB ((shortB x66.1) ++ (shortB x66.2)) (by first | (rw [hu_, headB_len]; simp; done) | (rw [hu_, headB_len]; simp only [List.length_nil]; omega) | (simp only [List.length_append, shortB_len]; omega))) ?_)
        rintro _ w86 ⟨sg82, rfl, hB83, hX84⟩
        refine ⟨_, rfl, ?_⟩
        have hH85 : Has E w86 [sg82, [Hp.one b68 (.cells #[(S x66.1), (S x66.2)] 45 (0, 0))], [Hp.one b2 (.cells #[(.int .i64 no), (.int .i64 gsn), v_l] 24 (0, 0))], R, [Hp.one b19 (.cells #[(.int .i64 no)] 3 (0, 0))], [Hp.one b25 (.cells #[(.int .i64 gsn)] 3 (0, 0))], [Hp.one b31 (.cells #[(.int .i64 ((l.length : Nat) : Int))] 3 (0, 0))]] := hX84.of_all1
        refine Rest.done (by kernel_rfl) ?_
        refine b_norm ?_
        refine t_norm (hK61 _ _ ?_)
        refine c_region ?_
        refine s_op (o_add (a := (k : Int)) (b := 1) e53_28 rfl (w64 (by omega) (by omega)) ?_)
        refine s_op (o_move (v := (.int .i64 ((k : Int) + 1))) rfl ?_)
        refine s_nil ?_
        have hH87 : Has E w86 [sg82, [Hp.one b2 (.cells #[(.int .i64 no), (.int .i64 gsn), v_l] 24 (0, 0))], R, [Hp.one b19 (.cells #[(.int .i64 no)] 3 (0, 0))], [Hp.one b25 (.cells #[(.int .i64 gsn)] 3 (0, 0))], [Hp.one b31 (.cells #[(.int .i64 ((l.length : Nat) : Int))] 3 (0, 0))]] := Has.pick hH85 [0, 1, 1, 1, 1, 1] (by kernel_rfl)
        refine t_norm ⟨l.length - (k + 1), _, rfl, ?_, ?_⟩
        · omega
        · exact ⟨(k + 1), sg82, (acc ++ ((shortB x66.1) ++ (shortB x66.2))), rfl, hH87, (by omega), (hB83), (by (have h_ := cell_prog hacc (show l[k]? = some _ from hx67)); first | exact h_ | (simpa [List.append_assoc] using h_)), (by (have h1_ := celOk_len (hCe_.1 _ (List.mem_of_getElem? hx67))); simp only [List.length_append, shortB_len]; omega), e53_0, e53_1, e53_2, e53_3, e53_8, e53_26, e53_27, rfl⟩
      · -- not: (k : Int) < ((l.length : Nat) : Int)
        refine wp_exit ?_
        refine t_exit (t_exit (x_in (?_)))
        refine t_norm (hK51 _ _ ?_)
        refine wp_seq_k fun K88 hK88 => ?_
        refine c_region ?_
        refine s_op (o_callf (vs := #[(.pointer (some ⟨b15, 0, none⟩))]) ca56 rfl (args1 e53_3) (bstrK hH56.all1 hB) ?_)
        rintro _ w94 ⟨a89, p90, c91, rfl, hX92⟩
        refine ⟨_, rfl, ?_⟩
        have hH93 : Has E w94 [[Hp.one b15 (.cells #[a89, (.slice p90 acc.length c91)] 90 (0, 0))], [Hp.one b2 (.cells #[(.int .i64 no), (.int .i64 gsn), v_l] 24 (0, 0))], R, [Hp.one b19 (.cells #[(.int .i64 no)] 3 (0, 0))], [Hp.one b25 (.cells #[(.int .i64 gsn)] 3 (0, 0))], [Hp.one b31 (.cells #[(.int .i64 ((l.length : Nat) : Int))] 3 (0, 0))]] := hX92.of_all1
        refine s_op (o_callf (vs := #[(.pointer (some ⟨b15, 0, none⟩))]) ca58 rfl (args1 e53_3) (blenb hH93.all1) ?_)
        rintro _ w97 ⟨rfl, hX95⟩
        refine ⟨_, rfl, ?_⟩
        have hH96 : Has E w97 [[Hp.one b15 (.cells #[a89, (.slice p90 acc.length c91)] 90 (0, 0))], [Hp.one b2 (.cells #[(.int .i64 no), (.int .i64 gsn), v_l] 24 (0, 0))], R, [Hp.one b19 (.cells #[(.int .i64 no)] 3 (0, 0))], [Hp.one b25 (.cells #[(.int .i64 gsn)] 3 (0, 0))], [Hp.one b31 (.cells #[(.int .i64 ((l.length : Nat) : Int))] 3 (0, 0))]] := hX95.of_all1
        refine s_op (o_sub (a := 252) (b := (acc.length : Int)) rfl rfl (w64 (by omega) (by omega)) ?_)
        obtain ⟨n98, hn98⟩ : ∃ n_ : Nat, 252 - (acc.length : Int) = (n_ : Int) := ⟨(252 - (acc.length : Int)).toNat, by omega⟩
        refine s_op (o_callf (vs := #[(S [0]), (.int .i64 (252 - (acc.length : Int)))]) ca57 rfl (args2 rfl rfl) ((by rw [hn98]; exact repeat_c hH96.all n98 (by omega))) ?_)
        rintro _ w101 ⟨rfl, hX99⟩
        refine ⟨_, rfl, ?_⟩
        have hH100 := hX99.of_all
        refine s_op (o_buildSlice (ps := #[(0, (S acc)), (1, (S (List.replicate n98 0)))]) (cells := #[(S acc), (S (List.replicate n98 0))]) Tryd.underlying32 ti9 (by decide) (parts2 rfl rfl) (by kernel_rfl) hH100 fun b102 w103 hH104 => ?_)
        refine s_op (o_callf (vs := #[(.slice (some ⟨b102, 0, none⟩) 2 2)]) ca55 rfl (args1 rfl) (seal_c hH104.all (hg.mono (seg_sub 3 rfl)) ((sl_lit (f := sV) (l := [acc, (List.replicate n98 0)]) rfl rfl (by simp)).mono (seg_sub 0 rfl)) (by simp) (by simp only [List.flatten_cons, List.flatten_nil, List.length_append, List.length_replicate, List.length_nil]; omega)) ?_)
        rintro _ w107 ⟨rfl, hX105⟩
        refine ⟨_, rfl, ?_⟩
        have hH106 := hX105.of_all
        refine s_op (o_assign (v := (S (sealS [acc, (List.replicate n98 0)].flatten))) rfl ?_)
        refine s_nil ?_
        refine t_norm (hK88 _ _ ?_)
        refine wp_ret ?_
        refine c_ret1 Tryd.results21  (v := (S (sealS [acc, (List.replicate n98 0)].flatten))) rfl ?_
        have e_ : k = l.length := by omega
        rw [e_, List.take_length] at hacc
        have hb_ : acc = bodyB no gsn l := hacc
        have hE_ : laidP no gsn l = sealS [acc, List.replicate n98 0].flatten := by unfold laidP; rw [if_pos hR_]; unfold fullB; rw [← hb_, show 252 - acc.length = n98 from by omega]; simp
        have q108 : (laidP no gsn l) = (sealS [acc, (List.replicate n98 0)].flatten) := by exact hE_
        have hH109 : Has E w107 [R] := (hH106.front 3 rfl).first 1 rfl
        exact ⟨by rw [q108], hH109⟩
set_option maxHeartbeats 4000000 in
theorem text_c {E w : World} {R : List Hp} {s : Bs}  (hH : Has E w [R]) (hs : s.length ≤ 1000000) :
    Calls Tryd.prog 50 #[(S s)] w fun e w' => e = .returned (.tuple #[(S ((textS s).1)), (S ((textS s).2.1)), (.bool ((textS s).2.2))]) ∧ Has E w' [R] := by
  have hto_ := take_one s
  refine c_enter (args := [(S s)]) Tryd.func50 rfl Tryd.ntmps50 (by simp) ?_
  refine wp_seq_k fun K1 hK1 => ?_
  refine c_region ?_
  refine s_op (o_assign (v := (S ([] : List UInt8))) rfl ?_)
  refine s_op (o_assign (v := (S ([] : List UInt8))) rfl ?_)
  refine s_op (o_assign (v := (.bool false)) rfl ?_)
  refine s_nil ?_
  refine t_norm (hK1 _ _ ?_)
  refine wp_seq_k fun K2 hK2 => ?_
  refine c_region ?_
  refine s_op (o_move (v := (S s)) rfl ?_)
  refine s_op (o_callf (vs := #[(S s), (.int .i64 1)]) ca49 rfl (args2 rfl rfl) (take_c hH.all 1 s (by omega)) ?_)
  rintro _ w5 ⟨rfl, hX3⟩
  refine ⟨_, rfl, ?_⟩
  have hH4 := hX3.of_all
  refine s_op (o_move (v := (.tuple #[(.int .i64 ((takeS s 1).1)), (S ((takeS s 1).2.1)), (.bool ((takeS s 1).2.2))])) rfl ?_)
  refine s_op (o_extract (v := (.int .i64 ((takeS s 1).1))) rfl rfl ?_)
  refine s_op (o_extract (v := (S ((takeS s 1).2.1))) rfl rfl ?_)
  refine s_op (o_extract (v := (.bool ((takeS s 1).2.2))) rfl rfl ?_)
  refine s_op (o_assign (v := (.int .i64 ((takeS s 1).1))) rfl ?_)
  refine s_op (o_assign (v := (S ((takeS s 1).2.1))) rfl ?_)
  refine s_op (o_assign (v := (.bool ((takeS s 1).2.2))) rfl ?_)
  refine s_nil ?_
  refine t_norm (hK2 _ _ ?_)
  refine wp_seq_k fun K6 hK6 => ?_
  refine wp_seq_k fun K7 hK7 => ?_
  refine c_region ?_
  refine s_op (o_move (v := (.bool ((takeS s 1).2.2))) rfl ?_)
  refine s_op (o_not rfl ?_)
  refine s_op (o_move (v := (.bool (!((takeS s 1).2.2)))) rfl ?_)
  rcases Bool.eq_false_or_eq_true (!((takeS s 1).2.2)) with h8 | h8
  · -- !((takeS s 1).2.2)
    have h8_n : ((takeS s 1).2.2) = false := by simpa using h8
    refine s_off (b' := true) 16 rfl (congrArg Value.bool h8) rfl ?_
    refine s_off (b' := true) 16 rfl (congrArg Value.bool h8) rfl ?_
    refine s_off (b' := true) 16 rfl (congrArg Value.bool h8) rfl ?_
    refine s_off (b' := true) 16 rfl (congrArg Value.bool h8) rfl ?_
    refine s_op (o_pick_t (u := (.bool true)) ((rfl : _ = _).trans (congrArg Value.bool h8)) rfl ?_)
    refine s_nil ?_
    refine t_norm (hK7 _ _ ?_)
    refine c_true rfl rfl ?_
    refine wp_seq_k fun K9 hK9 => ?_
    refine c_region ?_
    refine s_op (o_assign (v := (S ([] : List UInt8))) rfl ?_)
    refine s_op (o_assign (v := (S ([] : List UInt8))) rfl ?_)
    refine s_op (o_assign (v := (.bool false)) rfl ?_)
    refine s_nil ?_
    refine t_norm (hK9 _ _ ?_)
    refine wp_ret ?_
    refine t_ret (c_ret3 Tryd.results50  (v := (S ([] : List UInt8))) rfl (x := (S ([] : List UInt8))) rfl (y := (.bool false)) rfl ?_)
    have hE_ := text_no (s := s) (by first | exact .inl (by simpa using h8) | exact .inl (by simpa using h8_n) | exact .inr (by omega))
    have q10 : (textS s).1 = ([] : List UInt8) := by rw [hE_]
    have q11 : (textS s).2.1 = ([] : List UInt8) := by rw [hE_]
    have q12 : (textS s).2.2 = false := by rw [hE_]
    exact ⟨by rw [q10]; rw [q11]; rw [q12], hH4⟩
  · -- not: !((takeS s 1).2.2)
    have h8_n : ((takeS s 1).2.2) = true := by simpa using h8
    refine s_on 16 rfl (congrArg Value.bool h8) (o_move (v := (.int .i64 ((takeS s 1).1))) rfl ?_)
    refine s_on 16 rfl (congrArg Value.bool h8) (o_move (v := (S ((takeS s 1).2.1))) rfl ?_)
    refine s_on 16 rfl (congrArg Value.bool h8) (o_slen Tryd.underlying9 rfl ?_)
    refine s_on 16 rfl (congrArg Value.bool h8) (o_gtr (a := (takeS s 1).1) (b := (((takeS s 1).2.1).length : Int)) rfl rfl ?_)
    refine s_op (o_pick_f (u := (.bool (decide ((((takeS s 1).2.1).length : Int) < (takeS s 1).1)))) ((rfl : _ = _).trans (congrArg Value.bool h8)) rfl ?_)
    refine s_nil ?_
    refine t_norm (hK7 _ _ ?_)
    refine c_cond rfl (fun h13 => ?_) (fun h13 => ?_)
    · -- (((takeS s 1).2.1).length : Int) < (takeS s 1).1
      refine wp_seq_k fun K14 hK14 => ?_
      refine c_region ?_
      refine s_op (o_assign (v := (S ([] : List UInt8))) rfl ?_)
      refine s_op (o_assign (v := (S ([] : List UInt8))) rfl ?_)
      refine s_op (o_assign (v := (.bool false)) rfl ?_)
      refine s_nil ?_
      refine t_norm (hK14 _ _ ?_)
      refine wp_ret ?_
      refine t_ret (c_ret3 Tryd.results50  (v := (S ([] : List UInt8))) rfl (x := (S ([] : List UInt8))) rfl (y := (.bool false)) rfl ?_)
      have hE_ := text_no (s := s) (by first | exact .inl (by simpa using h8) | exact .inl (by simpa using h8_n) | exact .inl (by simpa using h13) | exact .inr (by omega))
      have q15 : (textS s).1 = ([] : List UInt8) := by rw [hE_]
      have q16 : (textS s).2.1 = ([] : List UInt8) := by rw [hE_]
      have q17 : (textS s).2.2 = false := by rw [hE_]
      exact ⟨by rw [q15]; rw [q16]; rw [q17], hH4⟩
    · -- not: (((takeS s 1).2.1).length : Int) < (takeS s 1).1
      refine wp_skip ?_
      refine t_norm (hK6 _ _ ?_)
      refine wp_seq_k fun K18 hK18 => ?_
      refine Rest.region mixed (by kernel_rfl) ?_
      have hH19 : Has E { w5 with drawn := w5.drawn + 1 } [R] := Has0.drew hH4 _
      refine Rest.phaseA (fun w_ => Has E w_ []) 0 7 7 rfl (by decide) (by kernel_rfl) ?_
      refine a_op 0 rfl (by kernel_rfl) (fun w_ h_ => o_move (v := (S ((takeS s 1).2.1))) rfl ⟨rfl, rfl⟩) ?_
      refine a_op 1 rfl (by kernel_rfl) (fun w_ h_ => o_move (v := (.int .i64 ((takeS s 1).1))) rfl ⟨rfl, rfl⟩) ?_
      refine a_op 2 rfl (by kernel_rfl) (fun w_ h_ => o_ssl_h Tryd.underlying9 rfl rfl (by omega) (by omega) ⟨rfl, rfl⟩) ?_
      refine a_op 3 rfl (by kernel_rfl) (fun w_ h_ => o_move (v := (S ((takeS s 1).2.1))) rfl ⟨rfl, rfl⟩) ?_
      refine a_op 4 rfl (by kernel_rfl) (fun w_ h_ => o_move (v := (.int .i64 ((takeS s 1).1))) rfl ⟨rfl, rfl⟩) ?_
      refine a_op 5 rfl (by kernel_rfl) (fun w_ h_ => o_ssl_l Tryd.underlying9 rfl rfl (by omega) (by omega) ⟨rfl, rfl⟩) ?_
      refine a_op 6 rfl (by kernel_rfl) (fun w_ h_ => o_assign (v := (S (((takeS s 1).2.1).take ((takeS s 1).1).toNat))) rfl ⟨rfl, rfl⟩) ?_
      have hH20 : Has E { w5 with drawn := w5.drawn + 1 } [] := hH19.first 0 rfl
      refine a_done (by kernel_rfl) hH20 ?_
      refine r_op 7 rfl (by kernel_rfl) (o_assign (v := (S (((takeS s 1).2.1).drop ((takeS s 1).1).toNat))) rfl ?_)
      refine r_op 8 rfl (by kernel_rfl) (o_assign (v := (.bool true)) rfl ?_)
      refine Rest.done (by kernel_rfl) ?_
      refine t_norm (hK18 _ _ ?_)
      refine wp_ret ?_
      refine c_ret3 Tryd.results50  (v := (S (((takeS s 1).2.1).take ((takeS s 1).1).toNat))) rfl (x := (S (((takeS s 1).2.1).drop ((takeS s 1).1).toNat))) rfl (y := (.bool true)) rfl ?_
      have hE_ := text_yes (s := s) (by first | (simpa using h8) | (simpa using h8_n) | (simpa using h13)) (by omega)
      have q21 : (textS s).1 = ((takeS s 1).2.1).take ((takeS s 1).1).toNat := by rw [hE_]
      have q22 : (textS s).2.1 = ((takeS s 1).2.1).drop ((takeS s 1).1).toNat := by rw [hE_]
      have q23 : (textS s).2.2 = true := by rw [hE_]
      exact ⟨by rw [q21]; rw [q22]; rw [q23], hH19⟩
end Go.Q
namespace Go.Q
open Go.Proofs
set_option linter.unusedVariables false
set_option maxRecDepth 100000
attribute [local irreducible] wpList OK Code.wp
set_option maxHeartbeats 4000000 in
theorem r11laid_c {E w : World} {R : List Hp} {no : Int} {gsn : Int} {v_l : Value} {l : List Cel}  (hH : Has E w [R]) (h_l : Sl R 2 v_l l.length (l.flatMap ceC)) (hr : pageR no gsn l = true) :
    Calls Tryd.prog 18 #[(.agg #[(.int .i64 no), (.int .i64 gsn), v_l])] w fun e w' => e = .returned (S (laidP no gsn l)) ∧ Has E w' [R] := by
  have hP_ := pageR_iff.1 hr
  have hCe_ := cellsR_iff.1 hP_.2
  have hBl_ := bodyB_len hr
  have hn_ := h_l.le
  refine c_enter (args := [(.agg #[(.int .i64 no), (.int .i64 gsn), v_l])]) Tryd.func18 rfl Tryd.ntmps18 (by simp) ?_
  refine wp_seq_k fun K1 hK1 => ?_
  refine c_region ?_
  refine s_op (o_box (cs := #[(.int .i64 no), (.int .i64 gsn), v_l]) rfl rfl hH fun b2 w3 hH4 => ?_)
  refine s_op (o_assign (v := (S ([] : List UInt8))) rfl ?_)
  refine s_nil ?_
  refine t_norm (hK1 _ _ ?_)
  refine wp_seq_k fun K5 hK5 => ?_
  refine c_flow [[Hp.one b2 (.cells #[(.int .i64 no), (.int .i64 gsn), v_l] 24 (0, 0))], R] (fun i_ => match i_ with | _ => []) (fun i_ v_ h_ => match i_ with | 0 => v_ = (.pointer (some ⟨b2, 0, none⟩)) ∧ h_ = [] | 1 => v_ = (.int .i64 no) ∧ h_ = [] | 2 => v_ = (bV (by8 no)) ∧ h_ = [] | 3 => ∃ (b6 : Nat), v_ = (.slice (some ⟨b6, 0, none⟩) 1 1) ∧ h_ = [Hp.one b6 (.cells #[(bV (by8 no))] 5 (0, 0))] | 4 => v_ = (S [(by8 no)]) ∧ h_ = [] | 5 => v_ = (.pointer (some ⟨b2, 1, none⟩)) ∧ h_ = [] | 6 => v_ = (.int .i64 gsn) ∧ h_ = [] | 7 => v_ = (S (beFrom gsn 8)) ∧ h_ = [] | 8 => v_ = (S ([(by8 no)] ++ (beFrom gsn 8))) ∧ h_ = [] | 9 => v_ = (.pointer (some ⟨b2, 2, none⟩)) ∧ h_ = [] | 10 => v_ = v_l ∧ h_ = [] | 11 => v_ = (.int .i64 ((l.length : Nat) : Int)) ∧ h_ = [] | 12 => v_ = (bV (by8 ((l.length : Nat) : Int))) ∧ h_ = [] | 13 => ∃ (b12 : Nat), v_ = (.slice (some ⟨b12, 0, none⟩) 1 1) ∧ h_ = [Hp.one b12 (.cells #[(bV (by8 ((l.length : Nat) : Int)))] 5 (0, 0))] | 14 => v_ = (S [(by8 ((l.length : Nat) : Int))]) ∧ h_ = [] | 15 => v_ = (S (([(by8 no)] ++ (beFrom gsn 8)) ++ [(by8 ((l.length : Nat) : Int))])) ∧ h_ = [] | 16 => v_ = (S (([(by8 no)] ++ (beFrom gsn 8)) ++ [(by8 ((l.length : Nat) : Int))])) ∧ h_ = [] | _ => True) mixed (by kernel_rfl) (flow_has (cs := []) hH4 rfl) ?_ ?_
  · intro i_ o_ ho_ r' w' G hs_ ht
    match i_, ho_ with
    | 0, ho_ =>
      obtain rfl := Option.some.inj ho_
      have e1 : r' 1 = (.pointer (some ⟨b2, 0, none⟩)) := ht.was 1 (by kernel_rfl)
      have hG := ht.has.drop
      refine o_fieldAddr (k := 0) (fun _ => by kernel_rfl) e1 ?_
      exact ⟨_, ⟨rfl, rfl⟩, hG⟩
    | 1, ho_ =>
      obtain rfl := Option.some.inj ho_
      obtain ⟨e6, eh0⟩ := (ht.done 0 _ rfl rfl).1
      have hG := ht.has.drop
      refine o_load1 (v := (.int .i64 no)) Tryd.underlying3 rfl e6 hG (ht.fr [Hp.one b2 (.cells #[(.int .i64 no), (.int .i64 gsn), v_l] 24 (0, 0))] (by simp)) (CellsAt.one rfl) ?_
      exact ⟨_, ⟨rfl, rfl⟩, hG⟩
    | 2, ho_ =>
      obtain rfl := Option.some.inj ho_
      obtain ⟨e7, eh1⟩ := (ht.done 1 _ rfl rfl).1
      have hG := ht.has.drop
      refine o_conv (c := ((by8 no).toNat : Int)) Tryd.underlying3 Tryd.underlying5 e7 (wrap_by8 _) ?_
      exact ⟨_, ⟨rfl, rfl⟩, hG⟩
    | 3, ho_ =>
      obtain rfl := Option.some.inj ho_
      obtain ⟨e8, eh2⟩ := (ht.done 2 _ rfl rfl).1
      have hG := ht.has.drop
      refine o_buildSlice (ps := #[(0, (bV (by8 no)))]) (cells := #[(bV (by8 no))]) Tryd.underlying55 ti5 (by decide) (parts1 e8) (by kernel_rfl) hG fun b6 w7 hH8 => ?_
      exact ⟨_, ⟨b6, rfl, rfl⟩, hH8⟩
    | 4, ho_ =>
      obtain rfl := Option.some.inj ho_
      obtain ⟨b6, e9, eh3⟩ := (ht.done 3 _ rfl rfl).1
      have hG := ht.has.drop
      refine o_bstr Tryd.underlying55 Tryd.underlying5 Tryd.underlying9 e9 (sl_lit (f := bV) (l := [(by8 no)]) rfl rfl (by simp)) hG (eh3 ▸ (ht.done 3 _ rfl rfl).2) ?_
      exact ⟨_, ⟨rfl, rfl⟩, hG⟩
    | 5, ho_ =>
      obtain rfl := Option.some.inj ho_
      have e1 : r' 1 = (.pointer (some ⟨b2, 0, none⟩)) := ht.was 1 (by kernel_rfl)
      have hG := ht.has.drop
      refine o_fieldAddr (k := 1) (fun _ => by kernel_rfl) e1 ?_
      exact ⟨_, ⟨rfl, rfl⟩, hG⟩
    | 6, ho_ =>
      obtain rfl := Option.some.inj ho_
      obtain ⟨e11, eh5⟩ := (ht.done 5 _ rfl rfl).1
      have hG := ht.has.drop
      refine o_load1 (v := (.int .i64 gsn)) Tryd.underlying3 rfl e11 hG (ht.fr [Hp.one b2 (.cells #[(.int .i64 no), (.int .i64 gsn), v_l] 24 (0, 0))] (by simp)) (CellsAt.one rfl) ?_
      exact ⟨_, ⟨rfl, rfl⟩, hG⟩
    | 7, ho_ =>
      obtain rfl := Option.some.inj ho_
      obtain ⟨e12, eh6⟩ := (ht.done 6 _ rfl rfl).1
      have hG := ht.has.drop
      refine o_callf (vs := #[(.int .i64 8), (.int .i64 gsn)]) ca47 rfl (args2 rfl e12) (rlaid_c hG.all 8 (by decide) gsn (by omega) (fits_lit (b := 9223372036854775808) (by omega) (by omega) (by decide) (by decide) (by omega))) ?_
      rintro _ w11 ⟨rfl, hX9⟩
      refine ⟨_, rfl, ?_⟩
      have hH10 := hX9.of_all
      exact ⟨_, ⟨rfl, rfl⟩, hH10⟩
    | 8, ho_ =>
      obtain rfl := Option.some.inj ho_
      obtain ⟨b6, e9, eh3⟩ := (ht.done 3 _ rfl rfl).1
      obtain ⟨e10, eh4⟩ := (ht.done 4 _ rfl rfl).1
      obtain ⟨e13, eh7⟩ := (ht.done 7 _ rfl rfl).1
      have hG := ht.has.drop
      refine o_sadd e10 e13 (by first | omega | (simp only [List.length_append, List.length_cons, List.length_nil, beFrom_length, laidS_len]; omega)) ?_
      exact ⟨_, ⟨rfl, rfl⟩, hG⟩
    | 9, ho_ =>
      obtain rfl := Option.some.inj ho_
      have e1 : r' 1 = (.pointer (some ⟨b2, 0, none⟩)) := ht.was 1 (by kernel_rfl)
      have hG := ht.has.drop
      refine o_fieldAddr (k := 2) (fun _ => by kernel_rfl) e1 ?_
      exact ⟨_, ⟨rfl, rfl⟩, hG⟩
    | 10, ho_ =>
      obtain rfl := Option.some.inj ho_
      obtain ⟨e15, eh9⟩ := (ht.done 9 _ rfl rfl).1
      have hG := ht.has.drop
      refine o_load1 (v := v_l) Tryd.underlying22 rfl e15 hG (ht.fr [Hp.one b2 (.cells #[(.int .i64 no), (.int .i64 gsn), v_l] 24 (0, 0))] (by simp)) (CellsAt.one rfl) ?_
      exact ⟨_, ⟨rfl, rfl⟩, hG⟩
    | 11, ho_ =>
      obtain rfl := Option.some.inj ho_
      obtain ⟨e16, eh10⟩ := (ht.done 10 _ rfl rfl).1
      have hG := ht.has.drop
      refine o_lenS Tryd.underlying22 e16 h_l ?_
      exact ⟨_, ⟨rfl, rfl⟩, hG⟩
    | 12, ho_ =>
      obtain rfl := Option.some.inj ho_
      obtain ⟨e17, eh11⟩ := (ht.done 11 _ rfl rfl).1
      have hG := ht.has.drop
      refine o_conv (c := ((by8 ((l.length : Nat) : Int)).toNat : Int)) Tryd.underlying3 Tryd.underlying5 e17 (wrap_by8 _) ?_
      exact ⟨_, ⟨rfl, rfl⟩, hG⟩
    | 13, ho_ =>
      obtain rfl := Option.some.inj ho_
      obtain ⟨e18, eh12⟩ := (ht.done 12 _ rfl rfl).1
      have hG := ht.has.drop
      refine o_buildSlice (ps := #[(0, (bV (by8 ((l.length : Nat) : Int))))]) (cells := #[(bV (by8 ((l.length : Nat) : Int)))]) Tryd.underlying55 ti5 (by decide) (parts1 e18) (by kernel_rfl) hG fun b12 w13 hH14 => ?_
      exact ⟨_, ⟨b12, rfl, rfl⟩, hH14⟩
    | 14, ho_ =>
      obtain rfl := Option.some.inj ho_
      obtain ⟨b12, e19, eh13⟩ := (ht.done 13 _ rfl rfl).1
      have hG := ht.has.drop
      refine o_bstr Tryd.underlying55 Tryd.underlying5 Tryd.underlying9 e19 (sl_lit (f := bV) (l := [(by8 ((l.length : Nat) : Int))]) rfl rfl (by simp)) hG (eh13 ▸ (ht.done 13 _ rfl rfl).2) ?_
      exact ⟨_, ⟨rfl, rfl⟩, hG⟩
    | 15, ho_ =>
      obtain rfl := Option.some.inj ho_
      obtain ⟨b6, e9, eh3⟩ := (ht.done 3 _ rfl rfl).1
      obtain ⟨e14, eh8⟩ := (ht.done 8 _ rfl rfl).1
      obtain ⟨b12, e19, eh13⟩ := (ht.done 13 _ rfl rfl).1
      obtain ⟨e20, eh14⟩ := (ht.done 14 _ rfl rfl).1
      have hG := ht.has.drop
      refine o_sadd e14 e20 (by first | omega | (simp only [List.length_append, List.length_cons, List.length_nil, beFrom_length, laidS_len]; omega)) ?_
      exact ⟨_, ⟨rfl, rfl⟩, hG⟩
    | 16, ho_ =>
      obtain rfl := Option.some.inj ho_
      obtain ⟨b6, e9, eh3⟩ := (ht.done 3 _ rfl rfl).1
      obtain ⟨b12, e19, eh13⟩ := (ht.done 13 _ rfl rfl).1
      obtain ⟨e21, eh15⟩ := (ht.done 15 _ rfl rfl).1
      have hG := ht.has.drop
      refine o_assign (v := (S (([(by8 no)] ++ (beFrom gsn 8)) ++ [(by8 ((l.length : Nat) : Int))]))) e21 ?_
      exact ⟨_, ⟨rfl, rfl⟩, hG⟩
    | i_ + 17, ho_ => exact absurd ho_ (by simp)
  · intro vs15 hs16 w17 hT18 hH19
    obtain ⟨e0_, eh0_⟩ := hT18 0 _ rfl
    obtain ⟨e1_, eh1_⟩ := hT18 1 _ rfl
    obtain ⟨e2_, eh2_⟩ := hT18 2 _ rfl
    obtain ⟨b6, e3_, eh3_⟩ := hT18 3 _ rfl
    obtain ⟨e4_, eh4_⟩ := hT18 4 _ rfl
    obtain ⟨e5_, eh5_⟩ := hT18 5 _ rfl
    obtain ⟨e6_, eh6_⟩ := hT18 6 _ rfl
    obtain ⟨e7_, eh7_⟩ := hT18 7 _ rfl
    obtain ⟨e8_, eh8_⟩ := hT18 8 _ rfl
    obtain ⟨e9_, eh9_⟩ := hT18 9 _ rfl
    obtain ⟨e10_, eh10_⟩ := hT18 10 _ rfl
    obtain ⟨e11_, eh11_⟩ := hT18 11 _ rfl
    obtain ⟨e12_, eh12_⟩ := hT18 12 _ rfl
    obtain ⟨b12, e13_, eh13_⟩ := hT18 13 _ rfl
    obtain ⟨e14_, eh14_⟩ := hT18 14 _ rfl
    obtain ⟨e15_, eh15_⟩ := hT18 15 _ rfl
    obtain ⟨e16_, eh16_⟩ := hT18 16 _ rfl
    have hH20 : Has E w17 ([[Hp.one b2 (.cells #[(.int .i64 no), (.int .i64 gsn), v_l] 24 (0, 0))], R] ++ [[Hp.one b6 (.cells #[(bV (by8 no))] 5 (0, 0))], [Hp.one b12 (.cells #[(bV (by8 ((l.length : Nat) : Int)))] 5 (0, 0))]]) := flow_back (cs := [[Hp.one b6 (.cells #[(bV (by8 no))] 5 (0, 0))], [Hp.one b12 (.cells #[(bV (by8 ((l.length : Nat) : Int)))] 5 (0, 0))]]) hH19 (by show (hs16 0 ++ (hs16 1 ++ (hs16 2 ++ (hs16 3 ++ (hs16 4 ++ (hs16 5 ++ (hs16 6 ++ (hs16 7 ++ (hs16 8 ++ (hs16 9 ++ (hs16 10 ++ (hs16 11 ++ (hs16 12 ++ (hs16 13 ++ (hs16 14 ++ (hs16 15 ++ (hs16 16 ++ []))))))))))))))))) = _; rw [eh0_, eh1_, eh2_, eh3_, eh4_, eh5_, eh6_, eh7_, eh8_, eh9_, eh10_, eh11_, eh12_, eh13_, eh14_, eh15_, eh16_]; rfl)
    generalize hr22 : puts vs15 _ 0 _ = r21
    have e23_0 : r21 0 = (.agg #[(.int .i64 no), (.int .i64 gsn), v_l]) := by rw [← hr22]; exact rfl
    have e23_1 : r21 1 = (.pointer (some ⟨b2, 0, none⟩)) := by rw [← hr22]; exact rfl
    have e23_2 : r21 2 = (S ([] : List UInt8)) := by rw [← hr22]; exact rfl
    have e23_3 : r21 3 = (S (([(by8 no)] ++ (beFrom gsn 8)) ++ [(by8 ((l.length : Nat) : Int))])) := by rw [← hr22]; exact e16_
    refine t_norm (hK5 _ _ ?_)
    refine wp_seq_k fun K24 hK24 => ?_
    refine wp_seq_k fun K25 hK25 => ?_
    refine c_region ?_
    refine s_op (o_assign (v := (.int .i64 0)) rfl ?_)
    refine s_nil ?_
    refine t_norm (hK25 _ _ ?_)
    refine wp_block ?_
    let I27 : Nat → (Nat → Value) → World → Prop := fun n__ r__ w__ => ∃ (k : Nat) (t : Bs), n__ = l.length - k ∧ Has E w__ [[Hp.one b2 (.cells #[(.int .i64 no), (.int .i64 gsn), v_l] 24 (0, 0))], R, [Hp.one b6 (.cells #[(bV (by8 no))] 5 (0, 0))], [Hp.one b12 (.cells #[(bV (by8 ((l.length : Nat) : Int)))] 5 (0, 0))]] ∧ (k ≤ l.length) ∧ (t = headB no gsn l.length ++ (l.take k).flatMap cellB) ∧ (t.length ≤ 10 + 26 * k) ∧ r__ 0 = (.agg #[(.int .i64 no), (.int .i64 gsn), v_l]) ∧ r__ 1 = (.pointer (some ⟨b2, 0, none⟩)) ∧ r__ 2 = (S ([] : List UInt8)) ∧ r__ 3 = (S t) ∧ r__ 4 = (.int .i64 (k : Int))
    refine c_loop I27 _ ⟨0, (([(by8 no)] ++ (beFrom gsn 8)) ++ [(by8 ((l.length : Nat) : Int))]), rfl, hH20, Nat.zero_le _, (by (have h_ := head_ref no gsn l.length); simpa using h_), (by simp [beFrom_length]), e23_0, e23_1, e23_2, e23_3, rfl⟩ ?_
    rintro n_ r30 w28 ⟨k, t, rfl, hH29, hk, ht, htl, e26_0, e26_1, e26_2, e26_3, e26_4⟩
    refine wp_seq_k fun K31 hK31 => ?_
    refine wp_seq_k fun K32 hK32 => ?_
    refine c_region ?_
    refine s_op (o_move (v := (.int .i64 (k : Int))) e26_4 ?_)
    refine s_op (o_fieldAddr (k := 2) (fun _ => by kernel_rfl) e26_1 ?_)
    refine s_op (o_load1 (v := v_l) Tryd.underlying22 rfl rfl hH29 (seg_sub 0 rfl) (CellsAt.one rfl) ?_)
    refine s_op (o_lenS Tryd.underlying22 rfl h_l ?_)
    refine s_op (o_lss (a := (k : Int)) (b := ((l.length : Nat) : Int)) rfl rfl ?_)
    refine s_nil ?_
    refine t_norm (hK32 _ _ ?_)
    refine c_cond rfl (fun h33 => ?_) (fun h33 => ?_)
    · -- (k : Int) < ((l.length : Nat) : Int)
      refine wp_skip ?_
      refine t_norm (hK31 _ _ ?_)
      refine wp_seq_k fun K34 hK34 => ?_
      refine wp_block ?_
      refine wp_seq_k fun K35 hK35 => ?_
      refine c_region ?_
      refine s_op (o_fieldAddr (k := 2) (fun _ => by kernel_rfl) e26_1 ?_)
      refine s_op (o_load1 (v := v_l) Tryd.underlying22 rfl rfl hH29 (seg_sub 0 rfl) (CellsAt.one rfl) ?_)
      refine s_op (o_move (v := (.int .i64 (k : Int))) e26_4 ?_)
      obtain ⟨x39, hx40⟩ : ∃ x_, l[((k : Int)).toNat]? = some x_ := get_some (by omega)
      refine s_op (o_indexF ceC_len Tryd.underlying22 ti45 rfl h_l rfl rfl (by omega) hx40 fun b36 o37 hc38 => ?_)
      have hcl_ := celOk_len (hCe_.1 _ (List.mem_of_getElem? hx40))
      refine s_op (o_loadN (cs := [(S x39.1), (S x39.2)]) Tryd.underlying45 rfl ti45 rfl hH29 (seg_sub 1 rfl) hc38 ?_)
      refine s_op (o_alloc (cs := #[(S ([] : List UInt8)), (S ([] : List UInt8))]) ti45 rfl hH29 fun b41 w42 hH43 => ?_)
      refine s_eff (o_storeN (vs := [(S x39.1), (S x39.2)]) (c' := #[(S x39.1), (S x39.2)]) ti45 rfl rfl rfl rfl (by intro u hu; simp only [List.mem_cons, List.not_mem_nil, or_false] at hu; rcases hu with rfl | rfl <;> first | rfl) (by simp) (by kernel_rfl) (hH43.front 0 rfl) fun w44 hH45 => ?_)
      refine s_nil ?_
      refine t_norm (hK35 _ _ ?_)
      refine c_region ?_
      refine s_op (o_move (v := (S t)) e26_3 ?_)
      refine s_op (o_fieldAddr (k := 0) (fun _ => by kernel_rfl) rfl ?_)
      refine s_op (o_load1 (v := (S x39.1)) Tryd.underlying9 rfl rfl hH45 (seg_sub 0 rfl) (CellsAt.one rfl) ?_)
      refine s_op (o_slen Tryd.underlying9 rfl ?_)
      refine s_op (o_conv (c := ((by8 (x39.1.length : Int)).toNat : Int)) Tryd.underlying3 Tryd.underlying5 rfl (wrap_by8 _) ?_)
      refine s_op (o_buildSlice (ps := #[(0, (bV (by8 (x39.1.length : Int))))]) (cells := #[(bV (by8 (x39.1.length : Int)))]) Tryd.underlying55 ti5 (by decide) (parts1 rfl) (by kernel_rfl) hH45 fun b46 w47 hH48 => ?_)
      refine s_op (o_bstr Tryd.underlying55 Tryd.underlying5 Tryd.underlying9 rfl (sl_lit (f := bV) (l := [(by8 (x39.1.length : Int))]) rfl rfl (by simp)) hH48 (seg_sub 0 rfl) ?_)
      refine s_op (o_sadd rfl rfl (by first | omega | (simp only [List.length_append, List.length_cons, List.length_nil, beFrom_length, laidS_len]; omega)) ?_)
      refine s_op (o_fieldAddr (k := 0) (fun _ => by kernel_rfl) rfl ?_)
      refine s_op (o_load1 (v := (S x39.1)) Tryd.underlying9 rfl rfl hH48 (seg_sub 1 rfl) (CellsAt.one rfl) ?_)
      refine s_op (o_sadd rfl rfl (by first | omega | (simp only [List.length_append, List.length_cons, List.length_nil, beFrom_length, laidS_len]; omega)) ?_)
      refine s_op (o_fieldAddr (k := 1) (fun _ => by kernel_rfl) rfl ?_)
      refine s_op (o_load1 (v := (S x39.2)) Tryd.underlying9 rfl rfl hH48 (seg_sub 1 rfl) (CellsAt.one rfl) ?_)
      refine s_op (o_slen Tryd.underlying9 rfl ?_)
      refine s_op (o_conv (c := ((by8 (x39.2.length : Int)).toNat : Int)) Tryd.underlying3 Tryd.underlying5 rfl (wrap_by8 _) ?_)
      refine s_op (o_buildSlice (ps := #[(0, (bV (by8 (x39.2.length : Int))))]) (cells := #[(bV (by8 (x39.2.length : Int)))]) Tryd.underlying55 ti5 (by decide) (parts1 rfl) (by kernel_rfl) hH48 fun b49 w50 hH51 => ?_)
      refine s_op (o_bstr Tryd.underlying55 Tryd.underlying5 Tryd.underlying9 rfl (sl_lit (f := bV) (l := [(by8 (x39.2.length : Int))]) rfl rfl (by simp)) hH51 (seg_sub 0 rfl) ?_)
      refine s_op (o_sadd rfl rfl (by first | omega | (simp only [List.length_append, List.length_cons, List.length_nil, beFrom_length, laidS_len]; omega)) ?_)
      refine s_op (o_fieldAddr (k := 1) (fun _ => by kernel_rfl) rfl ?_)
      refine s_op (o_load1 (v := (S x39.2)) Tryd.underlying9 rfl rfl hH51 (seg_sub 2 rfl) (CellsAt.one rfl) ?_)
      refine s_op (o_sadd rfl rfl (by first | omega | (simp only [List.length_append, List.length_cons, List.length_nil, beFrom_length, laidS_len]; omega)) ?_)
      refine s_op (o_assign (v := (S ((((t ++ [(by8 (x39.1.length : Int))]) ++ x39.1) ++ [(by8 (x39.2.length : Int))]) ++ x39.2))) rfl ?_)
      refine s_nil ?_
      refine b_norm ?_
      refine t_norm (hK34 _ _ ?_)
      refine c_region ?_
      refine s_op (o_move (v := (.int .i64 (k : Int))) e26_4 ?_)
      refine s_op (o_add (a := (k : Int)) (b := 1) rfl rfl (w64 (by omega) (by omega)) ?_)
      refine s_op (o_assign (v := (.int .i64 ((k : Int) + 1))) rfl ?_)
      refine s_nil ?_
      have hH52 : Has E w50 [[Hp.one b2 (.cells #[(.int .i64 no), (.int .i64 gsn), v_l] 24 (0, 0))], R, [Hp.one b6 (.cells #[(bV (by8 no))] 5 (0, 0))], [Hp.one b12 (.cells #[(bV (by8 ((l.length : Nat) : Int)))] 5 (0, 0))]] := ((((hH51.front 6 rfl).front 6 rfl).front 6 rfl).front 6 rfl).first 4 rfl
      refine t_norm ⟨l.length - (k + 1), _, rfl, ?_, ?_⟩
      · omega
      · exact ⟨(k + 1), ((((t ++ [(by8 (x39.1.length : Int))]) ++ x39.1) ++ [(by8 (x39.2.length : Int))]) ++ x39.2), rfl, hH52, (by omega), (by (have h_ := cell_ref ht (show l[k]? = some _ from hx40)); exact h_), (by (have h1_ := celOk_len (hCe_.1 _ (List.mem_of_getElem? hx40))); simp only [List.length_append, List.length_cons, List.length_nil]; omega), e26_0, e26_1, e26_2, rfl, rfl⟩
    · -- not: (k : Int) < ((l.length : Nat) : Int)
      refine wp_exit ?_
      refine t_exit (t_exit (x_in (?_)))
      refine t_norm (hK24 _ _ ?_)
      refine wp_seq_k fun K53 hK53 => ?_
      refine wp_block ?_
      let I55 : Nat → (Nat → Value) → World → Prop := fun n__ r__ w__ => ∃ (u : Bs) (j : Nat), n__ = 252 - u.length ∧ Has E w__ [[Hp.one b2 (.cells #[(.int .i64 no), (.int .i64 gsn), v_l] 24 (0, 0))], R, [Hp.one b6 (.cells #[(bV (by8 no))] 5 (0, 0))], [Hp.one b12 (.cells #[(bV (by8 ((l.length : Nat) : Int)))] 5 (0, 0))]] ∧ (u = bodyB no gsn l ++ List.replicate j 0) ∧ (u.length ≤ 252) ∧ r__ 0 = (.agg #[(.int .i64 no), (.int .i64 gsn), v_l]) ∧ r__ 1 = (.pointer (some ⟨b2, 0, none⟩)) ∧ r__ 2 = (S ([] : List UInt8)) ∧ r__ 3 = (S u) ∧ r__ 4 = (.int .i64 (k : Int)) ∧ r__ 26 = (.bool (decide ((k : Int) < ((l.length : Nat) : Int))))
      refine c_loop I55 _ ⟨t, 0, rfl, hH29, (by (have e_ : k = l.length := by omega); rw [e_, List.take_length] at ht; rw [ht]; simp [bodyB]), (by omega), e26_0, e26_1, e26_2, e26_3, e26_4, rfl⟩ ?_
      rintro n_ r58 w56 ⟨u, j, rfl, hH57, hu, hul, e54_0, e54_1, e54_2, e54_3, e54_4, e54_26⟩
      refine wp_seq_k fun K59 hK59 => ?_
      refine wp_seq_k fun K60 hK60 => ?_
      refine c_region ?_
      refine s_op (o_move (v := (S u)) e54_3 ?_)
      refine s_op (o_slen Tryd.underlying9 rfl ?_)
      refine s_op (o_lss (a := (u.length : Int)) (b := 252) rfl rfl ?_)
      refine s_nil ?_
      refine t_norm (hK60 _ _ ?_)
      refine c_cond rfl (fun h61 => ?_) (fun h61 => ?_)
      · -- (u.length : Int) < 252
        refine wp_skip ?_
        refine t_norm (hK59 _ _ ?_)
        refine wp_block ?_
        refine c_region ?_
        refine s_op (o_move (v := (S u)) e54_3 ?_)
        refine s_op (o_sadd rfl rfl (by first | omega | (simp only [List.length_append, List.length_cons, List.length_nil, beFrom_length, laidS_len]; omega)) ?_)
        refine s_op (o_assign (v := (S (u ++ [0]))) rfl ?_)
        refine s_nil ?_
        refine b_norm ?_
        refine t_norm ⟨252 - (u ++ [0]).length, _, rfl, ?_, ?_⟩
        · simp only [List.length_append, List.length_cons, List.length_nil]; omega
        · exact ⟨(u ++ [0]), (j + 1), rfl, hH57, (by rw [hu, List.append_assoc, show [(0 : UInt8)] = List.replicate 1 0 from rfl, List.replicate_append_replicate]), (by simp only [List.length_append, List.length_cons, List.length_nil]; omega), e54_0, e54_1, e54_2, rfl, e54_4, e54_26⟩
      · -- not: (u.length : Int) < 252
        refine wp_exit ?_
        refine t_exit (t_exit (x_in (?_)))
        refine t_norm (hK53 _ _ ?_)
        refine wp_seq_k fun K62 hK62 => ?_
        refine c_region ?_
        refine s_op (o_move (v := (S u)) e54_3 ?_)
        refine s_op (o_move (v := (S u)) e54_3 ?_)
        refine s_op (o_callf (vs := #[(S u)]) ca48 rfl (args1 rfl) (reflaid_c hH57.all u (by omega)) ?_)
        rintro _ w65 ⟨rfl, hX63⟩
        refine ⟨_, rfl, ?_⟩
        have hH64 := hX63.of_all
        refine s_op (o_sadd rfl rfl (by first | omega | (simp only [List.length_append, List.length_cons, List.length_nil, beFrom_length, laidS_len]; omega)) ?_)
        refine s_op (o_assign (v := (S (u ++ (laidS (crcS u))))) rfl ?_)
        refine s_nil ?_
        refine t_norm (hK62 _ _ ?_)
        refine wp_ret ?_
        refine c_ret1 Tryd.results18  (v := (S (u ++ (laidS (crcS u))))) rfl ?_
        have q66 : (laidP no gsn l) = u ++ (laidS (crcS u)) := by (have h_ := full_ref hr hu (by omega)); exact h_.symm
        have hH67 : Has E w65 [R] := (hH64.front 1 rfl).first 1 rfl
        exact ⟨by rw [q66], hH67⟩
end Go.Q
namespace Go.Q
open Go.Proofs
set_option linter.unusedVariables false
set_option maxRecDepth 100000
attribute [local irreducible] wpList OK Code.wp
set_option maxHeartbeats 4000000 in
theorem snan_c {E w : World} {R : List Hp} {a : Bs}  (hH : Has E w [R]) :
    Calls Tryd.prog 109 #[(S a)] w fun e w' => e = .returned (.bool false) ∧ Has E w' [R] := by
  refine c_enter (args := [(S a)]) Tryd.func109 rfl Tryd.ntmps109 (by simp) ?_
  refine wp_seq_k fun K1 hK1 => ?_
  refine c_region ?_
  refine s_op (o_assign (v := (.bool false)) rfl ?_)
  refine s_nil ?_
  refine t_norm (hK1 _ _ ?_)
  refine wp_seq_k fun K2 hK2 => ?_
  refine c_region ?_
  refine s_op (o_move (v := (S a)) rfl ?_)
  refine s_op (o_move (v := (S a)) rfl ?_)
  refine s_op (o_sneq (a := a) (b := a) rfl rfl ?_)
  refine s_op (o_assign (v := (.bool (decide (a ≠ a)))) rfl ?_)
  refine s_nil ?_
  refine t_norm (hK2 _ _ ?_)
  refine wp_ret ?_
  refine c_ret1 Tryd.results109  (v := (.bool (decide (a ≠ a)))) rfl ?_
  have q3 : decide (a ≠ a) = false := by simp
  exact ⟨by rw [q3], hH⟩
set_option maxHeartbeats 4000000 in
theorem scmp_c {E w : World} {R : List Hp} {a : Bs} {b : Bs}  (hH : Has E w [R]) :
    Calls Tryd.prog 81 #[(S a), (S b)] w fun e w' => e = .returned (.int .i64 (cmpS a b)) ∧ Has E w' [R] := by
  refine c_enter (args := [(S a), (S b)]) Tryd.func81 rfl Tryd.ntmps81 (by simp) ?_
  refine wp_seq_k fun K1 hK1 => ?_
  refine c_region ?_
  refine s_op (o_assign (v := (.int .i64 0)) rfl ?_)
  refine s_nil ?_
  refine t_norm (hK1 _ _ ?_)
  refine wp_seq_k fun K2 hK2 => ?_
  refine c_region ?_
  refine s_op (o_move (v := (S a)) rfl ?_)
  refine s_op (o_callf (vs := #[(S a)]) ca109 rfl (args1 rfl) (snan_c (a := a) hH.all ) ?_)
  rintro _ w5 ⟨rfl, hX3⟩
  refine ⟨_, rfl, ?_⟩
  have hH4 := hX3.of_all
  refine s_op (o_assign (v := (.bool false)) rfl ?_)
  refine s_nil ?_
  refine t_norm (hK2 _ _ ?_)
  refine wp_seq_k fun K6 hK6 => ?_
  refine c_region ?_
  refine s_op (o_move (v := (S b)) rfl ?_)
  refine s_op (o_callf (vs := #[(S b)]) ca109 rfl (args1 rfl) (snan_c (a := b) hH4.all ) ?_)
  rintro _ w9 ⟨rfl, hX7⟩
  refine ⟨_, rfl, ?_⟩
  have hH8 := hX7.of_all
  refine s_op (o_assign (v := (.bool false)) rfl ?_)
  refine s_nil ?_
  refine t_norm (hK6 _ _ ?_)
  refine wp_seq_k fun K10 hK10 => ?_
  refine wp_seq_k fun K11 hK11 => ?_
  refine c_region ?_
  refine s_op (o_move (v := (.bool false)) rfl ?_)
  refine s_nil ?_
  refine t_norm (hK11 _ _ ?_)
  refine c_false rfl rfl ?_
  refine wp_skip ?_
  refine t_norm (hK10 _ _ ?_)
  refine wp_seq_k fun K12 hK12 => ?_
  refine wp_seq_k fun K13 hK13 => ?_
  refine c_region ?_
  refine s_op (o_move (v := (.bool false)) rfl ?_)
  refine s_nil ?_
  refine t_norm (hK13 _ _ ?_)
  refine c_false rfl rfl ?_
  refine wp_skip ?_
  refine t_norm (hK12 _ _ ?_)
  refine wp_seq_k fun K14 hK14 => ?_
  refine wp_seq_k fun K15 hK15 => ?_
  refine c_region ?_
  refine s_op (o_move (v := (S a)) rfl ?_)
  refine s_op (o_move (v := (S b)) rfl ?_)
  refine s_op (o_sltP (a := a) (b := b) rfl rfl ?_)
  refine s_nil ?_
  refine t_norm (hK15 _ _ ?_)
  refine c_cond rfl (fun h16 => ?_) (fun h16 => ?_)
  · -- a < b
    refine wp_seq_k fun K17 hK17 => ?_
    refine c_region ?_
    refine s_op (o_assign (v := (.int .i64 (-1))) rfl ?_)
    refine s_nil ?_
    refine t_norm (hK17 _ _ ?_)
    refine wp_ret ?_
    refine t_ret (c_ret1 Tryd.results81  (v := (.int .i64 (-1))) rfl ?_)
    have q18 : (cmpS a b) = -1 := by unfold cmpS; simp [h16]
    exact ⟨by rw [q18], hH8⟩
  · -- not: a < b
    refine wp_skip ?_
    refine t_norm (hK14 _ _ ?_)
    refine wp_seq_k fun K19 hK19 => ?_
    refine wp_seq_k fun K20 hK20 => ?_
    refine c_region ?_
    refine s_op (o_move (v := (S a)) rfl ?_)
    refine s_op (o_move (v := (S b)) rfl ?_)
    refine s_op (o_sgtP (a := a) (b := b) rfl rfl ?_)
    refine s_nil ?_
    refine t_norm (hK20 _ _ ?_)
    refine c_cond rfl (fun h21 => ?_) (fun h21 => ?_)
    · -- b < a
      refine wp_seq_k fun K22 hK22 => ?_
      refine c_region ?_
      refine s_op (o_assign (v := (.int .i64 1)) rfl ?_)
      refine s_nil ?_
      refine t_norm (hK22 _ _ ?_)
      refine wp_ret ?_
      refine t_ret (c_ret1 Tryd.results81  (v := (.int .i64 1)) rfl ?_)
      have q23 : (cmpS a b) = 1 := by unfold cmpS; simp [h16, h21]
      exact ⟨by rw [q23], hH8⟩
    · -- not: b < a
      refine wp_skip ?_
      refine t_norm (hK19 _ _ ?_)
      refine wp_seq_k fun K24 hK24 => ?_
      refine c_region ?_
      refine s_op (o_assign (v := (.int .i64 0)) rfl ?_)
      refine s_nil ?_
      refine t_norm (hK24 _ _ ?_)
      refine wp_ret ?_
      refine c_ret1 Tryd.results81  (v := (.int .i64 0)) rfl ?_
      have q25 : (cmpS a b) = 0 := by unfold cmpS; simp [h16, h21]
      exact ⟨by rw [q25], hH8⟩
set_option maxHeartbeats 4000000 in
theorem findf_c {E w : World} {R : List Hp} {c : Cel} {key : Bs}  (hH : Has E w [R]) :
    Calls Tryd.prog 80 #[(.agg #[(S c.1), (S c.2)]), (S key)] w fun e w' => e = .returned (.int .i64 (cmpS c.1 key)) ∧ Has E w' [R] := by
  refine c_enter (args := [(.agg #[(S c.1), (S c.2)]), (S key)]) Tryd.func80 rfl Tryd.ntmps80 (by simp) ?_
  refine wp_seq_k fun K1 hK1 => ?_
  refine c_region ?_
  refine s_op (o_box (cs := #[(S c.1), (S c.2)]) rfl rfl hH fun b2 w3 hH4 => ?_)
  refine s_op (o_assign (v := (.int .i64 0)) rfl ?_)
  refine s_nil ?_
  refine t_norm (hK1 _ _ ?_)
  refine wp_seq_k fun K5 hK5 => ?_
  refine c_region ?_
  refine s_op (o_fieldAddr (k := 0) (fun _ => by kernel_rfl) rfl ?_)
  refine s_op (o_load1 (v := (S c.1)) Tryd.underlying9 rfl rfl hH4 (seg_sub 0 rfl) (CellsAt.one rfl) ?_)
  refine s_op (o_move (v := (S key)) rfl ?_)
  refine s_op (o_callf (vs := #[(S c.1), (S key)]) ca81 rfl (args2 rfl rfl) (scmp_c (a := c.1) (b := key) hH4.all ) ?_)
  rintro _ w8 ⟨rfl, hX6⟩
  refine ⟨_, rfl, ?_⟩
  have hH7 := hX6.of_all
  refine s_op (o_assign (v := (.int .i64 (cmpS c.1 key))) rfl ?_)
  refine s_nil ?_
  refine t_norm (hK5 _ _ ?_)
  refine wp_ret ?_
  refine c_ret1 Tryd.results80  (v := (.int .i64 (cmpS c.1 key))) rfl ?_
  have hH9 : Has E w8 [R] := (hH7.front 1 rfl).first 1 rfl
  exact ⟨rfl, hH9⟩
set_option maxHeartbeats 4000000 in
theorem bsf_c {E w : World} {R : List Hp} {v_l : Value} {l : List Cel} {key : Bs}   (hH : Has E w [R]) (h_l : Sl R 2 v_l l.length (l.flatMap ceC)) (hs : Rises l) (hl : l.length ≤ 1000000) :
    Calls Tryd.prog 79 #[v_l, (S key), (.func (.func 80) #[] #[])] w fun e w' => e = .returned (.tuple #[(.int .i64 (posC l key)), (.bool (hasC l key))]) ∧ Has E w' [R] := by
  have hn_ := h_l.le
  refine c_enter (args := [v_l, (S key), (.func (.func 80) #[] #[])]) Tryd.func79 rfl Tryd.ntmps79 (by simp) ?_
  refine wp_seq_k fun K1 hK1 => ?_
  refine c_region ?_
  refine s_op (o_assign (v := (.int .i64 0)) rfl ?_)
  refine s_op (o_assign (v := (.bool false)) rfl ?_)
  refine s_nil ?_
  refine t_norm (hK1 _ _ ?_)
  refine wp_seq_k fun K2 hK2 => ?_
  refine c_region ?_
  refine s_op (o_move (v := v_l) rfl ?_)
  refine s_op (o_lenS Tryd.underlying22 rfl h_l ?_)
  refine s_op (o_assign (v := (.int .i64 ((l.length : Nat) : Int))) rfl ?_)
  refine s_nil ?_
  refine t_norm (hK2 _ _ ?_)
  refine wp_seq_k fun K3 hK3 => ?_
  refine c_region ?_
  refine s_op (o_move (v := (.int .i64 ((l.length : Nat) : Int))) rfl ?_)
  refine s_op (o_assign (v := (.int .i64 0)) rfl ?_)
  refine s_op (o_assign (v := (.int .i64 ((l.length : Nat) : Int))) rfl ?_)
  refine s_nil ?_
  refine t_norm (hK3 _ _ ?_)
  refine wp_seq_k fun K4 hK4 => ?_
  refine wp_block ?_
  let I6 : Nat → (Nat → Value) → World → Prop := fun n__ r__ w__ => ∃ (i : Int) (j : Int), n__ = (j - i).toNat ∧ Has E w__ [R] ∧ (0 ≤ i) ∧ (i ≤ j) ∧ (j ≤ (l.length : Int)) ∧ (∀ a ∈ l.take i.toNat, a.1 < key) ∧ (∀ a ∈ l.drop j.toNat, ¬ a.1 < key) ∧ r__ 0 = v_l ∧ r__ 1 = (S key) ∧ r__ 2 = (.func (.func 80) #[] #[]) ∧ r__ 6 = (.int .i64 0) ∧ r__ 7 = (.bool false) ∧ r__ 8 = (.int .i64 ((l.length : Nat) : Int)) ∧ r__ 9 = (.int .i64 i) ∧ r__ 10 = (.int .i64 j)
  refine c_loop I6 _ ⟨0, (l.length : Int), rfl, hH, (by omega), (by omega), (by omega), (by simp), (by simp), rfl, rfl, rfl, rfl, rfl, rfl, rfl, rfl⟩ ?_
  rintro n_ r9 w7 ⟨i, j, rfl, hH8, hi0, hij, hj, hlo, hhi, e5_0, e5_1, e5_2, e5_6, e5_7, e5_8, e5_9, e5_10⟩
  refine wp_seq_k fun K10 hK10 => ?_
  refine wp_seq_k fun K11 hK11 => ?_
  refine c_region ?_
  refine s_op (o_move (v := (.int .i64 i)) e5_9 ?_)
  refine s_op (o_move (v := (.int .i64 j)) e5_10 ?_)
  refine s_op (o_lss (a := i) (b := j) rfl rfl ?_)
  refine s_nil ?_
  refine t_norm (hK11 _ _ ?_)
  refine c_cond rfl (fun h12 => ?_) (fun h12 => ?_)
  · -- i < j
    refine wp_skip ?_
    refine t_norm (hK10 _ _ ?_)
    refine wp_block ?_
    refine wp_seq_k fun K13 hK13 => ?_
    refine c_region ?_
    refine s_op (o_move (v := (.int .i64 i)) e5_9 ?_)
    refine s_op (o_move (v := (.int .i64 j)) e5_10 ?_)
    refine s_op (o_add (a := i) (b := j) rfl rfl (w64 (by omega) (by omega)) ?_)
    refine s_op (o_conv (c := (i + j)) Tryd.underlying3 Tryd.underlying130 rfl (wu64 (by omega) (by omega)) ?_)
    refine s_op (o_shr (c := (i + j) / 2) rfl rfl (by omega) (shr_lit _ (by omega) rfl) ?_)
    refine s_op (o_conv (c := ((i + j) / 2)) Tryd.underlying130 Tryd.underlying3 rfl (w64 (by omega) (by omega)) ?_)
    refine s_op (o_assign (v := (.int .i64 ((i + j) / 2))) rfl ?_)
    refine s_nil ?_
    refine t_norm (hK13 _ _ ?_)
    refine wp_seq_k fun K14 hK14 => ?_
    refine c_region ?_
    refine s_op (o_move (v := (.func (.func 80) #[] #[])) e5_2 ?_)
    refine s_op (o_move (v := v_l) e5_0 ?_)
    refine s_op (o_move (v := (.int .i64 ((i + j) / 2))) rfl ?_)
    obtain ⟨x18, hx19⟩ : ∃ x_, l[((i + j) / 2).toNat]? = some x_ := get_some (by omega)
    refine s_op (o_indexF ceC_len Tryd.underlying22 ti45 rfl h_l rfl rfl (by omega) hx19 fun b15 o16 hc17 => ?_)
    refine s_op (o_loadN (cs := [(S x18.1), (S x18.2)]) Tryd.underlying45 rfl ti45 rfl hH8 (seg_sub 0 rfl) hc17 ?_)
    refine s_op (o_move (v := (S key)) e5_1 ?_)
    refine s_op (o_callf (vs := #[(.agg #[(S x18.1), (S x18.2)]), (S key)]) ca80 rfl (args2 rfl rfl) (findf_c (c := x18) (key := key) hH8.all ) ?_)
    rintro _ w22 ⟨rfl, hX20⟩
    refine ⟨_, rfl, ?_⟩
    have hH21 := hX20.of_all
    refine s_op (o_lss (a := (cmpS x18.1 key)) (b := 0) rfl rfl ?_)
    refine s_nil ?_
    refine t_norm (hK14 _ _ ?_)
    refine c_cond rfl (fun h23 => ?_) (fun h23 => ?_)
    · -- (cmpS x18.1 key) < 0
      refine c_region ?_
      refine s_op (o_move (v := (.int .i64 ((i + j) / 2))) rfl ?_)
      refine s_op (o_add (a := (i + j) / 2) (b := 1) rfl rfl (w64 (by omega) (by omega)) ?_)
      refine s_op (o_assign (v := (.int .i64 (((i + j) / 2) + 1))) rfl ?_)
      refine s_nil ?_
      refine b_norm ?_
      refine t_norm ⟨(j - (((i + j) / 2) + 1)).toNat, _, rfl, ?_, ?_⟩
      · omega
      · exact ⟨(((i + j) / 2) + 1), j, rfl, hH21, (by omega), (by omega), (by omega), (by rw [show (((i + j) / 2) + 1).toNat = ((i + j) / 2).toNat + 1 from by omega]; exact lo_stepC hs hx19 (cmpS_neg.1 h23)), (hhi), e5_0, e5_1, e5_2, e5_6, e5_7, e5_8, rfl, e5_10⟩
    · -- not: (cmpS x18.1 key) < 0
      refine c_region ?_
      refine s_op (o_move (v := (.int .i64 ((i + j) / 2))) rfl ?_)
      refine s_op (o_assign (v := (.int .i64 ((i + j) / 2))) rfl ?_)
      refine s_nil ?_
      refine b_norm ?_
      refine t_norm ⟨(((i + j) / 2) - i).toNat, _, rfl, ?_, ?_⟩
      · omega
      · exact ⟨i, ((i + j) / 2), rfl, hH21, (by omega), (by omega), (by omega), (hlo), (hi_stepC hs hx19 (fun g_ => h23 (cmpS_neg.2 g_))), e5_0, e5_1, e5_2, e5_6, e5_7, e5_8, e5_9, rfl⟩
  · -- not: i < j
    refine wp_exit ?_
    refine t_exit (t_exit (x_in (?_)))
    refine t_norm (hK4 _ _ ?_)
    refine wp_seq_k fun K24 hK24 => ?_
    refine c_region ?_
    refine s_op (o_move (v := (.int .i64 i)) e5_9 ?_)
    refine s_op (o_move (v := (.int .i64 i)) e5_9 ?_)
    refine s_op (o_move (v := (.int .i64 ((l.length : Nat) : Int))) e5_8 ?_)
    refine s_op (o_lss (a := i) (b := ((l.length : Nat) : Int)) rfl rfl ?_)
    refine s_op (o_move (v := (.bool (decide (i < ((l.length : Nat) : Int))))) rfl ?_)
    by_cases h25 : i < ((l.length : Nat) : Int)
    · -- i < ((l.length : Nat) : Int)
      refine s_on 39 rfl (congrArg Value.bool (decide_eq_true h25)) (o_move (v := (.func (.func 80) #[] #[])) e5_2 ?_)
      refine s_on 39 rfl (congrArg Value.bool (decide_eq_true h25)) (o_move (v := v_l) e5_0 ?_)
      refine s_on 39 rfl (congrArg Value.bool (decide_eq_true h25)) (o_move (v := (.int .i64 i)) e5_9 ?_)
      obtain ⟨x29, hx30⟩ : ∃ x_, l[(i).toNat]? = some x_ := get_some (by omega)
      refine s_on 39 rfl (congrArg Value.bool (decide_eq_true h25)) (o_indexF ceC_len Tryd.underlying22 ti45 rfl h_l rfl rfl (by omega) hx30 fun b26 o27 hc28 => ?_)
      refine s_on 39 rfl (congrArg Value.bool (decide_eq_true h25)) (o_loadN (cs := [(S x29.1), (S x29.2)]) Tryd.underlying45 rfl ti45 rfl hH8 (seg_sub 0 rfl) hc28 ?_)
      refine s_on 39 rfl (congrArg Value.bool (decide_eq_true h25)) (o_move (v := (S key)) e5_1 ?_)
      refine s_on 39 rfl (congrArg Value.bool (decide_eq_true h25)) (o_callf (vs := #[(.agg #[(S x29.1), (S x29.2)]), (S key)]) ca80 rfl (args2 rfl rfl) (findf_c (c := x29) (key := key) hH8.all ) ?_)
      rintro _ w33 ⟨rfl, hX31⟩
      refine ⟨_, rfl, ?_⟩
      have hH32 := hX31.of_all
      refine s_on 39 rfl (congrArg Value.bool (decide_eq_true h25)) (o_eql (a := (cmpS x29.1 key)) (b := 0) rfl rfl ?_)
      refine s_op (o_pick_t (u := (.bool (decide ((cmpS x29.1 key) = 0)))) ((rfl : _ = _).trans (congrArg Value.bool (decide_eq_true h25))) rfl ?_)
      refine s_op (o_assign (v := (.int .i64 i)) rfl ?_)
      refine s_op (o_assign (v := (.bool (decide ((cmpS x29.1 key) = 0)))) rfl ?_)
      refine s_nil ?_
      refine t_norm (hK24 _ _ ?_)
      refine wp_ret ?_
      refine c_ret2 Tryd.results79  (v := (.int .i64 i)) rfl (x := (.bool (decide ((cmpS x29.1 key) = 0)))) rfl ?_
      have e_ : i = j := by omega
      subst e_
      have hp_ : posC l key = i := by rw [posC_at (i := i.toNat) (by omega) hlo hhi]; omega
      have hh_ : hasC l key = decide (cmpS x29.1 key = 0) := by (by_cases g_ : cmpS x29.1 key = 0; rw [decide_eq_true g_]; exact hasC_yes hx30 (cmpS_zero.1 g_); rw [decide_eq_false g_]; exact hasC_no hs hlo hhi (fun a_ ha_ e_ => g_ (by rw [hx30] at ha_; cases ha_; exact cmpS_zero.2 e_)))
      exact ⟨by rw [hp_, hh_], hH32⟩
    · -- not: i < ((l.length : Nat) : Int)
      refine s_off (b' := false) 39 rfl (congrArg Value.bool (decide_eq_false h25)) rfl ?_
      refine s_off (b' := false) 39 rfl (congrArg Value.bool (decide_eq_false h25)) rfl ?_
      refine s_off (b' := false) 39 rfl (congrArg Value.bool (decide_eq_false h25)) rfl ?_
      refine s_off (b' := false) 39 rfl (congrArg Value.bool (decide_eq_false h25)) rfl ?_
      refine s_off (b' := false) 39 rfl (congrArg Value.bool (decide_eq_false h25)) rfl ?_
      refine s_off (b' := false) 39 rfl (congrArg Value.bool (decide_eq_false h25)) rfl ?_
      refine s_off (b' := false) 39 rfl (congrArg Value.bool (decide_eq_false h25)) rfl ?_
      refine s_off (b' := false) 39 rfl (congrArg Value.bool (decide_eq_false h25)) rfl ?_
      refine s_op (o_pick_f (u := (.bool false)) ((rfl : _ = _).trans (congrArg Value.bool (decide_eq_false h25))) rfl ?_)
      refine s_op (o_assign (v := (.int .i64 i)) rfl ?_)
      refine s_op (o_assign (v := (.bool false)) rfl ?_)
      refine s_nil ?_
      refine t_norm (hK24 _ _ ?_)
      refine wp_ret ?_
      refine c_ret2 Tryd.results79  (v := (.int .i64 i)) rfl (x := (.bool false)) rfl ?_
      have e_ : i = j := by omega
      subst e_
      have hp_ : posC l key = i := by rw [posC_at (i := i.toNat) (by omega) hlo hhi]; omega
      have hh_ : hasC l key = false := hasC_no hs hlo hhi (fun a_ ha_ => absurd (List.getElem?_eq_some_iff.1 ha_).1 (by omega))
      exact ⟨by rw [hp_, hh_], hH8⟩
set_option maxHeartbeats 4000000 in
theorem find_c {E w : World} {R : List Hp} {no : Int} {gsn : Int} {v_l : Value} {l : List Cel} {key : Bs}  (hH : Has E w [R]) (h_l : Sl R 2 v_l l.length (l.flatMap ceC)) (hs : Rises l) (hl : l.length ≤ 1000000) :
    Calls Tryd.prog 41 #[(.agg #[(.int .i64 no), (.int .i64 gsn), v_l]), (S key)] w fun e w' => e = .returned (.tuple #[(.int .i64 (posC l key)), (.bool (hasC l key))]) ∧ Has E w' [R] := by
  refine c_enter (args := [(.agg #[(.int .i64 no), (.int .i64 gsn), v_l]), (S key)]) Tryd.func41 rfl Tryd.ntmps41 (by simp) ?_
  refine wp_seq_k fun K1 hK1 => ?_
  refine c_region ?_
  refine s_op (o_box (cs := #[(.int .i64 no), (.int .i64 gsn), v_l]) rfl rfl hH fun b2 w3 hH4 => ?_)
  refine s_op (o_assign (v := (.int .i64 0)) rfl ?_)
  refine s_op (o_assign (v := (.bool false)) rfl ?_)
  refine s_nil ?_
  refine t_norm (hK1 _ _ ?_)
  refine wp_seq_k fun K5 hK5 => ?_
  refine c_region ?_
  refine s_op (o_fieldAddr (k := 2) (fun _ => by kernel_rfl) rfl ?_)
  refine s_op (o_load1 (v := v_l) Tryd.underlying22 rfl rfl hH4 (seg_sub 0 rfl) (CellsAt.one rfl) ?_)
  refine s_op (o_move (v := (S key)) rfl ?_)
  refine s_op (o_callf (vs := #[v_l, (S key), (.func (.func 80) #[] #[])]) ca79 rfl (args3 rfl rfl rfl) (bsf_c (l := l) (key := key) hH4.all (h_l.mono (seg_sub 1 rfl)) (by first | omega | (simp only []; omega) | (simp; done) | (simp; omega)) (by first | omega | (simp only []; omega) | (simp; done) | (simp; omega))) ?_)
  rintro _ w8 ⟨rfl, hX6⟩
  refine ⟨_, rfl, ?_⟩
  have hH7 := hX6.of_all
  have hpc_ := posC_le l key
  refine s_op (o_extract (v := (.int .i64 (posC l key))) rfl rfl ?_)
  refine s_op (o_extract (v := (.bool (hasC l key))) rfl rfl ?_)
  refine s_op (o_assign (v := (.int .i64 (posC l key))) rfl ?_)
  refine s_op (o_assign (v := (.bool (hasC l key))) rfl ?_)
  refine s_nil ?_
  refine t_norm (hK5 _ _ ?_)
  refine wp_ret ?_
  refine c_ret2 Tryd.results41  (v := (.int .i64 (posC l key))) rfl (x := (.bool (hasC l key))) rfl ?_
  have hH9 : Has E w8 [R] := (hH7.front 1 rfl).first 1 rfl
  exact ⟨rfl, hH9⟩
set_option maxHeartbeats 4000000 in
theorem pget_c {E w : World} {R : List Hp} {no : Int} {gsn : Int} {v_l : Value} {l : List Cel} {key : Bs}  (hH : Has E w [R]) (h_l : Sl R 2 v_l l.length (l.flatMap ceC)) :
    Calls Tryd.prog 14 #[(.agg #[(.int .i64 no), (.int .i64 gsn), v_l]), (S key)] w fun e w' => e = .returned (.agg #[(.bool ((getC l key).1)), (S ((getC l key).2))]) ∧ Has E w' [R] := by
  have hn_ := h_l.le
  refine c_enter (args := [(.agg #[(.int .i64 no), (.int .i64 gsn), v_l]), (S key)]) Tryd.func14 rfl Tryd.ntmps14 (by simp) ?_
  refine wp_seq_k fun K1 hK1 => ?_
  refine c_region ?_
  refine s_op (o_box (cs := #[(.int .i64 no), (.int .i64 gsn), v_l]) rfl rfl hH fun b2 w3 hH4 => ?_)
  refine s_op (o_alloc (cs := #[(.bool false), (S ([] : List UInt8))]) ti29 rfl hH4 fun b5 w6 hH7 => ?_)
  refine s_nil ?_
  refine t_norm (hK1 _ _ ?_)
  refine wp_seq_k fun K8 hK8 => ?_
  refine wp_seq_k fun K9 hK9 => ?_
  refine c_region ?_
  refine s_op (o_fieldAddr (k := 2) (fun _ => by kernel_rfl) rfl ?_)
  refine s_op (o_load1 (v := v_l) Tryd.underlying22 rfl rfl hH7 (seg_sub 1 rfl) (CellsAt.one rfl) ?_)
  refine s_op (o_lenS Tryd.underlying22 rfl h_l ?_)
  refine s_op (o_move (v := (.int .i64 0)) rfl ?_)
  refine s_nil ?_
  refine t_norm (hK9 _ _ ?_)
  refine wp_block ?_
  let I11 : Nat → (Nat → Value) → World → Prop := fun n__ r__ w__ => ∃ (k : Nat), n__ = l.length - k ∧ Has E w__ [[Hp.one b5 (.cells #[(.bool false), (S ([] : List UInt8))] 29 (0, 0))], [Hp.one b2 (.cells #[(.int .i64 no), (.int .i64 gsn), v_l] 24 (0, 0))], R] ∧ (k ≤ l.length) ∧ (getC l key = getC (l.drop k) key) ∧ r__ 0 = (.agg #[(.int .i64 no), (.int .i64 gsn), v_l]) ∧ r__ 1 = (S key) ∧ r__ 2 = (.pointer (some ⟨b2, 0, none⟩)) ∧ r__ 4 = (.pointer (some ⟨b5, 0, none⟩)) ∧ r__ 8 = v_l ∧ r__ 9 = (.int .i64 ((l.length : Nat) : Int)) ∧ r__ 10 = (.int .i64 (k : Int))
  refine c_loop I11 _ ⟨0, rfl, hH7, Nat.zero_le _, rfl, rfl, rfl, rfl, rfl, rfl, rfl, rfl⟩ ?_
  rintro n_ r14 w12 ⟨k, rfl, hH13, hk, hg, e10_0, e10_1, e10_2, e10_4, e10_8, e10_9, e10_10⟩
  refine wp_seq_k fun K15 hK15 => ?_
  refine c_region ?_
  refine s_op (o_lss (a := (k : Int)) (b := ((l.length : Nat) : Int)) e10_10 e10_9 ?_)
  refine s_nil ?_
  refine t_norm (hK15 _ _ ?_)
  refine wp_seq_k fun K16 hK16 => ?_
  refine c_cond rfl (fun h17 => ?_) (fun h17 => ?_)
  · -- (k : Int) < ((l.length : Nat) : Int)
    refine wp_skip ?_
    refine t_norm (hK16 _ _ ?_)
    refine wp_seq_k fun K18 hK18 => ?_
    refine wp_block ?_
    refine wp_seq_k fun K19 hK19 => ?_
    refine c_region ?_
    obtain ⟨x23, hx24⟩ : ∃ x_, l[((k : Int)).toNat]? = some x_ := get_some (by omega)
    refine s_op (o_indexF ceC_len Tryd.underlying22 ti45 e10_8 h_l rfl e10_10 (by omega) hx24 fun b20 o21 hc22 => ?_)
    refine s_op (o_loadN (cs := [(S x23.1), (S x23.2)]) Tryd.underlying45 rfl ti45 rfl hH13 (seg_sub 2 rfl) hc22 ?_)
    refine s_op (o_alloc (cs := #[(S ([] : List UInt8)), (S ([] : List UInt8))]) ti45 rfl hH13 fun b25 w26 hH27 => ?_)
    refine s_eff (o_storeN (vs := [(S x23.1), (S x23.2)]) (c' := #[(S x23.1), (S x23.2)]) ti45 rfl rfl rfl rfl (by intro u hu; simp only [List.mem_cons, List.not_mem_nil, or_false] at hu; rcases hu with rfl | rfl <;> first | rfl) (by simp) (by kernel_rfl) (hH27.front 0 rfl) fun w28 hH29 => ?_)
    refine s_nil ?_
    refine t_norm (hK19 _ _ ?_)
    refine wp_seq_k fun K30 hK30 => ?_
    refine c_region ?_
    refine s_op (o_fieldAddr (k := 0) (fun _ => by kernel_rfl) rfl ?_)
    refine s_op (o_load1 (v := (S x23.1)) Tryd.underlying9 rfl rfl hH29 (seg_sub 0 rfl) (CellsAt.one rfl) ?_)
    refine s_op (o_move (v := (S key)) e10_1 ?_)
    refine s_op (o_seql (a := x23.1) (b := key) rfl rfl ?_)
    refine s_nil ?_
    refine t_norm (hK30 _ _ ?_)
    refine c_cond rfl (fun h31 => ?_) (fun h31 => ?_)
    · -- x23.1 = key
      refine wp_seq_k fun K32 hK32 => ?_
      refine c_region ?_
      refine s_op (o_fieldAddr (k := 1) (fun _ => by kernel_rfl) rfl ?_)
      refine s_op (o_load1 (v := (S x23.2)) Tryd.underlying9 rfl rfl hH29 (seg_sub 0 rfl) (CellsAt.one rfl) ?_)
      refine s_op (o_callf (vs := #[(S x23.2)]) ca38 rfl (args1 rfl) (rhas_c (s := x23.2) hH29.all ) ?_)
      rintro _ w35 ⟨rfl, hX33⟩
      refine ⟨_, rfl, ?_⟩
      have hH34 := hX33.of_all
      refine s_eff (o_storeN (vs := [(.bool true), (S x23.2)]) (c' := #[(.bool true), (S x23.2)]) ti29 e10_4 rfl rfl rfl (by intro u hu; simp only [List.mem_cons, List.not_mem_nil, or_false] at hu; rcases hu with rfl | rfl <;> first | rfl) (by simp) (by kernel_rfl) (hH34.front 1 rfl) fun w36 hH37 => ?_)
      refine s_nil ?_
      refine t_norm (hK32 _ _ ?_)
      refine wp_ret ?_
      refine b_ret (t_ret (t_ret (b_ret (t_ret (c_retC1 Tryd.results14 e10_4 (run_loadVarN (cs := [(.bool true), (S x23.2)]) Tryd.underlying29 rfl ti29 hH37 (seg_sub 0 rfl) (CellsAt.one rfl)) ?_)))))
      have q38 : (getC l key) = (true, x23.2) := by rw [getC_hit hg (show l[k]? = some _ from hx24) h31]
      have hH39 : Has E w36 [R] := (hH37.front 3 rfl).first 1 rfl
      exact ⟨by rw [q38], hH39⟩
    · -- not: x23.1 = key
      refine wp_skip ?_
      refine b_norm ?_
      refine t_norm (hK18 _ _ ?_)
      refine c_region ?_
      refine s_op (o_add (a := (k : Int)) (b := 1) e10_10 rfl (w64 (by omega) (by omega)) ?_)
      refine s_op (o_move (v := (.int .i64 ((k : Int) + 1))) rfl ?_)
      refine s_nil ?_
      have hH40 : Has E w28 [[Hp.one b5 (.cells #[(.bool false), (S ([] : List UInt8))] 29 (0, 0))], [Hp.one b2 (.cells #[(.int .i64 no), (.int .i64 gsn), v_l] 24 (0, 0))], R] := (((hH29.front 3 rfl).front 3 rfl).front 3 rfl).first 3 rfl
      refine t_norm ⟨l.length - (k + 1), _, rfl, ?_, ?_⟩
      · omega
      · exact ⟨(k + 1), rfl, hH40, (by omega), (getC_skip hg (show l[k]? = some _ from hx24) h31), e10_0, e10_1, e10_2, e10_4, e10_8, e10_9, rfl⟩
  · -- not: (k : Int) < ((l.length : Nat) : Int)
    refine wp_exit ?_
    refine t_exit (t_exit (x_in (?_)))
    refine t_norm (hK8 _ _ ?_)
    refine wp_seq_k fun K41 hK41 => ?_
    refine c_region ?_
    refine s_op (o_sight (v := (.agg #[(.bool false), (S ([] : List UInt8))])) (fun _ => by kernel_rfl) ?_)
    refine s_eff (o_storeN (vs := [(.bool false), (S ([] : List UInt8))]) (c' := #[(.bool false), (S ([] : List UInt8))]) ti29 e10_4 rfl rfl rfl (by intro u hu; simp only [List.mem_cons, List.not_mem_nil, or_false] at hu; rcases hu with rfl | rfl <;> first | rfl) (by simp) (by kernel_rfl) (hH13.front 0 rfl) fun w42 hH43 => ?_)
    refine s_nil ?_
    refine t_norm (hK41 _ _ ?_)
    refine wp_ret ?_
    refine c_retC1 Tryd.results14 e10_4 (run_loadVarN (cs := [(.bool false), (S ([] : List UInt8))]) Tryd.underlying29 rfl ti29 hH43 (seg_sub 0 rfl) (CellsAt.one rfl)) ?_
    have q44 : (getC l key) = (false, ([] : List UInt8)) := by rw [getC_end hg (by omega)]
    have hH45 : Has E w42 [R] := (hH43.front 2 rfl).first 1 rfl
    exact ⟨by rw [q44], hH45⟩
end Go.Q
namespace Go.Q
theorem S_beq' (a b : List UInt8) : ((⟨a.toArray⟩ : ByteArray).toList == (⟨b.toArray⟩ : ByteArray).toList) = decide (a = b) := by
  rw [bytes_toList, bytes_toList]
  by_cases h : a = b
  · subst h; simp
  · rw [decide_eq_false h]; simpa using h
theorem int_beq' (a b : Int) : (a == b) = decide (a = b) := by
  by_cases h : a = b
  · subst h; simp
  · rw [decide_eq_false h]; simpa using h
theorem bool_beq' (a b : Bool) : (a == b) = decide (a = b) := by cases a <;> cases b <;> rfl
theorem part1 {P : Program} {t : TypeId} {d : TypeDesc} (ht : P.underlying t = some d) (hd : aggB d = false) {xs : Array Value} {o : Nat} {v : Value} (hv : xs[o]? = some v) (w : World) : (part t xs o).run P w = .ok v w := by
  unfold part
  rw [Sem.run_bind, run_isAgg ht, hd]
  simp [hv]
theorem partN {P : Program} {t : TypeId} {d : TypeDesc} {z : Value} {sz by_ : Nat} (ht : P.underlying t = some d) (hd : aggB d = true) (hi : TI P t z sz by_) {xs ys : Array Value} {o : Nat} (hv : xs.extract o (o + sz) = ys) (w : World) : (part t xs o).run P w = .ok (.agg ys) w := by
  unfold part
  rw [Sem.run_bind, run_isAgg ht, hd]
  simp only [Result.andThen_ok, if_true, Sem.run_bind, hi.size, Sem.run_pure, hv]
theorem eqC_nil {P : Program} {d : Nat} {xs ys : Array Value} {w : World} : (Op.eqFields d xs ys []).run P w = .ok true w := rfl
theorem eqC_cons {P : Program} {d : Nat} {xs ys : Array Value} {f : Field} {fs : List Field} {a b : Value} {r r' : Bool} {w : World} {ft fo : Nat} (h : (f.type, f.offset, f.name == "_") = (ft, fo, false)) (ha : (part ft xs fo).run P w = .ok a w) (hb : (part ft ys fo).run P w = .ok b w)
    (he : (Op.equalIn d ft a b).run P w = .ok r w) (hk : (Op.eqFields d xs ys fs).run P w = .ok r' w) : (Op.eqFields d xs ys (f :: fs)).run P w = .ok (r && r') w := by
  simp only [Prod.mk.injEq] at h
  obtain ⟨rfl, rfl, hn⟩ := h
  have hn' : f.name ≠ "_" := by simpa using hn
  rw [Op.eqFields, if_pos hn']
  simp only [Sem.run_bind, ha, hb, he, Result.andThen_ok]
  cases r
  · simp
  · simpa using hk
theorem eqC_fields {P : Program} {d : Nat} {xs ys : Array Value} {r : Bool} {w : World} {l : List Field} {m : List (Nat × Nat × Bool)} (hf : l.map (fun f => (f.type, f.offset, f.name == "_")) = m) (h : ∀ l : List Field, l.map (fun f => (f.type, f.offset, f.name == "_")) = m → (Op.eqFields d xs ys l).run P w = .ok r w) :
    (Op.eqFields d xs ys l).run P w = .ok r w := h l hf
theorem eq_int {P : Program} {t : TypeId} {k' : IntKind} (h : P.underlying t = some (.int k')) (d : Nat) (k : IntKind) (a b : Int) (w : World) : (Op.equalIn (d + 1) t (.int k a) (.int k b)).run P w = .ok (decide (a = b)) w := by rw [run_equalIn_int w d t _ _ _ _ h, int_beq']
theorem eq_bool {P : Program} {t : TypeId} (h : P.underlying t = some .bool) (d : Nat) (a b : Bool) (w : World) : (Op.equalIn (d + 1) t (.bool a) (.bool b)).run P w = .ok (decide (a = b)) w := by rw [run_equalIn_bool' w d t _ _ h, bool_beq']
theorem eq_str {P : Program} {t : TypeId} (h : P.underlying t = some .string) (d : Nat) (a b : List UInt8) (w : World) : (Op.equalIn (d + 1) t (S a) (S b)).run P w = .ok (decide (a = b)) w := by
  unfold S; rw [run_equalIn_string w d t _ _ h, S_beq']
end Go.Q
namespace Go.Q
open Go.Proofs
set_option linter.unusedVariables false
set_option maxRecDepth 100000
def eqv45 (a0 : List UInt8) (a1 : List UInt8) (b0 : List UInt8) (b1 : List UInt8) : Bool := (decide (a0 = b0) && (decide (a1 = b1) && true))
theorem eqT45 (d : Nat) (w : World) (a0 : List UInt8) (a1 : List UInt8) (b0 : List UInt8) (b1 : List UInt8) : (Op.equalIn (d + 2) 45 (.agg #[(S a0), (S a1)]) (.agg #[(S b0), (S b1)])).run Tryd.prog w = .ok (eqv45 a0 a1 b0 b1) w := by
  rw [run_equalIn_struct w _ 45 _ _ (by kernel_rfl) (by kernel_rfl)]
  refine eqC_fields (m := [(9, 0, false), (9, 1, false)]) (by kernel_rfl) fun l hl => ?_
  obtain ⟨f0, l0, rfl, h0, hl⟩ := List.map_eq_cons_iff.1 hl
  refine eqC_cons (ft := 9) (fo := 0) (a := (S a0)) (b := (S b0)) h0 (part1 Tryd.underlying9 rfl (by kernel_rfl) w) (part1 Tryd.underlying9 rfl (by kernel_rfl) w) (eq_str Tryd.underlying9 (d + 0) _ _ w) ?_
  obtain ⟨f1, l1, rfl, h1, hl⟩ := List.map_eq_cons_iff.1 hl
  refine eqC_cons (ft := 9) (fo := 1) (a := (S a1)) (b := (S b1)) h1 (part1 Tryd.underlying9 rfl (by kernel_rfl) w) (part1 Tryd.underlying9 rfl (by kernel_rfl) w) (eq_str Tryd.underlying9 (d + 0) _ _ w) ?_
  obtain rfl := List.map_eq_nil_iff.1 hl
  exact eqC_nil
theorem o_eql45 {ρ : Operand → Value} {w : World} {K : Value → World → Prop} {dst : Option Tmp} {T : TypeId} {pos : String} {after : Array Edge} {g : Option (Nat × Bool)} {u : TypeId} {x y : Operand} (a0 : List UInt8) (a1 : List UInt8) (b0 : List UInt8) (b1 : List UInt8) (hx : ρ x = .agg #[(S a0), (S a1)]) (hy : ρ y = .agg #[(S b0), (S b1)]) (h : K (.bool ((eqv45 a0 a1 b0 b1))) w) :
    OK Tryd.prog ⟨dst, .binOp .eql 45 x y u, T, pos, after, g⟩ ρ w K :=
  o_eqx hx hy (run_eqGuard_agg w _ _ _ _ _ _ (by kernel_rfl)) rfl (eqT45 (9998) w a0 a1 b0 b1) h
theorem o_neq45 {ρ : Operand → Value} {w : World} {K : Value → World → Prop} {dst : Option Tmp} {T : TypeId} {pos : String} {after : Array Edge} {g : Option (Nat × Bool)} {u : TypeId} {x y : Operand} (a0 : List UInt8) (a1 : List UInt8) (b0 : List UInt8) (b1 : List UInt8) (hx : ρ x = .agg #[(S a0), (S a1)]) (hy : ρ y = .agg #[(S b0), (S b1)]) (h : K (.bool (!(eqv45 a0 a1 b0 b1))) w) :
    OK Tryd.prog ⟨dst, .binOp .neq 45 x y u, T, pos, after, g⟩ ρ w K :=
  o_nex hx hy (run_eqGuard_agg w _ _ _ _ _ _ (by kernel_rfl)) rfl (eqT45 (9998) w a0 a1 b0 b1) h
theorem eqv45_iff (a0 : List UInt8) (a1 : List UInt8) (b0 : List UInt8) (b1 : List UInt8) : eqv45 a0 a1 b0 b1 = true ↔ a0 = b0 ∧ a1 = b1 := by
  unfold eqv45; simp
theorem eqv45_dec (a0 : List UInt8) (a1 : List UInt8) (b0 : List UInt8) (b1 : List UInt8) : eqv45 a0 a1 b0 b1 = decide (a0 = b0 ∧ a1 = b1) := by rw [Bool.eq_iff_iff, eqv45_iff, decide_eq_true_iff]
def eqv29 (a0 : Bool) (a1 : List UInt8) (b0 : Bool) (b1 : List UInt8) : Bool := (decide (a0 = b0) && (decide (a1 = b1) && true))
theorem eqT29 (d : Nat) (w : World) (a0 : Bool) (a1 : List UInt8) (b0 : Bool) (b1 : List UInt8) : (Op.equalIn (d + 2) 29 (.agg #[(.bool a0), (S a1)]) (.agg #[(.bool b0), (S b1)])).run Tryd.prog w = .ok (eqv29 a0 a1 b0 b1) w := by
  rw [run_equalIn_struct w _ 29 _ _ (by kernel_rfl) (by kernel_rfl)]
  refine eqC_fields (m := [(4, 0, false), (9, 1, false)]) (by kernel_rfl) fun l hl => ?_
  obtain ⟨f0, l0, rfl, h0, hl⟩ := List.map_eq_cons_iff.1 hl
  refine eqC_cons (ft := 4) (fo := 0) (a := (.bool a0)) (b := (.bool b0)) h0 (part1 Tryd.underlying4 rfl (by kernel_rfl) w) (part1 Tryd.underlying4 rfl (by kernel_rfl) w) (eq_bool Tryd.underlying4 (d + 0) _ _ w) ?_
  obtain ⟨f1, l1, rfl, h1, hl⟩ := List.map_eq_cons_iff.1 hl
  refine eqC_cons (ft := 9) (fo := 1) (a := (S a1)) (b := (S b1)) h1 (part1 Tryd.underlying9 rfl (by kernel_rfl) w) (part1 Tryd.underlying9 rfl (by kernel_rfl) w) (eq_str Tryd.underlying9 (d + 0) _ _ w) ?_
  obtain rfl := List.map_eq_nil_iff.1 hl
  exact eqC_nil
theorem o_eql29 {ρ : Operand → Value} {w : World} {K : Value → World → Prop} {dst : Option Tmp} {T : TypeId} {pos : String} {after : Array Edge} {g : Option (Nat × Bool)} {u : TypeId} {x y : Operand} (a0 : Bool) (a1 : List UInt8) (b0 : Bool) (b1 : List UInt8) (hx : ρ x = .agg #[(.bool a0), (S a1)]) (hy : ρ y = .agg #[(.bool b0), (S b1)]) (h : K (.bool ((eqv29 a0 a1 b0 b1))) w) :
    OK Tryd.prog ⟨dst, .binOp .eql 29 x y u, T, pos, after, g⟩ ρ w K :=
  o_eqx hx hy (run_eqGuard_agg w _ _ _ _ _ _ (by kernel_rfl)) rfl (eqT29 (9998) w a0 a1 b0 b1) h
theorem o_neq29 {ρ : Operand → Value} {w : World} {K : Value → World → Prop} {dst : Option Tmp} {T : TypeId} {pos : String} {after : Array Edge} {g : Option (Nat × Bool)} {u : TypeId} {x y : Operand} (a0 : Bool) (a1 : List UInt8) (b0 : Bool) (b1 : List UInt8) (hx : ρ x = .agg #[(.bool a0), (S a1)]) (hy : ρ y = .agg #[(.bool b0), (S b1)]) (h : K (.bool (!(eqv29 a0 a1 b0 b1))) w) :
    OK Tryd.prog ⟨dst, .binOp .neq 29 x y u, T, pos, after, g⟩ ρ w K :=
  o_nex hx hy (run_eqGuard_agg w _ _ _ _ _ _ (by kernel_rfl)) rfl (eqT29 (9998) w a0 a1 b0 b1) h
theorem eqv29_iff (a0 : Bool) (a1 : List UInt8) (b0 : Bool) (b1 : List UInt8) : eqv29 a0 a1 b0 b1 = true ↔ a0 = b0 ∧ a1 = b1 := by
  unfold eqv29; simp
theorem eqv29_dec (a0 : Bool) (a1 : List UInt8) (b0 : Bool) (b1 : List UInt8) : eqv29 a0 a1 b0 b1 = decide (a0 = b0 ∧ a1 = b1) := by rw [Bool.eq_iff_iff, eqv29_iff, decide_eq_true_iff]
end Go.Q
namespace Go.Q
open Go.Proofs
set_option linter.unusedVariables false
set_option maxRecDepth 100000
attribute [local irreducible] wpList OK Code.wp
set_option maxHeartbeats 4000000 in
theorem cequal_c {E w : World} {R : List Hp} {v_l : Value} {l : List Cel} {v_m : Value} {m : List Cel}  (hH : Has E w [R]) (h_l : Sl R 2 v_l l.length (l.flatMap ceC)) (h_m : Sl R 2 v_m m.length (m.flatMap ceC)) :
    Calls Tryd.prog 37 #[v_l, v_m] w fun e w' => e = .returned (.bool (decide (l = m))) ∧ Has E w' [R] := by
  have hn_ := h_l.le
  have hm_ := h_m.le
  refine c_enter (args := [v_l, v_m]) Tryd.func37 rfl Tryd.ntmps37 (by simp) ?_
  refine wp_seq_k fun K1 hK1 => ?_
  refine c_region ?_
  refine s_op (o_assign (v := (.bool false)) rfl ?_)
  refine s_nil ?_
  refine t_norm (hK1 _ _ ?_)
  refine wp_seq_k fun K2 hK2 => ?_
  refine wp_seq_k fun K3 hK3 => ?_
  refine c_region ?_
  refine s_op (o_move (v := v_l) rfl ?_)
  refine s_op (o_lenS Tryd.underlying22 rfl h_l ?_)
  refine s_op (o_move (v := v_m) rfl ?_)
  refine s_op (o_lenS Tryd.underlying22 rfl h_m ?_)
  refine s_op (o_neq (a := ((l.length : Nat) : Int)) (b := ((m.length : Nat) : Int)) rfl rfl ?_)
  refine s_nil ?_
  refine t_norm (hK3 _ _ ?_)
  refine c_cond rfl (fun h4 => ?_) (fun h4 => ?_)
  · -- ((l.length : Nat) : Int) ≠ ((m.length : Nat) : Int)
    refine wp_seq_k fun K5 hK5 => ?_
    refine c_region ?_
    refine s_op (o_assign (v := (.bool false)) rfl ?_)
    refine s_nil ?_
    refine t_norm (hK5 _ _ ?_)
    refine wp_ret ?_
    refine t_ret (c_ret1 Tryd.results37  (v := (.bool false)) rfl ?_)
    have q6 : (decide (l = m)) = false := by rw [decide_eq_false (fun e_ => by subst e_; omega)]
    exact ⟨by rw [q6], hH⟩
  · -- not: ((l.length : Nat) : Int) ≠ ((m.length : Nat) : Int)
    refine wp_skip ?_
    refine t_norm (hK2 _ _ ?_)
    refine wp_seq_k fun K7 hK7 => ?_
    refine wp_seq_k fun K8 hK8 => ?_
    refine c_region ?_
    refine s_op (o_move (v := v_l) rfl ?_)
    refine s_op (o_lenS Tryd.underlying22 rfl h_l ?_)
    refine s_op (o_move (v := (.int .i64 0)) rfl ?_)
    refine s_nil ?_
    refine t_norm (hK8 _ _ ?_)
    refine wp_block ?_
    let I10 : Nat → (Nat → Value) → World → Prop := fun n__ r__ w__ => ∃ (k : Nat), n__ = l.length - k ∧ Has E w__ [R] ∧ (k ≤ l.length) ∧ (∀ j, j < k → l[j]? = m[j]?) ∧ r__ 0 = v_l ∧ r__ 1 = v_m ∧ r__ 10 = (.bool (decide (((l.length : Nat) : Int) ≠ ((m.length : Nat) : Int)))) ∧ r__ 12 = (.int .i64 ((l.length : Nat) : Int)) ∧ r__ 13 = (.int .i64 (k : Int))
    refine c_loop I10 _ ⟨0, rfl, hH, Nat.zero_le _, fun j hj => absurd hj (Nat.not_lt_zero j), rfl, rfl, rfl, rfl, rfl⟩ ?_
    rintro n_ r13 w11 ⟨k, rfl, hH12, hk, he, e9_0, e9_1, e9_10, e9_12, e9_13⟩
    refine wp_seq_k fun K14 hK14 => ?_
    refine c_region ?_
    refine s_op (o_lss (a := (k : Int)) (b := ((l.length : Nat) : Int)) e9_13 e9_12 ?_)
    refine s_nil ?_
    refine t_norm (hK14 _ _ ?_)
    refine wp_seq_k fun K15 hK15 => ?_
    refine c_cond rfl (fun h16 => ?_) (fun h16 => ?_)
    · -- (k : Int) < ((l.length : Nat) : Int)
      refine wp_skip ?_
      refine t_norm (hK15 _ _ ?_)
      refine wp_seq_k fun K17 hK17 => ?_
      refine wp_block ?_
      refine wp_seq_k fun K18 hK18 => ?_
      refine c_region ?_
      refine s_op (o_move (v := (.int .i64 (k : Int))) e9_13 ?_)
      refine s_op (o_assign (v := (.int .i64 (k : Int))) rfl ?_)
      refine s_nil ?_
      refine t_norm (hK18 _ _ ?_)
      refine wp_seq_k fun K19 hK19 => ?_
      refine Rest.region mixed (by kernel_rfl) ?_
      have hH20 : Has E { w11 with drawn := w11.drawn + 1 } [R] := Has0.drew hH12 _
      refine Rest.phaseA (fun w_ => Has E w_ [R]) 0 8 8 rfl (by decide) (by kernel_rfl) ?_
      refine a_op 0 rfl (by kernel_rfl) (fun w_ h_ => o_move (v := v_l) e9_0 ⟨rfl, rfl⟩) ?_
      refine a_op 1 rfl (by kernel_rfl) (fun w_ h_ => o_move (v := (.int .i64 (k : Int))) rfl ⟨rfl, rfl⟩) ?_
      obtain ⟨x24, hx25⟩ : ∃ x_, l[((k : Int)).toNat]? = some x_ := get_some (by omega)
      obtain ⟨b21, o22, hc23, ho26⟩ := ix_exF ceC_len Tryd.underlying22 ti45 h_l (by omega) hx25
      refine a_op 2 rfl (by kernel_rfl) (fun w_ h_ => ho26 rfl rfl ⟨rfl, rfl⟩) ?_
      refine a_op 3 rfl (by kernel_rfl) (fun w_ h_ => o_loadN (cs := [(S x24.1), (S x24.2)]) Tryd.underlying45 rfl ti45 rfl h_ (seg_sub 0 rfl) hc23 ⟨rfl, rfl⟩) ?_
      refine a_op 4 rfl (by kernel_rfl) (fun w_ h_ => o_move (v := v_m) e9_1 ⟨rfl, rfl⟩) ?_
      refine a_op 5 rfl (by kernel_rfl) (fun w_ h_ => o_move (v := (.int .i64 (k : Int))) rfl ⟨rfl, rfl⟩) ?_
      obtain ⟨x30, hx31⟩ : ∃ x_, m[((k : Int)).toNat]? = some x_ := get_some (by omega)
      obtain ⟨b27, o28, hc29, ho32⟩ := ix_exF ceC_len Tryd.underlying22 ti45 h_m (by omega) hx31
      refine a_op 6 rfl (by kernel_rfl) (fun w_ h_ => ho32 rfl rfl ⟨rfl, rfl⟩) ?_
      refine a_op 7 rfl (by kernel_rfl) (fun w_ h_ => o_loadN (cs := [(S x30.1), (S x30.2)]) Tryd.underlying45 rfl ti45 rfl h_ (seg_sub 0 rfl) hc29 ⟨rfl, rfl⟩) ?_
      refine a_done (by kernel_rfl) hH20 ?_
      refine r_op 8 rfl (by kernel_rfl) (o_neq45 x24.1 x24.2 x30.1 x30.2 rfl rfl ?_)
      refine Rest.done (by kernel_rfl) ?_
      refine t_norm (hK19 _ _ ?_)
      refine c_condb rfl (fun h33 => ?_) (fun h33 => ?_)
      · -- !(eqv45 x24.1 x24.2 x30.1 x30.2)
        have h33_n : (eqv45 x24.1 x24.2 x30.1 x30.2) = false := by simpa using h33
        refine wp_seq_k fun K34 hK34 => ?_
        refine c_region ?_
        refine s_op (o_assign (v := (.bool false)) rfl ?_)
        refine s_nil ?_
        refine t_norm (hK34 _ _ ?_)
        refine wp_ret ?_
        refine b_ret (t_ret (t_ret (b_ret (t_ret (c_ret1 Tryd.results37  (v := (.bool false)) rfl ?_)))))
        have q35 : (decide (l = m)) = false := by rw [decide_eq_false (same_not hx25 hx31 (fun e_ => by subst e_; exact absurd ((eqv45_iff _ _ _ _).2 ⟨rfl, rfl⟩) (by simpa using h33)))]
        exact ⟨by rw [q35], hH20⟩
      · -- not: !(eqv45 x24.1 x24.2 x30.1 x30.2)
        have h33_n : (eqv45 x24.1 x24.2 x30.1 x30.2) = true := by simpa using h33
        refine wp_skip ?_
        refine b_norm ?_
        refine t_norm (hK17 _ _ ?_)
        refine c_region ?_
        refine s_op (o_add (a := (k : Int)) (b := 1) e9_13 rfl (w64 (by omega) (by omega)) ?_)
        refine s_op (o_move (v := (.int .i64 ((k : Int) + 1))) rfl ?_)
        refine s_nil ?_
        refine t_norm ⟨l.length - (k + 1), _, rfl, ?_, ?_⟩
        · omega
        · exact ⟨(k + 1), rfl, hH20, (by omega), (same_next he (show l[k]? = some _ from hx25) (show m[k]? = some _ from hx31) (by have h_ := h33; have e_ := (eqv45_iff _ _ _ _).1 (by simpa using h_); exact Prod.ext e_.1 e_.2)), e9_0, e9_1, e9_10, e9_12, rfl⟩
    · -- not: (k : Int) < ((l.length : Nat) : Int)
      refine wp_exit ?_
      refine t_exit (t_exit (x_in (?_)))
      refine t_norm (hK7 _ _ ?_)
      refine wp_seq_k fun K36 hK36 => ?_
      refine c_region ?_
      refine s_op (o_assign (v := (.bool true)) rfl ?_)
      refine s_nil ?_
      refine t_norm (hK36 _ _ ?_)
      refine wp_ret ?_
      refine c_ret1 Tryd.results37  (v := (.bool true)) rfl ?_
      have q37 : (decide (l = m)) = true := by rw [decide_eq_true (same_all he (by omega) (by omega))]
      exact ⟨by rw [q37], hH12⟩
set_option maxHeartbeats 4000000 in
theorem psame_c {E w : World} {R : List Hp} {noa : Int} {gsna : Int} {v_la : Value} {la : List Cel} {nob : Int} {gsnb : Int} {v_lb : Value} {lb : List Cel}  (hH : Has E w [R]) (h_la : Sl R 2 v_la la.length (la.flatMap ceC)) (h_lb : Sl R 2 v_lb lb.length (lb.flatMap ceC)) :
    Calls Tryd.prog 12 #[(.agg #[(.int .i64 noa), (.int .i64 gsna), v_la]), (.agg #[(.int .i64 nob), (.int .i64 gsnb), v_lb])] w fun e w' => e = .returned (.bool (decide (noa = nob ∧ gsna = gsnb ∧ la = lb))) ∧ Has E w' [R] := by
  refine c_enter (args := [(.agg #[(.int .i64 noa), (.int .i64 gsna), v_la]), (.agg #[(.int .i64 nob), (.int .i64 gsnb), v_lb])]) Tryd.func12 rfl Tryd.ntmps12 (by simp) ?_
  refine wp_seq_k fun K1 hK1 => ?_
  refine c_region ?_
  refine s_op (o_box (cs := #[(.int .i64 noa), (.int .i64 gsna), v_la]) rfl rfl hH fun b2 w3 hH4 => ?_)
  refine s_op (o_box (cs := #[(.int .i64 nob), (.int .i64 gsnb), v_lb]) rfl rfl hH4 fun b5 w6 hH7 => ?_)
  refine s_op (o_assign (v := (.bool false)) rfl ?_)
  refine s_nil ?_
  refine t_norm (hK1 _ _ ?_)
  refine wp_seq_k fun K8 hK8 => ?_
  refine c_region ?_
  refine s_op (o_fieldAddr (k := 0) (fun _ => by kernel_rfl) rfl ?_)
  refine s_op (o_load1 (v := (.int .i64 noa)) Tryd.underlying3 rfl rfl hH7 (seg_sub 1 rfl) (CellsAt.one rfl) ?_)
  refine s_op (o_fieldAddr (k := 0) (fun _ => by kernel_rfl) rfl ?_)
  refine s_op (o_load1 (v := (.int .i64 nob)) Tryd.underlying3 rfl rfl hH7 (seg_sub 0 rfl) (CellsAt.one rfl) ?_)
  refine s_op (o_eql (a := noa) (b := nob) rfl rfl ?_)
  refine s_op (o_move (v := (.bool (decide (noa = nob)))) rfl ?_)
  by_cases h9 : noa = nob
  · -- noa = nob
    refine s_on 10 rfl (congrArg Value.bool (decide_eq_true h9)) (o_fieldAddr (k := 1) (fun _ => by kernel_rfl) rfl ?_)
    refine s_on 10 rfl (congrArg Value.bool (decide_eq_true h9)) (o_load1 (v := (.int .i64 gsna)) Tryd.underlying3 rfl rfl hH7 (seg_sub 1 rfl) (CellsAt.one rfl) ?_)
    refine s_on 10 rfl (congrArg Value.bool (decide_eq_true h9)) (o_fieldAddr (k := 1) (fun _ => by kernel_rfl) rfl ?_)
    refine s_on 10 rfl (congrArg Value.bool (decide_eq_true h9)) (o_load1 (v := (.int .i64 gsnb)) Tryd.underlying3 rfl rfl hH7 (seg_sub 0 rfl) (CellsAt.one rfl) ?_)
    refine s_on 10 rfl (congrArg Value.bool (decide_eq_true h9)) (o_eql (a := gsna) (b := gsnb) rfl rfl ?_)
    refine s_op (o_pick_t (u := (.bool (decide (gsna = gsnb)))) ((rfl : _ = _).trans (congrArg Value.bool (decide_eq_true h9))) rfl ?_)
    refine s_op (o_move (v := (.bool (decide (gsna = gsnb)))) rfl ?_)
    by_cases h10 : gsna = gsnb
    · -- gsna = gsnb
      refine s_on 17 rfl (congrArg Value.bool (decide_eq_true h10)) (o_fieldAddr (k := 2) (fun _ => by kernel_rfl) rfl ?_)
      refine s_on 17 rfl (congrArg Value.bool (decide_eq_true h10)) (o_load1 (v := v_la) Tryd.underlying22 rfl rfl hH7 (seg_sub 1 rfl) (CellsAt.one rfl) ?_)
      refine s_on 17 rfl (congrArg Value.bool (decide_eq_true h10)) (o_fieldAddr (k := 2) (fun _ => by kernel_rfl) rfl ?_)
      refine s_on 17 rfl (congrArg Value.bool (decide_eq_true h10)) (o_load1 (v := v_lb) Tryd.underlying22 rfl rfl hH7 (seg_sub 0 rfl) (CellsAt.one rfl) ?_)
      refine s_on 17 rfl (congrArg Value.bool (decide_eq_true h10)) (o_callf (vs := #[v_la, v_lb]) ca37 rfl (args2 rfl rfl) (cequal_c (l := la) (m := lb) hH7.all (h_la.mono (seg_sub 2 rfl)) (h_lb.mono (seg_sub 2 rfl))) ?_)
      rintro _ w13 ⟨rfl, hX11⟩
      refine ⟨_, rfl, ?_⟩
      have hH12 := hX11.of_all
      refine s_op (o_pick_t (u := (.bool (decide (la = lb)))) ((rfl : _ = _).trans (congrArg Value.bool (decide_eq_true h10))) rfl ?_)
      refine s_op (o_assign (v := (.bool (decide (la = lb)))) rfl ?_)
      refine s_nil ?_
      refine t_norm (hK8 _ _ ?_)
      refine wp_ret ?_
      refine c_ret1 Tryd.results12  (v := (.bool (decide (la = lb)))) rfl ?_
      have q14 : (decide (noa = nob ∧ gsna = gsnb ∧ la = lb)) = (decide (la = lb)) := by rw [Bool.eq_iff_iff]; simp [h9, h10]
      have hH15 : Has E w13 [R] := (hH12.front 2 rfl).first 1 rfl
      exact ⟨by rw [q14], hH15⟩
    · -- not: gsna = gsnb
      refine s_off (b' := false) 17 rfl (congrArg Value.bool (decide_eq_false h10)) rfl ?_
      refine s_off (b' := false) 17 rfl (congrArg Value.bool (decide_eq_false h10)) rfl ?_
      refine s_off (b' := false) 17 rfl (congrArg Value.bool (decide_eq_false h10)) rfl ?_
      refine s_off (b' := false) 17 rfl (congrArg Value.bool (decide_eq_false h10)) rfl ?_
      refine s_off (b' := false) 17 rfl (congrArg Value.bool (decide_eq_false h10)) rfl ?_
      refine s_op (o_pick_f (u := (.bool false)) ((rfl : _ = _).trans (congrArg Value.bool (decide_eq_false h10))) rfl ?_)
      refine s_op (o_assign (v := (.bool false)) rfl ?_)
      refine s_nil ?_
      refine t_norm (hK8 _ _ ?_)
      refine wp_ret ?_
      refine c_ret1 Tryd.results12  (v := (.bool false)) rfl ?_
      have q16 : (decide (noa = nob ∧ gsna = gsnb ∧ la = lb)) = false := by rw [Bool.eq_iff_iff]; simp [h9, h10]
      have hH17 : Has E w6 [R] := (hH7.front 2 rfl).first 1 rfl
      exact ⟨by rw [q16], hH17⟩
  · -- not: noa = nob
    refine s_off (b' := false) 10 rfl (congrArg Value.bool (decide_eq_false h9)) rfl ?_
    refine s_off (b' := false) 10 rfl (congrArg Value.bool (decide_eq_false h9)) rfl ?_
    refine s_off (b' := false) 10 rfl (congrArg Value.bool (decide_eq_false h9)) rfl ?_
    refine s_off (b' := false) 10 rfl (congrArg Value.bool (decide_eq_false h9)) rfl ?_
    refine s_off (b' := false) 10 rfl (congrArg Value.bool (decide_eq_false h9)) rfl ?_
    refine s_op (o_pick_f (u := (.bool false)) ((rfl : _ = _).trans (congrArg Value.bool (decide_eq_false h9))) rfl ?_)
    refine s_op (o_move (v := (.bool false)) rfl ?_)
    refine s_off (b' := false) 17 rfl rfl rfl ?_
    refine s_off (b' := false) 17 rfl rfl rfl ?_
    refine s_off (b' := false) 17 rfl rfl rfl ?_
    refine s_off (b' := false) 17 rfl rfl rfl ?_
    refine s_off (b' := false) 17 rfl rfl rfl ?_
    refine s_op (o_pick_f (u := (.bool false)) rfl rfl ?_)
    refine s_op (o_assign (v := (.bool false)) rfl ?_)
    refine s_nil ?_
    refine t_norm (hK8 _ _ ?_)
    refine wp_ret ?_
    refine c_ret1 Tryd.results12  (v := (.bool false)) rfl ?_
    have q18 : (decide (noa = nob ∧ gsna = gsnb ∧ la = lb)) = false := by rw [Bool.eq_iff_iff]; simp [h9]
    have hH19 : Has E w6 [R] := (hH7.front 2 rfl).first 1 rfl
    exact ⟨by rw [q18], hH19⟩
set_option maxHeartbeats 4000000 in
theorem rkey_c {E w : World} {R : List Hp} {k : Bs}  (hH : Has E w [R]) :
    Calls Tryd.prog 36 #[(S k)] w fun e w' => e = .returned (.bool (keyR k)) ∧ Has E w' [R] := by
  refine c_enter (args := [(S k)]) Tryd.func36 rfl Tryd.ntmps36 (by simp) ?_
  refine wp_seq_k fun K1 hK1 => ?_
  refine c_region ?_
  refine s_op (o_assign (v := (.bool false)) rfl ?_)
  refine s_nil ?_
  refine t_norm (hK1 _ _ ?_)
  refine wp_seq_k fun K2 hK2 => ?_
  refine c_region ?_
  refine s_op (o_move (v := (S k)) rfl ?_)
  refine s_op (o_slen Tryd.underlying9 rfl ?_)
  refine s_op (o_geq (a := (k.length : Int)) (b := 1) rfl rfl ?_)
  refine s_op (o_move (v := (.bool (decide (1 ≤ (k.length : Int))))) rfl ?_)
  by_cases h3 : 1 ≤ (k.length : Int)
  · -- 1 ≤ (k.length : Int)
    refine s_on 6 rfl (congrArg Value.bool (decide_eq_true h3)) (o_move (v := (S k)) rfl ?_)
    refine s_on 6 rfl (congrArg Value.bool (decide_eq_true h3)) (o_slen Tryd.underlying9 rfl ?_)
    refine s_on 6 rfl (congrArg Value.bool (decide_eq_true h3)) (o_leq (a := (k.length : Int)) (b := 8) rfl rfl ?_)
    refine s_op (o_pick_t (u := (.bool (decide ((k.length : Int) ≤ 8)))) ((rfl : _ = _).trans (congrArg Value.bool (decide_eq_true h3))) rfl ?_)
    refine s_op (o_assign (v := (.bool (decide ((k.length : Int) ≤ 8)))) rfl ?_)
    refine s_nil ?_
    refine t_norm (hK2 _ _ ?_)
    refine wp_ret ?_
    refine c_ret1 Tryd.results36  (v := (.bool (decide ((k.length : Int) ≤ 8)))) rfl ?_
    have q4 : (keyR k) = decide ((k.length : Int) ≤ 8) := by exact key_eq2 (by omega)
    exact ⟨by rw [q4], hH⟩
  · -- not: 1 ≤ (k.length : Int)
    refine s_off (b' := false) 6 rfl (congrArg Value.bool (decide_eq_false h3)) rfl ?_
    refine s_off (b' := false) 6 rfl (congrArg Value.bool (decide_eq_false h3)) rfl ?_
    refine s_off (b' := false) 6 rfl (congrArg Value.bool (decide_eq_false h3)) rfl ?_
    refine s_op (o_pick_f (u := (.bool false)) ((rfl : _ = _).trans (congrArg Value.bool (decide_eq_false h3))) rfl ?_)
    refine s_op (o_assign (v := (.bool false)) rfl ?_)
    refine s_nil ?_
    refine t_norm (hK2 _ _ ?_)
    refine wp_ret ?_
    refine c_ret1 Tryd.results36  (v := (.bool false)) rfl ?_
    have q5 : (keyR k) = false := by exact key_eq0 (by omega)
    exact ⟨by rw [q5], hH⟩
set_option maxHeartbeats 4000000 in
theorem rvalue_c {E w : World} {R : List Hp} {v : Bool × Bs}  (hH : Has E w [R]) :
    Calls Tryd.prog 45 #[(.agg #[(.bool v.1), (S v.2)])] w fun e w' => e = .returned (.bool (valR v)) ∧ Has E w' [R] := by
  refine c_enter (args := [(.agg #[(.bool v.1), (S v.2)])]) Tryd.func45 rfl Tryd.ntmps45 (by simp) ?_
  refine wp_seq_k fun K1 hK1 => ?_
  refine c_region ?_
  refine s_op (o_box (cs := #[(.bool v.1), (S v.2)]) rfl rfl hH fun b2 w3 hH4 => ?_)
  refine s_op (o_assign (v := (.bool false)) rfl ?_)
  refine s_nil ?_
  refine t_norm (hK1 _ _ ?_)
  refine wp_seq_k fun K5 hK5 => ?_
  refine c_region ?_
  refine s_op (o_fieldAddr (k := 1) (fun _ => by kernel_rfl) rfl ?_)
  refine s_op (o_load1 (v := (S v.2)) Tryd.underlying9 rfl rfl hH4 (seg_sub 0 rfl) (CellsAt.one rfl) ?_)
  refine s_op (o_slen Tryd.underlying9 rfl ?_)
  refine s_op (o_leq (a := (v.2.length : Int)) (b := 16) rfl rfl ?_)
  refine s_op (o_move (v := (.bool (decide ((v.2.length : Int) ≤ 16)))) rfl ?_)
  by_cases h6 : (v.2.length : Int) ≤ 16
  · -- (v.2.length : Int) ≤ 16
    refine s_on 7 rfl (congrArg Value.bool (decide_eq_true h6)) (o_fieldAddr (k := 0) (fun _ => by kernel_rfl) rfl ?_)
    refine s_on 7 rfl (congrArg Value.bool (decide_eq_true h6)) (o_load1 (v := (.bool v.1)) Tryd.underlying4 rfl rfl hH4 (seg_sub 0 rfl) (CellsAt.one rfl) ?_)
    refine s_on 7 rfl (congrArg Value.bool (decide_eq_true h6)) (o_move (v := (.bool v.1)) rfl ?_)
    rcases Bool.eq_false_or_eq_true v.1 with h7 | h7
    · -- v.1
      refine s_off (b' := true) 10 rfl (congrArg Value.bool h7) rfl ?_
      refine s_off (b' := true) 10 rfl (congrArg Value.bool h7) rfl ?_
      refine s_off (b' := true) 10 rfl (congrArg Value.bool h7) rfl ?_
      refine s_on 7 rfl (congrArg Value.bool (decide_eq_true h6)) (o_pick_t (u := (.bool true)) ((rfl : _ = _).trans (congrArg Value.bool h7)) rfl ?_)
      refine s_op (o_pick_t (u := (.bool true)) ((rfl : _ = _).trans (congrArg Value.bool (decide_eq_true h6))) rfl ?_)
      refine s_op (o_assign (v := (.bool true)) rfl ?_)
      refine s_nil ?_
      refine t_norm (hK5 _ _ ?_)
      refine wp_ret ?_
      refine c_ret1 Tryd.results45  (v := (.bool true)) rfl ?_
      have q8 : (valR v) = true := by unfold valR; simp [h6, h7]
      have hH9 : Has E w3 [R] := (hH4.front 1 rfl).first 1 rfl
      exact ⟨by rw [q8], hH9⟩
    · -- not: v.1
      refine s_on 10 rfl (congrArg Value.bool h7) (o_fieldAddr (k := 1) (fun _ => by kernel_rfl) rfl ?_)
      refine s_on 10 rfl (congrArg Value.bool h7) (o_load1 (v := (S v.2)) Tryd.underlying9 rfl rfl hH4 (seg_sub 0 rfl) (CellsAt.one rfl) ?_)
      refine s_on 10 rfl (congrArg Value.bool h7) (o_seql (a := v.2) (b := ([] : List UInt8)) rfl rfl ?_)
      refine s_on 7 rfl (congrArg Value.bool (decide_eq_true h6)) (o_pick_f (u := (.bool (decide (v.2 = ([] : List UInt8))))) ((rfl : _ = _).trans (congrArg Value.bool h7)) rfl ?_)
      refine s_op (o_pick_t (u := (.bool (decide (v.2 = ([] : List UInt8))))) ((rfl : _ = _).trans (congrArg Value.bool (decide_eq_true h6))) rfl ?_)
      refine s_op (o_assign (v := (.bool (decide (v.2 = ([] : List UInt8))))) rfl ?_)
      refine s_nil ?_
      refine t_norm (hK5 _ _ ?_)
      refine wp_ret ?_
      refine c_ret1 Tryd.results45  (v := (.bool (decide (v.2 = ([] : List UInt8))))) rfl ?_
      have q10 : (valR v) = decide (v.2 = ([] : List UInt8)) := by unfold valR; simp [h6, h7]
      have hH11 : Has E w3 [R] := (hH4.front 1 rfl).first 1 rfl
      exact ⟨by rw [q10], hH11⟩
  · -- not: (v.2.length : Int) ≤ 16
    refine s_off (b' := false) 7 rfl (congrArg Value.bool (decide_eq_false h6)) rfl ?_
    refine s_off (b' := false) 7 rfl (congrArg Value.bool (decide_eq_false h6)) rfl ?_
    refine s_off (b' := false) 7 rfl (congrArg Value.bool (decide_eq_false h6)) rfl ?_
    refine s_offu 10 rfl rfl ?_
    refine s_offu 10 rfl rfl ?_
    refine s_offu 10 rfl rfl ?_
    refine s_off (b' := false) 7 rfl (congrArg Value.bool (decide_eq_false h6)) rfl ?_
    refine s_op (o_pick_f (u := (.bool false)) ((rfl : _ = _).trans (congrArg Value.bool (decide_eq_false h6))) rfl ?_)
    refine s_op (o_assign (v := (.bool false)) rfl ?_)
    refine s_nil ?_
    refine t_norm (hK5 _ _ ?_)
    refine wp_ret ?_
    refine c_ret1 Tryd.results45  (v := (.bool false)) rfl ?_
    have q12 : (valR v) = false := by unfold valR; simp [h6]
    have hH13 : Has E w3 [R] := (hH4.front 1 rfl).first 1 rfl
    exact ⟨by rw [q12], hH13⟩
set_option maxHeartbeats 4000000 in
theorem r11right_c {E w : World} {R : List Hp} {no : Int} {gsn : Int} {v_l : Value} {l : List Cel}  (hH : Has E w [R]) (h_l : Sl R 2 v_l l.length (l.flatMap ceC)) :
    Calls Tryd.prog 11 #[(.agg #[(.int .i64 no), (.int .i64 gsn), v_l])] w fun e w' => e = .returned (.bool (pageR no gsn l)) ∧ Has E w' [R] := by
  have hn_ := h_l.le
  refine c_enter (args := [(.agg #[(.int .i64 no), (.int .i64 gsn), v_l])]) Tryd.func11 rfl Tryd.ntmps11 (by simp) ?_
  refine wp_seq_k fun K1 hK1 => ?_
  refine c_region ?_
  refine s_op (o_box (cs := #[(.int .i64 no), (.int .i64 gsn), v_l]) rfl rfl hH fun b2 w3 hH4 => ?_)
  refine s_op (o_assign (v := (.bool false)) rfl ?_)
  refine s_nil ?_
  refine t_norm (hK1 _ _ ?_)
  refine wp_seq_k fun K5 hK5 => ?_
  refine wp_seq_k fun K6 hK6 => ?_
  refine c_region ?_
  refine s_op (o_fieldAddr (k := 0) (fun _ => by kernel_rfl) rfl ?_)
  refine s_op (o_load1 (v := (.int .i64 no)) Tryd.underlying3 rfl rfl hH4 (seg_sub 0 rfl) (CellsAt.one rfl) ?_)
  refine s_op (o_lss (a := no) (b := 0) rfl rfl ?_)
  refine s_op (o_move (v := (.bool (decide (no < 0)))) rfl ?_)
  by_cases h7 : no < 0
  · -- no < 0
    refine s_off (b' := true) 7 rfl (congrArg Value.bool (decide_eq_true h7)) rfl ?_
    refine s_off (b' := true) 7 rfl (congrArg Value.bool (decide_eq_true h7)) rfl ?_
    refine s_off (b' := true) 7 rfl (congrArg Value.bool (decide_eq_true h7)) rfl ?_
    refine s_op (o_pick_t (u := (.bool true)) ((rfl : _ = _).trans (congrArg Value.bool (decide_eq_true h7))) rfl ?_)
    refine s_op (o_move (v := (.bool true)) rfl ?_)
    refine s_off (b' := true) 12 rfl rfl rfl ?_
    refine s_off (b' := true) 12 rfl rfl rfl ?_
    refine s_off (b' := true) 12 rfl rfl rfl ?_
    refine s_op (o_pick_t (u := (.bool true)) rfl rfl ?_)
    refine s_op (o_move (v := (.bool true)) rfl ?_)
    refine s_off (b' := true) 17 rfl rfl rfl ?_
    refine s_off (b' := true) 17 rfl rfl rfl ?_
    refine s_off (b' := true) 17 rfl rfl rfl ?_
    refine s_op (o_pick_t (u := (.bool true)) rfl rfl ?_)
    refine s_op (o_move (v := (.bool true)) rfl ?_)
    refine s_off (b' := true) 22 rfl rfl rfl ?_
    refine s_off (b' := true) 22 rfl rfl rfl ?_
    refine s_off (b' := true) 22 rfl rfl rfl ?_
    refine s_off (b' := true) 22 rfl rfl rfl ?_
    refine s_op (o_pick_t (u := (.bool true)) rfl rfl ?_)
    refine s_nil ?_
    refine t_norm (hK6 _ _ ?_)
    refine c_true rfl rfl ?_
    refine wp_seq_k fun K8 hK8 => ?_
    refine c_region ?_
    refine s_op (o_assign (v := (.bool false)) rfl ?_)
    refine s_nil ?_
    refine t_norm (hK8 _ _ ?_)
    refine wp_ret ?_
    refine t_ret (c_ret1 Tryd.results11  (v := (.bool false)) rfl ?_)
    have q9 : (pageR no gsn l) = false := by exact pageR_no (by first | exact .inl (by omega) | exact .inr (by omega))
    have hH10 : Has E w3 [R] := (hH4.front 1 rfl).first 1 rfl
    exact ⟨by rw [q9], hH10⟩
  · -- not: no < 0
    refine s_on 7 rfl (congrArg Value.bool (decide_eq_false h7)) (o_fieldAddr (k := 0) (fun _ => by kernel_rfl) rfl ?_)
    refine s_on 7 rfl (congrArg Value.bool (decide_eq_false h7)) (o_load1 (v := (.int .i64 no)) Tryd.underlying3 rfl rfl hH4 (seg_sub 0 rfl) (CellsAt.one rfl) ?_)
    refine s_on 7 rfl (congrArg Value.bool (decide_eq_false h7)) (o_gtr (a := no) (b := 63) rfl rfl ?_)
    refine s_op (o_pick_f (u := (.bool (decide (63 < no)))) ((rfl : _ = _).trans (congrArg Value.bool (decide_eq_false h7))) rfl ?_)
    refine s_op (o_move (v := (.bool (decide (63 < no)))) rfl ?_)
    by_cases h11 : 63 < no
    · -- 63 < no
      refine s_off (b' := true) 12 rfl (congrArg Value.bool (decide_eq_true h11)) rfl ?_
      refine s_off (b' := true) 12 rfl (congrArg Value.bool (decide_eq_true h11)) rfl ?_
      refine s_off (b' := true) 12 rfl (congrArg Value.bool (decide_eq_true h11)) rfl ?_
      refine s_op (o_pick_t (u := (.bool true)) ((rfl : _ = _).trans (congrArg Value.bool (decide_eq_true h11))) rfl ?_)
      refine s_op (o_move (v := (.bool true)) rfl ?_)
      refine s_off (b' := true) 17 rfl rfl rfl ?_
      refine s_off (b' := true) 17 rfl rfl rfl ?_
      refine s_off (b' := true) 17 rfl rfl rfl ?_
      refine s_op (o_pick_t (u := (.bool true)) rfl rfl ?_)
      refine s_op (o_move (v := (.bool true)) rfl ?_)
      refine s_off (b' := true) 22 rfl rfl rfl ?_
      refine s_off (b' := true) 22 rfl rfl rfl ?_
      refine s_off (b' := true) 22 rfl rfl rfl ?_
      refine s_off (b' := true) 22 rfl rfl rfl ?_
      refine s_op (o_pick_t (u := (.bool true)) rfl rfl ?_)
      refine s_nil ?_
      refine t_norm (hK6 _ _ ?_)
      refine c_true rfl rfl ?_
      refine wp_seq_k fun K12 hK12 => ?_
      refine c_region ?_
      refine s_op (o_assign (v := (.bool false)) rfl ?_)
      refine s_nil ?_
      refine t_norm (hK12 _ _ ?_)
      refine wp_ret ?_
      refine t_ret (c_ret1 Tryd.results11  (v := (.bool false)) rfl ?_)
      have q13 : (pageR no gsn l) = false := by exact pageR_no (by first | exact .inl (by omega) | exact .inr (by omega))
      have hH14 : Has E w3 [R] := (hH4.front 1 rfl).first 1 rfl
      exact ⟨by rw [q13], hH14⟩
    · -- not: 63 < no
      refine s_on 12 rfl (congrArg Value.bool (decide_eq_false h11)) (o_fieldAddr (k := 1) (fun _ => by kernel_rfl) rfl ?_)
      refine s_on 12 rfl (congrArg Value.bool (decide_eq_false h11)) (o_load1 (v := (.int .i64 gsn)) Tryd.underlying3 rfl rfl hH4 (seg_sub 0 rfl) (CellsAt.one rfl) ?_)
      refine s_on 12 rfl (congrArg Value.bool (decide_eq_false h11)) (o_lss (a := gsn) (b := 0) rfl rfl ?_)
      refine s_op (o_pick_f (u := (.bool (decide (gsn < 0)))) ((rfl : _ = _).trans (congrArg Value.bool (decide_eq_false h11))) rfl ?_)
      refine s_op (o_move (v := (.bool (decide (gsn < 0)))) rfl ?_)
      by_cases h15 : gsn < 0
      · -- gsn < 0
        refine s_off (b' := true) 17 rfl (congrArg Value.bool (decide_eq_true h15)) rfl ?_
        refine s_off (b' := true) 17 rfl (congrArg Value.bool (decide_eq_true h15)) rfl ?_
        refine s_off (b' := true) 17 rfl (congrArg Value.bool (decide_eq_true h15)) rfl ?_
        refine s_op (o_pick_t (u := (.bool true)) ((rfl : _ = _).trans (congrArg Value.bool (decide_eq_true h15))) rfl ?_)
        refine s_op (o_move (v := (.bool true)) rfl ?_)
        refine s_off (b' := true) 22 rfl rfl rfl ?_
        refine s_off (b' := true) 22 rfl rfl rfl ?_
        refine s_off (b' := true) 22 rfl rfl rfl ?_
        refine s_off (b' := true) 22 rfl rfl rfl ?_
        refine s_op (o_pick_t (u := (.bool true)) rfl rfl ?_)
        refine s_nil ?_
        refine t_norm (hK6 _ _ ?_)
        refine c_true rfl rfl ?_
        refine wp_seq_k fun K16 hK16 => ?_
        refine c_region ?_
        refine s_op (o_assign (v := (.bool false)) rfl ?_)
        refine s_nil ?_
        refine t_norm (hK16 _ _ ?_)
        refine wp_ret ?_
        refine t_ret (c_ret1 Tryd.results11  (v := (.bool false)) rfl ?_)
        have q17 : (pageR no gsn l) = false := by exact pageR_no (by first | exact .inl (by omega) | exact .inr (by omega))
        have hH18 : Has E w3 [R] := (hH4.front 1 rfl).first 1 rfl
        exact ⟨by rw [q17], hH18⟩
      · -- not: gsn < 0
        refine s_on 17 rfl (congrArg Value.bool (decide_eq_false h15)) (o_fieldAddr (k := 1) (fun _ => by kernel_rfl) rfl ?_)
        refine s_on 17 rfl (congrArg Value.bool (decide_eq_false h15)) (o_load1 (v := (.int .i64 gsn)) Tryd.underlying3 rfl rfl hH4 (seg_sub 0 rfl) (CellsAt.one rfl) ?_)
        refine s_on 17 rfl (congrArg Value.bool (decide_eq_false h15)) (o_geq (a := gsn) (b := 4611686018427387904) rfl rfl ?_)
        refine s_op (o_pick_f (u := (.bool (decide (4611686018427387904 ≤ gsn)))) ((rfl : _ = _).trans (congrArg Value.bool (decide_eq_false h15))) rfl ?_)
        refine s_op (o_move (v := (.bool (decide (4611686018427387904 ≤ gsn)))) rfl ?_)
        by_cases h19 : 4611686018427387904 ≤ gsn
        · -- 4611686018427387904 ≤ gsn
          refine s_off (b' := true) 22 rfl (congrArg Value.bool (decide_eq_true h19)) rfl ?_
          refine s_off (b' := true) 22 rfl (congrArg Value.bool (decide_eq_true h19)) rfl ?_
          refine s_off (b' := true) 22 rfl (congrArg Value.bool (decide_eq_true h19)) rfl ?_
          refine s_off (b' := true) 22 rfl (congrArg Value.bool (decide_eq_true h19)) rfl ?_
          refine s_op (o_pick_t (u := (.bool true)) ((rfl : _ = _).trans (congrArg Value.bool (decide_eq_true h19))) rfl ?_)
          refine s_nil ?_
          refine t_norm (hK6 _ _ ?_)
          refine c_true rfl rfl ?_
          refine wp_seq_k fun K20 hK20 => ?_
          refine c_region ?_
          refine s_op (o_assign (v := (.bool false)) rfl ?_)
          refine s_nil ?_
          refine t_norm (hK20 _ _ ?_)
          refine wp_ret ?_
          refine t_ret (c_ret1 Tryd.results11  (v := (.bool false)) rfl ?_)
          have q21 : (pageR no gsn l) = false := by exact pageR_no (by first | exact .inl (by omega) | exact .inr (by omega))
          have hH22 : Has E w3 [R] := (hH4.front 1 rfl).first 1 rfl
          exact ⟨by rw [q21], hH22⟩
        · -- not: 4611686018427387904 ≤ gsn
          refine s_on 22 rfl (congrArg Value.bool (decide_eq_false h19)) (o_fieldAddr (k := 2) (fun _ => by kernel_rfl) rfl ?_)
          refine s_on 22 rfl (congrArg Value.bool (decide_eq_false h19)) (o_load1 (v := v_l) Tryd.underlying22 rfl rfl hH4 (seg_sub 0 rfl) (CellsAt.one rfl) ?_)
          refine s_on 22 rfl (congrArg Value.bool (decide_eq_false h19)) (o_lenS Tryd.underlying22 rfl h_l ?_)
          refine s_on 22 rfl (congrArg Value.bool (decide_eq_false h19)) (o_gtr (a := ((l.length : Nat) : Int)) (b := 8) rfl rfl ?_)
          refine s_op (o_pick_f (u := (.bool (decide (8 < ((l.length : Nat) : Int))))) ((rfl : _ = _).trans (congrArg Value.bool (decide_eq_false h19))) rfl ?_)
          refine s_nil ?_
          refine t_norm (hK6 _ _ ?_)
          refine c_cond rfl (fun h23 => ?_) (fun h23 => ?_)
          · -- 8 < ((l.length : Nat) : Int)
            refine wp_seq_k fun K24 hK24 => ?_
            refine c_region ?_
            refine s_op (o_assign (v := (.bool false)) rfl ?_)
            refine s_nil ?_
            refine t_norm (hK24 _ _ ?_)
            refine wp_ret ?_
            refine t_ret (c_ret1 Tryd.results11  (v := (.bool false)) rfl ?_)
            have q25 : (pageR no gsn l) = false := by exact pageR_no (by first | exact .inl (by omega) | exact .inr (by omega))
            have hH26 : Has E w3 [R] := (hH4.front 1 rfl).first 1 rfl
            exact ⟨by rw [q25], hH26⟩
          · -- not: 8 < ((l.length : Nat) : Int)
            refine wp_skip ?_
            refine t_norm (hK5 _ _ ?_)
            refine wp_seq_k fun K27 hK27 => ?_
            refine wp_seq_k fun K28 hK28 => ?_
            refine c_region ?_
            refine s_op (o_assign (v := (.int .i64 0)) rfl ?_)
            refine s_nil ?_
            refine t_norm (hK28 _ _ ?_)
            refine wp_block ?_
            let I30 : Nat → (Nat → Value) → World → Prop := fun n__ r__ w__ => ∃ (k : Nat), n__ = l.length - k ∧ Has E w__ [[Hp.one b2 (.cells #[(.int .i64 no), (.int .i64 gsn), v_l] 24 (0, 0))], R] ∧ (k ≤ l.length) ∧ ((l.take k).all celOk = true) ∧ (Rises (l.take k)) ∧ r__ 0 = (.agg #[(.int .i64 no), (.int .i64 gsn), v_l]) ∧ r__ 1 = (.pointer (some ⟨b2, 0, none⟩)) ∧ r__ 3 = (.int .i64 (k : Int)) ∧ r__ 27 = (.bool (decide (8 < ((l.length : Nat) : Int))))
            refine c_loop I30 _ ⟨0, rfl, hH4, Nat.zero_le _, rfl, List.Pairwise.nil, rfl, rfl, rfl, rfl⟩ ?_
            rintro n_ r33 w31 ⟨k, rfl, hH32, hk, ha, hr, e29_0, e29_1, e29_3, e29_27⟩
            refine wp_seq_k fun K34 hK34 => ?_
            refine wp_seq_k fun K35 hK35 => ?_
            refine c_region ?_
            refine s_op (o_move (v := (.int .i64 (k : Int))) e29_3 ?_)
            refine s_op (o_fieldAddr (k := 2) (fun _ => by kernel_rfl) e29_1 ?_)
            refine s_op (o_load1 (v := v_l) Tryd.underlying22 rfl rfl hH32 (seg_sub 0 rfl) (CellsAt.one rfl) ?_)
            refine s_op (o_lenS Tryd.underlying22 rfl h_l ?_)
            refine s_op (o_lss (a := (k : Int)) (b := ((l.length : Nat) : Int)) rfl rfl ?_)
            refine s_nil ?_
            refine t_norm (hK35 _ _ ?_)
            refine c_cond rfl (fun h36 => ?_) (fun h36 => ?_)
            · -- (k : Int) < ((l.length : Nat) : Int)
              refine wp_skip ?_
              refine t_norm (hK34 _ _ ?_)
              refine wp_seq_k fun K37 hK37 => ?_
              refine wp_block ?_
              refine wp_seq_k fun K38 hK38 => ?_
              refine Rest.region mixed (by kernel_rfl) ?_
              have hH39 : Has E { w31 with drawn := w31.drawn + 1 } [[Hp.one b2 (.cells #[(.int .i64 no), (.int .i64 gsn), v_l] 24 (0, 0))], R] := Has0.drew hH32 _
              refine Rest.phaseA (fun w_ => Has E w_ [[Hp.one b2 (.cells #[(.int .i64 no), (.int .i64 gsn), v_l] 24 (0, 0))]]) 0 3 3 rfl (by decide) (by kernel_rfl) ?_
              refine a_op 0 rfl (by kernel_rfl) (fun w_ h_ => o_fieldAddr (k := 2) (fun _ => by kernel_rfl) e29_1 ⟨rfl, rfl⟩) ?_
              refine a_op 1 rfl (by kernel_rfl) (fun w_ h_ => o_load1 (v := v_l) Tryd.underlying22 rfl rfl h_ (seg_sub 0 rfl) (CellsAt.one rfl) ⟨rfl, rfl⟩) ?_
              refine a_op 2 rfl (by kernel_rfl) (fun w_ h_ => o_move (v := (.int .i64 (k : Int))) e29_3 ⟨rfl, rfl⟩) ?_
              have hH40 : Has E { w31 with drawn := w31.drawn + 1 } [[Hp.one b2 (.cells #[(.int .i64 no), (.int .i64 gsn), v_l] 24 (0, 0))]] := hH39.first 1 rfl
              refine a_done (by kernel_rfl) hH40 ?_
              obtain ⟨x44, hx45⟩ : ∃ x_, l[((k : Int)).toNat]? = some x_ := get_some (by omega)
              refine r_op 3 rfl (by kernel_rfl) (o_indexF ceC_len Tryd.underlying22 ti45 rfl h_l rfl rfl (by omega) hx45 fun b41 o42 hc43 => ?_)
              refine r_op 4 rfl (by kernel_rfl) (o_fieldAddr (k := o42) (fun _ => by kernel_rfl) rfl ?_)
              refine r_op 5 rfl (by kernel_rfl) (o_load1 (v := (S x44.1)) Tryd.underlying9 rfl rfl hH39 (seg_sub 1 rfl) (CellsAt.field (k := 0) (ds := [(S x44.1)]) hc43 rfl) ?_)
              refine r_op 6 rfl (by kernel_rfl) (o_callf (vs := #[(S x44.1)]) ca36 rfl (args1 rfl) (rkey_c (k := x44.1) hH39.all ) ?_)
              rintro _ w48 ⟨rfl, hX46⟩
              refine ⟨_, rfl, ?_⟩
              have hH47 := hX46.of_all
              refine r_op 7 rfl (by kernel_rfl) (o_not rfl ?_)
              refine r_op 8 rfl (by kernel_rfl) (o_move (v := (.bool (!(keyR x44.1)))) rfl ?_)
              refine Rest.phaseA (fun w_ => Has E w_ [[Hp.one b2 (.cells #[(.int .i64 no), (.int .i64 gsn), v_l] 24 (0, 0))]]) 9 12 3 rfl (by decide) (by kernel_rfl) ?_
              rcases Bool.eq_false_or_eq_true (!(keyR x44.1)) with h49 | h49
              · -- !(keyR x44.1)
                refine a_off (b' := true) 9 rfl (by kernel_rfl) 43 rfl (congrArg Value.bool h49) rfl ?_
                refine a_off (b' := true) 10 rfl (by kernel_rfl) 43 rfl (congrArg Value.bool h49) rfl ?_
                refine a_off (b' := true) 11 rfl (by kernel_rfl) 43 rfl (congrArg Value.bool h49) rfl ?_
                have hH50 : Has E w48 [[Hp.one b2 (.cells #[(.int .i64 no), (.int .i64 gsn), v_l] 24 (0, 0))]] := hH47.first 1 rfl
                refine a_done (by kernel_rfl) hH50 ?_
                refine r_off (b' := true) 12 rfl (by kernel_rfl) 43 rfl (congrArg Value.bool h49) rfl ?_
                refine r_off (b' := true) 13 rfl (by kernel_rfl) 43 rfl (congrArg Value.bool h49) rfl ?_
                refine r_off (b' := true) 14 rfl (by kernel_rfl) 43 rfl (congrArg Value.bool h49) rfl ?_
                refine r_off (b' := true) 15 rfl (by kernel_rfl) 43 rfl (congrArg Value.bool h49) rfl ?_
                refine r_off (b' := true) 16 rfl (by kernel_rfl) 43 rfl (congrArg Value.bool h49) rfl ?_
                refine r_op 17 rfl (by kernel_rfl) (o_pick_t (u := (.bool true)) ((rfl : _ = _).trans (congrArg Value.bool h49)) rfl ?_)
                refine r_op 18 rfl (by kernel_rfl) (o_move (v := (.bool true)) rfl ?_)
                refine r_off (b' := true) 19 rfl (by kernel_rfl) 53 rfl rfl rfl ?_
                refine r_off (b' := true) 20 rfl (by kernel_rfl) 53 rfl rfl rfl ?_
                refine r_off (b' := true) 21 rfl (by kernel_rfl) 53 rfl rfl rfl ?_
                refine Rest.phaseA (fun w_ => Has E w_ []) 22 35 13 rfl (by decide) (by kernel_rfl) ?_
                refine a_offu 22 rfl (by kernel_rfl) 56 rfl rfl ?_
                refine a_offu 23 rfl (by kernel_rfl) 56 rfl rfl ?_
                refine a_offu 24 rfl (by kernel_rfl) 56 rfl rfl ?_
                refine a_offu 25 rfl (by kernel_rfl) 56 rfl rfl ?_
                refine a_offu 26 rfl (by kernel_rfl) 56 rfl rfl ?_
                refine a_offu 27 rfl (by kernel_rfl) 56 rfl rfl ?_
                refine a_offu 28 rfl (by kernel_rfl) 56 rfl rfl ?_
                refine a_offu 29 rfl (by kernel_rfl) 56 rfl rfl ?_
                refine a_offu 30 rfl (by kernel_rfl) 56 rfl rfl ?_
                refine a_offu 31 rfl (by kernel_rfl) 56 rfl rfl ?_
                refine a_offu 32 rfl (by kernel_rfl) 56 rfl rfl ?_
                refine a_offu 33 rfl (by kernel_rfl) 56 rfl rfl ?_
                refine a_offu 34 rfl (by kernel_rfl) 56 rfl rfl ?_
                have hH51 : Has E w48 [] := hH47.first 0 rfl
                refine a_done (by kernel_rfl) hH51 ?_
                refine r_offu 35 rfl (by kernel_rfl) 56 rfl rfl ?_
                refine r_off (b' := true) 36 rfl (by kernel_rfl) 53 rfl rfl rfl ?_
                refine r_op 37 rfl (by kernel_rfl) (o_pick_t (u := (.bool true)) rfl rfl ?_)
                refine Rest.done (by kernel_rfl) ?_
                refine t_norm (hK38 _ _ ?_)
                refine c_true rfl rfl ?_
                refine wp_seq_k fun K52 hK52 => ?_
                refine c_region ?_
                refine s_op (o_assign (v := (.bool false)) rfl ?_)
                refine s_nil ?_
                refine t_norm (hK52 _ _ ?_)
                refine wp_ret ?_
                refine b_ret (t_ret (t_ret (b_ret (t_ret (c_ret1 Tryd.results11  (v := (.bool false)) rfl ?_)))))
                have q53 : (pageR no gsn l) = false := by exact pageR_nc (cells_no1 hx45 (by simp only [celOk]; rw [show keyR x44.1 = false by simpa using h49]; rfl))
                have hH54 : Has E w48 [R] := (hH47.front 1 rfl).first 1 rfl
                exact ⟨by rw [q53], hH54⟩
              · -- not: !(keyR x44.1)
                refine a_on 9 rfl (by kernel_rfl) 43 rfl (congrArg Value.bool h49) (fun w_ h_ => o_fieldAddr (k := 2) (fun _ => by kernel_rfl) e29_1 ⟨rfl, rfl⟩) ?_
                refine a_on 10 rfl (by kernel_rfl) 43 rfl (congrArg Value.bool h49) (fun w_ h_ => o_load1 (v := v_l) Tryd.underlying22 rfl rfl h_ (seg_sub 0 rfl) (CellsAt.one rfl) ⟨rfl, rfl⟩) ?_
                refine a_on 11 rfl (by kernel_rfl) 43 rfl (congrArg Value.bool h49) (fun w_ h_ => o_move (v := (.int .i64 (k : Int))) e29_3 ⟨rfl, rfl⟩) ?_
                have hH55 : Has E w48 [[Hp.one b2 (.cells #[(.int .i64 no), (.int .i64 gsn), v_l] 24 (0, 0))]] := hH47.first 1 rfl
                refine a_done (by kernel_rfl) hH55 ?_
                refine r_on 12 rfl (by kernel_rfl) 43 rfl (congrArg Value.bool h49) (o_indexF ceC_len Tryd.underlying22 ti45 rfl h_l rfl rfl (by omega) hx45 fun b56 o57 hc58 => ?_)
                refine r_on 13 rfl (by kernel_rfl) 43 rfl (congrArg Value.bool h49) (o_fieldAddr (k := o57 + 1) (fun _ => by kernel_rfl) rfl ?_)
                refine r_on 14 rfl (by kernel_rfl) 43 rfl (congrArg Value.bool h49) (o_load1 (v := (S x44.2)) Tryd.underlying9 rfl rfl hH47 (seg_sub 1 rfl) (CellsAt.field (k := 1) (ds := [(S x44.2)]) hc58 rfl) ?_)
                refine r_on 15 rfl (by kernel_rfl) 43 rfl (congrArg Value.bool h49) (o_slen Tryd.underlying9 rfl ?_)
                refine r_on 16 rfl (by kernel_rfl) 43 rfl (congrArg Value.bool h49) (o_gtr (a := (x44.2.length : Int)) (b := 16) rfl rfl ?_)
                refine r_op 17 rfl (by kernel_rfl) (o_pick_f (u := (.bool (decide (16 < (x44.2.length : Int))))) ((rfl : _ = _).trans (congrArg Value.bool h49)) rfl ?_)
                refine r_op 18 rfl (by kernel_rfl) (o_move (v := (.bool (decide (16 < (x44.2.length : Int))))) rfl ?_)
                by_cases h59 : 16 < (x44.2.length : Int)
                · -- 16 < (x44.2.length : Int)
                  refine r_off (b' := true) 19 rfl (by kernel_rfl) 53 rfl (congrArg Value.bool (decide_eq_true h59)) rfl ?_
                  refine r_off (b' := true) 20 rfl (by kernel_rfl) 53 rfl (congrArg Value.bool (decide_eq_true h59)) rfl ?_
                  refine r_off (b' := true) 21 rfl (by kernel_rfl) 53 rfl (congrArg Value.bool (decide_eq_true h59)) rfl ?_
                  refine Rest.phaseA (fun w_ => Has E w_ []) 22 35 13 rfl (by decide) (by kernel_rfl) ?_
                  refine a_offu 22 rfl (by kernel_rfl) 56 rfl rfl ?_
                  refine a_offu 23 rfl (by kernel_rfl) 56 rfl rfl ?_
                  refine a_offu 24 rfl (by kernel_rfl) 56 rfl rfl ?_
                  refine a_offu 25 rfl (by kernel_rfl) 56 rfl rfl ?_
                  refine a_offu 26 rfl (by kernel_rfl) 56 rfl rfl ?_
                  refine a_offu 27 rfl (by kernel_rfl) 56 rfl rfl ?_
                  refine a_offu 28 rfl (by kernel_rfl) 56 rfl rfl ?_
                  refine a_offu 29 rfl (by kernel_rfl) 56 rfl rfl ?_
                  refine a_offu 30 rfl (by kernel_rfl) 56 rfl rfl ?_
                  refine a_offu 31 rfl (by kernel_rfl) 56 rfl rfl ?_
                  refine a_offu 32 rfl (by kernel_rfl) 56 rfl rfl ?_
                  refine a_offu 33 rfl (by kernel_rfl) 56 rfl rfl ?_
                  refine a_offu 34 rfl (by kernel_rfl) 56 rfl rfl ?_
                  have hH60 : Has E w48 [] := hH47.first 0 rfl
                  refine a_done (by kernel_rfl) hH60 ?_
                  refine r_offu 35 rfl (by kernel_rfl) 56 rfl rfl ?_
                  refine r_off (b' := true) 36 rfl (by kernel_rfl) 53 rfl (congrArg Value.bool (decide_eq_true h59)) rfl ?_
                  refine r_op 37 rfl (by kernel_rfl) (o_pick_t (u := (.bool true)) ((rfl : _ = _).trans (congrArg Value.bool (decide_eq_true h59))) rfl ?_)
                  refine Rest.done (by kernel_rfl) ?_
                  refine t_norm (hK38 _ _ ?_)
                  refine c_true rfl rfl ?_
                  refine wp_seq_k fun K61 hK61 => ?_
                  refine c_region ?_
                  refine s_op (o_assign (v := (.bool false)) rfl ?_)
                  refine s_nil ?_
                  refine t_norm (hK61 _ _ ?_)
                  refine wp_ret ?_
                  refine b_ret (t_ret (t_ret (b_ret (t_ret (c_ret1 Tryd.results11  (v := (.bool false)) rfl ?_)))))
                  have q62 : (pageR no gsn l) = false := by exact pageR_nc (cells_no1 hx45 (by simp only [celOk]; rw [show valR (true, x44.2) = false by unfold valR; simp; omega]; simp))
                  have hH63 : Has E w48 [R] := (hH47.front 1 rfl).first 1 rfl
                  exact ⟨by rw [q62], hH63⟩
                · -- not: 16 < (x44.2.length : Int)
                  refine r_on 19 rfl (by kernel_rfl) 53 rfl (congrArg Value.bool (decide_eq_false h59)) (o_move (v := (.int .i64 (k : Int))) e29_3 ?_)
                  refine r_on 20 rfl (by kernel_rfl) 53 rfl (congrArg Value.bool (decide_eq_false h59)) (o_gtr (a := (k : Int)) (b := 0) rfl rfl ?_)
                  refine r_on 21 rfl (by kernel_rfl) 53 rfl (congrArg Value.bool (decide_eq_false h59)) (o_move (v := (.bool (decide (0 < (k : Int))))) rfl ?_)
                  refine Rest.phaseA (fun w_ => Has E w_ [[Hp.one b2 (.cells #[(.int .i64 no), (.int .i64 gsn), v_l] 24 (0, 0))], R]) 22 35 13 rfl (by decide) (by kernel_rfl) ?_
                  by_cases h64 : 0 < (k : Int)
                  · -- 0 < (k : Int)
                    refine a_on 22 rfl (by kernel_rfl) 56 rfl (congrArg Value.bool (decide_eq_true h64)) (fun w_ h_ => o_fieldAddr (k := 2) (fun _ => by kernel_rfl) e29_1 ⟨rfl, rfl⟩) ?_
                    refine a_on 23 rfl (by kernel_rfl) 56 rfl (congrArg Value.bool (decide_eq_true h64)) (fun w_ h_ => o_load1 (v := v_l) Tryd.underlying22 rfl rfl h_ (seg_sub 0 rfl) (CellsAt.one rfl) ⟨rfl, rfl⟩) ?_
                    refine a_on 24 rfl (by kernel_rfl) 56 rfl (congrArg Value.bool (decide_eq_true h64)) (fun w_ h_ => o_move (v := (.int .i64 (k : Int))) e29_3 ⟨rfl, rfl⟩) ?_
                    refine a_on 25 rfl (by kernel_rfl) 56 rfl (congrArg Value.bool (decide_eq_true h64)) (fun w_ h_ => o_sub (a := (k : Int)) (b := 1) rfl rfl (w64 (by omega) (by omega)) ⟨rfl, rfl⟩) ?_
                    obtain ⟨x68, hx69⟩ : ∃ x_, l[((k : Int) - 1).toNat]? = some x_ := get_some (by omega)
                    obtain ⟨b65, o66, hc67, ho70⟩ := ix_exF ceC_len Tryd.underlying22 ti45 h_l (by omega) hx69
                    refine a_on 26 rfl (by kernel_rfl) 56 rfl (congrArg Value.bool (decide_eq_true h64)) (fun w_ h_ => ho70 rfl rfl ⟨rfl, rfl⟩) ?_
                    refine a_on 27 rfl (by kernel_rfl) 56 rfl (congrArg Value.bool (decide_eq_true h64)) (fun w_ h_ => o_fieldAddr (k := o66) (fun _ => by kernel_rfl) rfl ⟨rfl, rfl⟩) ?_
                    refine a_on 28 rfl (by kernel_rfl) 56 rfl (congrArg Value.bool (decide_eq_true h64)) (fun w_ h_ => o_load1 (v := (S x68.1)) Tryd.underlying9 rfl rfl h_ (seg_sub 1 rfl) (CellsAt.field (k := 0) (ds := [(S x68.1)]) hc67 rfl) ⟨rfl, rfl⟩) ?_
                    refine a_on 29 rfl (by kernel_rfl) 56 rfl (congrArg Value.bool (decide_eq_true h64)) (fun w_ h_ => o_fieldAddr (k := 2) (fun _ => by kernel_rfl) e29_1 ⟨rfl, rfl⟩) ?_
                    refine a_on 30 rfl (by kernel_rfl) 56 rfl (congrArg Value.bool (decide_eq_true h64)) (fun w_ h_ => o_load1 (v := v_l) Tryd.underlying22 rfl rfl h_ (seg_sub 0 rfl) (CellsAt.one rfl) ⟨rfl, rfl⟩) ?_
                    refine a_on 31 rfl (by kernel_rfl) 56 rfl (congrArg Value.bool (decide_eq_true h64)) (fun w_ h_ => o_move (v := (.int .i64 (k : Int))) e29_3 ⟨rfl, rfl⟩) ?_
                    obtain ⟨b71, o72, hc73, ho74⟩ := ix_exF ceC_len Tryd.underlying22 ti45 h_l (by omega) hx45
                    refine a_on 32 rfl (by kernel_rfl) 56 rfl (congrArg Value.bool (decide_eq_true h64)) (fun w_ h_ => ho74 rfl rfl ⟨rfl, rfl⟩) ?_
                    refine a_on 33 rfl (by kernel_rfl) 56 rfl (congrArg Value.bool (decide_eq_true h64)) (fun w_ h_ => o_fieldAddr (k := o72) (fun _ => by kernel_rfl) rfl ⟨rfl, rfl⟩) ?_
                    refine a_on 34 rfl (by kernel_rfl) 56 rfl (congrArg Value.bool (decide_eq_true h64)) (fun w_ h_ => o_load1 (v := (S x44.1)) Tryd.underlying9 rfl rfl h_ (seg_sub 1 rfl) (CellsAt.field (k := 0) (ds := [(S x44.1)]) hc73 rfl) ⟨rfl, rfl⟩) ?_
                    refine a_done (by kernel_rfl) hH47 ?_
                    refine r_on 35 rfl (by kernel_rfl) 56 rfl (congrArg Value.bool (decide_eq_true h64)) (o_sgeP (a := x68.1) (b := x44.1) rfl rfl ?_)
                    refine r_on 36 rfl (by kernel_rfl) 53 rfl (congrArg Value.bool (decide_eq_false h59)) (o_pick_t (u := (.bool (decide (¬ (x68.1 < x44.1))))) ((rfl : _ = _).trans (congrArg Value.bool (decide_eq_true h64))) rfl ?_)
                    refine r_op 37 rfl (by kernel_rfl) (o_pick_f (u := (.bool (decide (¬ (x68.1 < x44.1))))) ((rfl : _ = _).trans (congrArg Value.bool (decide_eq_false h59))) rfl ?_)
                    refine Rest.done (by kernel_rfl) ?_
                    refine t_norm (hK38 _ _ ?_)
                    refine c_cond rfl (fun h75 => ?_) (fun h75 => ?_)
                    · -- ¬ (x68.1 < x44.1)
                      refine wp_seq_k fun K76 hK76 => ?_
                      refine c_region ?_
                      refine s_op (o_assign (v := (.bool false)) rfl ?_)
                      refine s_nil ?_
                      refine t_norm (hK76 _ _ ?_)
                      refine wp_ret ?_
                      refine b_ret (t_ret (t_ret (b_ret (t_ret (c_ret1 Tryd.results11  (v := (.bool false)) rfl ?_)))))
                      have q77 : (pageR no gsn l) = false := by exact pageR_nc (cells_no2 (k := k) (by omega) hx45 (by rw [show k - 1 = ((k : Int) - 1).toNat by omega]; exact hx69) h75)
                      have hH78 : Has E w48 [R] := (hH47.front 1 rfl).first 1 rfl
                      exact ⟨by rw [q77], hH78⟩
                    · -- not: ¬ (x68.1 < x44.1)
                      refine wp_skip ?_
                      refine b_norm ?_
                      refine t_norm (hK37 _ _ ?_)
                      refine c_region ?_
                      refine s_op (o_move (v := (.int .i64 (k : Int))) e29_3 ?_)
                      refine s_op (o_add (a := (k : Int)) (b := 1) rfl rfl (w64 (by omega) (by omega)) ?_)
                      refine s_op (o_assign (v := (.int .i64 ((k : Int) + 1))) rfl ?_)
                      refine s_nil ?_
                      refine t_norm ⟨l.length - (k + 1), _, rfl, ?_, ?_⟩
                      · omega
                      · exact ⟨(k + 1), rfl, hH47, (by omega), (all_next (show l[k]? = some _ from hx45) ha (by simp only [celOk, Bool.and_eq_true]; exact ⟨by simpa using h49, by unfold valR; simp; omega⟩)), (cells_next (show l[k]? = some _ from hx45) hr (fun p h0 hp => by (have e_ := hp.symm.trans (show l[k - 1]? = some _ from by rw [show k - 1 = ((k : Int) - 1).toNat by omega]; exact hx69); cases e_; exact Classical.not_not.1 h75))), e29_0, e29_1, rfl, e29_27⟩
                  · -- not: 0 < (k : Int)
                    refine a_off (b' := false) 22 rfl (by kernel_rfl) 56 rfl (congrArg Value.bool (decide_eq_false h64)) rfl ?_
                    refine a_off (b' := false) 23 rfl (by kernel_rfl) 56 rfl (congrArg Value.bool (decide_eq_false h64)) rfl ?_
                    refine a_off (b' := false) 24 rfl (by kernel_rfl) 56 rfl (congrArg Value.bool (decide_eq_false h64)) rfl ?_
                    refine a_off (b' := false) 25 rfl (by kernel_rfl) 56 rfl (congrArg Value.bool (decide_eq_false h64)) rfl ?_
                    refine a_off (b' := false) 26 rfl (by kernel_rfl) 56 rfl (congrArg Value.bool (decide_eq_false h64)) rfl ?_
                    refine a_off (b' := false) 27 rfl (by kernel_rfl) 56 rfl (congrArg Value.bool (decide_eq_false h64)) rfl ?_
                    refine a_off (b' := false) 28 rfl (by kernel_rfl) 56 rfl (congrArg Value.bool (decide_eq_false h64)) rfl ?_
                    refine a_off (b' := false) 29 rfl (by kernel_rfl) 56 rfl (congrArg Value.bool (decide_eq_false h64)) rfl ?_
                    refine a_off (b' := false) 30 rfl (by kernel_rfl) 56 rfl (congrArg Value.bool (decide_eq_false h64)) rfl ?_
                    refine a_off (b' := false) 31 rfl (by kernel_rfl) 56 rfl (congrArg Value.bool (decide_eq_false h64)) rfl ?_
                    refine a_off (b' := false) 32 rfl (by kernel_rfl) 56 rfl (congrArg Value.bool (decide_eq_false h64)) rfl ?_
                    refine a_off (b' := false) 33 rfl (by kernel_rfl) 56 rfl (congrArg Value.bool (decide_eq_false h64)) rfl ?_
                    refine a_off (b' := false) 34 rfl (by kernel_rfl) 56 rfl (congrArg Value.bool (decide_eq_false h64)) rfl ?_
                    refine a_done (by kernel_rfl) hH47 ?_
                    refine r_off (b' := false) 35 rfl (by kernel_rfl) 56 rfl (congrArg Value.bool (decide_eq_false h64)) rfl ?_
                    refine r_on 36 rfl (by kernel_rfl) 53 rfl (congrArg Value.bool (decide_eq_false h59)) (o_pick_f (u := (.bool false)) ((rfl : _ = _).trans (congrArg Value.bool (decide_eq_false h64))) rfl ?_)
                    refine r_op 37 rfl (by kernel_rfl) (o_pick_f (u := (.bool false)) ((rfl : _ = _).trans (congrArg Value.bool (decide_eq_false h59))) rfl ?_)
                    refine Rest.done (by kernel_rfl) ?_
                    refine t_norm (hK38 _ _ ?_)
                    refine c_false rfl rfl ?_
                    refine wp_skip ?_
                    refine b_norm ?_
                    refine t_norm (hK37 _ _ ?_)
                    refine c_region ?_
                    refine s_op (o_move (v := (.int .i64 (k : Int))) e29_3 ?_)
                    refine s_op (o_add (a := (k : Int)) (b := 1) rfl rfl (w64 (by omega) (by omega)) ?_)
                    refine s_op (o_assign (v := (.int .i64 ((k : Int) + 1))) rfl ?_)
                    refine s_nil ?_
                    refine t_norm ⟨l.length - (k + 1), _, rfl, ?_, ?_⟩
                    · omega
                    · exact ⟨(k + 1), rfl, hH47, (by omega), (all_next (show l[k]? = some _ from hx45) ha (by simp only [celOk, Bool.and_eq_true]; exact ⟨by simpa using h49, by unfold valR; simp; omega⟩)), (cells_next (show l[k]? = some _ from hx45) hr (fun p h0 _ => absurd h0 (by omega))), e29_0, e29_1, rfl, e29_27⟩
            · -- not: (k : Int) < ((l.length : Nat) : Int)
              refine wp_exit ?_
              refine t_exit (t_exit (x_in (?_)))
              refine t_norm (hK27 _ _ ?_)
              refine wp_seq_k fun K79 hK79 => ?_
              refine c_region ?_
              refine s_op (o_assign (v := (.bool true)) rfl ?_)
              refine s_nil ?_
              refine t_norm (hK79 _ _ ?_)
              refine wp_ret ?_
              refine c_ret1 Tryd.results11  (v := (.bool true)) rfl ?_
              have q80 : (pageR no gsn l) = true := by (have e_ : k = l.length := by omega); rw [e_, List.take_length] at ha hr; exact (pageR_iff.2 ⟨by omega, by rw [cells_end ha hr]; exact decide_eq_true (by omega)⟩)
              have hH81 : Has E w31 [R] := (hH32.front 1 rfl).first 1 rfl
              exact ⟨by rw [q80], hH81⟩
set_option maxHeartbeats 4000000 in
theorem r11get_c {E w : World} {R : List Hp} {no : Int} {gsn : Int} {v_l : Value} {l : List Cel} {key : Bs}  (hH : Has E w [R]) (h_l : Sl R 2 v_l l.length (l.flatMap ceC)) :
    Calls Tryd.prog 15 #[(.agg #[(.int .i64 no), (.int .i64 gsn), v_l]), (S key)] w fun e w' => e = .returned (.agg #[(.bool ((getC l key).1)), (S ((getC l key).2))]) ∧ Has E w' [R] := by
  have hn_ := h_l.le
  refine c_enter (args := [(.agg #[(.int .i64 no), (.int .i64 gsn), v_l]), (S key)]) Tryd.func15 rfl Tryd.ntmps15 (by simp) ?_
  refine wp_seq_k fun K1 hK1 => ?_
  refine c_region ?_
  refine s_op (o_box (cs := #[(.int .i64 no), (.int .i64 gsn), v_l]) rfl rfl hH fun b2 w3 hH4 => ?_)
  refine s_op (o_alloc (cs := #[(.bool false), (S ([] : List UInt8))]) ti29 rfl hH4 fun b5 w6 hH7 => ?_)
  refine s_nil ?_
  refine t_norm (hK1 _ _ ?_)
  refine wp_seq_k fun K8 hK8 => ?_
  refine wp_seq_k fun K9 hK9 => ?_
  refine c_region ?_
  refine s_op (o_assign (v := (.int .i64 0)) rfl ?_)
  refine s_nil ?_
  refine t_norm (hK9 _ _ ?_)
  refine wp_block ?_
  let I11 : Nat → (Nat → Value) → World → Prop := fun n__ r__ w__ => ∃ (k : Nat), n__ = l.length - k ∧ Has E w__ [[Hp.one b5 (.cells #[(.bool false), (S ([] : List UInt8))] 29 (0, 0))], [Hp.one b2 (.cells #[(.int .i64 no), (.int .i64 gsn), v_l] 24 (0, 0))], R] ∧ (k ≤ l.length) ∧ (getC l key = getC (l.drop k) key) ∧ r__ 0 = (.agg #[(.int .i64 no), (.int .i64 gsn), v_l]) ∧ r__ 1 = (S key) ∧ r__ 2 = (.pointer (some ⟨b2, 0, none⟩)) ∧ r__ 4 = (.pointer (some ⟨b5, 0, none⟩)) ∧ r__ 5 = (.int .i64 (k : Int))
  refine c_loop I11 _ ⟨0, rfl, hH7, Nat.zero_le _, rfl, rfl, rfl, rfl, rfl, rfl⟩ ?_
  rintro n_ r14 w12 ⟨k, rfl, hH13, hk, hg, e10_0, e10_1, e10_2, e10_4, e10_5⟩
  refine wp_seq_k fun K15 hK15 => ?_
  refine wp_seq_k fun K16 hK16 => ?_
  refine c_region ?_
  refine s_op (o_move (v := (.int .i64 (k : Int))) e10_5 ?_)
  refine s_op (o_fieldAddr (k := 2) (fun _ => by kernel_rfl) e10_2 ?_)
  refine s_op (o_load1 (v := v_l) Tryd.underlying22 rfl rfl hH13 (seg_sub 1 rfl) (CellsAt.one rfl) ?_)
  refine s_op (o_lenS Tryd.underlying22 rfl h_l ?_)
  refine s_op (o_lss (a := (k : Int)) (b := ((l.length : Nat) : Int)) rfl rfl ?_)
  refine s_nil ?_
  refine t_norm (hK16 _ _ ?_)
  refine c_cond rfl (fun h17 => ?_) (fun h17 => ?_)
  · -- (k : Int) < ((l.length : Nat) : Int)
    refine wp_skip ?_
    refine t_norm (hK15 _ _ ?_)
    refine wp_seq_k fun K18 hK18 => ?_
    refine wp_block ?_
    refine wp_seq_k fun K19 hK19 => ?_
    refine c_region ?_
    refine s_op (o_fieldAddr (k := 2) (fun _ => by kernel_rfl) e10_2 ?_)
    refine s_op (o_load1 (v := v_l) Tryd.underlying22 rfl rfl hH13 (seg_sub 1 rfl) (CellsAt.one rfl) ?_)
    refine s_op (o_move (v := (.int .i64 (k : Int))) e10_5 ?_)
    obtain ⟨x23, hx24⟩ : ∃ x_, l[((k : Int)).toNat]? = some x_ := get_some (by omega)
    refine s_op (o_indexF ceC_len Tryd.underlying22 ti45 rfl h_l rfl rfl (by omega) hx24 fun b20 o21 hc22 => ?_)
    refine s_op (o_fieldAddr (k := o21) (fun _ => by kernel_rfl) rfl ?_)
    refine s_op (o_load1 (v := (S x23.1)) Tryd.underlying9 rfl rfl hH13 (seg_sub 2 rfl) (CellsAt.field (k := 0) (ds := [(S x23.1)]) hc22 rfl) ?_)
    refine s_op (o_move (v := (S key)) e10_1 ?_)
    refine s_op (o_seql (a := x23.1) (b := key) rfl rfl ?_)
    refine s_nil ?_
    refine t_norm (hK19 _ _ ?_)
    refine c_cond rfl (fun h25 => ?_) (fun h25 => ?_)
    · -- x23.1 = key
      refine wp_seq_k fun K26 hK26 => ?_
      refine c_region ?_
      refine s_op (o_fieldAddr (k := 2) (fun _ => by kernel_rfl) e10_2 ?_)
      refine s_op (o_load1 (v := v_l) Tryd.underlying22 rfl rfl hH13 (seg_sub 1 rfl) (CellsAt.one rfl) ?_)
      refine s_op (o_move (v := (.int .i64 (k : Int))) e10_5 ?_)
      refine s_op (o_indexF ceC_len Tryd.underlying22 ti45 rfl h_l rfl rfl (by omega) hx24 fun b27 o28 hc29 => ?_)
      refine s_op (o_fieldAddr (k := o28 + 1) (fun _ => by kernel_rfl) rfl ?_)
      refine s_op (o_load1 (v := (S x23.2)) Tryd.underlying9 rfl rfl hH13 (seg_sub 2 rfl) (CellsAt.field (k := 1) (ds := [(S x23.2)]) hc29 rfl) ?_)
      refine s_op (o_sight (v := (.agg #[(.bool true), (S x23.2)])) (fun _ => by kernel_rfl) ?_)
      refine s_eff (o_storeN (vs := [(.bool true), (S x23.2)]) (c' := #[(.bool true), (S x23.2)]) ti29 e10_4 rfl rfl rfl (by intro u hu; simp only [List.mem_cons, List.not_mem_nil, or_false] at hu; rcases hu with rfl | rfl <;> first | rfl) (by simp) (by kernel_rfl) (hH13.front 0 rfl) fun w30 hH31 => ?_)
      refine s_nil ?_
      refine t_norm (hK26 _ _ ?_)
      refine wp_ret ?_
      refine b_ret (t_ret (t_ret (b_ret (t_ret (c_retC1 Tryd.results15 e10_4 (run_loadVarN (cs := [(.bool true), (S x23.2)]) Tryd.underlying29 rfl ti29 hH31 (seg_sub 0 rfl) (CellsAt.one rfl)) ?_)))))
      have q32 : (getC l key) = (true, x23.2) := by rw [getC_hit hg (show l[k]? = some _ from hx24) h25]
      have hH33 : Has E w30 [R] := (hH31.front 2 rfl).first 1 rfl
      exact ⟨by rw [q32], hH33⟩
    · -- not: x23.1 = key
      refine wp_skip ?_
      refine b_norm ?_
      refine t_norm (hK18 _ _ ?_)
      refine c_region ?_
      refine s_op (o_move (v := (.int .i64 (k : Int))) e10_5 ?_)
      refine s_op (o_add (a := (k : Int)) (b := 1) rfl rfl (w64 (by omega) (by omega)) ?_)
      refine s_op (o_assign (v := (.int .i64 ((k : Int) + 1))) rfl ?_)
      refine s_nil ?_
      refine t_norm ⟨l.length - (k + 1), _, rfl, ?_, ?_⟩
      · omega
      · exact ⟨(k + 1), rfl, hH13, (by omega), (getC_skip hg (show l[k]? = some _ from hx24) h25), e10_0, e10_1, e10_2, e10_4, rfl⟩
  · -- not: (k : Int) < ((l.length : Nat) : Int)
    refine wp_exit ?_
    refine t_exit (t_exit (x_in (?_)))
    refine t_norm (hK8 _ _ ?_)
    refine wp_seq_k fun K34 hK34 => ?_
    refine c_region ?_
    refine s_op (o_sight (v := (.agg #[(.bool false), (S ([] : List UInt8))])) (fun _ => by kernel_rfl) ?_)
    refine s_eff (o_storeN (vs := [(.bool false), (S ([] : List UInt8))]) (c' := #[(.bool false), (S ([] : List UInt8))]) ti29 e10_4 rfl rfl rfl (by intro u hu; simp only [List.mem_cons, List.not_mem_nil, or_false] at hu; rcases hu with rfl | rfl <;> first | rfl) (by simp) (by kernel_rfl) (hH13.front 0 rfl) fun w35 hH36 => ?_)
    refine s_nil ?_
    refine t_norm (hK34 _ _ ?_)
    refine wp_ret ?_
    refine c_retC1 Tryd.results15 e10_4 (run_loadVarN (cs := [(.bool false), (S ([] : List UInt8))]) Tryd.underlying29 rfl ti29 hH36 (seg_sub 0 rfl) (CellsAt.one rfl)) ?_
    have q37 : (getC l key) = (false, ([] : List UInt8)) := by rw [getC_end hg (by omega)]
    have hH38 : Has E w35 [R] := (hH36.front 2 rfl).first 1 rfl
    exact ⟨by rw [q37], hH38⟩
end Go.Q
namespace Go.Q
open Go.Proofs
set_option linter.unusedVariables false
set_option maxRecDepth 100000
attribute [local irreducible] wpList OK Code.wp
set_option maxHeartbeats 4000000 in
theorem r11read_c {E w : World} {R : List Hp} {s : Bs}  (hH : Has E w [R]) :
    Calls Tryd.prog 20 #[(S s)] w fun e w' => ∃ (v1' : Value) (s2' : List Hp), e = .returned (.tuple #[(.agg #[(.int .i64 ((readR s).2.1)), (.int .i64 ((readR s).2.2.1)), v1']), (.bool ((readR s).1))]) ∧ (Own 45 2 v1' ((readR s).2.2.2).length (((readR s).2.2.2).flatMap ceC) s2') ∧ Has E w' [s2', R] := by
  refine c_enter (args := [(S s)]) Tryd.func20 rfl Tryd.ntmps20 (by simp) ?_
  refine wp_seq_k fun K1 hK1 => ?_
  refine c_region ?_
  refine s_op (o_alloc (cs := #[(.int .i64 0), (.int .i64 0), (.slice none 0 0)]) ti24 rfl hH fun b2 w3 hH4 => ?_)
  refine s_op (o_assign (v := (.bool false)) rfl ?_)
  refine s_nil ?_
  refine t_norm (hK1 _ _ ?_)
  refine wp_seq_k fun K5 hK5 => ?_
  refine wp_seq_k fun K6 hK6 => ?_
  refine c_region ?_
  refine s_op (o_move (v := (S s)) rfl ?_)
  refine s_op (o_slen Tryd.underlying9 rfl ?_)
  refine s_op (o_neq (a := (s.length : Int)) (b := 256) rfl rfl ?_)
  refine s_nil ?_
  refine t_norm (hK6 _ _ ?_)
  refine c_cond rfl (fun h7 => ?_) (fun h7 => ?_)
  · -- (s.length : Int) ≠ 256
    refine wp_seq_k fun K8 hK8 => ?_
    refine c_region ?_
    refine s_op (o_sight (v := (.agg #[(.int .i64 0), (.int .i64 0), (.slice none 0 0)])) (fun _ => by kernel_rfl) ?_)
    refine s_eff (o_storeN (vs := [(.int .i64 0), (.int .i64 0), (.slice none 0 0)]) (c' := #[(.int .i64 0), (.int .i64 0), (.slice none 0 0)]) ti24 rfl rfl rfl rfl (by intro u hu; simp only [List.mem_cons, List.not_mem_nil, or_false] at hu; rcases hu with rfl | rfl | rfl <;> first | rfl) (by simp) (by kernel_rfl) (hH4.front 0 rfl) fun w9 hH10 => ?_)
    refine s_op (o_assign (v := (.bool false)) rfl ?_)
    refine s_nil ?_
    refine t_norm (hK8 _ _ ?_)
    refine wp_ret ?_
    refine t_ret (c_retC2 Tryd.results20 rfl (run_loadVarN (cs := [(.int .i64 0), (.int .i64 0), (.slice none 0 0)]) Tryd.underlying24 rfl ti24 hH10 (seg_sub 0 rfl) (CellsAt.one rfl)) (x := (.bool false)) rfl ?_)
    have hE_ := readR_short (s := s) (by omega)
    have q11 : (readR s).2.1 = 0 := by rw [hE_]
    have q12 : (readR s).2.2.1 = 0 := by rw [hE_]
    have q13 : (readR s).2.2.2 = ([] : List Cel) := by rw [hE_]
    have q14 : (readR s).1 = false := by rw [hE_]
    have hH15 : Has E w9 [[], R] := (Has.nil (hH10.front 1 rfl)).first 2 rfl
    exact ⟨_, _, by rw [q11, q12]; rw [q14], (by rw [q13]; exact (Own.nil 45 2)), hH15⟩
  · -- not: (s.length : Int) ≠ 256
    refine wp_skip ?_
    refine t_norm (hK5 _ _ ?_)
    refine wp_seq_k fun K16 hK16 => ?_
    refine c_region ?_
    refine s_op (o_move (v := (S s)) rfl ?_)
    refine s_op (o_ssl_l Tryd.underlying9 rfl rfl (by omega) (by omega) ?_)
    refine s_op (o_callf (vs := #[(S (s.drop 1)), (.int .i64 8)]) ca51 rfl (args2 rfl rfl) (refTake_c hH4.all 8 (s.drop 1) (by simp only [List.length_drop]; omega)) ?_)
    rintro _ w19 ⟨rfl, hX17⟩
    refine ⟨_, rfl, ?_⟩
    have hH18 := hX17.of_all
    refine s_op (o_move (v := (.tuple #[(.int .i64 ((takeS (s.drop 1) 8).1)), (.bool ((takeS (s.drop 1) 8).2.2))])) rfl ?_)
    refine s_op (o_extract (v := (.int .i64 ((takeS (s.drop 1) 8).1))) rfl rfl ?_)
    refine s_op (o_extract (v := (.bool ((takeS (s.drop 1) 8).2.2))) rfl rfl ?_)
    refine s_op (o_assign (v := (.int .i64 ((takeS (s.drop 1) 8).1))) rfl ?_)
    refine s_op (o_assign (v := (.bool ((takeS (s.drop 1) 8).2.2))) rfl ?_)
    refine s_nil ?_
    refine t_norm (hK16 _ _ ?_)
    refine wp_seq_k fun K20 hK20 => ?_
    refine c_region ?_
    refine s_op (o_move (v := (S s)) rfl ?_)
    obtain ⟨c21, hx22⟩ : ∃ x_, s[((0 : Int)).toNat]? = some x_ := get_some (by omega)
    have c21_lt := c21.toNat_lt
    refine s_op (o_sidx Tryd.underlying9 rfl rfl (by omega) hx22 ?_)
    refine s_op (o_conv Tryd.underlying5 Tryd.underlying3 rfl (w_u8 _) ?_)
    refine s_op (o_move (v := (.int .i64 ((takeS (s.drop 1) 8).1))) rfl ?_)
    refine s_op (o_sight (v := (.agg #[(.int .i64 (c21.toNat : Int)), (.int .i64 ((takeS (s.drop 1) 8).1)), (.slice none 0 0)])) (fun _ => by kernel_rfl) ?_)
    refine s_op (o_alloc (cs := #[(.int .i64 0), (.int .i64 0), (.slice none 0 0)]) ti24 rfl hH18 fun b23 w24 hH25 => ?_)
    refine s_eff (o_storeN (vs := [(.int .i64 (c21.toNat : Int)), (.int .i64 ((takeS (s.drop 1) 8).1)), (.slice none 0 0)]) (c' := #[(.int .i64 (c21.toNat : Int)), (.int .i64 ((takeS (s.drop 1) 8).1)), (.slice none 0 0)]) ti24 rfl rfl rfl rfl (by intro u hu; simp only [List.mem_cons, List.not_mem_nil, or_false] at hu; rcases hu with rfl | rfl | rfl <;> first | rfl) (by simp) (by kernel_rfl) (hH25.front 0 rfl) fun w26 hH27 => ?_)
    refine s_nil ?_
    refine t_norm (hK20 _ _ ?_)
    refine wp_seq_k fun K28 hK28 => ?_
    refine c_region ?_
    refine s_op (o_assign (v := (.int .i64 10)) rfl ?_)
    refine s_nil ?_
    refine t_norm (hK28 _ _ ?_)
    refine wp_seq_k fun K29 hK29 => ?_
    obtain ⟨c9, hc9⟩ : ∃ x_, s[((9 : Int)).toNat]? = some x_ := get_some (by omega)
    have c9_lt := c9.toNat_lt
    let J31 : (Nat → Value) → World → Prop := fun r__ w__ => ∃ (okj : Bool) (vj : Value) (sj : List Hp) (accj : List Cel), Has E w__ [sj, [Hp.one b23 (.cells #[(.int .i64 (c21.toNat : Int)), (.int .i64 ((takeS (s.drop 1) 8).1)), vj] 24 (0, 0))], [Hp.one b2 (.cells #[(.int .i64 0), (.int .i64 0), (.slice none 0 0)] 24 (0, 0))], R] ∧ (Own 45 2 vj accj.length (accj.flatMap ceC) sj) ∧ (goR0 s = (okj, accj)) ∧ (accj.length ≤ 8) ∧ r__ 0 = (S s) ∧ r__ 2 = (.pointer (some ⟨b2, 0, none⟩)) ∧ r__ 3 = (.bool false) ∧ r__ 4 = (.int .i64 ((takeS (s.drop 1) 8).1)) ∧ r__ 5 = (.bool okj) ∧ r__ 6 = (.pointer (some ⟨b23, 0, none⟩)) ∧ r__ 13 = (.bool (decide ((s.length : Int) ≠ 256)))
    have hJ32 : ∀ r w, J31 r w → K29 (Go.Q.fr 106 r) w := by
      rintro r35 w33 ⟨okj, vj, sj, accj, hH34, hoj, hgj, hlj, e30_0, e30_2, e30_3, e30_4, e30_5, e30_6, e30_13⟩
      refine hK29 _ _ ?_
      refine wp_seq_k fun K36 hK36 => ?_
      refine wp_seq_k fun K37 hK37 => ?_
      refine c_region ?_
      refine s_op (o_move (v := (.bool okj)) e30_5 ?_)
      refine s_op (o_not rfl ?_)
      refine s_op (o_move (v := (.bool (!okj))) rfl ?_)
      rcases Bool.eq_false_or_eq_true (!okj) with h38 | h38
      · -- !okj
        have h38_n : okj = false := by simpa using h38
        refine s_off (b' := true) 93 rfl (congrArg Value.bool h38) rfl ?_
        refine s_off (b' := true) 93 rfl (congrArg Value.bool h38) rfl ?_
        refine s_off (b' := true) 93 rfl (congrArg Value.bool h38) rfl ?_
        refine s_op (o_pick_t (u := (.bool true)) ((rfl : _ = _).trans (congrArg Value.bool h38)) rfl ?_)
        refine s_op (o_move (v := (.bool true)) rfl ?_)
        refine s_off (b' := true) 98 rfl rfl rfl ?_
        refine s_off (b' := true) 98 rfl rfl rfl ?_
        refine s_off (b' := true) 98 rfl rfl rfl ?_
        refine s_off (b' := true) 98 rfl rfl rfl ?_
        refine s_op (o_pick_t (u := (.bool true)) rfl rfl ?_)
        refine s_nil ?_
        refine t_norm (hK37 _ _ ?_)
        refine c_true rfl rfl ?_
        refine wp_seq_k fun K39 hK39 => ?_
        refine c_region ?_
        refine s_op (o_sight (v := (.agg #[(.int .i64 0), (.int .i64 0), (.slice none 0 0)])) (fun _ => by kernel_rfl) ?_)
        refine s_eff (o_storeN (vs := [(.int .i64 0), (.int .i64 0), (.slice none 0 0)]) (c' := #[(.int .i64 0), (.int .i64 0), (.slice none 0 0)]) ti24 e30_2 rfl rfl rfl (by intro u hu; simp only [List.mem_cons, List.not_mem_nil, or_false] at hu; rcases hu with rfl | rfl | rfl <;> first | rfl) (by simp) (by kernel_rfl) (hH34.front 2 rfl) fun w40 hH41 => ?_)
        refine s_op (o_assign (v := (.bool false)) rfl ?_)
        refine s_nil ?_
        refine t_norm (hK39 _ _ ?_)
        refine wp_ret ?_
        refine t_ret (c_retC2 Tryd.results20 e30_2 (run_loadVarN (cs := [(.int .i64 0), (.int .i64 0), (.slice none 0 0)]) Tryd.underlying24 rfl ti24 hH41 (seg_sub 0 rfl) (CellsAt.one rfl)) (x := (.bool false)) rfl ?_)
        have hE_ := readR_no hgj (show s[0]? = some _ from hx22) (by first | exact .inl (by simpa using h7) | exact .inr (.inl (by simpa using h7)) | exact .inr (.inr h7) | exact .inl (by simpa using h38) | exact .inr (.inl (by simpa using h38)) | exact .inr (.inr h38) | exact .inl (by simpa using h38_n) | exact .inr (.inl (by simpa using h38_n)) | exact .inr (.inr h38_n))
        have q42 : (readR s).2.1 = 0 := by rw [hE_]
        have q43 : (readR s).2.2.1 = 0 := by rw [hE_]
        have q44 : (readR s).2.2.2 = ([] : List Cel) := by rw [hE_]
        have q45 : (readR s).1 = false := by rw [hE_]
        have hH46 : Has E w40 [[], R] := (Has.nil (hH41.front 3 rfl)).first 2 rfl
        exact ⟨_, _, by rw [q42, q43]; rw [q45], (by rw [q44]; exact (Own.nil 45 2)), hH46⟩
      · -- not: !okj
        have h38_n : okj = true := by simpa using h38
        refine s_on 93 rfl (congrArg Value.bool h38) (o_loadN (cs := [(.int .i64 (c21.toNat : Int)), (.int .i64 ((takeS (s.drop 1) 8).1)), vj]) Tryd.underlying24 rfl ti24 e30_6 hH34 (seg_sub 1 rfl) (CellsAt.one rfl) ?_)
        refine s_on 93 rfl (congrArg Value.bool h38) (o_callf (vs := #[(.agg #[(.int .i64 (c21.toNat : Int)), (.int .i64 ((takeS (s.drop 1) 8).1)), vj])]) ca11 rfl (args1 rfl) (r11right_c (no := (c21.toNat : Int)) (gsn := (takeS (s.drop 1) 8).1) (l := accj) hH34.all (hoj.sl.mono (seg_sub 0 rfl))) ?_)
        rintro _ w49 ⟨rfl, hX47⟩
        refine ⟨_, rfl, ?_⟩
        have hH48 := hX47.of_all
        refine s_on 93 rfl (congrArg Value.bool h38) (o_not rfl ?_)
        refine s_op (o_pick_f (u := (.bool (!(pageR (c21.toNat : Int) ((takeS (s.drop 1) 8).1) accj)))) ((rfl : _ = _).trans (congrArg Value.bool h38)) rfl ?_)
        refine s_op (o_move (v := (.bool (!(pageR (c21.toNat : Int) ((takeS (s.drop 1) 8).1) accj)))) rfl ?_)
        rcases Bool.eq_false_or_eq_true (!(pageR (c21.toNat : Int) ((takeS (s.drop 1) 8).1) accj)) with h50 | h50
        · -- !(pageR (c21.toNat : Int) ((takeS (s.drop 1) 8).1) accj)
          have h50_n : (pageR (c21.toNat : Int) ((takeS (s.drop 1) 8).1) accj) = false := by simpa using h50
          refine s_off (b' := true) 98 rfl (congrArg Value.bool h50) rfl ?_
          refine s_off (b' := true) 98 rfl (congrArg Value.bool h50) rfl ?_
          refine s_off (b' := true) 98 rfl (congrArg Value.bool h50) rfl ?_
          refine s_off (b' := true) 98 rfl (congrArg Value.bool h50) rfl ?_
          refine s_op (o_pick_t (u := (.bool true)) ((rfl : _ = _).trans (congrArg Value.bool h50)) rfl ?_)
          refine s_nil ?_
          refine t_norm (hK37 _ _ ?_)
          refine c_true rfl rfl ?_
          refine wp_seq_k fun K51 hK51 => ?_
          refine c_region ?_
          refine s_op (o_sight (v := (.agg #[(.int .i64 0), (.int .i64 0), (.slice none 0 0)])) (fun _ => by kernel_rfl) ?_)
          refine s_eff (o_storeN (vs := [(.int .i64 0), (.int .i64 0), (.slice none 0 0)]) (c' := #[(.int .i64 0), (.int .i64 0), (.slice none 0 0)]) ti24 e30_2 rfl rfl rfl (by intro u hu; simp only [List.mem_cons, List.not_mem_nil, or_false] at hu; rcases hu with rfl | rfl | rfl <;> first | rfl) (by simp) (by kernel_rfl) (hH48.front 2 rfl) fun w52 hH53 => ?_)
          refine s_op (o_assign (v := (.bool false)) rfl ?_)
          refine s_nil ?_
          refine t_norm (hK51 _ _ ?_)
          refine wp_ret ?_
          refine t_ret (c_retC2 Tryd.results20 e30_2 (run_loadVarN (cs := [(.int .i64 0), (.int .i64 0), (.slice none 0 0)]) Tryd.underlying24 rfl ti24 hH53 (seg_sub 0 rfl) (CellsAt.one rfl)) (x := (.bool false)) rfl ?_)
          have hE_ := readR_no hgj (show s[0]? = some _ from hx22) (by first | exact .inl (by simpa using h7) | exact .inr (.inl (by simpa using h7)) | exact .inr (.inr h7) | exact .inl (by simpa using h38) | exact .inr (.inl (by simpa using h38)) | exact .inr (.inr h38) | exact .inl (by simpa using h38_n) | exact .inr (.inl (by simpa using h38_n)) | exact .inr (.inr h38_n) | exact .inl (by simpa using h50) | exact .inr (.inl (by simpa using h50)) | exact .inr (.inr h50) | exact .inl (by simpa using h50_n) | exact .inr (.inl (by simpa using h50_n)) | exact .inr (.inr h50_n))
          have q54 : (readR s).2.1 = 0 := by rw [hE_]
          have q55 : (readR s).2.2.1 = 0 := by rw [hE_]
          have q56 : (readR s).2.2.2 = ([] : List Cel) := by rw [hE_]
          have q57 : (readR s).1 = false := by rw [hE_]
          have hH58 : Has E w52 [[], R] := (Has.nil (hH53.front 3 rfl)).first 2 rfl
          exact ⟨_, _, by rw [q54, q55]; rw [q57], (by rw [q56]; exact (Own.nil 45 2)), hH58⟩
        · -- not: !(pageR (c21.toNat : Int) ((takeS (s.drop 1) 8).1) accj)
          have h50_n : (pageR (c21.toNat : Int) ((takeS (s.drop 1) 8).1) accj) = true := by simpa using h50
          refine s_on 98 rfl (congrArg Value.bool h50) (o_loadN (cs := [(.int .i64 (c21.toNat : Int)), (.int .i64 ((takeS (s.drop 1) 8).1)), vj]) Tryd.underlying24 rfl ti24 e30_6 hH48 (seg_sub 1 rfl) (CellsAt.one rfl) ?_)
          refine s_on 98 rfl (congrArg Value.bool h50) (o_callf (vs := #[(.agg #[(.int .i64 (c21.toNat : Int)), (.int .i64 ((takeS (s.drop 1) 8).1)), vj])]) ca18 rfl (args1 rfl) (r11laid_c (no := (c21.toNat : Int)) (gsn := (takeS (s.drop 1) 8).1) (l := accj) hH48.all (hoj.sl.mono (seg_sub 0 rfl)) (by first | (simpa using h50) | (simpa using h50_n))) ?_)
          rintro _ w61 ⟨rfl, hX59⟩
          refine ⟨_, rfl, ?_⟩
          have hH60 := hX59.of_all
          refine s_on 98 rfl (congrArg Value.bool h50) (o_move (v := (S s)) e30_0 ?_)
          refine s_on 98 rfl (congrArg Value.bool h50) (o_sneq (a := (laidP (c21.toNat : Int) ((takeS (s.drop 1) 8).1) accj)) (b := s) rfl rfl ?_)
          refine s_op (o_pick_f (u := (.bool (decide ((laidP (c21.toNat : Int) ((takeS (s.drop 1) 8).1) accj) ≠ s)))) ((rfl : _ = _).trans (congrArg Value.bool h50)) rfl ?_)
          refine s_nil ?_
          refine t_norm (hK37 _ _ ?_)
          refine c_cond rfl (fun h62 => ?_) (fun h62 => ?_)
          · -- (laidP (c21.toNat : Int) ((takeS (s.drop 1) 8).1) accj) ≠ s
            refine wp_seq_k fun K63 hK63 => ?_
            refine c_region ?_
            refine s_op (o_sight (v := (.agg #[(.int .i64 0), (.int .i64 0), (.slice none 0 0)])) (fun _ => by kernel_rfl) ?_)
            refine s_eff (o_storeN (vs := [(.int .i64 0), (.int .i64 0), (.slice none 0 0)]) (c' := #[(.int .i64 0), (.int .i64 0), (.slice none 0 0)]) ti24 e30_2 rfl rfl rfl (by intro u hu; simp only [List.mem_cons, List.not_mem_nil, or_false] at hu; rcases hu with rfl | rfl | rfl <;> first | rfl) (by simp) (by kernel_rfl) (hH60.front 2 rfl) fun w65 hH66 => ?_)
            refine s_op (o_assign (v := (.bool false)) rfl ?_)
            refine s_nil ?_
            refine t_norm (hK63 _ _ ?_)
            refine wp_ret ?_
            refine t_ret (c_retC2 Tryd.results20 e30_2 (run_loadVarN (cs := [(.int .i64 0), (.int .i64 0), (.slice none 0 0)]) Tryd.underlying24 rfl ti24 hH66 (seg_sub 0 rfl) (CellsAt.one rfl)) (x := (.bool false)) rfl ?_)
            have hE_ := readR_no hgj (show s[0]? = some _ from hx22) (by first | exact .inl (by simpa using h7) | exact .inr (.inl (by simpa using h7)) | exact .inr (.inr h7) | exact .inl (by simpa using h38) | exact .inr (.inl (by simpa using h38)) | exact .inr (.inr h38) | exact .inl (by simpa using h38_n) | exact .inr (.inl (by simpa using h38_n)) | exact .inr (.inr h38_n) | exact .inl (by simpa using h50) | exact .inr (.inl (by simpa using h50)) | exact .inr (.inr h50) | exact .inl (by simpa using h50_n) | exact .inr (.inl (by simpa using h50_n)) | exact .inr (.inr h50_n) | exact .inl (by simpa using h62) | exact .inr (.inl (by simpa using h62)) | exact .inr (.inr h62))
            have q67 : (readR s).2.1 = 0 := by rw [hE_]
            have q68 : (readR s).2.2.1 = 0 := by rw [hE_]
            have q69 : (readR s).2.2.2 = ([] : List Cel) := by rw [hE_]
            have q70 : (readR s).1 = false := by rw [hE_]
            have hH71 : Has E w65 [[], R] := (Has.nil (hH66.front 3 rfl)).first 2 rfl
            exact ⟨_, _, by rw [q67, q68]; rw [q70], (by rw [q69]; exact (Own.nil 45 2)), hH71⟩
          · -- not: (laidP (c21.toNat : Int) ((takeS (s.drop 1) 8).1) accj) ≠ s
            refine wp_skip ?_
            refine t_norm (hK36 _ _ ?_)
            refine wp_seq_k fun K72 hK72 => ?_
            refine c_region ?_
            refine s_op (o_loadN (cs := [(.int .i64 (c21.toNat : Int)), (.int .i64 ((takeS (s.drop 1) 8).1)), vj]) Tryd.underlying24 rfl ti24 e30_6 hH60 (seg_sub 1 rfl) (CellsAt.one rfl) ?_)
            refine s_eff (o_storeN (vs := [(.int .i64 (c21.toNat : Int)), (.int .i64 ((takeS (s.drop 1) 8).1)), vj]) (c' := #[(.int .i64 (c21.toNat : Int)), (.int .i64 ((takeS (s.drop 1) 8).1)), vj]) ti24 e30_2 rfl rfl rfl (by intro u hu; simp only [List.mem_cons, List.not_mem_nil, or_false] at hu; rcases hu with rfl | rfl | rfl <;> first | rfl | exact hoj.one) (by simp) (by kernel_rfl) (hH60.front 2 rfl) fun w73 hH74 => ?_)
            refine s_op (o_assign (v := (.bool true)) rfl ?_)
            refine s_nil ?_
            refine t_norm (hK72 _ _ ?_)
            refine wp_ret ?_
            refine c_retC2 Tryd.results20 e30_2 (run_loadVarN (cs := [(.int .i64 (c21.toNat : Int)), (.int .i64 ((takeS (s.drop 1) 8).1)), vj]) Tryd.underlying24 rfl ti24 hH74 (seg_sub 0 rfl) (CellsAt.one rfl)) (x := (.bool true)) rfl ?_
            rw [show okj = true by simpa using h38] at hgj
            have hE_ := readR_yes (s := s) (by omega) (show s[0]? = some _ from hx22) hgj (by first | (simpa using h50) | (simpa using h50_n)) (Classical.not_not.1 h62)
            have q75 : (readR s).2.1 = (c21.toNat : Int) := by rw [hE_]
            have q76 : (readR s).2.2.1 = (takeS (s.drop 1) 8).1 := by rw [hE_]
            have q77 : (readR s).2.2.2 = accj := by rw [hE_]
            have q78 : (readR s).1 = true := by rw [hE_]
            have hH79 : Has E w73 [sj, R] := ((hH74.front 3 rfl).front 2 rfl).first 2 rfl
            exact ⟨_, _, by rw [q75, q76]; rw [q78], (by rw [q77]; exact hoj), hH79⟩
    refine wp_seq_k fun K80 hK80 => ?_
    refine c_region ?_
    refine s_op (o_assign (v := (.int .i64 0)) rfl ?_)
    refine s_nil ?_
    refine t_norm (hK80 _ _ ?_)
    refine wp_block ?_
    let I82 : Nat → (Nat → Value) → World → Prop := fun n__ r__ w__ => ∃ (i : Nat) (at_ : Nat) (ok : Bool) (vo : Value) (so : List Hp) (acc : List Cel), n__ = 8 - i ∧ Has E w__ [so, [Hp.one b23 (.cells #[(.int .i64 (c21.toNat : Int)), (.int .i64 ((takeS (s.drop 1) 8).1)), vo] 24 (0, 0))], [Hp.one b2 (.cells #[(.int .i64 0), (.int .i64 0), (.slice none 0 0)] 24 (0, 0))], R] ∧ (Own 45 2 vo acc.length (acc.flatMap ceC) so) ∧ (i ≤ 8 ∧ at_ ≤ 10 + 26 * i ∧ acc.length ≤ i) ∧ (goR0 s = grS s ok (min c9.toNat 8 - i) at_ acc) ∧ r__ 0 = (S s) ∧ r__ 2 = (.pointer (some ⟨b2, 0, none⟩)) ∧ r__ 3 = (.bool false) ∧ r__ 4 = (.int .i64 ((takeS (s.drop 1) 8).1)) ∧ r__ 5 = (.bool ok) ∧ r__ 6 = (.pointer (some ⟨b23, 0, none⟩)) ∧ r__ 7 = (.int .i64 (at_ : Int)) ∧ r__ 8 = (.int .i64 (i : Int)) ∧ r__ 13 = (.bool (decide ((s.length : Int) ≠ 256)))
    have hH83 : Has E w26 [[], [Hp.one b23 (.cells #[(.int .i64 (c21.toNat : Int)), (.int .i64 ((takeS (s.drop 1) 8).1)), (.slice none 0 0)] 24 (0, 0))], [Hp.one b2 (.cells #[(.int .i64 0), (.int .i64 0), (.slice none 0 0)] 24 (0, 0))], R] := (Has.nil (((hH27.front 2 rfl).front 2 rfl).front 2 rfl)).first 4 rfl
    refine c_loop I82 _ ⟨0, 10, ((takeS (s.drop 1) 8).2.2), (.slice none 0 0), [], [], rfl, hH83, Own.nil 45 2, ⟨by omega, by omega, by simp⟩, goR0_start (show s[9]? = some _ from hc9), rfl, rfl, rfl, rfl, rfl, rfl, rfl, rfl, rfl⟩ ?_
    rintro n_ r86 w84 ⟨i, at_, ok, vo, so, acc, rfl, hH85, hoo, hi, hgo, e81_0, e81_2, e81_3, e81_4, e81_5, e81_6, e81_7, e81_8, e81_13⟩
    obtain ⟨hi1_, hi2_, hi3_⟩ := hi
    refine wp_seq_k fun K87 hK87 => ?_
    refine wp_seq_k fun K88 hK88 => ?_
    refine c_region ?_
    refine s_op (o_move (v := (.int .i64 (i : Int))) e81_8 ?_)
    refine s_op (o_move (v := (S s)) e81_0 ?_)
    refine s_op (o_sidx Tryd.underlying9 rfl rfl (by omega) hc9 ?_)
    refine s_op (o_conv Tryd.underlying5 Tryd.underlying3 rfl (w_u8 _) ?_)
    refine s_op (o_lss (a := (i : Int)) (b := (c9.toNat : Int)) rfl rfl ?_)
    refine s_op (o_move (v := (.bool (decide ((i : Int) < (c9.toNat : Int))))) rfl ?_)
    by_cases h89 : (i : Int) < (c9.toNat : Int)
    · -- (i : Int) < (c9.toNat : Int)
      refine s_on 31 rfl (congrArg Value.bool (decide_eq_true h89)) (o_move (v := (.int .i64 (i : Int))) e81_8 ?_)
      refine s_on 31 rfl (congrArg Value.bool (decide_eq_true h89)) (o_lss (a := (i : Int)) (b := 8) rfl rfl ?_)
      refine s_op (o_pick_t (u := (.bool (decide ((i : Int) < 8)))) ((rfl : _ = _).trans (congrArg Value.bool (decide_eq_true h89))) rfl ?_)
      refine s_op (o_move (v := (.bool (decide ((i : Int) < 8)))) rfl ?_)
      by_cases h90 : (i : Int) < 8
      · -- (i : Int) < 8
        refine s_on 35 rfl (congrArg Value.bool (decide_eq_true h90)) (o_move (v := (.bool ok)) e81_5 ?_)
        refine s_op (o_pick_t (u := (.bool ok)) ((rfl : _ = _).trans (congrArg Value.bool (decide_eq_true h90))) rfl ?_)
        refine s_nil ?_
        refine t_norm (hK88 _ _ ?_)
        refine c_condb rfl (fun h91 => ?_) (fun h91 => ?_)
        · -- ok
          refine wp_skip ?_
          refine t_norm (hK87 _ _ ?_)
          refine wp_seq_k fun K92 hK92 => ?_
          refine wp_block ?_
          refine wp_seq_k fun K93 hK93 => ?_
          refine c_region ?_
          refine s_op (o_move (v := (S s)) e81_0 ?_)
          refine s_op (o_move (v := (.int .i64 (at_ : Int))) e81_7 ?_)
          obtain ⟨c94, hx95⟩ : ∃ x_, s[((at_ : Int)).toNat]? = some x_ := get_some (by omega)
          have c94_lt := c94.toNat_lt
          refine s_op (o_sidx Tryd.underlying9 rfl rfl (by omega) hx95 ?_)
          refine s_op (o_conv Tryd.underlying5 Tryd.underlying3 rfl (w_u8 _) ?_)
          refine s_op (o_assign (v := (.int .i64 (c94.toNat : Int))) rfl ?_)
          refine s_nil ?_
          refine t_norm (hK93 _ _ ?_)
          refine wp_seq_k fun K96 hK96 => ?_
          refine c_region ?_
          refine s_op (o_move (v := (.int .i64 (c94.toNat : Int))) rfl ?_)
          refine s_op (o_leq (a := (c94.toNat : Int)) (b := 8) rfl rfl ?_)
          refine s_op (o_assign (v := (.bool (decide ((c94.toNat : Int) ≤ 8)))) rfl ?_)
          refine s_nil ?_
          refine t_norm (hK96 _ _ ?_)
          refine wp_seq_k fun K97 hK97 => ?_
          refine wp_seq_k fun K98 hK98 => ?_
          refine c_region ?_
          refine s_op (o_move (v := (.bool (decide ((c94.toNat : Int) ≤ 8)))) rfl ?_)
          refine s_op (o_not2 (b := decide ((c94.toNat : Int) ≤ 8)) (b' := decide (¬ ((c94.toNat : Int) ≤ 8))) rfl not_dec ?_)
          refine s_nil ?_
          refine t_norm (hK98 _ _ ?_)
          refine c_cond rfl (fun h99 => ?_) (fun h99 => ?_)
          · -- ¬ ((c94.toNat : Int) ≤ 8)
            refine wp_exit ?_
            refine t_exit (x_out rfl (t_exit (t_exit (x_in (?_)))))
            refine t_norm (hJ32 _ _ ⟨(decide ((c94.toNat : Int) ≤ 8)), vo, so, acc, hH85, (hoo), (by rw [decide_eq_false (by omega)]; exact grS_no1 hgo h91 (by omega) (show s[at_]? = some _ from hx95) (by omega)), (by omega), e81_0, e81_2, e81_3, e81_4, rfl, e81_6, e81_13⟩)
          · -- not: ¬ ((c94.toNat : Int) ≤ 8)
            refine wp_skip ?_
            refine t_norm (hK97 _ _ ?_)
            refine wp_seq_k fun K100 hK100 => ?_
            refine c_region ?_
            refine s_op (o_move (v := (S s)) e81_0 ?_)
            refine s_op (o_move (v := (.int .i64 (at_ : Int))) e81_7 ?_)
            refine s_op (o_add (a := (at_ : Int)) (b := 1) rfl rfl (w64 (by omega) (by omega)) ?_)
            refine s_op (o_move (v := (.int .i64 (c94.toNat : Int))) rfl ?_)
            refine s_op (o_add (a := (at_ : Int) + 1) (b := (c94.toNat : Int)) rfl rfl (w64 (by omega) (by omega)) ?_)
            obtain ⟨c101, hx102⟩ : ∃ x_, s[(((at_ : Int) + 1) + (c94.toNat : Int)).toNat]? = some x_ := get_some (by omega)
            have c101_lt := c101.toNat_lt
            refine s_op (o_sidx Tryd.underlying9 rfl rfl (by omega) hx102 ?_)
            refine s_op (o_conv Tryd.underlying5 Tryd.underlying3 rfl (w_u8 _) ?_)
            refine s_op (o_assign (v := (.int .i64 (c101.toNat : Int))) rfl ?_)
            refine s_nil ?_
            refine t_norm (hK100 _ _ ?_)
            refine wp_seq_k fun K103 hK103 => ?_
            refine c_region ?_
            refine s_op (o_move (v := (.int .i64 (c101.toNat : Int))) rfl ?_)
            refine s_op (o_leq (a := (c101.toNat : Int)) (b := 16) rfl rfl ?_)
            refine s_op (o_assign (v := (.bool (decide ((c101.toNat : Int) ≤ 16)))) rfl ?_)
            refine s_nil ?_
            refine t_norm (hK103 _ _ ?_)
            refine wp_seq_k fun K104 hK104 => ?_
            refine wp_seq_k fun K105 hK105 => ?_
            refine c_region ?_
            refine s_op (o_move (v := (.bool (decide ((c101.toNat : Int) ≤ 16)))) rfl ?_)
            refine s_op (o_not2 (b := decide ((c101.toNat : Int) ≤ 16)) (b' := decide (¬ ((c101.toNat : Int) ≤ 16))) rfl not_dec ?_)
            refine s_nil ?_
            refine t_norm (hK105 _ _ ?_)
            refine c_cond rfl (fun h106 => ?_) (fun h106 => ?_)
            · -- ¬ ((c101.toNat : Int) ≤ 16)
              refine wp_exit ?_
              refine t_exit (x_out rfl (t_exit (t_exit (x_in (?_)))))
              refine t_norm (hJ32 _ _ ⟨(decide ((c101.toNat : Int) ≤ 16)), vo, so, acc, hH85, (hoo), (by rw [decide_eq_false (by omega)]; exact grS_no2 hgo h91 (by omega) (show s[at_]? = some _ from hx95) (by omega) hx102 (by omega) (by omega)), (by omega), e81_0, e81_2, e81_3, e81_4, rfl, e81_6, e81_13⟩)
            · -- not: ¬ ((c101.toNat : Int) ≤ 16)
              refine wp_skip ?_
              refine t_norm (hK104 _ _ ?_)
              refine wp_seq_k fun K107 hK107 => ?_
              refine Rest.region mixed (by kernel_rfl) ?_
              have hH108 : Has E { w84 with drawn := w84.drawn + 1 } [so, [Hp.one b23 (.cells #[(.int .i64 (c21.toNat : Int)), (.int .i64 ((takeS (s.drop 1) 8).1)), vo] 24 (0, 0))], [Hp.one b2 (.cells #[(.int .i64 0), (.int .i64 0), (.slice none 0 0)] 24 (0, 0))], R] := Has0.drew hH85 _
              refine Rest.phaseA (fun w_ => Has E w_ [[Hp.one b23 (.cells #[(.int .i64 (c21.toNat : Int)), (.int .i64 ((takeS (s.drop 1) 8).1)), vo] 24 (0, 0))]]) 0 24 24 rfl (by decide) (by kernel_rfl) ?_
              refine a_op 0 rfl (by kernel_rfl) (fun w_ h_ => o_fieldAddr (k := 2) (fun _ => by kernel_rfl) e81_6 ⟨rfl, rfl⟩) ?_
              refine a_op 1 rfl (by kernel_rfl) (fun w_ h_ => o_load1 (v := vo) Tryd.underlying22 rfl rfl h_ (seg_sub 0 rfl) (CellsAt.one rfl) ⟨rfl, rfl⟩) ?_
              refine a_op 2 rfl (by kernel_rfl) (fun w_ h_ => o_move (v := (S s)) e81_0 ⟨rfl, rfl⟩) ?_
              refine a_op 3 rfl (by kernel_rfl) (fun w_ h_ => o_move (v := (.int .i64 (at_ : Int))) e81_7 ⟨rfl, rfl⟩) ?_
              refine a_op 4 rfl (by kernel_rfl) (fun w_ h_ => o_add (a := (at_ : Int)) (b := 1) rfl rfl (w64 (by omega) (by omega)) ⟨rfl, rfl⟩) ?_
              refine a_op 5 rfl (by kernel_rfl) (fun w_ h_ => o_move (v := (.int .i64 (at_ : Int))) e81_7 ⟨rfl, rfl⟩) ?_
              refine a_op 6 rfl (by kernel_rfl) (fun w_ h_ => o_add (a := (at_ : Int)) (b := 1) rfl rfl (w64 (by omega) (by omega)) ⟨rfl, rfl⟩) ?_
              refine a_op 7 rfl (by kernel_rfl) (fun w_ h_ => o_move (v := (.int .i64 (c94.toNat : Int))) rfl ⟨rfl, rfl⟩) ?_
              refine a_op 8 rfl (by kernel_rfl) (fun w_ h_ => o_add (a := (at_ : Int) + 1) (b := (c94.toNat : Int)) rfl rfl (w64 (by omega) (by omega)) ⟨rfl, rfl⟩) ?_
              refine a_op 9 rfl (by kernel_rfl) (fun w_ h_ => o_ssl Tryd.underlying9 rfl rfl rfl (by omega) (by omega) (by omega) ⟨rfl, rfl⟩) ?_
              refine a_op 10 rfl (by kernel_rfl) (fun w_ h_ => o_move (v := (S s)) e81_0 ⟨rfl, rfl⟩) ?_
              refine a_op 11 rfl (by kernel_rfl) (fun w_ h_ => o_move (v := (.int .i64 (at_ : Int))) e81_7 ⟨rfl, rfl⟩) ?_
              refine a_op 12 rfl (by kernel_rfl) (fun w_ h_ => o_add (a := (at_ : Int)) (b := 2) rfl rfl (w64 (by omega) (by omega)) ⟨rfl, rfl⟩) ?_
              refine a_op 13 rfl (by kernel_rfl) (fun w_ h_ => o_move (v := (.int .i64 (c94.toNat : Int))) rfl ⟨rfl, rfl⟩) ?_
              refine a_op 14 rfl (by kernel_rfl) (fun w_ h_ => o_add (a := (at_ : Int) + 2) (b := (c94.toNat : Int)) rfl rfl (w64 (by omega) (by omega)) ⟨rfl, rfl⟩) ?_
              refine a_op 15 rfl (by kernel_rfl) (fun w_ h_ => o_move (v := (.int .i64 (at_ : Int))) e81_7 ⟨rfl, rfl⟩) ?_
              refine a_op 16 rfl (by kernel_rfl) (fun w_ h_ => o_add (a := (at_ : Int)) (b := 2) rfl rfl (w64 (by omega) (by omega)) ⟨rfl, rfl⟩) ?_
              refine a_op 17 rfl (by kernel_rfl) (fun w_ h_ => o_move (v := (.int .i64 (c94.toNat : Int))) rfl ⟨rfl, rfl⟩) ?_
              refine a_op 18 rfl (by kernel_rfl) (fun w_ h_ => o_add (a := (at_ : Int) + 2) (b := (c94.toNat : Int)) rfl rfl (w64 (by omega) (by omega)) ⟨rfl, rfl⟩) ?_
              refine a_op 19 rfl (by kernel_rfl) (fun w_ h_ => o_move (v := (.int .i64 (c101.toNat : Int))) rfl ⟨rfl, rfl⟩) ?_
              refine a_op 20 rfl (by kernel_rfl) (fun w_ h_ => o_add (a := ((at_ : Int) + 2) + (c94.toNat : Int)) (b := (c101.toNat : Int)) rfl rfl (w64 (by omega) (by omega)) ⟨rfl, rfl⟩) ?_
              refine a_op 21 rfl (by kernel_rfl) (fun w_ h_ => o_ssl Tryd.underlying9 rfl rfl rfl (by omega) (by omega) (by omega) ⟨rfl, rfl⟩) ?_
              refine a_op 22 rfl (by kernel_rfl) (fun w_ h_ => o_sight (v := (.agg #[(S ((s.take (((at_ : Int) + 1) + (c94.toNat : Int)).toNat).drop ((at_ : Int) + 1).toNat)), (S ((s.take ((((at_ : Int) + 2) + (c94.toNat : Int)) + (c101.toNat : Int)).toNat).drop (((at_ : Int) + 2) + (c94.toNat : Int)).toNat))])) (fun _ => by kernel_rfl) ⟨rfl, rfl⟩) ?_
              have hH109 : Has E { w84 with drawn := w84.drawn + 1 } [[Hp.one b23 (.cells #[(.int .i64 (c21.toNat : Int)), (.int .i64 ((takeS (s.drop 1) 8).1)), vo] 24 (0, 0))]] := (hH108.front 1 rfl).first 1 rfl
              refine a_w 23 rfl (by kernel_rfl) hH109 (o_buildSlice (ps := #[(0, (.agg #[(S ((s.take (((at_ : Int) + 1) + (c94.toNat : Int)).toNat).drop ((at_ : Int) + 1).toNat)), (S ((s.take ((((at_ : Int) + 2) + (c94.toNat : Int)) + (c101.toNat : Int)).toNat).drop (((at_ : Int) + 2) + (c94.toNat : Int)).toNat))]))]) (cells := #[(S ((s.take (((at_ : Int) + 1) + (c94.toNat : Int)).toNat).drop ((at_ : Int) + 1).toNat)), (S ((s.take ((((at_ : Int) + 2) + (c94.toNat : Int)) + (c101.toNat : Int)).toNat).drop (((at_ : Int) + 2) + (c94.toNat : Int)).toNat))]) Tryd.underlying22 ti45 (by decide) (parts1 rfl) (by kernel_rfl) hH108 fun b110 w111 hH112 => ?_)
              have hH113 : Has E w111 [[Hp.one b23 (.cells #[(.int .i64 (c21.toNat : Int)), (.int .i64 ((takeS (s.drop 1) 8).1)), vo] 24 (0, 0))]] := (hH112.front 2 rfl).first 1 rfl
              refine a_done (by kernel_rfl) hH113 ?_
              refine r_op 24 rfl (by kernel_rfl) (o_append Tryd.underlying22 ti45 rfl (by decide) rfl hoo rfl (sl_litF (f := ceC) (l := [(((s.take (((at_ : Int) + 1) + (c94.toNat : Int)).toNat).drop ((at_ : Int) + 1).toNat, (s.take ((((at_ : Int) + 2) + (c94.toNat : Int)) + (c101.toNat : Int)).toNat).drop (((at_ : Int) + 2) + (c94.toNat : Int)).toNat) : Cel)]) ceC_len rfl rfl (by simp)) (hH112.front 1 rfl) (seg_sub 0 rfl) (one_ceC _) (by simp; omega) (by simp; omega) fun v114 s115 w117 ho116 hH118 => ?_)
              have ho116 : Own 45 2 v114 (acc ++ [(((s.take (((at_ : Int) + 1) + (c94.toNat : Int)).toNat).drop ((at_ : Int) + 1).toNat, (s.take ((((at_ : Int) + 2) + (c94.toNat : Int)) + (c101.toNat : Int)).toNat).drop (((at_ : Int) + 2) + (c94.toNat : Int)).toNat) : Cel)]).length ((acc ++ [(((s.take (((at_ : Int) + 1) + (c94.toNat : Int)).toNat).drop ((at_ : Int) + 1).toNat, (s.take ((((at_ : Int) + 2) + (c94.toNat : Int)) + (c101.toNat : Int)).toNat).drop (((at_ : Int) + 2) + (c94.toNat : Int)).toNat) : Cel)]).flatMap ceC) s115 := ho116.appF
              refine r_op 25 rfl (by kernel_rfl) (o_fieldAddr (k := 2) (fun _ => by kernel_rfl) e81_6 ?_)
              refine r_eff 26 rfl (by kernel_rfl) (o_store1 (c' := #[(.int .i64 (c21.toNat : Int)), (.int .i64 ((takeS (s.drop 1) 8).1)), v114]) ti22 rfl rfl ho116.one (by simp) rfl (hH118.front 2 rfl) fun w119 hH120 => ?_)
              refine Rest.done (by kernel_rfl) ?_
              refine t_norm (hK107 _ _ ?_)
              refine c_region ?_
              refine s_op (o_move (v := (.int .i64 (at_ : Int))) e81_7 ?_)
              refine s_op (o_add (a := (at_ : Int)) (b := 2) rfl rfl (w64 (by omega) (by omega)) ?_)
              refine s_op (o_move (v := (.int .i64 (c94.toNat : Int))) rfl ?_)
              refine s_op (o_add (a := (at_ : Int) + 2) (b := (c94.toNat : Int)) rfl rfl (w64 (by omega) (by omega)) ?_)
              refine s_op (o_move (v := (.int .i64 (c101.toNat : Int))) rfl ?_)
              refine s_op (o_add (a := ((at_ : Int) + 2) + (c94.toNat : Int)) (b := (c101.toNat : Int)) rfl rfl (w64 (by omega) (by omega)) ?_)
              refine s_op (o_assign (v := (.int .i64 ((((at_ : Int) + 2) + (c94.toNat : Int)) + (c101.toNat : Int)))) rfl ?_)
              refine s_nil ?_
              refine b_norm ?_
              refine t_norm (hK92 _ _ ?_)
              refine c_region ?_
              refine s_op (o_move (v := (.int .i64 (i : Int))) e81_8 ?_)
              refine s_op (o_add (a := (i : Int)) (b := 1) rfl rfl (w64 (by omega) (by omega)) ?_)
              refine s_op (o_assign (v := (.int .i64 ((i : Int) + 1))) rfl ?_)
              refine s_nil ?_
              have hH121 : Has E w119 [s115, [Hp.one b23 (.cells #[(.int .i64 (c21.toNat : Int)), (.int .i64 ((takeS (s.drop 1) 8).1)), v114] 24 (0, 0))], [Hp.one b2 (.cells #[(.int .i64 0), (.int .i64 0), (.slice none 0 0)] 24 (0, 0))], R] := ((((hH120.front 4 rfl).front 4 rfl).front 2 rfl).front 3 rfl).first 4 rfl
              refine t_norm ⟨8 - (i + 1), _, rfl, ?_, ?_⟩
              · omega
              · exact ⟨(i + 1), (((((at_ : Int) + 2) + (c94.toNat : Int)) + (c101.toNat : Int)).toNat), (decide ((c101.toNat : Int) ≤ 16)), v114, s115, (acc ++ [(((s.take (((at_ : Int) + 1) + (c94.toNat : Int)).toNat).drop ((at_ : Int) + 1).toNat, (s.take ((((at_ : Int) + 2) + (c94.toNat : Int)) + (c101.toNat : Int)).toNat).drop (((at_ : Int) + 2) + (c94.toNat : Int)).toNat) : Cel)]), rfl, hH121, (ho116), (⟨by omega, by omega, by simp only [List.length_append, List.length_cons, List.length_nil]; omega⟩), (grS_go hgo h91 (by omega) (show s[at_]? = some _ from hx95) (by omega) hx102 (by omega) (by omega) (by omega) (by omega) (by omega) (by omega) (by omega) (decide_eq_true (by omega))), e81_0, e81_2, e81_3, e81_4, rfl, e81_6, rfl, rfl, e81_13⟩
        · -- not: ok
          refine wp_exit ?_
          refine t_exit (t_exit (x_in (?_)))
          refine t_norm (hJ32 _ _ ⟨ok, vo, so, acc, hH85, (hoo), (grS_end hgo (by first | exact .inr (by omega) | exact .inl (by simpa using h91))), (by omega), e81_0, e81_2, e81_3, e81_4, e81_5, e81_6, e81_13⟩)
      · -- not: (i : Int) < 8
        refine s_off (b' := false) 35 rfl (congrArg Value.bool (decide_eq_false h90)) rfl ?_
        refine s_op (o_pick_f (u := (.bool false)) ((rfl : _ = _).trans (congrArg Value.bool (decide_eq_false h90))) rfl ?_)
        refine s_nil ?_
        refine t_norm (hK88 _ _ ?_)
        refine c_false rfl rfl ?_
        refine wp_exit ?_
        refine t_exit (t_exit (x_in (?_)))
        refine t_norm (hJ32 _ _ ⟨ok, vo, so, acc, hH85, (hoo), (grS_end hgo (by first | exact .inr (by omega))), (by omega), e81_0, e81_2, e81_3, e81_4, e81_5, e81_6, e81_13⟩)
    · -- not: (i : Int) < (c9.toNat : Int)
      refine s_off (b' := false) 31 rfl (congrArg Value.bool (decide_eq_false h89)) rfl ?_
      refine s_off (b' := false) 31 rfl (congrArg Value.bool (decide_eq_false h89)) rfl ?_
      refine s_op (o_pick_f (u := (.bool false)) ((rfl : _ = _).trans (congrArg Value.bool (decide_eq_false h89))) rfl ?_)
      refine s_op (o_move (v := (.bool false)) rfl ?_)
      refine s_off (b' := false) 35 rfl rfl rfl ?_
      refine s_op (o_pick_f (u := (.bool false)) rfl rfl ?_)
      refine s_nil ?_
      refine t_norm (hK88 _ _ ?_)
      refine c_false rfl rfl ?_
      refine wp_exit ?_
      refine t_exit (t_exit (x_in (?_)))
      refine t_norm (hJ32 _ _ ⟨ok, vo, so, acc, hH85, (hoo), (grS_end hgo (by first | exact .inr (by omega))), (by omega), e81_0, e81_2, e81_3, e81_4, e81_5, e81_6, e81_13⟩)
end Go.Q
namespace Go.Q
open Go.Proofs
set_option linter.unusedVariables false
set_option maxRecDepth 100000
attribute [local irreducible] wpList OK Code.wp
set_option maxHeartbeats 4000000 in
theorem pread_c {E w : World} {R : List Hp} {s : Bs}  (hH : Has E w [R]) (hg : CellsAt R 0 0 nibV) :
    Calls Tryd.prog 19 #[(S s)] w fun e w' => ∃ (v1' : Value) (s2' : List Hp), e = .returned (.tuple #[(.agg #[(.int .i64 ((readP s).2.1)), (.int .i64 ((readP s).2.2.1)), v1']), (.bool ((readP s).1))]) ∧ (Own 45 2 v1' ((readP s).2.2.2).length (((readP s).2.2.2).flatMap ceC) s2') ∧ Has E w' [s2', R] := by
  have hr1_ := take_rest_le s 1
  have hr2_ := take_rest_le (takeS s 1).2.1 8
  have hr3_ := take_rest_le (takeS (takeS s 1).2.1 8).2.1 1
  have hto_ := take_one (takeS (takeS s 1).2.1 8).2.1
  have hto1_ := take_one s
  refine c_enter (args := [(S s)]) Tryd.func19 rfl Tryd.ntmps19 (by simp) ?_
  refine wp_seq_k fun K1 hK1 => ?_
  refine c_region ?_
  refine s_op (o_alloc (cs := #[(.int .i64 0), (.int .i64 0), (.slice none 0 0)]) ti24 rfl hH fun b2 w3 hH4 => ?_)
  refine s_op (o_assign (v := (.bool false)) rfl ?_)
  refine s_nil ?_
  refine t_norm (hK1 _ _ ?_)
  refine wp_seq_k fun K5 hK5 => ?_
  refine wp_seq_k fun K6 hK6 => ?_
  refine c_region ?_
  refine s_op (o_move (v := (S s)) rfl ?_)
  refine s_op (o_slen Tryd.underlying9 rfl ?_)
  refine s_op (o_neq (a := (s.length : Int)) (b := 256) rfl rfl ?_)
  refine s_nil ?_
  refine t_norm (hK6 _ _ ?_)
  refine c_cond rfl (fun h7 => ?_) (fun h7 => ?_)
  · -- (s.length : Int) ≠ 256
    refine wp_seq_k fun K8 hK8 => ?_
    refine c_region ?_
    refine s_op (o_sight (v := (.agg #[(.int .i64 0), (.int .i64 0), (.slice none 0 0)])) (fun _ => by kernel_rfl) ?_)
    refine s_eff (o_storeN (vs := [(.int .i64 0), (.int .i64 0), (.slice none 0 0)]) (c' := #[(.int .i64 0), (.int .i64 0), (.slice none 0 0)]) ti24 rfl rfl rfl rfl (by intro u hu; simp only [List.mem_cons, List.not_mem_nil, or_false] at hu; rcases hu with rfl | rfl | rfl <;> first | rfl) (by simp) (by kernel_rfl) (hH4.front 0 rfl) fun w9 hH10 => ?_)
    refine s_op (o_assign (v := (.bool false)) rfl ?_)
    refine s_nil ?_
    refine t_norm (hK8 _ _ ?_)
    refine wp_ret ?_
    refine t_ret (c_retC2 Tryd.results19 rfl (run_loadVarN (cs := [(.int .i64 0), (.int .i64 0), (.slice none 0 0)]) Tryd.underlying24 rfl ti24 hH10 (seg_sub 0 rfl) (CellsAt.one rfl)) (x := (.bool false)) rfl ?_)
    have hE_ := readP_no (s := s) (.inl (by omega))
    have q11 : (readP s).2.1 = 0 := by rw [hE_]
    have q12 : (readP s).2.2.1 = 0 := by rw [hE_]
    have q13 : (readP s).2.2.2 = ([] : List Cel) := by rw [hE_]
    have q14 : (readP s).1 = false := by rw [hE_]
    have hH15 : Has E w9 [[], R] := (Has.nil (hH10.front 1 rfl)).first 2 rfl
    exact ⟨_, _, by rw [q11, q12]; rw [q14], (by rw [q13]; exact (Own.nil 45 2)), hH15⟩
  · -- not: (s.length : Int) ≠ 256
    refine wp_skip ?_
    refine t_norm (hK5 _ _ ?_)
    refine wp_seq_k fun K16 hK16 => ?_
    refine c_region ?_
    refine s_op (o_alloc (cs := #[(.int .i64 0), (.int .i64 0), (.slice none 0 0)]) ti24 rfl hH4 fun b17 w18 hH19 => ?_)
    refine s_nil ?_
    refine t_norm (hK16 _ _ ?_)
    refine wp_seq_k fun K20 hK20 => ?_
    refine c_region ?_
    refine s_op (o_move (v := (S s)) rfl ?_)
    refine s_op (o_callf (vs := #[(S s), (.int .i64 1)]) ca49 rfl (args2 rfl rfl) (take_c hH19.all 1 s (by omega)) ?_)
    rintro _ w23 ⟨rfl, hX21⟩
    refine ⟨_, rfl, ?_⟩
    have hH22 := hX21.of_all
    refine s_op (o_move (v := (.tuple #[(.int .i64 ((takeS s 1).1)), (S ((takeS s 1).2.1)), (.bool ((takeS s 1).2.2))])) rfl ?_)
    refine s_op (o_extract (v := (.int .i64 ((takeS s 1).1))) rfl rfl ?_)
    refine s_op (o_extract (v := (S ((takeS s 1).2.1))) rfl rfl ?_)
    refine s_op (o_extract (v := (.bool ((takeS s 1).2.2))) rfl rfl ?_)
    refine s_op (o_assign (v := (.int .i64 ((takeS s 1).1))) rfl ?_)
    refine s_op (o_assign (v := (S ((takeS s 1).2.1))) rfl ?_)
    refine s_op (o_assign (v := (.bool ((takeS s 1).2.2))) rfl ?_)
    refine s_nil ?_
    refine t_norm (hK20 _ _ ?_)
    refine wp_seq_k fun K24 hK24 => ?_
    refine c_region ?_
    refine s_op (o_move (v := (S ((takeS s 1).2.1))) rfl ?_)
    refine s_op (o_callf (vs := #[(S ((takeS s 1).2.1)), (.int .i64 8)]) ca49 rfl (args2 rfl rfl) (take_c hH22.all 8 ((takeS s 1).2.1) (by omega)) ?_)
    rintro _ w27 ⟨rfl, hX25⟩
    refine ⟨_, rfl, ?_⟩
    have hH26 := hX25.of_all
    refine s_op (o_move (v := (.tuple #[(.int .i64 ((takeS ((takeS s 1).2.1) 8).1)), (S ((takeS ((takeS s 1).2.1) 8).2.1)), (.bool ((takeS ((takeS s 1).2.1) 8).2.2))])) rfl ?_)
    refine s_op (o_extract (v := (.int .i64 ((takeS ((takeS s 1).2.1) 8).1))) rfl rfl ?_)
    refine s_op (o_extract (v := (S ((takeS ((takeS s 1).2.1) 8).2.1))) rfl rfl ?_)
    refine s_op (o_extract (v := (.bool ((takeS ((takeS s 1).2.1) 8).2.2))) rfl rfl ?_)
    refine s_op (o_assign (v := (.int .i64 ((takeS ((takeS s 1).2.1) 8).1))) rfl ?_)
    refine s_op (o_assign (v := (S ((takeS ((takeS s 1).2.1) 8).2.1))) rfl ?_)
    refine s_op (o_assign (v := (.bool ((takeS ((takeS s 1).2.1) 8).2.2))) rfl ?_)
    refine s_nil ?_
    refine t_norm (hK24 _ _ ?_)
    refine wp_seq_k fun K28 hK28 => ?_
    refine c_region ?_
    refine s_op (o_move (v := (S ((takeS ((takeS s 1).2.1) 8).2.1))) rfl ?_)
    refine s_op (o_callf (vs := #[(S ((takeS ((takeS s 1).2.1) 8).2.1)), (.int .i64 1)]) ca49 rfl (args2 rfl rfl) (take_c hH26.all 1 ((takeS ((takeS s 1).2.1) 8).2.1) (by omega)) ?_)
    rintro _ w31 ⟨rfl, hX29⟩
    refine ⟨_, rfl, ?_⟩
    have hH30 := hX29.of_all
    refine s_op (o_move (v := (.tuple #[(.int .i64 ((takeS ((takeS ((takeS s 1).2.1) 8).2.1) 1).1)), (S ((takeS ((takeS ((takeS s 1).2.1) 8).2.1) 1).2.1)), (.bool ((takeS ((takeS ((takeS s 1).2.1) 8).2.1) 1).2.2))])) rfl ?_)
    refine s_op (o_extract (v := (.int .i64 ((takeS ((takeS ((takeS s 1).2.1) 8).2.1) 1).1))) rfl rfl ?_)
    refine s_op (o_extract (v := (S ((takeS ((takeS ((takeS s 1).2.1) 8).2.1) 1).2.1))) rfl rfl ?_)
    refine s_op (o_extract (v := (.bool ((takeS ((takeS ((takeS s 1).2.1) 8).2.1) 1).2.2))) rfl rfl ?_)
    refine s_op (o_assign (v := (.int .i64 ((takeS ((takeS ((takeS s 1).2.1) 8).2.1) 1).1))) rfl ?_)
    refine s_op (o_assign (v := (S ((takeS ((takeS ((takeS s 1).2.1) 8).2.1) 1).2.1))) rfl ?_)
    refine s_op (o_assign (v := (.bool ((takeS ((takeS ((takeS s 1).2.1) 8).2.1) 1).2.2))) rfl ?_)
    refine s_nil ?_
    refine t_norm (hK28 _ _ ?_)
    refine wp_seq_k fun K32 hK32 => ?_
    refine c_region ?_
    refine s_op (o_move (v := (.int .i64 ((takeS s 1).1))) rfl ?_)
    refine s_op (o_move (v := (.int .i64 ((takeS ((takeS s 1).2.1) 8).1))) rfl ?_)
    refine s_op (o_fieldAddr (k := 0) (fun _ => by kernel_rfl) rfl ?_)
    refine s_eff (o_store1 (c' := #[(.int .i64 ((takeS s 1).1)), (.int .i64 0), (.slice none 0 0)]) ti3 rfl rfl rfl (by simp) rfl (hH30.front 0 rfl) fun w33 hH34 => ?_)
    refine s_op (o_fieldAddr (k := 1) (fun _ => by kernel_rfl) rfl ?_)
    refine s_eff (o_store1 (c' := #[(.int .i64 ((takeS s 1).1)), (.int .i64 ((takeS ((takeS s 1).2.1) 8).1)), (.slice none 0 0)]) ti3 rfl rfl rfl (by simp) rfl (hH34.front 0 rfl) fun w35 hH36 => ?_)
    refine s_nil ?_
    refine t_norm (hK32 _ _ ?_)
    refine wp_seq_k fun K37 hK37 => ?_
    refine wp_block ?_
    let I39 : Nat → (Nat → Value) → World → Prop := fun n__ r__ w__ => ∃ (ok : Bool) (n : Int) (rest : Bs) (vo : Value) (so : List Hp) (acc : List Cel), n__ = n.toNat ∧ Has E w__ [so, [Hp.one b17 (.cells #[(.int .i64 ((takeS s 1).1)), (.int .i64 ((takeS ((takeS s 1).2.1) 8).1)), vo] 24 (0, 0))], [Hp.one b2 (.cells #[(.int .i64 0), (.int .i64 0), (.slice none 0 0)] 24 (0, 0))], R] ∧ (Own 45 2 vo acc.length (acc.flatMap ceC) so) ∧ (acc.length ≤ 8) ∧ (rest.length ≤ 256) ∧ (n ≤ 255) ∧ (goP0 s = goS ok n rest acc) ∧ r__ 0 = (S s) ∧ r__ 2 = (.pointer (some ⟨b2, 0, none⟩)) ∧ r__ 3 = (.bool false) ∧ r__ 4 = (.pointer (some ⟨b17, 0, none⟩)) ∧ r__ 5 = (.int .i64 ((takeS s 1).1)) ∧ r__ 6 = (S rest) ∧ r__ 8 = (.int .i64 ((takeS ((takeS s 1).2.1) 8).1)) ∧ r__ 9 = (.bool ok) ∧ r__ 10 = (.int .i64 n) ∧ r__ 15 = (.bool (decide ((s.length : Int) ≠ 256)))
    have hH40 : Has E w35 [[], [Hp.one b17 (.cells #[(.int .i64 ((takeS s 1).1)), (.int .i64 ((takeS ((takeS s 1).2.1) 8).1)), (.slice none 0 0)] 24 (0, 0))], [Hp.one b2 (.cells #[(.int .i64 0), (.int .i64 0), (.slice none 0 0)] 24 (0, 0))], R] := (Has.nil (((hH36.front 2 rfl).front 2 rfl).front 2 rfl)).first 4 rfl
    refine c_loop I39 _ ⟨((takeS ((takeS s 1).2.1) 8).2.2), ((takeS ((takeS ((takeS s 1).2.1) 8).2.1) 1).1), ((takeS ((takeS ((takeS s 1).2.1) 8).2.1) 1).2.1), (.slice none 0 0), [], [], rfl, hH40, Own.nil 45 2, (by simp), (by omega), (by omega), goS_start s, rfl, rfl, rfl, rfl, rfl, rfl, rfl, rfl, rfl, rfl⟩ ?_
    rintro n_ r43 w41 ⟨ok, n, rest, vo, so, acc, rfl, hH42, hoo, hal, hrl, hn, hgo, e38_0, e38_2, e38_3, e38_4, e38_5, e38_6, e38_8, e38_9, e38_10, e38_15⟩
    refine wp_seq_k fun K44 hK44 => ?_
    refine wp_seq_k fun K45 hK45 => ?_
    refine c_region ?_
    refine s_op (o_move (v := (.bool ok)) e38_9 ?_)
    refine s_op (o_move (v := (.bool ok)) rfl ?_)
    rcases Bool.eq_false_or_eq_true ok with h46 | h46
    · -- ok
      refine s_on 40 rfl (congrArg Value.bool h46) (o_move (v := (.int .i64 n)) e38_10 ?_)
      refine s_on 40 rfl (congrArg Value.bool h46) (o_gtr (a := n) (b := 0) rfl rfl ?_)
      refine s_op (o_pick_t (u := (.bool (decide (0 < n)))) ((rfl : _ = _).trans (congrArg Value.bool h46)) rfl ?_)
      refine s_op (o_move (v := (.bool (decide (0 < n)))) rfl ?_)
      by_cases h47 : 0 < n
      · -- 0 < n
        refine s_on 44 rfl (congrArg Value.bool (decide_eq_true h47)) (o_fieldAddr (k := 2) (fun _ => by kernel_rfl) e38_4 ?_)
        refine s_on 44 rfl (congrArg Value.bool (decide_eq_true h47)) (o_load1 (v := vo) Tryd.underlying22 rfl rfl hH42 (seg_sub 1 rfl) (CellsAt.one rfl) ?_)
        refine s_on 44 rfl (congrArg Value.bool (decide_eq_true h47)) (o_lenS Tryd.underlying22 rfl hoo.sl ?_)
        refine s_on 44 rfl (congrArg Value.bool (decide_eq_true h47)) (o_lss (a := ((acc.length : Nat) : Int)) (b := 8) rfl rfl ?_)
        refine s_op (o_pick_t (u := (.bool (decide (((acc.length : Nat) : Int) < 8)))) ((rfl : _ = _).trans (congrArg Value.bool (decide_eq_true h47))) rfl ?_)
        refine s_nil ?_
        refine t_norm (hK45 _ _ ?_)
        refine c_cond rfl (fun h48 => ?_) (fun h48 => ?_)
        · -- ((acc.length : Nat) : Int) < 8
          refine wp_skip ?_
          refine t_norm (hK44 _ _ ?_)
          refine wp_seq_k fun K49 hK49 => ?_
          refine wp_block ?_
          refine wp_seq_k fun K50 hK50 => ?_
          refine c_region ?_
          refine s_op (o_alloc (cs := #[(S ([] : List UInt8)), (S ([] : List UInt8))]) ti45 rfl hH42 fun b51 w52 hH53 => ?_)
          refine s_nil ?_
          refine t_norm (hK50 _ _ ?_)
          refine wp_seq_k fun K54 hK54 => ?_
          refine c_region ?_
          refine s_op (o_move (v := (S rest)) e38_6 ?_)
          refine s_op (o_callf (vs := #[(S rest)]) ca50 rfl (args1 rfl) (text_c (s := rest) hH53.all (by first | omega | (simp only []; omega) | (simp; done) | (simp; omega))) ?_)
          rintro _ w57 ⟨rfl, hX55⟩
          refine ⟨_, rfl, ?_⟩
          have hH56 := hX55.of_all
          have htl_ := textS_le rest
          refine s_op (o_move (v := (.tuple #[(S ((textS rest).1)), (S ((textS rest).2.1)), (.bool ((textS rest).2.2))])) rfl ?_)
          refine s_op (o_extract (v := (S ((textS rest).1))) rfl rfl ?_)
          refine s_op (o_extract (v := (S ((textS rest).2.1))) rfl rfl ?_)
          refine s_op (o_extract (v := (.bool ((textS rest).2.2))) rfl rfl ?_)
          refine s_op (o_fieldAddr (k := 0) (fun _ => by kernel_rfl) rfl ?_)
          refine s_eff (o_store1 (c' := #[(S ((textS rest).1)), (S ([] : List UInt8))]) ti9 rfl rfl rfl (by simp) rfl (hH56.front 0 rfl) fun w58 hH59 => ?_)
          refine s_op (o_assign (v := (S ((textS rest).2.1))) rfl ?_)
          refine s_op (o_assign (v := (.bool ((textS rest).2.2))) rfl ?_)
          refine s_nil ?_
          refine t_norm (hK54 _ _ ?_)
          refine wp_seq_k fun K60 hK60 => ?_
          refine wp_seq_k fun K61 hK61 => ?_
          refine c_region ?_
          refine s_op (o_move (v := (.bool ((textS rest).2.2))) rfl ?_)
          refine s_nil ?_
          refine t_norm (hK61 _ _ ?_)
          refine c_condb rfl (fun h62 => ?_) (fun h62 => ?_)
          · -- (textS rest).2.2
            refine c_region ?_
            refine s_op (o_move (v := (S ((textS rest).2.1))) rfl ?_)
            refine s_op (o_callf (vs := #[(S ((textS rest).2.1))]) ca50 rfl (args1 rfl) (text_c (s := (textS rest).2.1) hH59.all (by first | omega | (simp only []; omega) | (simp; done) | (simp; omega))) ?_)
            rintro _ w65 ⟨rfl, hX63⟩
            refine ⟨_, rfl, ?_⟩
            have hH64 := hX63.of_all
            have htl_ := textS_le ((textS rest).2.1)
            refine s_op (o_move (v := (.tuple #[(S ((textS ((textS rest).2.1)).1)), (S ((textS ((textS rest).2.1)).2.1)), (.bool ((textS ((textS rest).2.1)).2.2))])) rfl ?_)
            refine s_op (o_extract (v := (S ((textS ((textS rest).2.1)).1))) rfl rfl ?_)
            refine s_op (o_extract (v := (S ((textS ((textS rest).2.1)).2.1))) rfl rfl ?_)
            refine s_op (o_extract (v := (.bool ((textS ((textS rest).2.1)).2.2))) rfl rfl ?_)
            refine s_op (o_fieldAddr (k := 1) (fun _ => by kernel_rfl) rfl ?_)
            refine s_eff (o_store1 (c' := #[(S ((textS rest).1)), (S ((textS ((textS rest).2.1)).1))]) ti9 rfl rfl rfl (by simp) rfl (hH64.front 0 rfl) fun w66 hH67 => ?_)
            refine s_op (o_assign (v := (S ((textS ((textS rest).2.1)).2.1))) rfl ?_)
            refine s_op (o_assign (v := (.bool ((textS ((textS rest).2.1)).2.2))) rfl ?_)
            refine s_nil ?_
            refine t_norm (hK60 _ _ ?_)
            refine c_region ?_
            refine s_op (o_fieldAddr (k := 2) (fun _ => by kernel_rfl) e38_4 ?_)
            refine s_op (o_load1 (v := vo) Tryd.underlying22 rfl rfl hH67 (seg_sub 2 rfl) (CellsAt.one rfl) ?_)
            refine s_op (o_loadN (cs := [(S ((textS rest).1)), (S ((textS ((textS rest).2.1)).1))]) Tryd.underlying45 rfl ti45 rfl hH67 (seg_sub 0 rfl) (CellsAt.one rfl) ?_)
            refine s_op (o_buildSlice (ps := #[(0, (.agg #[(S ((textS rest).1)), (S ((textS ((textS rest).2.1)).1))]))]) (cells := #[(S ((textS rest).1)), (S ((textS ((textS rest).2.1)).1))]) Tryd.underlying22 ti45 (by decide) (parts1 rfl) (by kernel_rfl) hH67 fun b68 w69 hH70 => ?_)
            refine s_op (o_append Tryd.underlying22 ti45 rfl (by decide) rfl hoo rfl (sl_litF (f := ceC) (l := [(((textS rest).1, (textS ((textS rest).2.1)).1) : Cel)]) ceC_len rfl rfl (by simp)) (hH70.front 2 rfl) (seg_sub 0 rfl) (one_ceC _) (by simp; omega) (by simp; omega) fun v71 s72 w74 ho73 hH75 => ?_)
            have ho73 : Own 45 2 v71 (acc ++ [(((textS rest).1, (textS ((textS rest).2.1)).1) : Cel)]).length ((acc ++ [(((textS rest).1, (textS ((textS rest).2.1)).1) : Cel)]).flatMap ceC) s72 := ho73.appF
            refine s_op (o_fieldAddr (k := 2) (fun _ => by kernel_rfl) e38_4 ?_)
            refine s_eff (o_store1 (c' := #[(.int .i64 ((takeS s 1).1)), (.int .i64 ((takeS ((takeS s 1).2.1) 8).1)), v71]) ti22 rfl rfl ho73.one (by simp) rfl (hH75.front 3 rfl) fun w76 hH77 => ?_)
            refine s_nil ?_
            refine b_norm ?_
            refine t_norm (hK49 _ _ ?_)
            refine c_region ?_
            refine s_op (o_move (v := (.int .i64 n)) e38_10 ?_)
            refine s_op (o_sub (a := n) (b := 1) rfl rfl (w64 (by omega) (by omega)) ?_)
            refine s_op (o_assign (v := (.int .i64 (n - 1))) rfl ?_)
            refine s_nil ?_
            have hH78 : Has E w76 [s72, [Hp.one b17 (.cells #[(.int .i64 ((takeS s 1).1)), (.int .i64 ((takeS ((takeS s 1).2.1) 8).1)), v71] 24 (0, 0))], [Hp.one b2 (.cells #[(.int .i64 0), (.int .i64 0), (.slice none 0 0)] 24 (0, 0))], R] := ((((hH77.front 5 rfl).front 5 rfl).front 2 rfl).front 3 rfl).first 4 rfl
            refine t_norm ⟨(n - 1).toNat, _, rfl, ?_, ?_⟩
            · omega
            · exact ⟨((textS ((textS rest).2.1)).2.2), (n - 1), ((textS ((textS rest).2.1)).2.1), v71, s72, (acc ++ [(((textS rest).1, (textS ((textS rest).2.1)).1) : Cel)]), rfl, hH78, (ho73), (by simp only [List.length_append, List.length_cons, List.length_nil]; omega), (by omega), (by omega), (by ((have h_ := goS_step (r3 := ((textS ((textS rest).2.1)).2.1)) hgo h46 (by omega) (by omega)); rw [if_pos (by simpa using h62)] at h_; exact h_)), e38_0, e38_2, e38_3, e38_4, e38_5, rfl, e38_8, rfl, rfl, e38_15⟩
          · -- not: (textS rest).2.2
            refine wp_skip ?_
            refine t_norm (hK60 _ _ ?_)
            refine c_region ?_
            refine s_op (o_fieldAddr (k := 2) (fun _ => by kernel_rfl) e38_4 ?_)
            refine s_op (o_load1 (v := vo) Tryd.underlying22 rfl rfl hH59 (seg_sub 2 rfl) (CellsAt.one rfl) ?_)
            refine s_op (o_loadN (cs := [(S ((textS rest).1)), (S ([] : List UInt8))]) Tryd.underlying45 rfl ti45 rfl hH59 (seg_sub 0 rfl) (CellsAt.one rfl) ?_)
            refine s_op (o_buildSlice (ps := #[(0, (.agg #[(S ((textS rest).1)), (S ([] : List UInt8))]))]) (cells := #[(S ((textS rest).1)), (S ([] : List UInt8))]) Tryd.underlying22 ti45 (by decide) (parts1 rfl) (by kernel_rfl) hH59 fun b79 w80 hH81 => ?_)
            refine s_op (o_append Tryd.underlying22 ti45 rfl (by decide) rfl hoo rfl (sl_litF (f := ceC) (l := [(((textS rest).1, ([] : List UInt8)) : Cel)]) ceC_len rfl rfl (by simp)) (hH81.front 2 rfl) (seg_sub 0 rfl) (one_ceC _) (by simp; omega) (by simp; omega) fun v82 s83 w85 ho84 hH86 => ?_)
            have ho84 : Own 45 2 v82 (acc ++ [(((textS rest).1, ([] : List UInt8)) : Cel)]).length ((acc ++ [(((textS rest).1, ([] : List UInt8)) : Cel)]).flatMap ceC) s83 := ho84.appF
            refine s_op (o_fieldAddr (k := 2) (fun _ => by kernel_rfl) e38_4 ?_)
            refine s_eff (o_store1 (c' := #[(.int .i64 ((takeS s 1).1)), (.int .i64 ((takeS ((takeS s 1).2.1) 8).1)), v82]) ti22 rfl rfl ho84.one (by simp) rfl (hH86.front 3 rfl) fun w87 hH88 => ?_)
            refine s_nil ?_
            refine b_norm ?_
            refine t_norm (hK49 _ _ ?_)
            refine c_region ?_
            refine s_op (o_move (v := (.int .i64 n)) e38_10 ?_)
            refine s_op (o_sub (a := n) (b := 1) rfl rfl (w64 (by omega) (by omega)) ?_)
            refine s_op (o_assign (v := (.int .i64 (n - 1))) rfl ?_)
            refine s_nil ?_
            have hH89 : Has E w87 [s83, [Hp.one b17 (.cells #[(.int .i64 ((takeS s 1).1)), (.int .i64 ((takeS ((takeS s 1).2.1) 8).1)), v82] 24 (0, 0))], [Hp.one b2 (.cells #[(.int .i64 0), (.int .i64 0), (.slice none 0 0)] 24 (0, 0))], R] := ((((hH88.front 5 rfl).front 5 rfl).front 2 rfl).front 3 rfl).first 4 rfl
            refine t_norm ⟨(n - 1).toNat, _, rfl, ?_, ?_⟩
            · omega
            · exact ⟨((textS rest).2.2), (n - 1), ((textS rest).2.1), v82, s83, (acc ++ [(((textS rest).1, ([] : List UInt8)) : Cel)]), rfl, hH89, (ho84), (by simp only [List.length_append, List.length_cons, List.length_nil]; omega), (by omega), (by omega), (by ((have h_ := goS_step (r3 := ((textS rest).2.1)) hgo h46 (by omega) (by omega)); rw [if_neg (by simpa using h62)] at h_; rw [show (textS rest).2.2 = false by simpa using h62]; exact h_)), e38_0, e38_2, e38_3, e38_4, e38_5, rfl, e38_8, rfl, rfl, e38_15⟩
        · -- not: ((acc.length : Nat) : Int) < 8
          refine wp_exit ?_
          refine t_exit (t_exit (x_in (?_)))
          refine t_norm (hK37 _ _ ?_)
          refine wp_seq_k fun K90 hK90 => ?_
          refine wp_seq_k fun K91 hK91 => ?_
          refine c_region ?_
          refine s_op (o_move (v := (.bool ok)) e38_9 ?_)
          refine s_op (o_not (b := true) ((rfl : _ = _).trans (congrArg Value.bool h46)) ?_)
          refine s_op (o_move (v := (.bool false)) rfl ?_)
          refine s_on 75 rfl rfl (o_loadN (cs := [(.int .i64 ((takeS s 1).1)), (.int .i64 ((takeS ((takeS s 1).2.1) 8).1)), vo]) Tryd.underlying24 rfl ti24 e38_4 hH42 (seg_sub 1 rfl) (CellsAt.one rfl) ?_)
          refine s_on 75 rfl rfl (o_callf (vs := #[(.agg #[(.int .i64 ((takeS s 1).1)), (.int .i64 ((takeS ((takeS s 1).2.1) 8).1)), vo])]) ca21 rfl (args1 rfl) (plaid_c (no := (takeS s 1).1) (gsn := (takeS ((takeS s 1).2.1) 8).1) (l := acc) hH42.all (hoo.sl.mono (seg_sub 0 rfl)) (hg.mono (seg_sub 3 rfl))) ?_)
          rintro _ w94 ⟨rfl, hX92⟩
          refine ⟨_, rfl, ?_⟩
          have hH93 := hX92.of_all
          have hll_ := laidP_le ((takeS s 1).1) ((takeS ((takeS s 1).2.1) 8).1) acc
          refine s_on 75 rfl rfl (o_move (v := (S s)) e38_0 ?_)
          refine s_on 75 rfl rfl (o_sneq (a := (laidP ((takeS s 1).1) ((takeS ((takeS s 1).2.1) 8).1) acc)) (b := s) rfl rfl ?_)
          refine s_op (o_pick_f (u := (.bool (decide ((laidP ((takeS s 1).1) ((takeS ((takeS s 1).2.1) 8).1) acc) ≠ s)))) rfl rfl ?_)
          refine s_nil ?_
          refine t_norm (hK91 _ _ ?_)
          refine c_cond rfl (fun h95 => ?_) (fun h95 => ?_)
          · -- (laidP ((takeS s 1).1) ((takeS ((takeS s 1).2.1) 8).1) acc) ≠ s
            refine wp_seq_k fun K96 hK96 => ?_
            refine c_region ?_
            refine s_op (o_sight (v := (.agg #[(.int .i64 0), (.int .i64 0), (.slice none 0 0)])) (fun _ => by kernel_rfl) ?_)
            refine s_eff (o_storeN (vs := [(.int .i64 0), (.int .i64 0), (.slice none 0 0)]) (c' := #[(.int .i64 0), (.int .i64 0), (.slice none 0 0)]) ti24 e38_2 rfl rfl rfl (by intro u hu; simp only [List.mem_cons, List.not_mem_nil, or_false] at hu; rcases hu with rfl | rfl | rfl <;> first | rfl) (by simp) (by kernel_rfl) (hH93.front 2 rfl) fun w97 hH98 => ?_)
            refine s_op (o_assign (v := (.bool false)) rfl ?_)
            refine s_nil ?_
            refine t_norm (hK96 _ _ ?_)
            refine wp_ret ?_
            refine t_ret (c_retC2 Tryd.results19 e38_2 (run_loadVarN (cs := [(.int .i64 0), (.int .i64 0), (.slice none 0 0)]) Tryd.underlying24 rfl ti24 hH98 (seg_sub 0 rfl) (CellsAt.one rfl)) (x := (.bool false)) rfl ?_)
            have hge_ := goS_end hgo (by first | exact .inr (.inl (by omega)) | exact .inr (.inr (by omega)) | exact .inl (by simpa using h46))
            have hE_ := readP_no (s := s) (by rw [hge_]; first | exact .inr (.inl (by simpa using h7)) | exact .inr (.inr h7) | exact .inr (.inl (by simpa using h46)) | exact .inr (.inr h46) | exact .inr (.inl (by simpa using h47)) | exact .inr (.inr h47) | exact .inr (.inl (by simpa using h48)) | exact .inr (.inr h48) | exact .inr (.inl (by simpa using h95)) | exact .inr (.inr h95))
            have q99 : (readP s).2.1 = 0 := by rw [hE_]
            have q100 : (readP s).2.2.1 = 0 := by rw [hE_]
            have q101 : (readP s).2.2.2 = ([] : List Cel) := by rw [hE_]
            have q102 : (readP s).1 = false := by rw [hE_]
            have hH103 : Has E w97 [[], R] := (Has.nil (hH98.front 3 rfl)).first 2 rfl
            exact ⟨_, _, by rw [q99, q100]; rw [q102], (by rw [q101]; exact (Own.nil 45 2)), hH103⟩
          · -- not: (laidP ((takeS s 1).1) ((takeS ((takeS s 1).2.1) 8).1) acc) ≠ s
            refine wp_skip ?_
            refine t_norm (hK90 _ _ ?_)
            refine wp_seq_k fun K104 hK104 => ?_
            refine c_region ?_
            refine s_op (o_loadN (cs := [(.int .i64 ((takeS s 1).1)), (.int .i64 ((takeS ((takeS s 1).2.1) 8).1)), vo]) Tryd.underlying24 rfl ti24 e38_4 hH93 (seg_sub 1 rfl) (CellsAt.one rfl) ?_)
            refine s_eff (o_storeN (vs := [(.int .i64 ((takeS s 1).1)), (.int .i64 ((takeS ((takeS s 1).2.1) 8).1)), vo]) (c' := #[(.int .i64 ((takeS s 1).1)), (.int .i64 ((takeS ((takeS s 1).2.1) 8).1)), vo]) ti24 e38_2 rfl rfl rfl (by intro u hu; simp only [List.mem_cons, List.not_mem_nil, or_false] at hu; rcases hu with rfl | rfl | rfl <;> first | rfl | exact hoo.one) (by simp) (by kernel_rfl) (hH93.front 2 rfl) fun w105 hH106 => ?_)
            refine s_op (o_assign (v := (.bool true)) rfl ?_)
            refine s_nil ?_
            refine t_norm (hK104 _ _ ?_)
            refine wp_ret ?_
            refine c_retC2 Tryd.results19 e38_2 (run_loadVarN (cs := [(.int .i64 ((takeS s 1).1)), (.int .i64 ((takeS ((takeS s 1).2.1) 8).1)), vo]) Tryd.underlying24 rfl ti24 hH106 (seg_sub 0 rfl) (CellsAt.one rfl)) (x := (.bool true)) rfl ?_
            have hge_ := goS_end hgo (by first | exact .inr (.inl (by omega)) | exact .inr (.inr (by omega)))
            rw [h46] at hge_
            have hE_ := readP_yes (s := s) (by omega) hge_ (Classical.not_not.1 h95)
            have q107 : (readP s).2.1 = (takeS s 1).1 := by rw [hE_]
            have q108 : (readP s).2.2.1 = (takeS ((takeS s 1).2.1) 8).1 := by rw [hE_]
            have q109 : (readP s).2.2.2 = acc := by rw [hE_]
            have q110 : (readP s).1 = true := by rw [hE_]
            have hH111 : Has E w105 [so, R] := ((hH106.front 3 rfl).front 2 rfl).first 2 rfl
            exact ⟨_, _, by rw [q107, q108]; rw [q110], (by rw [q109]; exact hoo), hH111⟩
      · -- not: 0 < n
        refine s_off (b' := false) 44 rfl (congrArg Value.bool (decide_eq_false h47)) rfl ?_
        refine s_off (b' := false) 44 rfl (congrArg Value.bool (decide_eq_false h47)) rfl ?_
        refine s_off (b' := false) 44 rfl (congrArg Value.bool (decide_eq_false h47)) rfl ?_
        refine s_off (b' := false) 44 rfl (congrArg Value.bool (decide_eq_false h47)) rfl ?_
        refine s_op (o_pick_f (u := (.bool false)) ((rfl : _ = _).trans (congrArg Value.bool (decide_eq_false h47))) rfl ?_)
        refine s_nil ?_
        refine t_norm (hK45 _ _ ?_)
        refine c_false rfl rfl ?_
        refine wp_exit ?_
        refine t_exit (t_exit (x_in (?_)))
        refine t_norm (hK37 _ _ ?_)
        refine wp_seq_k fun K112 hK112 => ?_
        refine wp_seq_k fun K113 hK113 => ?_
        refine c_region ?_
        refine s_op (o_move (v := (.bool ok)) e38_9 ?_)
        refine s_op (o_not (b := true) ((rfl : _ = _).trans (congrArg Value.bool h46)) ?_)
        refine s_op (o_move (v := (.bool false)) rfl ?_)
        refine s_on 75 rfl rfl (o_loadN (cs := [(.int .i64 ((takeS s 1).1)), (.int .i64 ((takeS ((takeS s 1).2.1) 8).1)), vo]) Tryd.underlying24 rfl ti24 e38_4 hH42 (seg_sub 1 rfl) (CellsAt.one rfl) ?_)
        refine s_on 75 rfl rfl (o_callf (vs := #[(.agg #[(.int .i64 ((takeS s 1).1)), (.int .i64 ((takeS ((takeS s 1).2.1) 8).1)), vo])]) ca21 rfl (args1 rfl) (plaid_c (no := (takeS s 1).1) (gsn := (takeS ((takeS s 1).2.1) 8).1) (l := acc) hH42.all (hoo.sl.mono (seg_sub 0 rfl)) (hg.mono (seg_sub 3 rfl))) ?_)
        rintro _ w116 ⟨rfl, hX114⟩
        refine ⟨_, rfl, ?_⟩
        have hH115 := hX114.of_all
        have hll_ := laidP_le ((takeS s 1).1) ((takeS ((takeS s 1).2.1) 8).1) acc
        refine s_on 75 rfl rfl (o_move (v := (S s)) e38_0 ?_)
        refine s_on 75 rfl rfl (o_sneq (a := (laidP ((takeS s 1).1) ((takeS ((takeS s 1).2.1) 8).1) acc)) (b := s) rfl rfl ?_)
        refine s_op (o_pick_f (u := (.bool (decide ((laidP ((takeS s 1).1) ((takeS ((takeS s 1).2.1) 8).1) acc) ≠ s)))) rfl rfl ?_)
        refine s_nil ?_
        refine t_norm (hK113 _ _ ?_)
        refine c_cond rfl (fun h117 => ?_) (fun h117 => ?_)
        · -- (laidP ((takeS s 1).1) ((takeS ((takeS s 1).2.1) 8).1) acc) ≠ s
          refine wp_seq_k fun K118 hK118 => ?_
          refine c_region ?_
          refine s_op (o_sight (v := (.agg #[(.int .i64 0), (.int .i64 0), (.slice none 0 0)])) (fun _ => by kernel_rfl) ?_)
          refine s_eff (o_storeN (vs := [(.int .i64 0), (.int .i64 0), (.slice none 0 0)]) (c' := #[(.int .i64 0), (.int .i64 0), (.slice none 0 0)]) ti24 e38_2 rfl rfl rfl (by intro u hu; simp only [List.mem_cons, List.not_mem_nil, or_false] at hu; rcases hu with rfl | rfl | rfl <;> first | rfl) (by simp) (by kernel_rfl) (hH115.front 2 rfl) fun w119 hH120 => ?_)
          refine s_op (o_assign (v := (.bool false)) rfl ?_)
          refine s_nil ?_
          refine t_norm (hK118 _ _ ?_)
          refine wp_ret ?_
          refine t_ret (c_retC2 Tryd.results19 e38_2 (run_loadVarN (cs := [(.int .i64 0), (.int .i64 0), (.slice none 0 0)]) Tryd.underlying24 rfl ti24 hH120 (seg_sub 0 rfl) (CellsAt.one rfl)) (x := (.bool false)) rfl ?_)
          have hge_ := goS_end hgo (by first | exact .inr (.inl (by omega)) | exact .inr (.inr (by omega)) | exact .inl (by simpa using h46))
          have hE_ := readP_no (s := s) (by rw [hge_]; first | exact .inr (.inl (by simpa using h7)) | exact .inr (.inr h7) | exact .inr (.inl (by simpa using h46)) | exact .inr (.inr h46) | exact .inr (.inl (by simpa using h47)) | exact .inr (.inr h47) | exact .inr (.inl (by simpa using h117)) | exact .inr (.inr h117))
          have q121 : (readP s).2.1 = 0 := by rw [hE_]
          have q122 : (readP s).2.2.1 = 0 := by rw [hE_]
          have q123 : (readP s).2.2.2 = ([] : List Cel) := by rw [hE_]
          have q124 : (readP s).1 = false := by rw [hE_]
          have hH125 : Has E w119 [[], R] := (Has.nil (hH120.front 3 rfl)).first 2 rfl
          exact ⟨_, _, by rw [q121, q122]; rw [q124], (by rw [q123]; exact (Own.nil 45 2)), hH125⟩
        · -- not: (laidP ((takeS s 1).1) ((takeS ((takeS s 1).2.1) 8).1) acc) ≠ s
          refine wp_skip ?_
          refine t_norm (hK112 _ _ ?_)
          refine wp_seq_k fun K126 hK126 => ?_
          refine c_region ?_
          refine s_op (o_loadN (cs := [(.int .i64 ((takeS s 1).1)), (.int .i64 ((takeS ((takeS s 1).2.1) 8).1)), vo]) Tryd.underlying24 rfl ti24 e38_4 hH115 (seg_sub 1 rfl) (CellsAt.one rfl) ?_)
          refine s_eff (o_storeN (vs := [(.int .i64 ((takeS s 1).1)), (.int .i64 ((takeS ((takeS s 1).2.1) 8).1)), vo]) (c' := #[(.int .i64 ((takeS s 1).1)), (.int .i64 ((takeS ((takeS s 1).2.1) 8).1)), vo]) ti24 e38_2 rfl rfl rfl (by intro u hu; simp only [List.mem_cons, List.not_mem_nil, or_false] at hu; rcases hu with rfl | rfl | rfl <;> first | rfl | exact hoo.one) (by simp) (by kernel_rfl) (hH115.front 2 rfl) fun w127 hH128 => ?_)
          refine s_op (o_assign (v := (.bool true)) rfl ?_)
          refine s_nil ?_
          refine t_norm (hK126 _ _ ?_)
          refine wp_ret ?_
          refine c_retC2 Tryd.results19 e38_2 (run_loadVarN (cs := [(.int .i64 ((takeS s 1).1)), (.int .i64 ((takeS ((takeS s 1).2.1) 8).1)), vo]) Tryd.underlying24 rfl ti24 hH128 (seg_sub 0 rfl) (CellsAt.one rfl)) (x := (.bool true)) rfl ?_
          have hge_ := goS_end hgo (by first | exact .inr (.inl (by omega)) | exact .inr (.inr (by omega)))
          rw [h46] at hge_
          have hE_ := readP_yes (s := s) (by omega) hge_ (Classical.not_not.1 h117)
          have q129 : (readP s).2.1 = (takeS s 1).1 := by rw [hE_]
          have q130 : (readP s).2.2.1 = (takeS ((takeS s 1).2.1) 8).1 := by rw [hE_]
          have q131 : (readP s).2.2.2 = acc := by rw [hE_]
          have q132 : (readP s).1 = true := by rw [hE_]
          have hH133 : Has E w127 [so, R] := ((hH128.front 3 rfl).front 2 rfl).first 2 rfl
          exact ⟨_, _, by rw [q129, q130]; rw [q132], (by rw [q131]; exact hoo), hH133⟩
    · -- not: ok
      refine s_off (b' := false) 40 rfl (congrArg Value.bool h46) rfl ?_
      refine s_off (b' := false) 40 rfl (congrArg Value.bool h46) rfl ?_
      refine s_op (o_pick_f (u := (.bool false)) ((rfl : _ = _).trans (congrArg Value.bool h46)) rfl ?_)
      refine s_op (o_move (v := (.bool false)) rfl ?_)
      refine s_off (b' := false) 44 rfl rfl rfl ?_
      refine s_off (b' := false) 44 rfl rfl rfl ?_
      refine s_off (b' := false) 44 rfl rfl rfl ?_
      refine s_off (b' := false) 44 rfl rfl rfl ?_
      refine s_op (o_pick_f (u := (.bool false)) rfl rfl ?_)
      refine s_nil ?_
      refine t_norm (hK45 _ _ ?_)
      refine c_false rfl rfl ?_
      refine wp_exit ?_
      refine t_exit (t_exit (x_in (?_)))
      refine t_norm (hK37 _ _ ?_)
      refine wp_seq_k fun K134 hK134 => ?_
      refine wp_seq_k fun K135 hK135 => ?_
      refine c_region ?_
      refine s_op (o_move (v := (.bool ok)) e38_9 ?_)
      refine s_op (o_not (b := false) ((rfl : _ = _).trans (congrArg Value.bool h46)) ?_)
      refine s_op (o_move (v := (.bool true)) rfl ?_)
      refine s_off (b' := true) 75 rfl rfl rfl ?_
      refine s_off (b' := true) 75 rfl rfl rfl ?_
      refine s_off (b' := true) 75 rfl rfl rfl ?_
      refine s_off (b' := true) 75 rfl rfl rfl ?_
      refine s_op (o_pick_t (u := (.bool true)) rfl rfl ?_)
      refine s_nil ?_
      refine t_norm (hK135 _ _ ?_)
      refine c_true rfl rfl ?_
      refine wp_seq_k fun K136 hK136 => ?_
      refine c_region ?_
      refine s_op (o_sight (v := (.agg #[(.int .i64 0), (.int .i64 0), (.slice none 0 0)])) (fun _ => by kernel_rfl) ?_)
      refine s_eff (o_storeN (vs := [(.int .i64 0), (.int .i64 0), (.slice none 0 0)]) (c' := #[(.int .i64 0), (.int .i64 0), (.slice none 0 0)]) ti24 e38_2 rfl rfl rfl (by intro u hu; simp only [List.mem_cons, List.not_mem_nil, or_false] at hu; rcases hu with rfl | rfl | rfl <;> first | rfl) (by simp) (by kernel_rfl) (hH42.front 2 rfl) fun w137 hH138 => ?_)
      refine s_op (o_assign (v := (.bool false)) rfl ?_)
      refine s_nil ?_
      refine t_norm (hK136 _ _ ?_)
      refine wp_ret ?_
      refine t_ret (c_retC2 Tryd.results19 e38_2 (run_loadVarN (cs := [(.int .i64 0), (.int .i64 0), (.slice none 0 0)]) Tryd.underlying24 rfl ti24 hH138 (seg_sub 0 rfl) (CellsAt.one rfl)) (x := (.bool false)) rfl ?_)
      have hge_ := goS_end hgo (by first | exact .inr (.inl (by omega)) | exact .inr (.inr (by omega)) | exact .inl (by simpa using h46))
      have hE_ := readP_no (s := s) (by rw [hge_]; first | exact .inr (.inl (by simpa using h7)) | exact .inr (.inr h7) | exact .inr (.inl (by simpa using h46)) | exact .inr (.inr h46))
      have q139 : (readP s).2.1 = 0 := by rw [hE_]
      have q140 : (readP s).2.2.1 = 0 := by rw [hE_]
      have q141 : (readP s).2.2.2 = ([] : List Cel) := by rw [hE_]
      have q142 : (readP s).1 = false := by rw [hE_]
      have hH143 : Has E w137 [[], R] := (Has.nil (hH138.front 3 rfl)).first 2 rfl
      exact ⟨_, _, by rw [q139, q140]; rw [q142], (by rw [q141]; exact (Own.nil 45 2)), hH143⟩
end Go.Q
