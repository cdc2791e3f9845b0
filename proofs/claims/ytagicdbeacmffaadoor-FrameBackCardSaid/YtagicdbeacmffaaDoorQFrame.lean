/-
  Layer 3, the plain law: frames, their bytes, and what is opened.
-/
import Derived.Test.YtagicdbeacmffaaDoorQBurst
import Derived.Test.YtagicdbeacmffaaDoorQM
import Derived.Test.YtagicdbeacmffaaDoorQRet
set_option linter.unusedVariables false
set_option linter.unusedSimpArgs false
namespace Go.Q
structure Fr where
  ep : Int
  pl : Int
  gsn : Int
  data : List UInt8
def frC (f : Fr) : List Value := [iV f.ep, iV f.pl, iV f.gsn, S f.data]
theorem frC_len (f : Fr) : (frC f).length = 4 := rfl
theorem one_fr (l : List Fr) : ∀ u ∈ l.flatMap frC, u.oneCell' = true := one_flat (fun f u hu => by
  simp only [frC, List.mem_cons, List.not_mem_nil, or_false] at hu
  rcases hu with rfl | rfl | rfl | rfl <;> rfl) l
def rightS (f : Fr) : Bool := decide (0 ≤ f.ep ∧ f.ep ≤ 2147483647 ∧ 0 ≤ f.pl ∧ f.pl ≤ 4611686018427387903 ∧ 0 ≤ f.gsn ∧ f.gsn ≤ 4611686018427387903 ∧ f.data.length ≤ 200)
theorem rightS_of {f : Fr} (h : rightS f = true) : 0 ≤ f.ep ∧ f.ep ≤ 2147483647 ∧ 0 ≤ f.pl ∧ f.pl ≤ 4611686018427387903 ∧ 0 ≤ f.gsn ∧ f.gsn ≤ 4611686018427387903 ∧ f.data.length ≤ 200 := of_decide_eq_true h
def headS (f : Fr) : List UInt8 := beFrom (f.data.length : Int) 1 ++ (beFrom f.ep 4 ++ (beFrom f.pl 8 ++ beFrom f.gsn 8))
theorem headS_len (f : Fr) : (headS f).length = 21 := by simp only [headS, List.length_append, beFrom_length]
def makeS (f : Fr) : List UInt8 := if rightS f = true then sealS (headS f ++ f.data) else []
theorem makeS_yes {f : Fr} (h : rightS f = true) : makeS f = sealS (headS f ++ f.data) := by rw [makeS, if_pos h]
theorem makeS_no {f : Fr} (h : rightS f = false) : makeS f = [] := by rw [makeS, if_neg (by rw [h]; decide)]
theorem makeS_len {f : Fr} (h : rightS f = true) : (makeS f).length = f.data.length + 25 := by
  rw [makeS_yes h, sealS, List.length_append, List.length_append, headS_len, laidS_len]; omega
theorem fits_lit {n : Int} {m : Nat} {b : Nat} (h0 : 0 ≤ n) (h1 : n < (b : Int)) (h8 : m ≤ 8) (hb : b ≤ 256 ^ m) (h63 : n ≤ 9223372036854775807) : fitsS n m = true := by
  obtain ⟨k, rfl⟩ : ∃ k : Nat, n = k := ⟨n.toNat, by omega⟩
  rw [fits_iff h8 h63]
  exact decide_eq_true (by omega)
theorem put_flat {f : Fr} (h : rightS f = true) : [putS 1 [((f.data.length : Nat) : Int)], putS 4 [f.ep], putS 8 [f.pl, f.gsn], f.data].flatten = headS f ++ f.data := by
  obtain ⟨h1, h2, h3, h4, h5, h6, h7⟩ := rightS_of h
  have f1 : fitsS ((f.data.length : Nat) : Int) 1 = true := fits_lit (b := 256) (by omega) (by omega) (by decide) (by decide) (by omega)
  have f2 : fitsS f.ep 4 = true := fits_lit (b := 2147483648) h1 (by omega) (by decide) (by decide) (by omega)
  have f3 : fitsS f.pl 8 = true := fits_lit (b := 4611686018427387904) h3 (by omega) (by decide) (by decide) (by omega)
  have f4 : fitsS f.gsn 8 = true := fits_lit (b := 4611686018427387904) h5 (by omega) (by decide) (by decide) (by omega)
  rw [putS_yes (by decide) (by decide) (by simpa using f1), putS_yes (by decide) (by decide) (by simpa using f2), putS_yes (by decide) (by decide) (by simpa using ⟨f3, f4⟩)]
  simp [headS]
theorem fits_head {f : Fr} (h : rightS f = true) : fitsS ((f.data.length : Nat) : Int) 1 = true ∧ fitsS f.ep 4 = true ∧ fitsS f.pl 8 = true ∧ fitsS f.gsn 8 = true := by
  obtain ⟨h1, h2, h3, h4, h5, h6, h7⟩ := rightS_of h
  exact ⟨fits_lit (b := 256) (by omega) (by omega) (by decide) (by decide) (by omega), fits_lit (b := 2147483648) h1 (by omega) (by decide) (by decide) (by omega),
    fits_lit (b := 4611686018427387904) h3 (by omega) (by decide) (by decide) (by omega), fits_lit (b := 4611686018427387904) h5 (by omega) (by decide) (by decide) (by omega)⟩
theorem ref_flat {f : Fr} (h : rightS f = true) {a b c d : List UInt8} (ha : fitsS ((f.data.length : Nat) : Int) 1 = true → a = beFrom ((f.data.length : Nat) : Int) 1) (hb : fitsS f.ep 4 = true → b = beFrom f.ep 4)
    (hc : fitsS f.pl 8 = true → c = beFrom f.pl 8) (hd : fitsS f.gsn 8 = true → d = beFrom f.gsn 8) : a ++ b ++ c ++ d ++ f.data = headS f ++ f.data := by
  obtain ⟨h1, h2, h3, h4⟩ := fits_head h
  rw [ha h1, hb h2, hc h3, hd h4]; simp [headS]
end Go.Q
