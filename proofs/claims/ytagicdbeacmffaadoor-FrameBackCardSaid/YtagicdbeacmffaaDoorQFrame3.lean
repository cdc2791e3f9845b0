/-
  Layer 3, the plain law: a burst behind the first byte is told.
-/
import Derived.Test.YtagicdbeacmffaaDoorQFrame2
set_option linter.unusedVariables false
set_option linter.unusedSimpArgs false
namespace Go.Q
theorem makeS_short {f : Fr} (h : (makeS f).length < 25) : makeS f = [] ∧ rightS f = false := by
  cases hr : rightS f with
  | false => exact ⟨makeS_no hr, rfl⟩
  | true => have := makeS_len hr; omega
theorem makeS_long {f : Fr} (h : ¬ (makeS f).length < 25) : rightS f = true := by
  cases hr : rightS f with
  | false => rw [makeS_no hr] at h; simp at h
  | true => rfl
theorem made_self {f : Fr} (hr : rightS f = true) : opensB (makeS f) = true ∧ oF (makeS f) = f ∧ oN (makeS f) = ((makeS f).length : Int) := by
  have h1 := made_opens hr []
  have h2 := made_oF hr []
  rw [List.append_nil] at h1 h2
  exact ⟨h1, h2.1, by rw [h2.2, makeS_len hr]; omega⟩
theorem Win.first {a : Nat} {t s : List UInt8} (h : Win a t s) (ha : 8 ≤ a) : t[0]? = s[0]? := by
  have hl := h.1
  cases t with
  | nil => cases s with
    | nil => rfl
    | cons c s => simp at hl
  | cons b t => cases s with
    | nil => simp at hl
    | cons c s =>
      have e : b = c := byte_ext fun i hi => by
        have := h.2 i (.inl (by omega))
        rw [bits_get, bits_get, Nat.div_eq_of_lt hi, Nat.mod_eq_of_lt hi] at this
        simpa using this
      rw [e]; rfl
theorem turned_law {f : Fr} {g : List UInt8} {a : Nat} (hr : rightS f = true) (hw : Win a g (makeS f)) (ha : 8 ≤ a) : opensB g = decide (g = makeS f) := by
  by_cases h : g = makeS f
  · rw [decide_eq_true h, h]; exact (made_self hr).1
  · rw [decide_eq_false h]
    cases ho : opensB g with
    | false => rfl
    | true =>
      exfalso
      apply h
      obtain ⟨f', more, hr', hg⟩ := opens_iff.1 ho
      have hl := hw.1
      have l1 := makeS_len hr
      have l2 := makeS_len hr'
      obtain ⟨c, hc⟩ : ∃ c, (makeS f)[0]? = some c := ⟨_, List.getElem?_eq_getElem (by omega)⟩
      have hc' : g[0]? = some c := by rw [hw.first ha, hc]
      have n1 := take_one_at hc
      have n2 := take_one_at hc'
      have m1 := (made_takes hr []).1
      rw [List.append_nil] at m1
      rw [m1] at n1
      have m2 := (made_takes hr' more).1
      rw [← hg] at m2
      rw [m2] at n2
      simp only at n1 n2
      have hlen : g.length = (makeS f').length + more.length := by rw [hg, List.length_append]
      have hm : more = [] := List.eq_nil_of_length_eq_zero (by omega)
      rw [hm, List.append_nil] at hg
      have s1 : (openS (makeS f)).2 = true := by rw [makeS_yes hr, openS_seal]
      have s2 : (openS g).2 = true := by rw [hg, makeS_yes hr', openS_seal]
      rw [open_burst s1 (by omega) hl hw.2] at s2
      exact of_decide_eq_true s2
theorem turned_ok {f : Fr} {g : List UInt8} {a : Nat} (hr : rightS f = true) (hw : Win a g (makeS f)) (ha : 8 ≤ a) (ho : opensB g = true) : oN g = ((makeS f).length : Int) ∧ oF g = f := by
  rw [turned_law hr hw ha] at ho
  rw [of_decide_eq_true ho]
  exact ⟨(made_self hr).2.2, (made_self hr).2.1⟩
end Go.Q
