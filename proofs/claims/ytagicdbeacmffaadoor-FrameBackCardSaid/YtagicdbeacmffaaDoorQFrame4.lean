/-
  Layer 3, the plain law: chains of frames.
-/
import Derived.Test.YtagicdbeacmffaaDoorQFrame3
set_option linter.unusedVariables false
set_option linter.unusedSimpArgs false
namespace Go.Q
def fitsF (ep cut pl ab : Int) (f : Fr) : Bool := rightS f && decide (f.pl = pl ∧ ab < f.gsn ∧ f.ep ≤ ep ∧ (f.pl < cut ∨ f.ep = ep))
def chainS (ep cut : Int) : Nat → List UInt8 → Int → Int → List Fr × Int
  | 0, _, pl, _ => ([], pl)
  | n + 1, s, pl, ab => if (opensB s && fitsF ep cut pl ab (oF s)) = true then (oF s :: (chainS ep cut n (s.drop (oN s).toNat) (pl + oN s) (oF s).gsn).1, (chainS ep cut n (s.drop (oN s).toNat) (pl + oN s) (oF s).gsn).2) else ([], pl)
theorem chain_stop {ep cut : Int} {n : Nat} {s : List UInt8} {pl ab : Int} (h : opensB s = false ∨ fitsF ep cut pl ab (oF s) = false) : chainS ep cut n s pl ab = ([], pl) := by
  cases n with
  | zero => rfl
  | succ n =>
    rw [chainS, if_neg]
    rcases h with h | h
    · rw [h]; simp
    · rw [h]; simp
theorem opens_nil : opensB [] = false := opens_short (by decide)
theorem chain_nil {ep cut : Int} {n : Nat} {pl ab : Int} : chainS ep cut n [] pl ab = ([], pl) := chain_stop (.inl opens_nil)
theorem oN_le {s : List UInt8} (h : opensB s = true) : 25 ≤ oN s ∧ oN s ≤ (s.length : Int) := by
  have h1 := oN_yes h
  have h2 := opens_made h
  unfold oN at *
  rw [if_pos h] at *
  omega
theorem chain_step {ep cut : Int} {n : Nat} {s : List UInt8} {pl ab : Int} {acc : List Fr} {res : List Fr × Int} (hn : 0 < n) (h1 : opensB s = true) (h2 : fitsF ep cut pl ab (oF s) = true)
    (hr : res = (acc ++ (chainS ep cut n s pl ab).1, (chainS ep cut n s pl ab).2)) :
    res = ((acc ++ [oF s]) ++ (chainS ep cut (n - 1) (s.drop (oN s).toNat) (pl + oN s) (oF s).gsn).1, (chainS ep cut (n - 1) (s.drop (oN s).toNat) (pl + oN s) (oF s).gsn).2) := by
  obtain ⟨m, rfl⟩ : ∃ m, n = m + 1 := ⟨n - 1, by omega⟩
  rw [hr, chainS, if_pos (by rw [h1, h2]; rfl)]
  simp
theorem chain_end {ep cut : Int} {n : Nat} {s : List UInt8} {pl ab : Int} {acc : List Fr} {res : List Fr × Int} (h : opensB s = false ∨ fitsF ep cut pl ab (oF s) = false)
    (hr : res = (acc ++ (chainS ep cut n s pl ab).1, (chainS ep cut n s pl ab).2)) : res = (acc, pl) := by
  rw [hr, chain_stop h]; simp
theorem fr_eta (f : Fr) : Fr.mk f.ep f.pl f.gsn f.data = f := rfl
/-- two rows of frames are the same, as far as they were looked at -/
theorem fsame_step {a b : List Fr} {k : Nat} {x y : Fr} (he : ∀ j, j < k → a[j]? = b[j]?) (h1 : a[k]? = some x) (h2 : b[k]? = some y) (e : x = y) : ∀ j, j < k + 1 → a[j]? = b[j]? := fun j hj => by
  rcases Nat.lt_or_ge j k with g | g
  · exact he j g
  · have : j = k := by omega
    subst this; rw [h1, h2, e]
theorem chain_len (ep cut : Int) : ∀ (n : Nat) (s : List UInt8) (pl ab : Int), (chainS ep cut n s pl ab).1.length ≤ n
  | 0, _, _, _ => Nat.le_refl _
  | n + 1, s, pl, ab => by
    rw [chainS]
    split
    · have := chain_len ep cut n (s.drop (oN s).toNat) (pl + oN s) (oF s).gsn
      simp only [List.length_cons]; omega
    · simp
theorem sumS_two {a b : Int} (ha : 0 ≤ a) (hb : 0 ≤ b) (hab : a + b ≤ 4000000000000000000) : sumS 0 [a, b] = a + b := by
  rw [sumS, if_neg (by omega), sumS, if_neg (by omega), sumS]; omega
theorem take_flat_le (l : List (List UInt8)) (k : Nat) {x : List UInt8} (h : l[k]? = some x) : (l.take k).flatten.length + x.length ≤ l.flatten.length := by
  have e := drop_of h
  have h2 : l.flatten = (l.take k).flatten ++ (l.drop k).flatten := by rw [← List.flatten_append, List.take_append_drop]
  rw [h2, e, List.length_append, List.flatten_cons, List.length_append]; omega
theorem fsame_at {a b : List Fr} {k : Nat} {x y : Fr} (h1 : a[k]? = some x) (h2 : b[k]? = some y) (e : a = b) : x = y := by
  rw [e, h2] at h1; exact (Option.some.inj h1).symm
theorem Sl.le4 {L : List Hp} {v : Value} {n : Nat} {cs : List Value} (h : Sl L 4 v n cs) : n ≤ 9223372036854775807 := by
  obtain ⟨p, c, _, h1, h2, _⟩ := h; omega
end Go.Q
