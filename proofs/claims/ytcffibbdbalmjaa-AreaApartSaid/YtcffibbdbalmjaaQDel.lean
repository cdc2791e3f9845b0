/-
  slices.Delete: the plain law; sets of numbers.
-/
import Derived.Test.YtcffibbdbalmjaaQH
set_option linter.unusedVariables false
set_option linter.unusedSimpArgs false
namespace Go.Q
/-- a fact that omega does not look at -/
def Hide (p : Prop) : Prop := p
theorem rsl_ex4 (o sz : Nat) {i j m : Int} (h0 : 0 ≤ i) (h1 : i ≤ j) (h2 : j ≤ m) :
    ∃ o' n' c' : Nat, Hide (o' = if m = i then o else o + i.toNat * sz) ∧ (n' : Int) = j - i ∧ (c' : Int) = m - i ∧ (c' = 0 ∨ o' = o + i.toNat * sz) ∧ o' ≤ o + i.toNat * sz :=
  ⟨_, (j - i).toNat, (m - i).toNat, rfl, by omega, by omega, by split <;> omega, by split <;> omega⟩
theorem del_law {α : Type} {c c1 c2 : List α} {I N o1 n1 o2 m d o3 : Nat} (h1 : c1 = if 0 < m then c.take (o1 + n1 * 1) ++ (c.drop o2).take (m * 1) ++ c.drop d else c) (h2 : c2.take o3 = c1.take o3)
    (e1 : o1 + n1 = I) (e2 : m = 0 ∨ o2 = I + 1) (e3 : m = N - (I + 1)) (e4 : o3 = N - 1) (hI : I < N) (hN : N ≤ c.length) : c2.take (N - 1) = c.take I ++ (c.take N).drop (I + 1) := by
  rw [← e4, h2, h1]
  by_cases hm : 0 < m
  · obtain rfl : o2 = I + 1 := by omega
    rw [if_pos hm, Nat.mul_one, Nat.mul_one, e1, List.drop_take, e3]
    have l1 : (c.take I ++ (c.drop (I + 1)).take (N - (I + 1))).length = o3 := by simp only [List.length_append, List.length_take, List.length_drop]; omega
    rw [List.take_left' l1]
  · rw [if_neg hm, show o3 = I by omega, List.drop_of_length_le (by rw [List.length_take]; omega), List.append_nil]
theorem mem_part1 {α : Type} {c : List α} {u : α} {o a N : Nat} (h : u ∈ (c.drop o).take a) (hb : a = 0 ∨ o + a ≤ N) : u ∈ c.take N := by
  rcases hb with hb | hb
  · subst hb; simp at h
  · rw [List.take_drop] at h
    have h2 := List.mem_of_mem_drop h
    rw [show c.take (o + a) = (c.take N).take (o + a) by rw [List.take_take, Nat.min_eq_left hb]] at h2
    exact List.mem_of_mem_take h2
end Go.Q
