/-
  Layer 9, the plain law: what ticks and sights do to the times, and that times rise.
-/
import Derived.Test.YtagicdbeacmffaaQC9
set_option linter.unusedVariables false
set_option linter.unusedSimpArgs false
namespace Go.Q
theorem wrap_u64 (x : Int) : 0 ≤ IntKind.wrap .u64 x ∧ IntKind.wrap .u64 x < 18446744073709551616 := by
  simp only [IntKind.wrap, IntKind.bits, IntKind.signed]
  simp
  constructor
  · exact Int.emod_nonneg _ (by decide)
  · exact Int.emod_lt_of_pos _ (by decide)
/-- The times of a clock of eight streams, and what was noted of them, behind k acts. -/
structure CR (k : Nat) (str : List Int) (pg tx ls lp lt : List (Int × Int)) : Prop where
  len8 : str.length = 8
  ge : ∀ q ∈ str, 0 ≤ q
  le : ∀ q ∈ str, q ≤ k
  pge : ∀ y, 0 ≤ getI pg y ∧ getI pg y ≤ k
  tge : ∀ y, 0 ≤ getI tx y ∧ getI tx y ≤ k
  hs : ∀ j : Int, 0 ≤ j → j < 8 → findT ls j = (str[j.toNat]?).getD 0
  hp : ∀ y, findT lp y = getI pg y
  ht : ∀ y, findT lt y = getI tx y
  lens : ls.length ≤ k ∧ lp.length ≤ k ∧ lt.length ≤ k
theorem CR.start : CR 0 [0, 0, 0, 0, 0, 0, 0, 0] [] [] [] [] [] :=
  ⟨rfl, by decide, by decide, fun y => by simp [getI], fun y => by simp [getI], fun j h0 h8 => by
    have : ∀ n, n < 8 → ((([0, 0, 0, 0, 0, 0, 0, 0] : List Int)[n]?).getD 0) = 0 := by decide
    rw [this j.toNat (by omega)]; rfl, fun y => rfl, fun y => rfl, by simp⟩
theorem CR.at {k : Nat} {str : List Int} {pg tx ls lp lt : List (Int × Int)} (h : CR k str pg tx ls lp lt) (x : Int) : 0 ≤ (str[x.toNat]?).getD 0 ∧ (str[x.toNat]?).getD 0 ≤ (k : Int) := by
  cases hx : str[x.toNat]? with
  | none => simp
  | some q => exact ⟨h.ge q (List.mem_of_getElem? hx), h.le q (List.mem_of_getElem? hx)⟩
theorem CR.small {k : Nat} {str : List Int} {pg tx ls lp lt : List (Int × Int)} (h : CR k str pg tx ls lp lt) (x y z : Int) : List.foldl max ((str[x.toNat]?).getD 0) [getI pg y, getI tx z] ≤ (k : Int) := by
  have h1 := (h.at x).2; have h2 := (h.pge y).2; have h3 := (h.tge z).2
  simp only [List.foldl]; omega
theorem CR.rises {k : Nat} {str : List Int} {pg tx ls lp lt : List (Int × Int)} (h : CR k str pg tx ls lp lt) {x y z t : Int} (hx : 0 ≤ x ∧ x < 8) (ht : List.foldl max ((str[x.toNat]?).getD 0) [getI pg y, getI tx z] + 1 = t) :
    findT ls x < t ∧ findT lp y < t ∧ findT lt z < t := by
  rw [h.hs x hx.1 hx.2, h.hp, h.ht, ← ht]
  simp only [List.foldl]; omega
theorem CR.tick {k : Nat} {str : List Int} {pg tx ls lp lt : List (Int × Int)} (h : CR k str pg tx ls lp lt) {x y z t : Int} (hx : 0 ≤ x ∧ x < 8) (ht : List.foldl max ((str[x.toNat]?).getD 0) [getI pg y, getI tx z] + 1 = t) :
    CR (k + 1) (str.set x.toNat t) (if 0 ≤ y then putI pg y t else pg) (if 0 ≤ z then putI tx z t else tx) (withT ls x t) (withT lp y t) (withT lt z t) := by
  have hsm := h.small x y z
  have h0 := (h.at x).1
  have ht0 : 0 ≤ t ∧ t ≤ (k : Int) + 1 := by
    refine ⟨?_, by omega⟩
    rw [← ht]; simp only [List.foldl]; omega
  refine ⟨by rw [List.length_set]; exact h.len8, fun q hq => ?_, fun q hq => ?_, fun q => ?_, fun q => ?_, fun j hj0 hj8 => ?_, fun q => ?_, fun q => ?_, ?_⟩
  · rcases List.mem_or_eq_of_mem_set hq with g | g
    · exact h.ge q g
    · omega
  · rcases List.mem_or_eq_of_mem_set hq with g | g
    · have := h.le q g; omega
    · omega
  · have := h.pge q
    split
    · rw [getI_put]; split <;> omega
    · omega
  · have := h.tge q
    split
    · rw [getI_put]; split <;> omega
    · omega
  · rw [findT_with, if_neg (by omega)]
    have hlen := h.len8
    by_cases g : j = x
    · subst g
      rw [if_pos rfl, List.getElem?_set_self (by omega)]; rfl
    · rw [if_neg g, List.getElem?_set_ne (by omega)]
      exact h.hs j hj0 hj8
  · rw [findT_with]
    split
    · rw [if_neg (by omega)]; exact h.hp q
    · rw [if_pos (show 0 ≤ y by omega), getI_put, h.hp q]
  · rw [findT_with]
    split
    · rw [if_neg (by omega)]; exact h.ht q
    · rw [if_pos (show 0 ≤ z by omega), getI_put, h.ht q]
  · have := h.lens; have h1 := withT_len ls x t; have h2 := withT_len lp y t; have h3 := withT_len lt z t
    omega
theorem CR.sees_no {k : Nat} {str : List Int} {pg tx ls lp lt : List (Int × Int)} (h : CR k str pg tx ls lp lt) {x y : Int} (hy : ¬ 0 ≤ y) :
    CR (k + 1) str pg (if 0 ≤ x ∧ 0 ≤ y then putI tx x (List.foldl max (getI tx x) [getI pg y]) else tx) ls lp lt := by
  rw [if_neg (fun g => hy g.2)]
  refine ⟨h.len8, h.ge, fun q hq => ?_, fun q => ?_, fun q => ?_, h.hs, h.hp, h.ht, ?_⟩
  · have := h.le q hq; omega
  · have := h.pge q; omega
  · have := h.tge q; omega
  · have := h.lens; omega
theorem CR.sees_yes {k : Nat} {str : List Int} {pg tx ls lp lt : List (Int × Int)} (h : CR k str pg tx ls lp lt) {x y : Int} (hy : 0 ≤ y) :
    CR (k + 1) str pg (if 0 ≤ x ∧ 0 ≤ y then putI tx x (List.foldl max (getI tx x) [getI pg y]) else tx) ls lp (withT lt x (max (findT lt x) (findT lp y))) := by
  refine ⟨h.len8, h.ge, fun q hq => ?_, fun q => ?_, fun q => ?_, h.hs, h.hp, fun q => ?_, ?_⟩
  · have := h.le q hq; omega
  · have := h.pge q; omega
  · have := h.tge q; have h1 := h.tge x; have h2 := h.pge y
    split
    · rw [getI_put]; split
      · simp only [List.foldl]; omega
      · omega
    · omega
  · rw [findT_with, h.ht x, h.hp y]
    by_cases g : x < 0
    · rw [if_pos g, if_neg (by omega)]; exact h.ht q
    · rw [if_neg g, if_pos (show 0 ≤ x ∧ 0 ≤ y by omega), getI_put, h.ht q]; rfl
  · have := h.lens; have h3 := withT_len lt x (max (findT lt x) (findT lp y)); omega
end Go.Q
