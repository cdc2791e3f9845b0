/-
  Layer 9, the plain law: times of keys, and what is asked too much.
-/
import Derived.Test.YtagicdbeacmffaaQX
import Derived.Test.YtagicdbeacmffaaQKI
import Derived.Test.YtagicdbeacmffaaQNums
set_option linter.unusedVariables false
set_option linter.unusedSimpArgs false
namespace Go.Q
def greatS (l : List ActL) : Bool := decide (60 < l.length) || l.any (fun a => decide (10 < a.ml.length))
theorem greatS_len {l : List ActL} (h : 60 < l.length) : greatS l = true := by simp [greatS, h]
theorem greatS_el {l : List ActL} {x : ActL} (hx : x ∈ l) (h : 10 < x.ml.length) : greatS l = true := by
  rw [greatS, Bool.or_eq_true, List.any_eq_true]
  exact .inr ⟨x, hx, by simpa using h⟩
theorem greatS_no {l : List ActL} (h : l.length ≤ 60) (h2 : ∀ a ∈ l, a.ml.length ≤ 10) : greatS l = false := by
  rw [Bool.eq_false_iff]
  intro g
  rw [greatS, Bool.or_eq_true, List.any_eq_true] at g
  rcases g with g | ⟨x, hx, g⟩
  · have := of_decide_eq_true g; omega
  · have := of_decide_eq_true g; have := h2 x hx; omega
theorem greatS_len' {l : List ActL} (h : greatS l = false) : l.length ≤ 60 := by
  rcases Nat.lt_or_ge 60 l.length with g | g
  · rw [greatS_len g] at h; cases h
  · exact g
/-- The time of a key. -/
def findT : List (Int × Int) → Int → Int
  | [], _ => 0
  | p :: t, k => if p.1 = k then p.2 else findT t k
/-- Times, a key's being that one. -/
def withT (l : List (Int × Int)) (k n : Int) : List (Int × Int) := if k < 0 then l else l.filter (fun p => decide (p.1 ≠ k)) ++ [(k, n)]
theorem findT_append (a b : List (Int × Int)) (k : Int) (h : ∀ p ∈ a, p.1 ≠ k) : findT (a ++ b) k = findT b k := by
  induction a with
  | nil => rfl
  | cons p t ih =>
    rw [List.cons_append, findT, if_neg (h p (List.mem_cons_self ..))]
    exact ih fun q hq => h q (List.mem_cons_of_mem _ hq)
theorem findT_filter (k k' : Int) (hk : k' ≠ k) (b : List (Int × Int)) : ∀ l : List (Int × Int), findT (l.filter (fun p => decide (p.1 ≠ k)) ++ b) k' = findT (l ++ b) k'
  | [] => rfl
  | p :: t => by
    rw [List.filter_cons]
    split
    · rw [List.cons_append, List.cons_append, findT, findT, findT_filter k k' hk b t]
    · rename_i h
      have hp : p.1 = k := by simpa using h
      rw [List.cons_append, findT, if_neg (fun e => hk (e.symm.trans hp)), findT_filter k k' hk b t]
theorem findT_last (k n : Int) (k' : Int) (h : k' ≠ k) : ∀ l : List (Int × Int), findT (l ++ [(k, n)]) k' = findT l k'
  | [] => by show (if k = k' then n else 0) = 0; rw [if_neg (fun e => h e.symm)]
  | p :: t => by rw [List.cons_append, findT, findT, findT_last k n k' h t]
theorem findT_with (l : List (Int × Int)) (k n k' : Int) : findT (withT l k n) k' = if k < 0 then findT l k' else if k' = k then n else findT l k' := by
  unfold withT
  split
  · rfl
  · split
    · rename_i h; subst h
      rw [findT_append _ _ _ (fun p hp => by simpa using (List.mem_filter.1 hp).2)]
      show (if k' = k' then n else 0) = n
      rw [if_pos rfl]
    · rename_i h
      rw [findT_filter k k' h, findT_last k n k' h]
theorem withT_len (l : List (Int × Int)) (k n : Int) : (withT l k n).length ≤ l.length + 1 := by
  unfold withT
  split
  · omega
  · rw [List.length_append]
    have := List.length_filter_le (fun p : Int × Int => decide (p.1 ≠ k)) l
    simp only [List.length_cons, List.length_nil]; omega
theorem filter_take {l : List (Int × Int)} {k : Nat} {x : Int × Int} {key : Int} {acc : List (Int × Int)} (h : acc = (l.take k).filter (fun p => decide (p.1 ≠ key))) (hx : l[k]? = some x) :
    (if x.1 ≠ key then acc ++ [x] else acc) = (l.take (k + 1)).filter (fun p => decide (p.1 ≠ key)) := by
  have e : l.take (k + 1) = l.take k ++ [x] := by rw [List.take_add_one, hx]; rfl
  rw [e, List.filter_append, ← h]
  by_cases g : x.1 = key
  · rw [if_neg (by simpa using g)]; simp [g]
  · rw [if_pos g]; simp [g]
theorem filter_yes {l : List (Int × Int)} {k : Nat} {x : Int × Int} {key : Int} {acc : List (Int × Int)} (h : acc = (l.take k).filter (fun p => decide (p.1 ≠ key))) (hx : l[k]? = some x) (g : x.1 ≠ key) :
    acc ++ [(x.1, x.2)] = (l.take (k + 1)).filter (fun p => decide (p.1 ≠ key)) := by rw [← filter_take h hx, if_pos g]
theorem filter_no {l : List (Int × Int)} {k : Nat} {x : Int × Int} {key : Int} {acc : List (Int × Int)} (h : acc = (l.take k).filter (fun p => decide (p.1 ≠ key))) (hx : l[k]? = some x) (g : ¬ x.1 ≠ key) :
    acc = (l.take (k + 1)).filter (fun p => decide (p.1 ≠ key)) := by rw [← filter_take h hx, if_neg g]
end Go.Q
