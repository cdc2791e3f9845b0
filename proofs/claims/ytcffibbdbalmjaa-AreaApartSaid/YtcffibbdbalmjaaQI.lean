/-
  Plain laws of sets of numbers that rise.
-/
import Derived.Test.YtcffibbdbalmjaaQH
import Derived.Test.YtcffibbdbalmjaaQNums
set_option linter.unusedVariables false
set_option linter.unusedSimpArgs false
namespace Go.Q
theorem Has.all3 {E w : World} {s t u : List Hp} {ss : List (List Hp)} (H : Has E w (s :: t :: u :: ss)) : Has E w [s, t, u, ss.flatten] := by unfold Has at *; simpa using H
theorem Has.of_all3 {E w : World} {s t u : List Hp} {ss : List (List Hp)} (H : Has E w [s, t, u, ss.flatten]) : Has E w (s :: t :: u :: ss) := by unfold Has at *; simpa using H
theorem Has.all4 {E w : World} {s t u x : List Hp} {ss : List (List Hp)} (H : Has E w (s :: t :: u :: x :: ss)) : Has E w [s, t, u, x, ss.flatten] := by unfold Has at *; simpa using H
theorem Has.of_all4 {E w : World} {s t u x : List Hp} {ss : List (List Hp)} (H : Has E w [s, t, u, x, ss.flatten]) : Has E w (s :: t :: u :: x :: ss) := by unfold Has at *; simpa using H
theorem Sl.one {L : List Hp} {sz n : Nat} {v : Value} {cs : List Value} (h : Sl L sz v n cs) : v.oneCell' = true := by obtain ⟨p, c, rfl⟩ := h.form; rfl
theorem Own.one {e : TypeId} {sz n : Nat} {v : Value} {cs : List Value} {hs : List Hp} (h : Own e sz v n cs hs) : v.oneCell' = true := h.sl.one
theorem same_step {a b : List Int} {k : Nat} {x y : Int} (he : ∀ j, j < k → a[j]? = b[j]?) (h1 : a[k]? = some x) (h2 : b[k]? = some y) (e : x = y) : ∀ j, j < k + 1 → a[j]? = b[j]? := fun j hj => by
  rcases Nat.lt_or_ge j k with g | g
  · exact he j g
  · have : j = k := by omega
    subst this; rw [h1, h2, e]
theorem mem_step_in {now cur l : List Int} {k : Nat} {x : Int} (hm : ∀ a, a ∈ cur ↔ a ∈ now ∨ a ∈ l.take k) (hx : l[k]? = some x) (h : x ∈ cur) : ∀ a, a ∈ cur ↔ a ∈ now ∨ a ∈ l.take (k + 1) := by
  intro a; rw [take_succ_of hx, List.mem_append, List.mem_singleton, ← or_assoc, ← hm a]
  exact ⟨.inl, fun g => g.elim id fun e => e ▸ h⟩
theorem mem_step_add {now cur l : List Int} {k p : Nat} {x : Int} (hm : ∀ a, a ∈ cur ↔ a ∈ now ∨ a ∈ l.take k) (hx : l[k]? = some x) : ∀ a, a ∈ cur.take p ++ [x] ++ cur.drop p ↔ a ∈ now ∨ a ∈ l.take (k + 1) := by
  intro a; rw [take_succ_of hx, List.mem_append, List.mem_append, List.mem_append, List.mem_singleton, ← or_assoc, ← hm a]
  rw [show (a ∈ cur) ↔ (a ∈ cur.take p ∨ a ∈ cur.drop p) from by rw [← List.mem_append, List.take_append_drop]]
  constructor
  · rintro ((h | h) | h)
    · exact .inl (.inl h)
    · exact .inr h
    · exact .inl (.inr h)
  · rintro ((h | h) | h)
    · exact .inl (.inl h)
    · exact .inr h
    · exact .inl (.inr h)
theorem ins_sorted {cur : List Int} {p : Nat} {x : Int} (hs : cur.Pairwise (· < ·)) (hlo : ∀ a ∈ cur.take p, a < x) (hhi : ∀ a ∈ cur.drop p, x ≤ a) (h : x ∉ cur) : (cur.take p ++ [x] ++ cur.drop p).Pairwise (· < ·) := by
  have hs' := hs
  rw [← List.take_append_drop p cur, List.pairwise_append] at hs'
  obtain ⟨h1, h2, h3⟩ := hs'
  have h4 : ∀ b ∈ cur.drop p, x < b := fun b hb => by
    have := hhi b hb
    have : x ≠ b := fun e => h (e ▸ List.mem_of_mem_drop hb)
    omega
  rw [List.append_assoc, List.pairwise_append]
  refine ⟨h1, List.pairwise_cons.2 ⟨h4, h2⟩, fun a ha b hb => ?_⟩
  rcases List.mem_cons.1 hb with rfl | hb
  · exact hlo a ha
  · exact h3 a ha b hb
theorem sorted_eq {a b : List Int} (ha : a.Pairwise (· < ·)) (hb : b.Pairwise (· < ·)) (h : ∀ x, x ∈ a ↔ x ∈ b) : a = b := by
  induction a generalizing b with
  | nil => cases b with
    | nil => rfl
    | cons y t => exact absurd ((h y).2 (List.mem_cons_self ..)) (by simp)
  | cons x s ih => cases b with
    | nil => exact absurd ((h x).1 (List.mem_cons_self ..)) (by simp)
    | cons y t =>
      have ha' := List.pairwise_cons.1 ha
      have hb' := List.pairwise_cons.1 hb
      have e : x = y := by
        rcases List.mem_cons.1 ((h x).1 (List.mem_cons_self ..)) with e | e
        · exact e
        · rcases List.mem_cons.1 ((h y).2 (List.mem_cons_self ..)) with e' | e'
          · exact e'.symm
          · have := hb'.1 x e; have := ha'.1 y e'; omega
      subst e
      congr 1
      refine ih ha'.2 hb'.2 fun z => ?_
      constructor
      · intro hz
        rcases List.mem_cons.1 ((h z).1 (List.mem_cons_of_mem _ hz)) with e | e
        · have := ha'.1 z hz; omega
        · exact e
      · intro hz
        rcases List.mem_cons.1 ((h z).2 (List.mem_cons_of_mem _ hz)) with e | e
        · have := hb'.1 z hz; omega
        · exact e
end Go.Q
namespace Go.Q
theorem fold_max_mem (l : List Int) : ∀ a : Int, l.foldl max a = a ∨ l.foldl max a ∈ l := by
  induction l with
  | nil => intro a; exact .inl rfl
  | cons x t ih =>
    intro a
    rw [List.foldl_cons]
    rcases ih (max a x) with h | h
    · rw [h]
      rcases Int.le_total a x with g | g
      · right; rw [Int.max_eq_right g]; exact List.mem_cons_self ..
      · left; exact Int.max_eq_left g
    · exact .inr (List.mem_cons_of_mem _ h)
theorem fold_min_mem (l : List Int) : ∀ a : Int, l.foldl min a = a ∨ l.foldl min a ∈ l := by
  induction l with
  | nil => intro a; exact .inl rfl
  | cons x t ih =>
    intro a
    rw [List.foldl_cons]
    rcases ih (min a x) with h | h
    · rw [h]
      rcases Int.le_total a x with g | g
      · left; exact Int.min_eq_left g
      · right; rw [Int.min_eq_right g]; exact List.mem_cons_self ..
    · exact .inr (List.mem_cons_of_mem _ h)
theorem fold_max_le (l : List Int) : ∀ a : Int, a ≤ l.foldl max a ∧ ∀ x ∈ l, x ≤ l.foldl max a := by
  induction l with
  | nil => intro a; exact ⟨Int.le_refl _, fun x hx => by cases hx⟩
  | cons y t ih =>
    intro a
    rw [List.foldl_cons]
    have := ih (max a y)
    refine ⟨by omega, fun x hx => ?_⟩
    rcases List.mem_cons.1 hx with e | e
    · subst e; omega
    · exact this.2 x e
theorem fold_min_le (l : List Int) : ∀ a : Int, l.foldl min a ≤ a ∧ ∀ x ∈ l, l.foldl min a ≤ x := by
  induction l with
  | nil => intro a; exact ⟨Int.le_refl _, fun x hx => by cases hx⟩
  | cons y t ih =>
    intro a
    rw [List.foldl_cons]
    have := ih (min a y)
    refine ⟨by omega, fun x hx => ?_⟩
    rcases List.mem_cons.1 hx with e | e
    · subst e; omega
    · exact this.2 x e
theorem seen_step {l : List Int} {k : Nat} {h a x : Int} {b b' : Bool} (H : h = a ∨ h ∈ l.take k → b = true) (hx : l[k]? = some x) (g : b = true ∨ h = x → b' = true) : h = a ∨ h ∈ l.take (k + 1) → b' = true := by
  rw [take_succ_of hx, List.mem_append, List.mem_singleton]
  rintro (h1 | h1 | h1)
  · exact g (.inl (H (.inl h1)))
  · exact g (.inl (H (.inr h1)))
  · exact g (.inr h1)
end Go.Q
namespace Go.Q
theorem sum_skip {l : List Int} {k : Nat} {s x : Int} (h : sumS 0 l = sumS s (l.drop k)) (hx : l[k]? = some x) (h0 : ¬ 0 < x) (hs : s ≤ 9223372036854775807) : sumS 0 l = sumS s (l.drop (k + 1)) := by
  rw [h, drop_of hx, sumS, if_neg (by omega), Int.max_eq_right (by omega), Int.add_zero]
theorem sum_add {l : List Int} {k : Nat} {s x : Int} (h : sumS 0 l = sumS s (l.drop k)) (hx : l[k]? = some x) (h0 : 0 < x) (hs : ¬ 9223372036854775807 - s < x) : sumS 0 l = sumS (s + x) (l.drop (k + 1)) := by
  rw [h, drop_of hx, sumS, if_neg (by omega), Int.max_eq_left (by omega)]
theorem sum_over {l : List Int} {k : Nat} {s x : Int} (h : sumS 0 l = sumS s (l.drop k)) (hx : l[k]? = some x) (hs : 9223372036854775807 - s < x) : sumS 0 l = 9223372036854775807 := by
  rw [h, drop_of hx, sumS, if_pos (by omega)]
theorem sum_end {l : List Int} {k : Nat} {s : Int} (h : sumS 0 l = sumS s (l.drop k)) (hk : l.length ≤ k) : sumS 0 l = s := by
  rw [h, List.drop_of_length_le hk]; rfl
end Go.Q
namespace Go.Q
theorem o_not2 {P : Program} {ρ : Operand → Value} {w : World} {K : Value → World → Prop} {dst : Option Tmp} {T : TypeId} {pos : String} {after : Array Edge} {g : Option (Nat × Bool)} {t : TypeId} {x : Operand} {b b' : Bool} (hx : ρ x = .bool b) (hb : (!b) = b') (h : K (.bool b') w) :
    OK P ⟨dst, .unOp .not t x, T, pos, after, g⟩ ρ w K := by subst hb; exact o_not hx h
end Go.Q
