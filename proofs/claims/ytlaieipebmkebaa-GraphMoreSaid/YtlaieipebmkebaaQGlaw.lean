/-
  Layer 15: what the statements ask of ways, of what leads round, of more edges and of edges turned round.
-/
import Derived.Test.YtlaieipebmkebaaQWay
import Derived.Test.YtlaieipebmkebaaQFun
set_option linter.unusedVariables false
set_option linter.unusedSimpArgs false
namespace Go.Q
set_option linter.unusedVariables false
theorem leads_wk {l : Edges} {a b : Int} : Leads l a b ↔ ∃ r, wk l a r ∧ (la a r, b) ∈ l := by
  constructor
  · intro h
    induction h with
    | one h => exact ⟨[], trivial, h⟩
    | more h _ ih => obtain ⟨r, h1, h2⟩ := ih; exact ⟨_ :: r, ⟨h, h1⟩, h2⟩
  · rintro ⟨r, h1, h2⟩
    induction r generalizing a with
    | nil => exact .one h2
    | cons x r ih => exact .more h1.1 (ih h1.2 h2)
theorem reach1 {l : Edges} {a b : Int} : b ∈ reachS l [a] ↔ Leads l a b := by rw [reach_mem]; simp
theorem steps_leads {l : Edges} {a b : Int} : stepsS l a b ≠ 0 ↔ Leads l a b := by
  rw [leads_wk]
  constructor
  · intro h
    obtain ⟨k, hk⟩ : ∃ k, stepsS l a b = k + 1 := ⟨stepsS l a b - 1, by omega⟩
    obtain ⟨r, _, h1, h2⟩ := steps_is hk; exact ⟨r, h1, h2⟩
  · rintro ⟨r, h1, h2⟩; have := steps_of h1 h2; omega
theorem rway_len (l : Edges) (a b : Int) : (rwayS l a b).length = stepsS l a b := by
  by_cases h : stepsS l a b = 0
  · rw [rwayS, if_pos h, h]; rfl
  · exact (way_is h).len
theorem rway_le (l : Edges) (a b : Int) : (rwayS l a b).length ≤ l.length + 2 := by rw [rway_len]; exact stepsS_le l a b
theorem way_reach (l : Edges) (a b : Int) : decide ((0 : Int) < (((rwayS l a b).length : Nat) : Int)) = decide (b ∈ reachS l [a]) := by
  refine decide_eq_decide.2 ?_
  rw [reach1, ← steps_leads, rway_len]; omega
theorem wk_at {l : Edges} : ∀ (r : List Int) (a : Int) (i : Nat) (x y : Int), wk l a r → (a :: r)[i]? = some x → (a :: r)[i + 1]? = some y → (x, y) ∈ l
  | [], _, _, _, _, _, _, h => by simp at h
  | z :: r, a, 0, x, y, hw, hx, hy => by
    have e1 : a = x := by simpa using hx
    have e2 : z = y := by simpa using hy
    subst e1 e2; exact hw.1
  | z :: r, a, i + 1, x, y, hw, hx, hy => wk_at r z i x y hw.2 (by simpa using hx) (by simpa using hy)
theorem way_next {l : Edges} {a b x y : Int} {i : Nat} (hx : (rwayS l a b)[i]? = some x) (hy : (rwayS l a b)[i + 1]? = some y) : y ∈ nextS l [x] := by
  have h : stepsS l a b ≠ 0 := fun h => by rw [rwayS, if_pos h] at hx; simp at hx
  obtain ⟨r, e, hr⟩ := (way_is h).wy
  rw [e] at hx hy
  exact next1_mem.2 (wk_at r a i x y hr hx hy)
theorem way_end {l : Edges} {a b x : Int} {i : Nat} (hx : (rwayS l a b)[i]? = some x) (hy : (rwayS l a b).length ≤ i + 1) : b ∈ nextS l [x] := by
  have h : stepsS l a b ≠ 0 := fun h => by rw [rwayS, if_pos h] at hx; simp at hx
  obtain ⟨y, h1, h2⟩ := (way_is h).last
  have hlt := (List.getElem?_eq_some_iff.1 hx).1
  rw [List.getLast?_eq_getElem?, show (rwayS l a b).length - 1 = i by omega, hx] at h1
  obtain rfl := Option.some.inj h1
  exact next1_mem.2 h2
theorem way_first {l : Edges} {a b x : Int} (hx : (rwayS l a b)[0]? = some x) : x = a := by
  have h : stepsS l a b ≠ 0 := fun h => by rw [rwayS, if_pos h] at hx; simp at hx
  obtain ⟨r, e, hr⟩ := (way_is h).wy
  rw [e] at hx
  simpa using hx.symm
theorem Leads.sub {l m : Edges} (hs : ∀ e ∈ l, e ∈ m) {a b : Int} (h : Leads l a b) : Leads m a b := by
  induction h with
  | one h => exact .one (hs _ h)
  | more h _ ih => exact .more (hs _ h) ih
def restS (l : Edges) (d : List Int) : Edges := l.filter (fun e => decide (e.1 ∉ d))
theorem rest_step {l : Edges} {d : List Int} {k : Nat} {x : Int × Int} (hx : l[k]? = some x) : restS (l.take (k + 1)) d = if x.1 ∉ d then restS (l.take k) d ++ [x] else restS (l.take k) d := by
  unfold restS; rw [take_succ_of hx, List.filter_append]
  by_cases h : x.1 ∈ d
  · simp [h]
  · simp [h]
theorem rest_none (l : Edges) : deadS (goesR (restS l (deadS (goesR l) l))) (restS l (deadS (goesR l) l)) = [] := by
  refine List.eq_nil_iff_forall_not_mem.2 fun a ha => ?_
  obtain ⟨h1, y, h2⟩ := deadS_mem.1 ha
  have h3 : Leads (restS l (deadS (goesR l) l)) a a := reach1.1 (of_decide_eq_true h1)
  have h4 : Leads l a a := h3.sub fun e he => (List.mem_filter.1 he).1
  obtain ⟨h5, h6⟩ := List.mem_filter.1 h2
  exact of_decide_eq_true h6 (deadS_mem.2 ⟨decide_eq_true (reach1.2 h4), y, h5⟩)
/-- all edges turned round -/
def backS (l : Edges) : Edges := l.map (fun e => (e.2, e.1))
theorem back_mem {l : Edges} {a b : Int} : (a, b) ∈ backS l ↔ (b, a) ∈ l := by
  unfold backS
  rw [List.mem_map]
  constructor
  · rintro ⟨⟨x, y⟩, h, e⟩; simp only [Prod.mk.injEq] at e; obtain ⟨rfl, rfl⟩ := e; exact h
  · intro h; exact ⟨_, h, rfl⟩
theorem back_wk {l : Edges} : ∀ (r : List Int) (a b : Int), wk l a r → (la a r, b) ∈ l → ∃ r', r'.length = r.length ∧ wk (backS l) b r' ∧ (la b r', a) ∈ backS l
  | [], a, b, _, h => ⟨[], rfl, trivial, back_mem.2 h⟩
  | x :: r, a, b, hw, h => by
    obtain ⟨r', h1, h2, h3⟩ := back_wk r x b hw.2 h
    refine ⟨r' ++ [x], by simp [h1], wk_app.2 ⟨h2, h3, trivial⟩, ?_⟩
    rw [la_snoc]; exact back_mem.2 hw.1
theorem back_back (l : Edges) : backS (backS l) = l := by unfold backS; rw [List.map_map]; exact (List.map_congr_left (g := id) (fun e _ => rfl)).trans (List.map_id l)
theorem back_le (l : Edges) (a b : Int) (h : stepsS l a b ≠ 0) : stepsS (backS l) b a ≠ 0 ∧ stepsS (backS l) b a ≤ stepsS l a b := by
  obtain ⟨k, hk⟩ : ∃ k, stepsS l a b = k + 1 := ⟨stepsS l a b - 1, by omega⟩
  obtain ⟨r, h1, h2, h3⟩ := steps_is hk
  obtain ⟨r', g1, g2, g3⟩ := back_wk r a b h2 h3
  have := steps_of g2 g3; omega
theorem back_steps (l : Edges) (a b : Int) : stepsS (backS l) b a = stepsS l a b := by
  by_cases h : stepsS l a b = 0
  · by_cases g : stepsS (backS l) b a = 0
    · omega
    · have := back_le (backS l) b a g; rw [back_back] at this; omega
  · have h1 := back_le l a b h
    have h2 := back_le (backS l) b a h1.1; rw [back_back] at h2; omega
theorem back_way (l : Edges) (a b : Int) : (rwayS l a b).length = (rwayS (backS l) b a).length := by rw [rway_len, rway_len, back_steps]
theorem back_reach (l : Edges) (a b : Int) : b ∈ reachS l [a] ↔ a ∈ reachS (backS l) [b] := by
  rw [reach1, reach1, ← steps_leads, ← steps_leads, back_steps]
theorem more_reach {l : Edges} {e : Int × Int} {a x : Int} (h : x ∈ reachS l [a]) : x ∈ reachS (l ++ [e]) [a] :=
  reach1.2 ((reach1.1 h).sub fun e he => List.mem_append_left _ he)
theorem back_step {l : Edges} {k : Nat} {x : Int × Int} (hx : l[k]? = some x) : backS (l.take (k + 1)) = backS (l.take k) ++ [(x.2, x.1)] := by
  unfold backS; rw [take_succ_of hx, List.map_append]; rfl
def LA : Edges := [(1, 2), (2, 3), (3, 1)]
theorem awake_way : rwayS [(1, 2), (2, 3), (3, 1)] 1 1 = [1, 2, 3] := by decide +kernel
theorem awake_round : [9, 2].any (goesR [(1, 2), (2, 3), (3, 1)]) = true := by decide +kernel
theorem awake_dead : deadS (goesR [(1, 2), (2, 3), (3, 1)]) [(1, 2), (2, 3), (3, 1)] = [1, 2, 3] := by decide +kernel
end Go.Q
