/-
  Functions that hold variables.
-/
import Derived.Test.YtcffibbdbalmjaaQGraph
set_option linter.unusedVariables false
set_option linter.unusedSimpArgs false
namespace Go.Q
section ops
variable {P : Program} {ρ : Operand → Value} {E w : World} {ss : List (List Hp)} {K : Value → World → Prop} {dst : Option Tmp} {T : TypeId} {pos : String} {after : Array Edge} {g : Option (Nat × Bool)}
theorem o_makeFunc {f : FuncId} {cs : Array Operand} {vs : Array Value} (hv : cs.map ρ = vs) (hK : K (.func (.func f) #[] vs) w) : OK P ⟨dst, .makeFunc (.func f) #[] cs, T, pos, after, g⟩ ρ w K := by
  refine OK.val (w' := w) ?_ hK
  subst hv; simp [execOp, Instr.makeFunc]
variable {a b c : Operand} {u v x y : Value}
theorem cap1 (h1 : ρ a = u) : #[a].map ρ = #[u] := by simp [*]
theorem cap2 (h1 : ρ a = u) (h2 : ρ b = v) : #[a, b].map ρ = #[u, v] := by simp [*]
theorem cap3 (h1 : ρ a = u) (h2 : ρ b = v) (h3 : ρ c = x) : #[a, b, c].map ρ = #[u, v, x] := by simp [*]
theorem args1c1 (h1 : ρ a = u) : #[] ++ #[a].map ρ ++ #[x] = #[u, x] := by simp [*]
theorem args1c2 (h1 : ρ a = u) : #[] ++ #[a].map ρ ++ #[x, y] = #[u, x, y] := by simp [*]
end ops
/-- the first place whose element is so, or -1 -/
def idxP (p : Int → Bool) : List Int → Int
  | [] => -1
  | y :: l => if p y = true then 0 else if idxP p l < 0 then -1 else idxP p l + 1
theorem idxP_none {p : Int → Bool} : ∀ {l : List Int}, (∀ y ∈ l, p y = false) → idxP p l = -1
  | [], _ => rfl
  | y :: l, h => by
    rw [idxP, if_neg (by rw [h y (by simp)]; decide), idxP_none fun z hz => h z (List.mem_cons_of_mem _ hz)]; rfl
theorem idxP_at {p : Int → Bool} {y : Int} : ∀ {l : List Int} {k : Nat}, (∀ z ∈ l.take k, p z = false) → l[k]? = some y → p y = true → idxP p l = k
  | [], _, _, h, _ => by simp at h
  | z :: l, 0, _, h, e => by
    have : z = y := by simpa using h
    subst this
    rw [idxP, if_pos e]; rfl
  | z :: l, k + 1, hn, h, e => by
    have h1 := hn z (by simp)
    rw [idxP, if_neg (by rw [h1]; decide), idxP_at (k := k) (fun u hu => hn u (by rw [List.take_succ_cons]; exact List.mem_cons_of_mem _ hu)) (by simpa using h) e, if_neg (by omega)]; omega
theorem idxP_any {p : Int → Bool} : ∀ {l : List Int}, decide (0 ≤ idxP p l) = l.any p
  | [] => rfl
  | y :: l => by
    have ih := idxP_any (p := p) (l := l)
    rw [idxP, List.any_cons]
    cases h : p y with
    | true => rfl
    | false =>
      rw [if_neg (by decide), Bool.false_or, ← ih]
      by_cases g : idxP p l < 0
      · rw [if_pos g]; exact decide_eq_decide.2 (by omega)
      · rw [if_neg g]; exact decide_eq_decide.2 (by omega)
/-- a way leads from a number to itself -/
def goesR (l : Edges) (x : Int) : Bool := decide (x ∈ reachS l [x])
def deadS (g : Int → Bool) (l : Edges) : List Int := joinS ((l.filter (fun e => g e.1)).map (·.1)) []
theorem deadS_sorted (g : Int → Bool) (l : Edges) : (deadS g l).Pairwise (· < ·) := joinS_sorted _ _ List.Pairwise.nil
theorem deadS_mem {g : Int → Bool} {l : Edges} {a : Int} : a ∈ deadS g l ↔ g a = true ∧ ∃ y, (a, y) ∈ l := by
  unfold deadS
  rw [joinS_mem]
  simp only [List.not_mem_nil, false_or, List.mem_map, List.mem_filter]
  constructor
  · rintro ⟨⟨x, y⟩, ⟨h1, h2⟩, rfl⟩; exact ⟨h2, y, h1⟩
  · rintro ⟨h, y, h1⟩; exact ⟨(a, y), ⟨h1, h⟩, rfl⟩
theorem dead_yes {g : Int → Bool} {l : Edges} {k : Nat} {x : Int × Int} (hx : l[k]? = some x) (h : g x.1 = true) : deadS g (l.take (k + 1)) = withS x.1 false (deadS g (l.take k)) := by
  unfold deadS joinS; rw [take_succ_of hx, List.filter_append, List.map_append, List.foldl_append]; simp [h]
theorem dead_no {g : Int → Bool} {l : Edges} {k : Nat} {x : Int × Int} (hx : l[k]? = some x) (h : g x.1 = false) : deadS g (l.take (k + 1)) = deadS g (l.take k) := by
  unfold deadS joinS; rw [take_succ_of hx, List.filter_append, List.map_append, List.foldl_append]; simp [h]
end Go.Q
