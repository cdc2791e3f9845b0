/-
  What is done to devices: acts, and when a list of them is not too great.
-/
import Derived.Test.YtcffibbdbalmjaaQX
import Derived.Test.YtcffibbdbalmjaaQYS
import Derived.Test.YtcffibbdbalmjaaQDev
set_option linter.unusedVariables false
set_option linter.unusedSimpArgs false
namespace Go.Q
structure DAct where
  kind : Int
  n : Int
  other : Bool
  dv : Value
  data : List Bs
  kv : Value
  keep : List Int
def daC (a : DAct) : List Value := [iV a.kind, iV a.n, .bool a.other, a.dv, a.kv]
theorem daC_len (a : DAct) : (daC a).length = 5 := rfl
/-- An act whose rows read. -/
def DaOk (R : List Hp) (a : DAct) : Prop := Sl R 1 a.dv a.data.length (a.data.map sV) ∧ Ints R a.kv a.keep ∧ (∀ t ∈ a.data, t.length ≤ 140737488355328) ∧ -9223372036854775808 ≤ a.n ∧ a.n ≤ 9223372036854775807
theorem DaOk.mono {R R' : List Hp} {a : DAct} (h : DaOk R a) (hs : R ⊆ R') : DaOk R' a := ⟨h.1.mono hs, h.2.1.mono hs, h.2.2⟩
/-- An act that is not too great. -/
def DFin (a : DAct) : Prop := a.data.length ≤ 6 ∧ a.data.flatten.length ≤ 200 ∧ a.keep.length ≤ 40
def DFine (l : List DAct) : Prop := l.length ≤ 60 ∧ ∀ a ∈ l, DFin a
theorem DFine.snoc {l : List DAct} {k : Nat} {x : DAct} (h : ∀ a ∈ l.take k, DFin a) (hx : l[k]? = some x) (hf : DFin x) : ∀ a ∈ l.take (k + 1), DFin a := by
  rw [List.take_add_one, hx]
  intro y hy
  rcases List.mem_append.1 hy with g | g
  · exact h y g
  · simp at g; rw [g]; exact hf
theorem flatten_take_succ {l : List Bs} {k : Nat} {x : Bs} (hx : l[k]? = some x) : (l.take (k + 1)).flatten = (l.take k).flatten ++ x := by
  rw [List.take_add_one, hx]; simp
theorem flatten_le {l : List Bs} {B : Nat} (h : ∀ t ∈ l, t.length ≤ B) : l.flatten.length ≤ l.length * B := by
  induction l with
  | nil => simp
  | cons a l ih =>
    have := ih fun t ht => h t (List.mem_cons_of_mem _ ht)
    have := h a List.mem_cons_self
    simp only [List.flatten_cons, List.length_append, List.length_cons, Nat.add_mul, Nat.one_mul]; omega
end Go.Q
