/-
  What is done to areas: acts; two areas side by side.
-/
import Derived.Test.YtcffibbdbalmjaaQArea
import Derived.Test.YtcffibbdbalmjaaQDevA
set_option linter.unusedVariables false
set_option linter.unusedSimpArgs false
namespace Go.Q
structure AAct where
  kind : Int
  at_ : Int
  size : Int
  dv : Value
  data : List Bs
  kv : Value
  keep : List Int
def aaC (a : AAct) : List Value := [iV a.kind, iV a.at_, iV a.size, a.dv, a.kv]
theorem aaC_len (a : AAct) : (aaC a).length = 5 := rfl
def AaOk (R : List Hp) (a : AAct) : Prop := Sl R 1 a.dv a.data.length (a.data.map sV) ∧ Ints R a.kv a.keep ∧ (∀ t ∈ a.data, t.length ≤ 140737488355328)
theorem AaOk.mono {R R' : List Hp} {a : AAct} (h : AaOk R a) (hs : R ⊆ R') : AaOk R' a := ⟨h.1.mono hs, h.2.1.mono hs, h.2.2⟩
def AFin (a : AAct) : Prop := a.data.length ≤ 6 ∧ a.data.flatten.length ≤ 2000 ∧ a.keep.length ≤ 40
def AFine (l : List AAct) : Prop := l.length ≤ 30 ∧ ∀ a ∈ l, AFin a
theorem AFine.snoc {l : List AAct} {k : Nat} {x : AAct} (h : ∀ a ∈ l.take k, AFin a) (hx : l[k]? = some x) (hf : AFin x) : ∀ a ∈ l.take (k + 1), AFin a := by
  rw [List.take_add_one, hx]
  intro y hy
  rcases List.mem_append.1 hy with g | g
  · exact h y g
  · simp at g; rw [g]; exact hf
theorem full_blank (k : Nat) : Full64 (List.replicate k blankS) := fun s hs => by rw [(List.mem_replicate.1 hs).2]; rfl
/-- What is set in one area leaves what is got of another one. -/
theorem apart_get {la : List Bs} {lo : List (Int × Bs)} {all : Bs} {f1 n1 a1 s1 f2 n2 a2 s2 : Int} (hn1 : 0 < n1) (hn2 : 0 < n2) (h0 : 0 ≤ f1) (h : f1 + n1 ≤ f2) :
    getP la (setP la (allP f2 (n2 * 64) (a2 % (n2 * 64)) s2) lo all) (allP f1 (n1 * 64) (a1 % (n1 * 64)) s1) = getP la lo (allP f1 (n1 * 64) (a1 % (n1 * 64)) s1) := by
  refine getP_congr fun p hp => ?_
  have hp1 := pieces_ok hn1 _ _ _ (Int.emod_nonneg _ (by omega)) (Int.emod_lt_of_pos _ (by omega)) p hp
  refine setP_other _ _ _ fun q hq => ?_
  have hq1 := pieces_ok hn2 _ _ _ (Int.emod_nonneg _ (by omega)) (Int.emod_lt_of_pos _ (by omega)) q hq
  unfold PcOk at hp1 hq1
  omega
end Go.Q
