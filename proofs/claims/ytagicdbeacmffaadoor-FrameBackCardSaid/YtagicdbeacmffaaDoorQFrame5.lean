/-
  Layer 3, the plain law: frames that rise, laid one behind the other, are a chain; cut off, those ahead are.
-/
import Derived.Test.YtagicdbeacmffaaDoorQFrame4
set_option linter.unusedVariables false
set_option linter.unusedSimpArgs false
namespace Go.Q
/-- the bytes of frames, one behind the other -/
def catS (l : List Fr) : List UInt8 := l.flatMap makeS
/-- frames that may stand one behind the other in a chain of an epoch -/
def Laid (ep cut : Int) : Int → Int → List Fr → Prop
  | _, _, [] => True
  | pl, ab, f :: l => rightS f = true ∧ fitsF ep cut pl ab f = true ∧ Laid ep cut (pl + ((makeS f).length : Int)) f.gsn l
theorem oN_made {f : Fr} (h : rightS f = true) (more : List UInt8) : oN (makeS f ++ more) = ((makeS f).length : Int) := by
  rw [(made_oF h more).2, makeS_len h]; omega
theorem chain_laid {ep cut : Int} : ∀ (l : List Fr) (n : Nat) (pl ab : Int) (rest : List UInt8), Laid ep cut pl ab l → l.length ≤ n → opensB rest = false → chainS ep cut n (catS l ++ rest) pl ab = (l, pl + ((catS l).length : Int))
  | [], n, pl, ab, rest, _, _, hr => by
    show chainS ep cut n ([] ++ rest) pl ab = _
    rw [List.nil_append, chain_stop (.inl hr)]; simp [catS]
  | f :: l, n, pl, ab, rest, h, hn, hr => by
    obtain ⟨h1, h2, h3⟩ := h
    obtain ⟨m, rfl⟩ : ∃ m, n = m + 1 := ⟨n - 1, by simp only [List.length_cons] at hn; omega⟩
    have e : catS (f :: l) ++ rest = makeS f ++ (catS l ++ rest) := by rw [catS, List.flatMap_cons, List.append_assoc]; rfl
    rw [e, chainS, made_opens h1, (made_oF h1 _).1, h2, oN_made h1]
    rw [if_pos (by decide), Int.toNat_natCast, List.drop_left]
    rw [chain_laid l m _ _ rest h3 (by simp only [List.length_cons] at hn; omega) hr]
    have el : (catS (f :: l)).length = (makeS f).length + (catS l).length := by rw [catS, List.flatMap_cons, List.length_append]; rfl
    rw [el]
    simp only [Prod.mk.injEq, true_and]
    omega
theorem cut_no {f : Fr} (h : rightS f = true) {more : List UInt8} {c : Nat} (hc : c < (makeS f).length) : opensB ((makeS f ++ more).take c) = false := by
  cases ho : opensB ((makeS f ++ more).take c) with
  | false => rfl
  | true =>
    exfalso
    have hle := oN_le ho
    have hy := oN_yes ho
    have l1 := makeS_len h
    rw [List.length_take, List.length_append] at hle
    obtain ⟨d, hd⟩ : ∃ d, (makeS f)[0]? = some d := ⟨_, List.getElem?_eq_getElem (by omega)⟩
    have hd2 : ((makeS f ++ more).take c)[0]? = some d := by rw [List.getElem?_take, if_pos (by omega), List.getElem?_append_left (by omega), hd]
    have n1 := take_one_at hd
    have n2 := take_one_at hd2
    have m1 := (made_takes h []).1
    rw [List.append_nil] at m1
    rw [m1] at n1
    simp only at n1
    have o1 : oN ((makeS f ++ more).take c) = (takeS ((makeS f ++ more).take c) 1).1 + 25 := by unfold oN; rw [if_pos ho]
    rw [n2] at o1
    omega
theorem chain_cut {ep cut : Int} : ∀ (l : List Fr) (n : Nat) (pl ab : Int) (c : Nat), Laid ep cut pl ab l → c < (catS l).length → l.length ≤ n →
    ∃ j, j < l.length ∧ (chainS ep cut n ((catS l).take c) pl ab).1 = l.take j ∧ (chainS ep cut n ((catS l).take c) pl ab).2 ≤ pl + (c : Int)
  | [], n, pl, ab, c, _, hc, _ => by simp [catS] at hc
  | f :: l, n, pl, ab, c, h, hc, hn => by
    obtain ⟨h1, h2, h3⟩ := h
    have e : catS (f :: l) = makeS f ++ catS l := by rw [catS, List.flatMap_cons]; rfl
    rw [e] at hc ⊢
    by_cases hcf : c < (makeS f).length
    · rw [chain_stop (.inl (cut_no h1 hcf))]
      exact ⟨0, by simp, by simp, by simp only; omega⟩
    · obtain ⟨m, rfl⟩ : ∃ m, n = m + 1 := ⟨n - 1, by simp only [List.length_cons] at hn; omega⟩
      have et : (makeS f ++ catS l).take c = makeS f ++ (catS l).take (c - (makeS f).length) := by
        rw [List.take_append, List.take_of_length_le (by omega)]
      obtain ⟨j, j1, j2, j3⟩ := chain_cut l m (pl + ((makeS f).length : Int)) f.gsn (c - (makeS f).length) h3 (by rw [List.length_append] at hc; omega) (by simp only [List.length_cons] at hn; omega)
      rw [et, chainS, made_opens h1, (made_oF h1 _).1, h2, oN_made h1, if_pos (by decide), Int.toNat_natCast, List.drop_left]
      refine ⟨j + 1, by simp only [List.length_cons]; omega, by simp only [List.take_succ_cons]; rw [j2], ?_⟩
      simp only
      omega
/-- the frames of some texts, from a place and a number on -/
def frs (ep : Int) : Int → Int → List (List UInt8) → List Fr
  | _, _, [] => []
  | pl, g, d :: l => ⟨ep, pl, g, d⟩ :: frs ep (pl + (d.length : Int) + 25) (g + 3) l
theorem frs_len (ep : Int) : ∀ (l : List (List UInt8)) (pl g : Int), (frs ep pl g l).length = l.length
  | [], _, _ => rfl
  | d :: l, pl, g => by rw [frs, List.length_cons, frs_len ep l, List.length_cons]
theorem frs_get (ep : Int) : ∀ (l : List (List UInt8)) (pl g : Int) (i : Nat) (f : Fr), (frs ep pl g l)[i]? = some f → f.gsn = g + 3 * (i : Int) ∧ l[i]? = some f.data
  | [], _, _, i, f, h => by simp [frs] at h
  | d :: l, pl, g, 0, f, h => by
    have e : (⟨ep, pl, g, d⟩ : Fr) = f := by simpa [frs] using h
    subst e; simp
  | d :: l, pl, g, i + 1, f, h => by
    have := frs_get ep l (pl + (d.length : Int) + 25) (g + 3) i f (by simpa [frs] using h)
    refine ⟨by rw [this.1]; omega, by simpa using this.2⟩
theorem frs_snoc (ep : Int) : ∀ (l : List (List UInt8)) (d : List UInt8) (pl g : Int), (∀ x ∈ l, x.length ≤ 200) → (∀ x ∈ l, x.length ≤ 200) →
    frs ep pl g (l ++ [d]) = frs ep pl g l ++ [⟨ep, pl + (l.flatten.length : Int) + 25 * (l.length : Int), g + 3 * (l.length : Int), d⟩]
  | [], d, pl, g, _, _ => by simp [frs]
  | x :: l, d, pl, g, h, _ => by
    have hl : ∀ y ∈ l, y.length ≤ 200 := fun y hy => h y (List.mem_cons_of_mem _ hy)
    rw [List.cons_append, frs, frs_snoc ep l d _ _ hl hl, frs, List.cons_append]
    simp only [List.cons.injEq, true_and, List.append_cancel_left_eq, List.flatten_cons, List.length_append, List.length_cons, Fr.mk.injEq, and_true]
    omega
theorem frs_laid (ep cut : Int) (he : 0 ≤ ep ∧ ep ≤ 1073741824) : ∀ (l : List (List UInt8)) (pl g ab : Int), (∀ x ∈ l, x.length ≤ 200) → 0 ≤ pl → pl + 225 * (l.length : Int) ≤ 4611686018427387903 → 0 ≤ g → g + 3 * (l.length : Int) ≤ 4611686018427387903 → ab < g →
    Laid ep cut pl ab (frs ep pl g l) ∧ (catS (frs ep pl g l)).length = l.flatten.length + 25 * l.length
  | [], pl, g, ab, _, _, _, _, _, _ => ⟨trivial, rfl⟩
  | d :: l, pl, g, ab, h, hp, hp2, hg, hg2, hab => by
    have hd : d.length ≤ 200 := h d (List.mem_cons_self ..)
    simp only [List.length_cons] at hp2 hg2
    have hr : rightS ⟨ep, pl, g, d⟩ = true := decide_eq_true (by dsimp only; omega)
    have hm := makeS_len hr
    simp only at hm
    obtain ⟨i1, i2⟩ := frs_laid ep cut he l (pl + (d.length : Int) + 25) (g + 3) g (fun x hx => h x (List.mem_cons_of_mem _ hx)) (by omega) (by omega) (by omega) (by omega) (by omega)
    refine ⟨⟨hr, ?_, ?_⟩, ?_⟩
    · unfold fitsF; rw [hr, Bool.true_and]; exact decide_eq_true ⟨rfl, hab, Int.le_refl _, .inr rfl⟩
    · rw [hm, show pl + ((d.length + 25 : Nat) : Int) = pl + (d.length : Int) + 25 by omega]; exact i1
    · rw [frs, catS, List.flatMap_cons, List.length_append, hm]
      have : (List.flatMap makeS (frs ep (pl + (d.length : Int) + 25) (g + 3) l)).length = l.flatten.length + 25 * l.length := i2
      rw [this, List.flatten_cons, List.length_append, List.length_cons]; omega
theorem catS_snoc (l : List Fr) (f : Fr) : catS (l ++ [f]) = catS l ++ makeS f := by simp [catS]
end Go.Q
