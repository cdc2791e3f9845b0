/-
  Layer 3: s[:j] of a row that is read, told as one value; the string that FrameBack makes.
-/
import Derived.Test.YtagicdbeacmffaaDoorQFrame5
import Derived.Test.YtagicdbeacmffaaDoorQH
set_option linter.unusedVariables false
set_option linter.unusedSimpArgs false
namespace Go.Q
/-- the slice of the first j elements -/
def headV : Value → Nat → Nat → Value
  | .slice p _ c, j, sz => sliced p 0 j c sz
  | v, _, _ => v
theorem sl_head {L : List Hp} {sz n : Nat} {v : Value} {cs : List Value} (hs : Sl L sz v n cs) {j : Nat} (hj : j ≤ n) : Sl L sz (headV v j sz) j (cs.take (j * sz)) := by
  obtain ⟨p, cap, rfl⟩ := hs.form
  obtain ⟨p', cap', e2, hnc, hcm, hl, hp⟩ := hs
  cases e2
  have hle : j * sz ≤ n * sz := Nat.mul_le_mul_right _ hj
  unfold headV sliced
  refine ⟨_, _, rfl, by omega, by omega, ?_, fun h => ?_⟩
  · rw [List.length_take, hl]; omega
  · obtain ⟨b, off, rfl, hc⟩ := hp (by omega)
    refine ⟨b, off, ?_, hc.take⟩
    split <;> simp [add_lit]
theorem flatMap_take {α β : Type} (f : α → List β) (n : Nat) (hf : ∀ x, (f x).length = n) : ∀ (l : List α) (j : Nat), (l.flatMap f).take (j * n) = (l.take j).flatMap f
  | [], j => by simp
  | x :: l, 0 => by simp
  | x :: l, j + 1 => by
    rw [List.flatMap_cons, List.take_succ_cons, List.flatMap_cons, ← flatMap_take f n hf l j, List.take_append, hf, List.take_of_length_le (by rw [hf, Nat.add_mul]; omega), show (j + 1) * n - n = j * n by rw [Nat.add_mul]; omega]
theorem sl_headf {α : Type} {f : α → List Value} {sz : Nat} (hf : ∀ x, (f x).length = sz) {L : List Hp} {v : Value} {l : List α} (hs : Sl L sz v l.length (l.flatMap f)) {j : Nat} (hj : j ≤ l.length) : Sl L sz (headV v j sz) (l.take j).length ((l.take j).flatMap f) := by
  have h := sl_head hs hj
  rw [flatMap_take f sz hf] at h
  rw [List.length_take, Nat.min_eq_left hj]; exact h
section ops
variable {P : Program} {ρ : Operand → Value} {E w : World} {ss : List (List Hp)} {K : Value → World → Prop} {dst : Option Tmp} {T : TypeId} {pos : String} {after : Array Edge} {g : Option (Nat × Bool)}
/-- s[:j] of a row that is read -/
theorem o_slh {x y : Operand} {t e : TypeId} {zz : Value} {v : Value} {sz by_ n : Nat} {cs : List Value} {L : List Hp} {k : IntKind} {j : Int} (ht : P.underlying t = some (.slice e)) (hi : TI P e zz sz by_)
    (hx : ρ x = v) (hs : Sl L sz v n cs) (hy : ρ y = .int k j) (h0 : 0 ≤ j) (h1 : j ≤ n)
    (hK : K (headV v j.toNat sz) w) : OK P ⟨dst, .slice t x none (some y) none, T, pos, after, g⟩ ρ w K := by
  have e1 : P.elem t = e := by simp [Program.elem, ht]
  obtain ⟨p, cap, rfl⟩ := hs.form
  obtain ⟨p', cap', e2, hnc, hcm, hl, hp⟩ := hs
  cases e2
  have hrun : (Instr.sliceAt t (ρ x) ((none : Option Operand).map ρ) ((some y).map ρ) ((none : Option Operand).map ρ)).run P w = .ok (sliced p 0 j.toNat cap sz) w := by
    simp only [hx, hy, Option.map_some, Option.map_none]
    rw [run_sliceAt_slice _ _ _ _ _ _ (by rw [e1]; exact ht), run_slice_any _ _ _ _ _ (by rw [e1]; exact ht), bounds_h h0 (by omega), e1]
    simp only [Result.andThen_ok, hi.size, Int.toNat_natCast]; rfl
  exact OK.val (run_v hrun) hK
end ops
theorem laid_len {ep cut : Int} : ∀ (l : List Fr) (pl ab : Int), Laid ep cut pl ab l → 25 * l.length ≤ (catS l).length
  | [], _, _, _ => Nat.zero_le _
  | f :: l, pl, ab, ⟨h1, _, h3⟩ => by
    have := laid_len l _ _ h3
    have e : catS (f :: l) = makeS f ++ catS l := by rw [catS, List.flatMap_cons]; rfl
    rw [e, List.length_append, makeS_len h1, List.length_cons]; omega
theorem back_step {ep pl : Int} {dl : List (List UInt8)} {k : Nat} {d cur : List UInt8} (he : 0 ≤ ep ∧ ep ≤ 1073741824) (hp : 0 ≤ pl ∧ pl ≤ 1099511627776) (hk : dl.length ≤ 30) (hd : dl[k]? = some d) (hl : d.length ≤ 200)
    (hsm : ∀ x ∈ dl.take k, x.length ≤ 200) (hcur : cur = catS (frs ep pl 0 (dl.take k))) (hcl : cur.length = (dl.take k).flatten.length + 25 * k) (hcb : cur.length ≤ 225 * k) :
    (∀ x ∈ dl.take (k + 1), x.length ≤ 200) ∧ cur ++ makeS ⟨ep, pl + ((cur.length : Nat) : Int), 3 * (k : Int), d⟩ = catS (frs ep pl 0 (dl.take (k + 1))) ∧ (cur ++ makeS ⟨ep, pl + ((cur.length : Nat) : Int), 3 * (k : Int), d⟩).length = (dl.take (k + 1)).flatten.length + 25 * (k + 1)
      ∧ (cur ++ makeS ⟨ep, pl + ((cur.length : Nat) : Int), 3 * (k : Int), d⟩).length ≤ 225 * (k + 1) := by
  have hkl : k < dl.length := (List.getElem?_eq_some_iff.1 hd).1
  have hm := makeS_len (f := ⟨ep, pl + ((cur.length : Nat) : Int), 3 * (k : Int), d⟩) (decide_eq_true (by dsimp only; omega))
  have ek : (dl.take k).length = k := by rw [List.length_take]; omega
  rw [take_succ_of hd]
  refine ⟨fun x hx => ?_, ?_, ?_, ?_⟩
  · rcases List.mem_append.1 hx with h | h
    · exact hsm x h
    · rw [List.mem_singleton.1 h]; exact hl
  · rw [frs_snoc ep _ d pl 0 hsm hsm, catS_snoc, ← hcur, ek]
    congr 2
    simp only [Fr.mk.injEq, true_and, and_true]
    omega
  · rw [List.length_append, hm, List.flatten_append, List.length_append]; simp only [List.flatten_cons, List.flatten_nil, List.append_nil]; omega
  · rw [List.length_append, hm]; dsimp only; omega
theorem chain_fuel {ep cut : Int} : ∀ (n m : Nat) (s : List UInt8) (pl ab : Int), s.length < n → s.length < m → chainS ep cut n s pl ab = chainS ep cut m s pl ab
  | 0, _, _, _, _, h, _ => absurd h (by omega)
  | _, 0, _, _, _, _, h => absurd h (by omega)
  | n + 1, m + 1, s, pl, ab, h1, h2 => by
    by_cases g : (opensB s && fitsF ep cut pl ab (oF s)) = true
    · have ho : opensB s = true := by rw [Bool.and_eq_true] at g; exact g.1
      have hle := oN_le ho
      rw [chainS, chainS, if_pos g, if_pos g, chain_fuel n m _ _ _ (by rw [List.length_drop]; omega) (by rw [List.length_drop]; omega)]
    · rw [chainS, chainS, if_neg g, if_neg g]
/-- the chain of a text, told shortly -/
def chN (ep rc : Int) (t : List UInt8) (pl ab : Int) : List Fr × Int := chainS ep rc (t.length + 1) t pl ab
/-- both chains of FrameBack -/
theorem back_chains {ep pl rc : Int} {dl : List (List UInt8)} {cur : List UInt8} (he : 0 ≤ ep ∧ ep ≤ 1073741824) (hp : 0 ≤ pl ∧ pl ≤ 1099511627776) (hk : dl.length ≤ 30)
    (hsm : ∀ x ∈ dl, x.length ≤ 200) (hcur : cur = catS (frs ep pl 0 dl)) :
    chN ep rc (cur ++ [0]) pl (-1) = (frs ep pl 0 dl, pl + (cur.length : Int)) ∧ ∀ c : Nat, c < cur.length → ∃ j, j < dl.length ∧ (chN ep rc (cur.take c) pl (-1)).1 = (frs ep pl 0 dl).take j ∧ (chN ep rc (cur.take c) pl (-1)).2 ≤ pl + (c : Int) := by
  have h := (frs_laid ep rc he dl pl 0 (-1) hsm (by omega) (by omega) (by omega) (by omega) (by omega)).1
  have hl := laid_len _ _ _ h
  have hn := frs_len ep dl pl 0
  rw [hn] at hl
  subst hcur
  refine ⟨chain_laid _ _ pl (-1) [0] h (by rw [hn, List.length_append]; omega) (by decide +kernel), fun c hc => ?_⟩
  have ht : ((catS (frs ep pl 0 dl)).take c).length = c := by rw [List.length_take]; omega
  obtain ⟨j, j1, j2, j3⟩ := chain_cut _ (c + 31) pl (-1) c h hc (by rw [hn]; omega)
  unfold chN
  rw [ht, chain_fuel (c + 1) (c + 31) _ _ _ (by omega) (by omega)]
  rw [hn] at j1
  exact ⟨j, j1, j2, j3⟩
end Go.Q
