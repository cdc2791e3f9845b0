/-
  Plain laws of rows that are spliced.
-/
import Derived.Test.YtcffibbdbalmjaaQG
set_option linter.unusedVariables false
set_option linter.unusedSimpArgs false
namespace Go.Q
theorem insA {α : Type} {c c0 c1 c2 u : List α} {I N D j0 o0 o1 m1 k1 r1 o2 s2 m2 k2 r2 : Nat} (h0 : c0.take j0 = (c.drop o0).take j0) (h1 : c1 = c0.take o1 ++ ((u.drop 0).take m1).take k1 ++ c0.drop r1)
    (h2 : c2 = c1.take o2 ++ ((c.drop s2).take m2).take k2 ++ c1.drop r2) (hj : j0 = I) (ho0 : o0 = 0) (ho1 : o1 = I) (hm1 : m1 = D) (hk1 : k1 = D) (hr1 : r1 = I + D) (ho2 : o2 = I + D) (hs2 : s2 = I) (hm2 : m2 = N - I) (hk2 : k2 = N - I) (hr2 : r2 = N + D)
    (hu : u.length = D) (hIN : I ≤ N) (hNc : N ≤ c.length) (hl : N + D ≤ c0.length) : c2.take (N + D) = c.take I ++ u ++ (c.take N).drop I := by
  rw [hj, ho0] at h0; rw [ho1, hm1, hk1, hr1] at h1; rw [ho2, hs2, hm2, hk2, hr2] at h2
  have e1 : u.take D = u := List.take_of_length_le (by omega)
  have l1 : (c.take I ++ u).length = I + D := by simp only [List.length_append, List.length_take]; omega
  have t1 : c1.take (I + D) = c.take I ++ u := by
    rw [h1, h0, List.drop_zero, List.drop_zero, List.take_take, Nat.min_self, e1, List.take_left' l1]
  have l2 : (c.take I ++ u ++ (c.take N).drop I).length = N + D := by simp only [List.length_append, List.length_drop, List.length_take] at l1 ⊢; omega
  rw [h2, t1, List.take_take, Nat.min_self, ← List.drop_take, List.take_left' l2]
theorem insB {α : Type} {c c1 c2 u : List α} {I N D o1 s1 m1 k1 r1 o2 m2 k2 r2 : Nat} (h1 : c1 = c.take o1 ++ ((c.drop s1).take m1).take k1 ++ c.drop r1)
    (h2 : c2 = c1.take o2 ++ ((u.drop 0).take m2).take k2 ++ c1.drop r2) (ho1 : o1 = I + D) (hs1 : s1 = I) (hm1 : m1 = N + D - I) (hk1 : k1 = N - I) (hr1 : r1 = N + D) (ho2 : o2 = I) (hm2 : m2 = D) (hk2 : k2 = D) (hr2 : r2 = I + D)
    (hu : u.length = D) (hIN : I ≤ N) (hl : N + D ≤ c.length) : c2.take (N + D) = c.take I ++ u ++ (c.take N).drop I := by
  rw [ho1, hs1, hm1, hk1, hr1] at h1; rw [ho2, hm2, hk2, hr2] at h2
  have e1 : u.take D = u := List.take_of_length_le (by omega)
  have e2 : ((c.drop I).take (N + D - I)).take (N - I) = (c.take N).drop I := by rw [List.take_take, Nat.min_eq_left (by omega), ← List.drop_take]
  have l0 : (c.take (I + D)).length = I + D := by rw [List.length_take]; omega
  have t1 : c1.take I = c.take I := by rw [h1, e2, List.append_assoc, List.take_append_of_le_length (by omega), List.take_take, Nat.min_eq_left (by omega)]
  have t2 : c1.drop (I + D) = (c.take N).drop I ++ c.drop (N + D) := by rw [h1, e2, List.append_assoc, List.drop_left' l0]
  have l2 : (c.take I ++ u ++ (c.take N).drop I).length = N + D := by simp only [List.length_append, List.length_drop, List.length_take]; omega
  rw [h2, t1, t2, List.drop_zero, List.take_take, Nat.min_self, e1, ← List.append_assoc, List.take_left' l2]
theorem ins_len {α : Type} {c u : List α} {I N D : Nat} (hu : u.length = D) (hIN : I ≤ N) (hN : N ≤ c.length) : (c.take I ++ u ++ (c.take N).drop I).length = N + D := by
  simp only [List.length_append, List.length_drop, List.length_take]; omega
theorem mem_part {α : Type} {c : List α} {u : α} {o a b N : Nat} (h : u ∈ ((c.drop o).take a).take b) (hb : o + b ≤ N) : u ∈ c.take N := by
  have h := List.mem_of_mem_take (l := (c.drop o).take b) (i := a) (by rw [List.take_take] at h ⊢; rwa [Nat.min_comm])
  rw [List.take_drop] at h
  have h := List.mem_of_mem_drop h
  exact (List.take_sublist_take_left hb).subset h
theorem lo_step {l : List Int} {k : Nat} {e x : Int} (hs : l.Pairwise (· < ·)) (h : l[k]? = some e) (he : e < x) : ∀ a ∈ l.take (k + 1), a < x := by
  intro a ha
  obtain ⟨j, hj⟩ := List.mem_iff_getElem?.1 ha
  rw [List.getElem?_take] at hj
  split at hj
  · obtain ⟨h1, h2⟩ := List.getElem?_eq_some_iff.1 hj
    obtain ⟨h3, h4⟩ := List.getElem?_eq_some_iff.1 h
    rcases Nat.lt_or_ge j k with g | g
    · have := List.pairwise_iff_getElem.1 hs j k h1 h3 g; omega
    · have : j = k := by omega
      subst this; omega
  · cases hj
theorem hi_step {l : List Int} {k : Nat} {e x : Int} (hs : l.Pairwise (· < ·)) (h : l[k]? = some e) (he : ¬ e < x) : ∀ a ∈ l.drop k, x ≤ a := by
  intro a ha
  obtain ⟨j, hj⟩ := List.mem_iff_getElem?.1 ha
  rw [List.getElem?_drop] at hj
  obtain ⟨h1, h2⟩ := List.getElem?_eq_some_iff.1 hj
  obtain ⟨h3, h4⟩ := List.getElem?_eq_some_iff.1 h
  rcases Nat.eq_zero_or_pos j with g | g
  · subst g; simp only [Nat.add_zero] at h2; omega
  · have := List.pairwise_iff_getElem.1 hs k (k + j) h3 h1 (by omega); omega
theorem bs_no {l : List Int} {i : Nat} {x : Int} (hs : l.Pairwise (· < ·)) (hlo : ∀ a ∈ l.take i, a < x) (hhi : ∀ a ∈ l.drop i, x ≤ a) (h : ∀ e, l[i]? = some e → e ≠ x) : x ∉ l := by
  intro hx
  rw [← List.take_append_drop i l, List.mem_append] at hx
  rcases hx with hx | hx
  · have := hlo x hx; omega
  · obtain ⟨j, hj⟩ := List.mem_iff_getElem?.1 hx
    rw [List.getElem?_drop] at hj
    obtain ⟨h1, h2⟩ := List.getElem?_eq_some_iff.1 hj
    have h3 : i < l.length := by omega
    have h4 := h _ (List.getElem?_eq_getElem h3)
    have h5 : l[i] ∈ l.drop i := List.mem_iff_getElem?.2 ⟨0, by rw [List.getElem?_drop]; simp [h3]⟩
    have h6 := hhi _ h5
    rcases Nat.eq_zero_or_pos j with g | g
    · subst g; exact h4 (by simpa using h2)
    · have := List.pairwise_iff_getElem.1 hs i (i + j) h3 h1 (by omega); omega
theorem wu64 {x : Int} (h0 : 0 ≤ x) (h1 : x ≤ 18446744073709551615) : IntKind.wrap .u64 x = x := by
  simp only [IntKind.wrap, IntKind.bits, IntKind.signed]
  simp only [show (2:Int)^64 = 18446744073709551616 from rfl]
  simp
  omega
section ops
variable {P : Program} {ρ : Operand → Value} {E w : World} {ss : List (List Hp)} {K : Value → World → Prop} {dst : Option Tmp} {T : TypeId} {pos : String} {after : Array Edge} {g : Option (Nat × Bool)}
/-- s[i:] of a row that is read -/
theorem o_sl_l {x y : Operand} {t e : TypeId} {zz : Value} {v : Value} {sz by_ n : Nat} {cs : List Value} {L : List Hp} {k : IntKind} {i : Int} (ht : P.underlying t = some (.slice e)) (hi : TI P e zz sz by_)
    (hx : ρ x = v) (hs : Sl L sz v n cs) (hy : ρ y = .int k i) (h0 : 0 ≤ i) (h1 : i ≤ n)
    (hK : ∀ v', Sl L sz v' (n - i.toNat) (cs.drop (i.toNat * sz)) → K v' w) : OK P ⟨dst, .slice t x (some y) none none, T, pos, after, g⟩ ρ w K := by
  have e1 : P.elem t = e := by simp [Program.elem, ht]
  obtain ⟨p, cap, rfl⟩ := hs.form
  have hs' := hs
  obtain ⟨p', cap', e2, hnc, hcm, hl, hp⟩ := hs
  cases e2
  have hrun : (Instr.sliceAt t (ρ x) ((some y).map ρ) ((none : Option Operand).map ρ) ((none : Option Operand).map ρ)).run P w = .ok (sliced p i.toNat n cap sz) w := by
    simp only [hx, hy, Option.map_some, Option.map_none]
    rw [run_sliceAt_slice _ _ _ _ _ _ (by rw [e1]; exact ht), run_slice_any _ _ _ _ _ (by rw [e1]; exact ht), bounds_l h0 h1, e1]
    simp only [Result.andThen_ok, hi.size, Int.toNat_natCast]
  refine OK.val (run_v hrun) (hK _ ?_)
  unfold sliced
  refine ⟨_, _, rfl, by omega, by omega, ?_, fun h => ?_⟩
  · rw [List.length_drop, hl, Nat.sub_mul]
  · obtain ⟨b, off, rfl, hc⟩ := hp (by omega)
    rw [if_neg (by omega)]
    refine ⟨b, off + i.toNat * sz, ?_, hc.drop⟩
    simp [add_lit]
end ops
theorem sl_dropm {α : Type} {f : α → Value} {l : List α} {L : List Hp} {v : Value} {k : Nat} (h : Sl L 1 v (l.length - k) ((l.map f).drop (k * 1))) : Sl L 1 v (l.drop k).length ((l.drop k).map f) := by
  rw [List.length_drop, List.map_drop]; simpa using h
theorem sl_partm {α : Type} {f : α → Value} {l : List α} {L : List Hp} {v : Value} {i j : Nat} (h : Sl L 1 v (j - i) (((l.map f).take (j * 1)).drop (i * 1))) (_hi : i ≤ j) (hj : j ≤ l.length) : Sl L 1 v ((l.take j).drop i).length (((l.take j).drop i).map f) := by
  rw [List.length_drop, List.length_take, Nat.min_eq_left hj, List.map_drop, List.map_take]; simpa using h
end Go.Q
