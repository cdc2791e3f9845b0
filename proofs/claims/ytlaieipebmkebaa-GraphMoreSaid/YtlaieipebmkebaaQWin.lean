/-
  A row of one's own that is looked at from some place on: cut from the left, appended to.
-/
import Derived.Test.YtlaieipebmkebaaQH
import Derived.ArgAppend
set_option linter.unusedVariables false
set_option linter.unusedSimpArgs false
namespace Go.Q
/-- a window into a block of one's own, up to the block's end (elements of one cell) -/
def OwnW (e : TypeId) (v : Value) (n : Nat) (cs : List Value) (hs : List Hp) : Prop :=
  cs.length = n ∧ ((v = .slice none 0 0 ∧ n = 0 ∧ hs = []) ∨
    ∃ b o cap cur, v = .slice (some ⟨b, o, none⟩) n cap ∧ hs = [Hp.one b (.cells cur e (0, 0))] ∧ n ≤ cap ∧ cap ≤ maxLen ∧ o + cap ≤ cur.size ∧ (cur.toList.drop o).take n = cs)
theorem OwnW.of {e : TypeId} {v : Value} {n : Nat} {cs : List Value} {hs : List Hp} (h : Own e 1 v n cs hs) : OwnW e v n cs hs := by
  obtain ⟨hl, h | ⟨b, cap, cur, h1, h2, h3, h4, h5, h6⟩⟩ := h
  · exact ⟨by omega, .inl h⟩
  · exact ⟨by omega, .inr ⟨b, 0, cap, cur, h1, h2, h3, h4, by omega, by simpa using h6⟩⟩
theorem OwnW.nil (e : TypeId) : OwnW e (.slice none 0 0) 0 [] [] := ⟨rfl, .inl ⟨rfl, rfl, rfl⟩⟩
theorem OwnW.sl {e : TypeId} {v : Value} {n : Nat} {cs : List Value} {hs : List Hp} (h : OwnW e v n cs hs) : Sl hs 1 v n cs := by
  obtain ⟨hl, ⟨rfl, rfl, rfl⟩ | ⟨b, o, cap, cur, rfl, rfl, h3, h4, h5, h6⟩⟩ := h
  · exact ⟨none, 0, rfl, Nat.le_refl _, by omega, by omega, fun h => by omega⟩
  · exact ⟨_, cap, rfl, h3, by simpa [maxLen] using h4, by omega, fun _ => ⟨b, o, rfl, CellsAt.one (by rw [hl]; exact h6)⟩⟩
section ops
variable {P : Program} {ρ : Operand → Value} {E w : World} {ss : List (List Hp)} {K : Value → World → Prop} {dst : Option Tmp} {T : TypeId} {pos : String} {after : Array Edge} {g : Option (Nat × Bool)}
/-- s[i:] -/
theorem o_wdrop {x y : Operand} {t e : TypeId} {z v : Value} {n by_ : Nat} {cs : List Value} {hs : List Hp} {k : IntKind} {i : Int} (ht : P.underlying t = some (.slice e)) (hi : TI P e z 1 by_)
    (hx : ρ x = v) (ho : OwnW e v n cs hs) (hy : ρ y = .int k i) (h0 : 0 ≤ i) (h1 : i ≤ n)
    (hK : ∀ v', OwnW e v' (n - i.toNat) (cs.drop i.toNat) hs → K v' w) : OK P ⟨dst, .slice t x (some y) none none, T, pos, after, g⟩ ρ w K := by
  have e1 : P.elem t = e := by simp [Program.elem, ht]
  obtain ⟨hl, ⟨rfl, rfl, rfl⟩ | ⟨b, o, cap, cur, rfl, rfl, h3, h4, h5, h6⟩⟩ := ho
  · obtain rfl : i = 0 := by omega
    have hrun : (Instr.sliceAt t (ρ x) ((some y).map ρ) ((none : Option Operand).map ρ) ((none : Option Operand).map ρ)).run P w = .ok (sliced none 0 0 0 1) w := by
      simp only [hx, hy, Option.map_some, Option.map_none]
      rw [run_sliceAt_slice _ _ _ _ _ _ (by rw [e1]; exact ht), run_slice_any _ _ _ _ _ (by rw [e1]; exact ht), bounds_l h0 h1, e1]
      simp only [Result.andThen_ok, hi.size]; rfl
    refine OK.val (run_v hrun) (hK _ ?_)
    exact ⟨by simpa using hl, .inl ⟨rfl, by simp, rfl⟩⟩
  · have hrun : (Instr.sliceAt t (ρ x) ((some y).map ρ) ((none : Option Operand).map ρ) ((none : Option Operand).map ρ)).run P w = .ok (sliced (some ⟨b, o, none⟩) i.toNat n cap 1) w := by
      simp only [hx, hy, Option.map_some, Option.map_none]
      rw [run_sliceAt_slice _ _ _ _ _ _ (by rw [e1]; exact ht), run_slice_any _ _ _ _ _ (by rw [e1]; exact ht), bounds_l h0 h1, e1]
      simp only [Result.andThen_ok, hi.size, Int.toNat_natCast]
    refine OK.val (run_v hrun) (hK _ ?_)
    refine ⟨by rw [List.length_drop]; omega, .inr ?_⟩
    unfold sliced
    by_cases hc : cap = i.toNat
    · refine ⟨b, o, cap - i.toNat, cur, by rw [if_pos hc], rfl, by omega, by omega, by omega, ?_⟩
      rw [show n - i.toNat = 0 by omega, List.take_zero, List.drop_of_length_le (by omega)]
    · refine ⟨b, o + i.toNat, cap - i.toNat, cur, by rw [if_neg hc]; simp [add_lit], rfl, by omega, by omega, by omega, ?_⟩
      rw [← h6, ← List.drop_drop, List.drop_take]
/-- append(s, t...) -/
theorem o_wappend {x y : Operand} {t e : TypeId} {z v u : Value} {by_ n m : Nat} {cs ds : List Value} {hs L : List Hp} (ht : P.underlying t = some (.slice e)) (hi : TI P e z 1 by_)
    (hz : z.cells.size = 1) (hx : ρ x = v) (ho : OwnW e v n cs hs) (hy : ρ y = u) (hu : Sl L 1 u m ds) (H : Has E w (hs :: ss)) (hL : L ⊆ ss.flatten)
    (h1 : ∀ u ∈ ds, u.oneCell' = true) (hb : (n + m) * by_ ≤ 140737488355328) (h63 : n + m ≤ 9223372036854775807)
    (hK : ∀ v' hs' w', OwnW e v' (n + m) (cs ++ ds) hs' → Has E w' (hs' :: ss) → K v' w') :
    OK P ⟨dst, .call ⟨.builtin .append, #[x, y], #[t, t]⟩, T, pos, after, g⟩ ρ w K := by
  obtain ⟨hlc, ⟨rfl, rfl, rfl⟩ | ⟨b, o, cap, cur, rfl, rfl, h3, h4, h5, h6⟩⟩ := ho
  · obtain rfl : cs = [] := List.eq_nil_of_length_eq_zero hlc
    exact o_append ht hi hz (by decide) hx (Own.nil e 1) hy hu H hL h1 hb h63 fun v' hs' w' ho hH => hK v' hs' w' (OwnW.of ho) hH
  · have hld : ds.length = m := by obtain ⟨_, _, _, _, _, hl, _⟩ := hu; omega
    rcases Nat.lt_or_ge cap (n + m) with hg | hroom
    · obtain ⟨i, hi, hiz, hisz, hiby⟩ := hi
      obtain ⟨q, capq, rfl, hnc, hcm, hl, hq⟩ := hu
      have hm : 0 < m := by omega
      obtain ⟨b2, off2, rfl, hc2⟩ := hq hm
      have hcell : CellsAt [Hp.one b (.cells cur e (0, 0))] b o cs := CellsAt.one (by rw [hlc]; exact h6)
      obtain ⟨v', w', hr, hO, hgr⟩ := run_append_arg_grows (P := P) w t T e i z 1 by_ ht hi hiz hisz hiby hz (by decide) ⟨b, o, none⟩ n cap cs (by omega) (fun j u hj => by rw [add_lit]; exact H.cell (by simp) hcell hj)
        ⟨b2, off2, none⟩ m capq ds hl (fun j u hj => by rw [add_lit]; exact H.cell (fun _ hx => List.mem_append_right _ (hL hx)) hc2 hj) hg (by simpa [maxLen] using h63) hb
      obtain ⟨hl', ⟨_, h0⟩ | ⟨k, cap'', cu2, rfl, hk, hbk, g1, g2, g3, g4⟩⟩ := hO
      · omega
      · have hH : Has E w' ([Hp.one k (.cells cu2 e (0, 0))] :: ss) := by
          have H2 : Has E w ss := H.drop
          refine Has0.write (as := []) (as' := [Hp.one k (.cells cu2 e (0, 0))]) (hs := ss.flatten) H2 hgr.os hgr.tape hgr.output (by simp) (fun j _ => ?_) ?_ (fun j hj _ => hgr.block j hj (fun e => by cases e))
          · by_cases hjk : j = k
            · subst hjk; exact .inr hk
            · refine .inl fun h hh => ?_
              rw [List.mem_singleton.1 hh]; unfold Hp.one; rw [if_neg hjk]
          · intro h hh j o hj
            rw [List.mem_singleton.1 hh] at hj
            obtain ⟨rfl, rfl⟩ := Hp.one_some hj
            exact hbk
        refine o_call_builtin (v := .slice (some ⟨k, 0, none⟩) (n + m) cap'') (w' := w') ?_ (hK _ [Hp.one k (.cells cu2 e (0, 0))] w' ?_ hH)
        · simp only [hx, hy, builtin, List.map_toArray, List.map_cons, List.map_nil, Sem.run_bind, hr, Result.andThen_ok, Sem.run_pure]
        · exact ⟨by simpa using hl', .inr ⟨k, 0, cap'', cu2, rfl, rfl, g1, g2, by omega, by simpa using g4⟩⟩
    · refine o_approom ht hi hx hy hu H (fun _ hx => List.mem_append_right _ (hL hx)) hroom (fun _ => by omega) h1 fun c' w' hs' hc' H' => hK _ _ _ ?_ H'
      have hs2 : c'.size = cur.size := hs'
      refine ⟨by rw [List.length_append]; omega, .inr ⟨b, o, cap, c', rfl, rfl, hroom, h4, by omega, ?_⟩⟩
      rw [hc']
      by_cases hm : 0 < m
      · rw [if_pos hm, Nat.mul_one, Nat.mul_one]
        have l1 : (cur.toList.take (o + n)).length = o + n := by rw [List.length_take, Array.length_toList]; omega
        rw [List.append_assoc, List.drop_append, List.drop_take, show o + n - o = n by omega, h6, l1, show o - (o + n) = 0 by omega, List.drop_zero, ← List.append_assoc, List.take_left' (by rw [List.length_append]; omega)]
      · obtain rfl : m = 0 := by omega
        obtain rfl : ds = [] := List.eq_nil_of_length_eq_zero hld
        rw [if_neg hm, Nat.add_zero, h6, List.append_nil]
end ops
end Go.Q
