/-
  Appending to a full row that is only read: a new row, the old one stays.
-/
import Derived.Test.YtagicdbeacmffaaDoorQX
import Derived.ArgAppend
set_option linter.unusedVariables false
set_option linter.unusedSimpArgs false
namespace Go.Q
section ops
variable {P : Program} {ρ : Operand → Value} {E w : World} {ss : List (List Hp)} {K : Value → World → Prop} {dst : Option Tmp} {T : TypeId} {pos : String} {after : Array Edge} {g : Option (Nat × Bool)}
theorem app_sub {A B C : List Hp} (h : A ⊆ C) (k : B ⊆ C) : A ++ B ⊆ C := fun _ hx => (List.mem_append.1 hx).elim (fun a => h a) (fun a => k a)
theorem o_append_full {x y : Operand} {t e : TypeId} {z u : Value} {p : Option Addr} {sz by_ n m : Nat} {cs ds : List Value} {L L2 : List Hp} (ht : P.underlying t = some (.slice e)) (hi : TI P e z sz by_)
    (hz : z.cells.size = sz) (hsz : 0 < sz) (hx : ρ x = .slice p n n) (hn : 0 < n) (hs : Sl L sz (.slice p n n) n cs) (hy : ρ y = u) (hu : Sl L2 sz u m ds) (H : Has E w ss) (hL : L ⊆ ss.flatten) (hL2 : L2 ⊆ ss.flatten)
    (hb : (n + m) * by_ ≤ 140737488355328) (h63 : n + m ≤ 9223372036854775807)
    (hK : ∀ v' hs' w', Sl (L ++ hs') sz v' (n + m) (cs ++ ds) → Has E w' (hs' :: ss) → K v' w') :
    OK P ⟨dst, .call ⟨.builtin .append, #[x, y], #[t, t]⟩, T, pos, after, g⟩ ρ w K := by
  obtain ⟨i, hi, hiz, hisz, hiby⟩ := hi
  have hs0 := hs
  obtain ⟨p', cap', he, _, _, hlc, hp'⟩ := hs
  obtain ⟨rfl, rfl⟩ : p = p' ∧ n = cap' := by cases he; exact ⟨rfl, rfl⟩
  obtain ⟨q, cap, rfl, hnc, hcm, hl, hq⟩ := hu
  obtain ⟨b, off, rfl, hc⟩ := hp' hn
  by_cases hm : m = 0
  · subst hm
    have hds : ds = [] := by simpa using hl
    subst hds
    refine o_call_builtin (v := .slice (some ⟨b, off, none⟩) n n) (w' := w) ?_ (hK _ [] w (by simpa using hs0) (Has.nil H))
    cases q <;> simp [hx, hy, builtin, Builtin.append_, run_underlying ht, sizeOf, typeInfo, hi, Builtin.lenOf, Builtin.firstCells, loadCells, loadCellsFrom, storeCells]
  · obtain ⟨b2, off2, rfl, hc2⟩ := hq (by omega)
    obtain ⟨v', w', hr, ho, hg⟩ := run_append_arg_grows (P := P) w t T e i z sz by_ ht hi hiz hisz hiby hz hsz ⟨b, off, none⟩ n n cs hlc (fun j u hj => by rw [add_lit]; exact H.cell hL hc hj)
      ⟨b2, off2, none⟩ m cap ds hl (fun j u hj => by rw [add_lit]; exact H.cell hL2 hc2 hj) (by omega) (by simpa [maxLen] using h63) hb
    obtain ⟨hl', ⟨_, h0⟩ | ⟨k, cap'', cur, rfl, hk, hbk, h1, h2, h3, h4⟩⟩ := ho
    · omega
    · have hH : Has E w' ([Hp.one k (.cells cur e (0, 0))] :: ss) := by
        refine Has0.write (as := []) (as' := [Hp.one k (.cells cur e (0, 0))]) (hs := ss.flatten) H hg.os hg.tape hg.output (by simp) (fun j _ => ?_) ?_ (fun j hj _ => hg.block j hj (fun e => by cases e))
        · by_cases hjk : j = k
          · subst hjk; exact .inr hk
          · refine .inl fun h hh => ?_
            rw [List.mem_singleton.1 hh]; unfold Hp.one; rw [if_neg hjk]
        · intro h hh j o hj
          rw [List.mem_singleton.1 hh] at hj
          obtain ⟨rfl, rfl⟩ := Hp.one_some hj
          exact hbk
      refine o_call_builtin (v := .slice (some ⟨k, 0, none⟩) (n + m) cap'') (w' := w') ?_ (hK _ [Hp.one k (.cells cur e (0, 0))] w' ?_ hH)
      · simp only [hx, hy, builtin, List.map_toArray, List.map_cons, List.map_nil, Sem.run_bind, hr, Result.andThen_ok, Sem.run_pure]
      · refine ⟨_, cap'', rfl, h1, by simpa [maxLen] using h2, hl', fun _ => ⟨k, 0, rfl, ?_⟩⟩
        refine CellsAt.mono (CellsAt.one ?_) (fun a ha => List.mem_append_right _ ha)
        rw [List.drop_zero, hl', h4]
end ops
end Go.Q
