/-
  append to a row without room.
-/
import Derived.Test.YtcffibbdbalmjaaQX
import Derived.ArgAppend
set_option linter.unusedVariables false
set_option linter.unusedSimpArgs false
namespace Go.Q
/-- a row of one's own, or one without room that lies elsewhere -/
def OwnP (e : TypeId) (sz : Nat) (v : Value) (n : Nat) (cs : List Value) (hs : List Hp) : Prop := Own e sz v n cs hs ∨ (n = 0 ∧ cs = [] ∧ hs = [] ∧ ∃ b o, v = .slice (some ⟨b, o, none⟩) 0 0)
theorem OwnP.own {e : TypeId} {sz n : Nat} {v : Value} {cs : List Value} {hs : List Hp} (h : OwnP e sz v n cs hs) (hn : 0 < n) : Own e sz v n cs hs := by
  rcases h with h | ⟨h, _⟩
  · exact h
  · omega
section ops
variable {P : Program} {ρ : Operand → Value} {E w : World} {ss : List (List Hp)} {K : Value → World → Prop} {dst : Option Tmp} {T : TypeId} {pos : String} {after : Array Edge} {g : Option (Nat × Bool)}
theorem o_append_z {x y : Operand} {t e : TypeId} {z u : Value} {b off sz by_ m : Nat} {ds : List Value} {L2 : List Hp} (ht : P.underlying t = some (.slice e)) (hi : TI P e z sz by_)
    (hz : z.cells.size = sz) (hsz : 0 < sz) (hx : ρ x = .slice (some ⟨b, off, none⟩) 0 0) (hy : ρ y = u) (hu : Sl L2 sz u m ds) (H : Has E w ss) (hL2 : L2 ⊆ ss.flatten)
    (hb : m * by_ ≤ 140737488355328) (h63 : m ≤ 9223372036854775807)
    (hK : ∀ v' hs' w', OwnP e sz v' m ds hs' → Has E w' (hs' :: ss) → K v' w') :
    OK P ⟨dst, .call ⟨.builtin .append, #[x, y], #[t, t]⟩, T, pos, after, g⟩ ρ w K := by
  obtain ⟨i, hi, hiz, hisz, hiby⟩ := hi
  obtain ⟨q, cap, rfl, hnc, hcm, hl, hq⟩ := hu
  by_cases hm : m = 0
  · subst hm
    have hds : ds = [] := by simpa using hl
    subst hds
    refine o_call_builtin (v := .slice (some ⟨b, off, none⟩) 0 0) (w' := w) ?_ (hK _ [] w (.inr ⟨rfl, rfl, rfl, _, _, rfl⟩) (Has.nil H))
    cases q <;> simp [hx, hy, builtin, Builtin.append_, run_underlying ht, sizeOf, typeInfo, hi, Builtin.lenOf, Builtin.firstCells, loadCells, loadCellsFrom, storeCells]
  · obtain ⟨b2, off2, rfl, hc2⟩ := hq (by omega)
    obtain ⟨v', w', hr, ho, hg⟩ := run_append_arg_grows (P := P) w t T e i z sz by_ ht hi hiz hisz hiby hz hsz ⟨b, off, none⟩ 0 0 [] (by simp) (fun j u hj => by simp at hj)
      ⟨b2, off2, none⟩ m cap ds hl (fun j u hj => by rw [add_lit]; exact H.cell hL2 hc2 hj) (by omega) (by simpa [maxLen] using h63) (by simpa using hb)
    obtain ⟨hl', ⟨_, h0⟩ | ⟨k, cap'', cur, rfl, hk, hbk, h1, h2, h3, h4⟩⟩ := ho
    · omega
    · have hH : Has E w' ([Hp.one k (.cells cur e (0, 0))] :: ss) := by
        refine Has0.write (as := []) (as' := [Hp.one k (.cells cur e (0, 0))]) (hs := ss.flatten) H hg.os hg.tape hg.output (by simp) (fun j _ => ?_) ?_ (fun j hj _ => hg.block j hj (fun e => by cases e))
        · by_cases hjk : j = k
          · subst hjk; exact .inr hk
          · refine .inl fun h hh => ?_
            rw [List.mem_singleton.1 hh]; unfold Hp.one; rw [if_neg hjk]
        · intro h hh j o hj
          rw [List.mem_singleton.1 hh] at hj
          obtain ⟨rfl, rfl⟩ := Hp.one_some hj
          exact hbk
      refine o_call_builtin (v := .slice (some ⟨k, 0, none⟩) (0 + m) cap'') (w' := w') ?_ (hK _ [Hp.one k (.cells cur e (0, 0))] w' ?_ hH)
      · simp only [hx, hy, builtin, List.map_toArray, List.map_cons, List.map_nil, Sem.run_bind, hr, Result.andThen_ok, Sem.run_pure]
      · simp only [Nat.zero_add, List.nil_append] at *
        exact .inl ⟨hl', .inr ⟨k, cap'', cur, rfl, rfl, h1, h2, h3, h4⟩⟩
theorem o_appendP {x y : Operand} {t e : TypeId} {z v u : Value} {sz by_ n m : Nat} {cs ds : List Value} {hs L : List Hp} (ht : P.underlying t = some (.slice e)) (hi : TI P e z sz by_)
    (hz : z.cells.size = sz) (hsz : 0 < sz) (hx : ρ x = v) (ho : OwnP e sz v n cs hs) (hy : ρ y = u) (hu : Sl L sz u m ds) (H : Has E w (hs :: ss)) (hL : L ⊆ ss.flatten)
    (h1 : ∀ u ∈ ds, u.oneCell' = true) (hb : (n + m) * by_ ≤ 140737488355328) (h63 : n + m ≤ 9223372036854775807) (hm : 0 < m)
    (hK : ∀ v' hs' w', Own e sz v' (n + m) (cs ++ ds) hs' → Has E w' (hs' :: ss) → K v' w') :
    OK P ⟨dst, .call ⟨.builtin .append, #[x, y], #[t, t]⟩, T, pos, after, g⟩ ρ w K := by
  rcases ho with ho | ⟨rfl, rfl, rfl, b, o, rfl⟩
  · exact o_append ht hi hz hsz hx ho hy hu H hL h1 hb h63 hK
  · refine o_append_z ht hi hz hsz hx hy hu H.drop hL (by simpa using hb) (by omega) fun v' hs' w' ho' H' => hK v' hs' w' ?_ H'
    simpa using ho'.own hm
end ops
end Go.Q
