/-
  Parts of a walk: what functions of the program compute, each told by a theorem.
-/
import Derived.Test.YtlaieipebmkebaaQP1a
import Derived.Test.YtlaieipebmkebaaQP1b
import Derived.Test.YtlaieipebmkebaaQP2
set_option linter.unusedVariables false
set_option linter.unusedSimpArgs false
namespace Go.Q
open Go.Proofs
set_option linter.unusedVariables false
set_option maxRecDepth 100000
attribute [local irreducible] wpList OK Code.wp
theorem ins_own {E w : World} {R hs : List Hp} {v : Value} {l : List Int} {x : Int} {bu : Nat} (i : Nat) (hH : Has E w [hs, [Hp.one bu (.cells #[(.int .i64 x)] 3 (0, 0))], R]) (ho : Own 3 1 v l.length (l.map iV) hs) (hi : i ≤ l.length) (hl : l.length ≤ 1000000) :
    Calls Try.prog 30 #[v, (.int .i64 (i : Int)), (.slice (some ⟨bu, 0, none⟩) 1 1)] w fun e w' => ∃ v' hs', e = .returned v' ∧ Own 3 1 v' (l.take i ++ [x] ++ l.drop i).length ((l.take i ++ [x] ++ l.drop i).map iV) hs' ∧ Has E w' [hs', R] := by
  rcases Nat.lt_or_ge i l.length with h | h
  · obtain ⟨e1, ⟨rfl, h0, rfl⟩ | ⟨b, cap, cur, rfl, rfl, hnc, hcm, hsz, ht⟩⟩ := ho
    · omega
    · have hcm' : cap ≤ 9223372036854775807 := by simpa [maxLen] using hcm
      have e2 : cur.toList.take (i * 1) = (l.take i).map iV := by
        rw [List.map_take, ← ht, List.take_take]; congr 1; omega
      have e3 : (cur.toList.take (l.length * 1)).drop (i * 1) = (l.drop i).map iV := by rw [ht, List.map_drop, Nat.mul_one]
      have h1 : ∀ u ∈ cur.toList.take (l.length * 1), u.oneCell' = true := by rw [ht]; exact one_iV l
      have h2 : ∀ u ∈ (#[Value.int .i64 x] : Array Value).toList, u.oneCell' = true := one_iV [x]
      have key : ∀ (e : Ending) (w' : World), (∃ v' hs', e = .returned v' ∧ Own 3 1 v' (l.length + 1) (cur.toList.take (i * 1) ++ (#[Value.int .i64 x] : Array Value).toList ++ (cur.toList.take (l.length * 1)).drop (i * 1)) hs' ∧ Has E w' [hs', R]) →
          ∃ v' hs', e = .returned v' ∧ Own 3 1 v' (l.take i ++ [x] ++ l.drop i).length ((l.take i ++ [x] ++ l.drop i).map iV) hs' ∧ Has E w' [hs', R] := by
        rintro e w' ⟨v', hs', rfl, hO, hX⟩
        refine ⟨v', hs', rfl, ?_, hX⟩
        rw [e2, e3] at hO
        have e4 : (l.take i ++ [x] ++ l.drop i).length = l.length + 1 := by simp only [List.length_append, List.length_take, List.length_drop, List.length_cons, List.length_nil]; omega
        rw [e4, List.map_append, List.map_append]; exact hO
      rcases Nat.lt_or_ge cap (l.length + 1) with g | g
      · exact Calls.mono (ins1_grow b bu l.length cap i cur #[.int .i64 x] hH h hnc g hcm' hsz rfl (by omega) h1 h2) key
      · exact Calls.mono (ins1_room b bu l.length cap i cur #[.int .i64 x] hH h hnc g hcm' hsz rfl (by omega) h1 h2) key
  · have : i = l.length := by omega
    subst this
    rw [List.take_of_length_le (Nat.le_refl _), List.drop_of_length_le (Nat.le_refl _), List.append_nil]
    exact ins_end hH ho hl
end Go.Q
