/-
  Parts of a walk: what functions of the program compute, each told by a theorem.
-/
import Derived.Test.YtlaieipebmkebaaQPA
set_option linter.unusedVariables false
set_option linter.unusedSimpArgs false
namespace Go.Q
open Go.Proofs
set_option linter.unusedVariables false
set_option maxRecDepth 100000
attribute [local irreducible] wpList OK Code.wp
set_option maxHeartbeats 4000000 in
theorem GraphReaches_c {E w : World} {R : List Hp} (hH : Has E w [R]) {v : Value} {l : List (Int × Int)} (hv : Sl R 2 v l.length (l.flatMap tmC)) {vf : Value} {fr : List Int} (hf : Ints R vf fr) :
    Calls Try.prog 3 #[v, vf] w fun e w' => e = .returned (.bool true) ∧ Has E w' [R] := by
  have hn_ := hv.le
  have hnf := hf.le
  refine c_enter (args := [v, vf]) Try.func3 rfl Try.ntmps3 (by simp) ?_
  refine wp_seq_k fun K1 hK1 => ?_
  refine c_region ?_
  refine s_op (o_assign (v := (.bool false)) rfl ?_)
  refine s_nil ?_
  refine t_norm (hK1 _ _ ?_)
  refine wp_seq_k fun K2 hK2 => ?_
  refine c_region ?_
  refine s_op (o_move (v := v) rfl ?_)
  refine s_op (o_callf (vs := #[v]) ca7 rfl (args1 rfl) (edges_c hH.all (l := l) (hv.mono (seg_sub 0 rfl))) ?_)
  rintro _ w8 ⟨v3, s4, rfl, ho5, hX6⟩
  refine ⟨_, rfl, ?_⟩
  have hH7 : Has E w8 [s4, R] := hX6.of_all1
  refine s_op (o_move (v := (.tuple #[v3, (.bool (decide (((l.length : Nat) : Int) ≤ 40)))])) rfl ?_)
  refine s_op (o_extract (v := v3) rfl rfl ?_)
  refine s_op (o_extract (v := (.bool (decide (((l.length : Nat) : Int) ≤ 40)))) rfl rfl ?_)
  refine s_op (o_assign (v := v3) rfl ?_)
  refine s_op (o_assign (v := (.bool (decide (((l.length : Nat) : Int) ≤ 40)))) rfl ?_)
  refine s_nil ?_
  refine t_norm (hK2 _ _ ?_)
  refine wp_seq_k fun K9 hK9 => ?_
  refine wp_seq_k fun K10 hK10 => ?_
  refine c_region ?_
  refine s_op (o_move (v := (.bool (decide (((l.length : Nat) : Int) ≤ 40)))) rfl ?_)
  refine s_op (o_not2 (b := decide (((l.length : Nat) : Int) ≤ 40)) (b' := decide (¬ (((l.length : Nat) : Int) ≤ 40))) rfl not_dec ?_)
  refine s_op (o_move (v := (.bool (decide (¬ (((l.length : Nat) : Int) ≤ 40))))) rfl ?_)
  by_cases h11 : ¬ (((l.length : Nat) : Int) ≤ 40)
  · -- ¬ (((l.length : Nat) : Int) ≤ 40)
    refine s_off (b' := true) 14 rfl (congrArg Value.bool (decide_eq_true h11)) rfl ?_
    refine s_off (b' := true) 14 rfl (congrArg Value.bool (decide_eq_true h11)) rfl ?_
    refine s_off (b' := true) 14 rfl (congrArg Value.bool (decide_eq_true h11)) rfl ?_
    refine s_op (o_pick_t (u := (.bool true)) ((rfl : _ = _).trans (congrArg Value.bool (decide_eq_true h11))) rfl ?_)
    refine s_nil ?_
    refine t_norm (hK10 _ _ ?_)
    refine c_true rfl rfl ?_
    refine wp_seq_k fun K12 hK12 => ?_
    refine c_region ?_
    refine s_op (o_callf (vs := #[]) ca8 rfl (args0) (awake15_c hH7.all) ?_)
    rintro _ w15 ⟨rfl, hX13⟩
    refine ⟨_, rfl, ?_⟩
    have hH14 := hX13.of_all
    refine s_op (o_assign (v := (.bool true)) rfl ?_)
    refine s_nil ?_
    refine t_norm (hK12 _ _ ?_)
    refine wp_ret ?_
    refine t_ret (c_ret1 Try.results3  (v := (.bool true)) rfl ?_)
    have hH16 : Has E w15 [R] := (hH14.front 1 rfl).first 1 rfl
    exact ⟨rfl, hH16⟩
  · -- not: ¬ (((l.length : Nat) : Int) ≤ 40)
    have hl40 : l.length ≤ 40 := by omega
    have htk : l.take 40 = l := List.take_of_length_le hl40
    have htl : (l.take 40).length ≤ 40 := by rw [List.length_take]; omega
    refine s_on 14 rfl (congrArg Value.bool (decide_eq_false h11)) (o_move (v := vf) rfl ?_)
    refine s_on 14 rfl (congrArg Value.bool (decide_eq_false h11)) (o_lenS Try.underlying23 rfl hf ?_)
    refine s_on 14 rfl (congrArg Value.bool (decide_eq_false h11)) (o_gtr (a := ((fr.length : Nat) : Int)) (b := 10) rfl rfl ?_)
    refine s_op (o_pick_f (u := (.bool (decide (10 < ((fr.length : Nat) : Int))))) ((rfl : _ = _).trans (congrArg Value.bool (decide_eq_false h11))) rfl ?_)
    refine s_nil ?_
    refine t_norm (hK10 _ _ ?_)
    refine c_cond rfl (fun h17 => ?_) (fun h17 => ?_)
    · -- 10 < ((fr.length : Nat) : Int)
      refine wp_seq_k fun K18 hK18 => ?_
      refine c_region ?_
      refine s_op (o_callf (vs := #[]) ca8 rfl (args0) (awake15_c hH7.all) ?_)
      rintro _ w21 ⟨rfl, hX19⟩
      refine ⟨_, rfl, ?_⟩
      have hH20 := hX19.of_all
      refine s_op (o_assign (v := (.bool true)) rfl ?_)
      refine s_nil ?_
      refine t_norm (hK18 _ _ ?_)
      refine wp_ret ?_
      refine t_ret (c_ret1 Try.results3  (v := (.bool true)) rfl ?_)
      have hH22 : Has E w21 [R] := (hH20.front 1 rfl).first 1 rfl
      exact ⟨rfl, hH22⟩
    · -- not: 10 < ((fr.length : Nat) : Int)
      refine wp_skip ?_
      refine t_norm (hK9 _ _ ?_)
      refine wp_seq_k fun K23 hK23 => ?_
      refine c_region ?_
      refine s_op (o_move (v := v) rfl ?_)
      refine s_op (o_move (v := vf) rfl ?_)
      refine s_op (o_callf (vs := #[v, vf]) ca10 rfl (args2 rfl rfl) (next_c hH7.all (l := l) (hv.mono (seg_sub 1 rfl)) (by omega) (fr := fr) (hf.mono (seg_sub 1 rfl))) ?_)
      rintro _ w29 ⟨v24, s25, rfl, ho26, hX27⟩
      refine ⟨_, rfl, ?_⟩
      have hH28 : Has E w29 [s25, s4, R] := hX27.of_all1
      refine s_op (o_move (v := v3) rfl ?_)
      refine s_op (o_move (v := vf) rfl ?_)
      refine s_op (o_callf (vs := #[v3, vf]) ca11 rfl (args2 rfl rfl) (refnext_c hH28.all (l := (l.take 40)) (ho5.sl.mono (seg_sub 1 rfl)) (by omega) (fr := fr) (hf.mono (seg_sub 2 rfl))) ?_)
      rintro _ w35 ⟨v30, s31, rfl, ho32, hX33⟩
      refine ⟨_, rfl, ?_⟩
      have hH34 : Has E w35 [s31, s25, s4, R] := hX33.of_all1
      refine s_op (o_callf (vs := #[v24, v30]) ca9 rfl (args2 rfl rfl) (same_c hH34.all (a := (nextS l fr)) (b := (nextS (l.take 40) fr)) (ho26.sl.mono (seg_sub 1 rfl)) (ho32.sl.mono (seg_sub 0 rfl))) ?_)
      rintro _ w38 ⟨rfl, hX36⟩
      refine ⟨_, rfl, ?_⟩
      have hH37 := hX36.of_all
      refine s_op (o_move (v := (.bool (decide ((nextS l fr) = (nextS (l.take 40) fr))))) rfl ?_)
      by_cases h39 : (nextS l fr) = (nextS (l.take 40) fr)
      · -- (nextS l fr) = (nextS (l.take 40) fr)
        refine s_on 27 rfl (congrArg Value.bool (decide_eq_true h39)) (o_move (v := v) rfl ?_)
        refine s_on 27 rfl (congrArg Value.bool (decide_eq_true h39)) (o_move (v := vf) rfl ?_)
        refine s_on 27 rfl (congrArg Value.bool (decide_eq_true h39)) (o_callf (vs := #[v, vf]) ca12 rfl (args2 rfl rfl) (reach_c hH37.all (l := l) (hv.mono (seg_sub 3 rfl)) (by omega) (fr := fr) (hf.mono (seg_sub 3 rfl))) ?_)
        rintro _ w45 ⟨v40, s41, rfl, ho42, hX43⟩
        refine ⟨_, rfl, ?_⟩
        have hH44 : Has E w45 [s41, s31, s25, s4, R] := hX43.of_all1
        refine s_on 27 rfl (congrArg Value.bool (decide_eq_true h39)) (o_move (v := v3) rfl ?_)
        refine s_on 27 rfl (congrArg Value.bool (decide_eq_true h39)) (o_move (v := vf) rfl ?_)
        refine s_on 27 rfl (congrArg Value.bool (decide_eq_true h39)) (o_callf (vs := #[v3, vf]) ca13 rfl (args2 rfl rfl) (refreach_c hH44.all (l := (l.take 40)) (ho5.sl.mono (seg_sub 3 rfl)) (by omega) (fr := fr) (hf.mono (seg_sub 4 rfl))) ?_)
        rintro _ w51 ⟨v46, s47, rfl, ho48, hX49⟩
        refine ⟨_, rfl, ?_⟩
        have hH50 : Has E w51 [s47, s41, s31, s25, s4, R] := hX49.of_all1
        refine s_on 27 rfl (congrArg Value.bool (decide_eq_true h39)) (o_callf (vs := #[v40, v46]) ca9 rfl (args2 rfl rfl) (same_c hH50.all (a := (reachS l fr)) (b := (reachS (l.take 40) fr)) (ho42.sl.mono (seg_sub 1 rfl)) (ho48.sl.mono (seg_sub 0 rfl))) ?_)
        rintro _ w54 ⟨rfl, hX52⟩
        refine ⟨_, rfl, ?_⟩
        have hH53 := hX52.of_all
        refine s_op (o_pick_t (u := (.bool (decide ((reachS l fr) = (reachS (l.take 40) fr))))) ((rfl : _ = _).trans (congrArg Value.bool (decide_eq_true h39))) rfl ?_)
        refine s_op (o_move (v := (.bool (decide ((reachS l fr) = (reachS (l.take 40) fr))))) rfl ?_)
        by_cases h55 : (reachS l fr) = (reachS (l.take 40) fr)
        · -- (reachS l fr) = (reachS (l.take 40) fr)
          refine s_on 36 rfl (congrArg Value.bool (decide_eq_true h55)) (o_callf (vs := #[]) ca8 rfl (args0) (awake15_c hH53.all) ?_)
          rintro _ w58 ⟨rfl, hX56⟩
          refine ⟨_, rfl, ?_⟩
          have hH57 := hX56.of_all
          refine s_op (o_pick_t (u := (.bool true)) ((rfl : _ = _).trans (congrArg Value.bool (decide_eq_true h55))) rfl ?_)
          refine s_op (o_assign (v := (.bool true)) rfl ?_)
          refine s_nil ?_
          refine t_norm (hK23 _ _ ?_)
          refine wp_ret ?_
          refine c_ret1 Try.results3  (v := (.bool true)) rfl ?_
          have hH59 : Has E w58 [R] := (hH57.front 5 rfl).first 1 rfl
          exact ⟨rfl, hH59⟩
        · -- not: (reachS l fr) = (reachS (l.take 40) fr)
          exact absurd (by rw [htk]) h55
      · -- not: (nextS l fr) = (nextS (l.take 40) fr)
        exact absurd (by rw [htk]) h39
end Go.Q
