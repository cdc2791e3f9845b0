/-
  Parts of a walk: what functions of the program compute, each told by a theorem.
-/
import Derived.Test.YtagicdbeacmffaaDoorQV3
set_option linter.unusedVariables false
set_option linter.unusedSimpArgs false
namespace Go.Q
open Go.Proofs
set_option linter.unusedVariables false
set_option maxRecDepth 100000
attribute [local irreducible] wpList OK Code.wp
set_option maxHeartbeats 4000000 in
theorem SumOf_c {E w : World} {R : List Hp} (hH : Has E w [R]) (hg : CellsAt R 0 0 nibV) {v : Value} {l : List (List UInt8)} (hv : Sl R 1 v l.length (l.map sV)) (hlb : ∀ x ∈ l, x.length ≤ 9223372036854775807) :
    Calls Tryd.prog 3 #[v] w fun e w' => e = .returned (.bool true) ∧ Has E w' [R] := by
  refine c_enter (args := [v]) Tryd.func3 rfl Tryd.ntmps3 (by simp) ?_
  refine wp_seq_k fun K1 hK1 => ?_
  refine c_region ?_
  refine s_op (o_assign (v := (.bool false)) rfl ?_)
  refine s_nil ?_
  refine t_norm (hK1 _ _ ?_)
  refine wp_seq_k fun K2 hK2 => ?_
  refine c_region ?_
  refine s_op (o_move (v := v) rfl ?_)
  refine s_op (o_callf (vs := #[v]) ca12 rfl (args1 rfl) (lawjoin_c hH.all (hv.mono (seg_sub 0 rfl)) hlb) ?_)
  rintro _ w8 ⟨t3, b4, rfl, hb5, hX6⟩
  refine ⟨_, rfl, ?_⟩
  have hH7 : Has E w8 [R] := hX6.of_all
  refine s_op (o_move (v := (.tuple #[(S t3), (.bool b4)])) rfl ?_)
  refine s_op (o_extract (v := (S t3)) rfl rfl ?_)
  refine s_op (o_extract (v := (.bool b4)) rfl rfl ?_)
  refine s_op (o_assign (v := (S t3)) rfl ?_)
  refine s_op (o_assign (v := (.bool b4)) rfl ?_)
  refine s_nil ?_
  refine t_norm (hK2 _ _ ?_)
  refine wp_seq_k fun K9 hK9 => ?_
  refine wp_seq_k fun K10 hK10 => ?_
  refine c_region ?_
  refine s_op (o_move (v := (.bool b4)) rfl ?_)
  refine s_op (o_not rfl ?_)
  refine s_nil ?_
  refine t_norm (hK10 _ _ ?_)
  refine c_condb rfl (fun h11 => ?_) (fun h11 => ?_)
  · -- !b4
    have h11_n : b4 = false := by simpa using h11
    refine wp_seq_k fun K12 hK12 => ?_
    refine c_region ?_
    refine s_op (o_callf (vs := #[]) ca13 rfl (args0) (awake2_c hH7.all (hg.mono (seg_sub 0 rfl))) ?_)
    rintro _ w15 ⟨rfl, hX13⟩
    refine ⟨_, rfl, ?_⟩
    have hH14 := hX13.of_all
    refine s_op (o_assign (v := (.bool true)) rfl ?_)
    refine s_nil ?_
    refine t_norm (hK12 _ _ ?_)
    refine wp_ret ?_
    refine t_ret (c_ret1 Tryd.results3 (v := (.bool true)) rfl ?_)
    exact ⟨rfl, hH14⟩
  · -- not: !b4
    have h11_n : b4 = true := by simpa using h11
    have hjt : b4 = true := by simpa using h11
    obtain ⟨hj1, hj2, hj3⟩ := hb5 hjt
    have hjb : ∀ x ∈ l, x.length ≤ 2000 := fun x hx => by have := flat_le hx; omega
    have hjl : t3.length ≤ 2000 := by rw [hj2]; exact hj3
    refine wp_skip ?_
    refine t_norm (hK9 _ _ ?_)
    refine wp_seq_k fun K16 hK16 => ?_
    refine c_region ?_
    refine s_op (o_move (v := v) rfl ?_)
    refine s_op (o_callf (vs := #[v]) ca14 rfl (args1 rfl) (of2_c hH7.all (hg.mono (seg_sub 0 rfl)) (hv.mono (seg_sub 0 rfl)) hlb) ?_)
    rintro _ w19 ⟨rfl, hX17⟩
    refine ⟨_, rfl, ?_⟩
    have hH18 := hX17.of_all
    refine s_op (o_move (v := (S t3)) rfl ?_)
    refine s_op (o_callf (vs := #[(S t3)]) ca15 rfl (args1 rfl) (refsum_c hH18.all t3 (by omega)) ?_)
    rintro _ w22 ⟨rfl, hX20⟩
    refine ⟨_, rfl, ?_⟩
    have hH21 := hX20.of_all
    refine s_op (o_eql (a := ((crcS l.flatten).toNat : Int)) (b := ((crcS t3).toNat : Int)) rfl rfl ?_)
    refine s_op (o_move (v := (.bool (decide (((crcS l.flatten).toNat : Int) = ((crcS t3).toNat : Int))))) rfl ?_)
    by_cases h23 : ((crcS l.flatten).toNat : Int) = ((crcS t3).toNat : Int)
    · -- ((crcS l.flatten).toNat : Int) = ((crcS t3).toNat : Int)
      refine s_on 18 rfl (congrArg Value.bool (decide_eq_true h23)) (o_move (v := v) rfl ?_)
      refine s_on 18 rfl (congrArg Value.bool (decide_eq_true h23)) (o_callf (vs := #[v]) ca16 rfl (args1 rfl) (laid_c hH21.all (hg.mono (seg_sub 0 rfl)) (hv.mono (seg_sub 0 rfl)) hlb) ?_)
      rintro _ w26 ⟨rfl, hX24⟩
      refine ⟨_, rfl, ?_⟩
      have hH25 := hX24.of_all
      refine s_on 18 rfl (congrArg Value.bool (decide_eq_true h23)) (o_move (v := (S t3)) rfl ?_)
      refine s_on 18 rfl (congrArg Value.bool (decide_eq_true h23)) (o_callf (vs := #[(S t3)]) ca17 rfl (args1 rfl) (reflaid_c hH25.all t3 (by omega)) ?_)
      rintro _ w29 ⟨rfl, hX27⟩
      refine ⟨_, rfl, ?_⟩
      have hH28 := hX27.of_all
      refine s_on 18 rfl (congrArg Value.bool (decide_eq_true h23)) (o_seql (a := (laidS (crcS l.flatten))) (b := (laidS (crcS t3))) rfl rfl ?_)
      refine s_op (o_pick_t (u := (.bool (decide ((laidS (crcS l.flatten)) = (laidS (crcS t3)))))) ((rfl : _ = _).trans (congrArg Value.bool (decide_eq_true h23))) rfl ?_)
      refine s_op (o_move (v := (.bool (decide ((laidS (crcS l.flatten)) = (laidS (crcS t3)))))) rfl ?_)
      by_cases h30 : (laidS (crcS l.flatten)) = (laidS (crcS t3))
      · -- (laidS (crcS l.flatten)) = (laidS (crcS t3))
        refine s_on 25 rfl (congrArg Value.bool (decide_eq_true h30)) (o_move (v := v) rfl ?_)
        refine s_on 25 rfl (congrArg Value.bool (decide_eq_true h30)) (o_callf (vs := #[v]) ca18 rfl (args1 rfl) (seal_c hH28.all (hg.mono (seg_sub 0 rfl)) (hv.mono (seg_sub 0 rfl)) (by omega) (by omega)) ?_)
        rintro _ w33 ⟨rfl, hX31⟩
        refine ⟨_, rfl, ?_⟩
        have hH32 := hX31.of_all
        refine s_on 25 rfl (congrArg Value.bool (decide_eq_true h30)) (o_move (v := (S t3)) rfl ?_)
        refine s_on 25 rfl (congrArg Value.bool (decide_eq_true h30)) (o_move (v := (S t3)) rfl ?_)
        refine s_on 25 rfl (congrArg Value.bool (decide_eq_true h30)) (o_callf (vs := #[(S t3)]) ca17 rfl (args1 rfl) (reflaid_c hH32.all t3 (by omega)) ?_)
        rintro _ w36 ⟨rfl, hX34⟩
        refine ⟨_, rfl, ?_⟩
        have hH35 := hX34.of_all
        refine s_on 25 rfl (congrArg Value.bool (decide_eq_true h30)) (o_sadd rfl rfl (by rw [laidS_len]; omega) ?_)
        refine s_on 25 rfl (congrArg Value.bool (decide_eq_true h30)) (o_seql (a := (sealS l.flatten)) (b := t3 ++ (laidS (crcS t3))) rfl rfl ?_)
        refine s_op (o_pick_t (u := (.bool (decide ((sealS l.flatten) = t3 ++ (laidS (crcS t3)))))) ((rfl : _ = _).trans (congrArg Value.bool (decide_eq_true h30))) rfl ?_)
        refine s_op (o_move (v := (.bool (decide ((sealS l.flatten) = t3 ++ (laidS (crcS t3)))))) rfl ?_)
        by_cases h37 : (sealS l.flatten) = t3 ++ (laidS (crcS t3))
        · -- (sealS l.flatten) = t3 ++ (laidS (crcS t3))
          refine s_on 34 rfl (congrArg Value.bool (decide_eq_true h37)) (o_callf (vs := #[]) ca13 rfl (args0) (awake2_c hH35.all (hg.mono (seg_sub 0 rfl))) ?_)
          rintro _ w40 ⟨rfl, hX38⟩
          refine ⟨_, rfl, ?_⟩
          have hH39 := hX38.of_all
          refine s_op (o_pick_t (u := (.bool true)) ((rfl : _ = _).trans (congrArg Value.bool (decide_eq_true h37))) rfl ?_)
          refine s_op (o_assign (v := (.bool true)) rfl ?_)
          refine s_nil ?_
          refine t_norm (hK16 _ _ ?_)
          refine wp_ret ?_
          refine c_ret1 Tryd.results3 (v := (.bool true)) rfl ?_
          exact ⟨rfl, hH39⟩
        · -- not: (sealS l.flatten) = t3 ++ (laidS (crcS t3))
          rw [hj2] at h37
          exact absurd rfl h37
      · -- not: (laidS (crcS l.flatten)) = (laidS (crcS t3))
        rw [hj2] at h30
        exact absurd rfl h30
    · -- not: ((crcS l.flatten).toNat : Int) = ((crcS t3).toNat : Int)
      rw [hj2] at h23
      exact absurd rfl h23
end Go.Q
