/-
  Parts of a walk: what functions of the program compute, each told by a theorem.
-/
import Derived.Test.YtagicdbeacmffaaQI
import Derived.Test.YtagicdbeacmffaaQS5
import Derived.Test.YtagicdbeacmffaaQM
import Derived.Test.YtagicdbeacmffaaQN3
namespace Go.Q
set_option linter.unusedSimpArgs false
open Go.Proofs
set_option linter.unusedVariables false
set_option maxRecDepth 100000
attribute [local irreducible] wpList OK Code.wp
set_option maxHeartbeats 4000000 in
theorem NumsBack_c {E w : World} {R : List Hp} (hH : Has E w [R]) (z : Int) (hz : 0 ≤ z ∧ z ≤ 255) (n : Int) (hn : -9223372036854775808 ≤ n ∧ n ≤ 9223372036854775807) (more : List UInt8) :
    Calls Try.prog 7 #[(.int .u8 z), (.int .i64 n), (S more)] w fun e w' => e = .returned (.bool true) ∧ Has E w' [R] := by
  refine c_enter (args := [(.int .u8 z), (.int .i64 n), (S more)]) Try.func7 rfl Try.ntmps7 (by simp) ?_
  refine wp_seq_k fun K1 hK1 => ?_
  refine c_region ?_
  refine s_op (o_assign (v := (.bool false)) rfl ?_)
  refine s_nil ?_
  refine t_norm (hK1 _ _ ?_)
  refine wp_seq_k fun K2 hK2 => ?_
  refine wp_seq_k fun K3 hK3 => ?_
  refine c_region ?_
  refine s_op (o_move (v := (S more)) rfl ?_)
  refine s_op (o_slen Try.underlying9 rfl ?_)
  refine s_op (o_gtr (a := (more.length : Int)) (b := 100) rfl rfl ?_)
  refine s_nil ?_
  refine t_norm (hK3 _ _ ?_)
  refine c_cond rfl (fun h4 => ?_) (fun h4 => ?_)
  · -- 100 < (more.length : Int)
    refine wp_seq_k fun K5 hK5 => ?_
    refine c_region ?_
    refine s_op (o_callf (vs := #[]) ca27 rfl (args0) (awake_c hH.all) ?_)
    rintro _ w8 ⟨rfl, hX6⟩
    refine ⟨_, rfl, ?_⟩
    have hH7 := hX6.of_all
    refine s_op (o_assign (v := (.bool true)) rfl ?_)
    refine s_nil ?_
    refine t_norm (hK5 _ _ ?_)
    refine wp_ret ?_
    refine t_ret (c_ret1 Try.results7 (v := (.bool true)) rfl ?_)
    exact ⟨rfl, hH7⟩
  · -- not: 100 < (more.length : Int)
    refine wp_skip ?_
    refine t_norm (hK2 _ _ ?_)
    refine wp_seq_k fun K9 hK9 => ?_
    refine c_region ?_
    refine s_op (o_move (v := (.int .u8 z)) rfl ?_)
    refine s_op (o_rem (a := z) (b := 8) (c := z % 8) rfl rfl (by omega) ((Int.tmod_eq_emod_of_nonneg (by omega))) ?_)
    refine s_op (o_conv (c := (z % 8)) Try.underlying5 Try.underlying3 rfl (w64 (by omega) (by omega)) ?_)
    obtain ⟨k, hk⟩ : ∃ k : Nat, 1 + z % 8 = (k : Int) := ⟨(1 + z % 8).toNat, by omega⟩
    refine s_op (o_add (c := (k : Int)) rfl rfl ((w64 (by omega) (by omega)).trans hk) ?_)
    refine s_op (o_assign (v := (.int .i64 (k : Int))) rfl ?_)
    refine s_nil ?_
    refine t_norm (hK9 _ _ ?_)
    refine wp_seq_k fun K10 hK10 => ?_
    refine c_region ?_
    refine s_op (o_move (v := (.int .i64 (k : Int))) rfl ?_)
    refine s_op (o_move (v := (.int .i64 n)) rfl ?_)
    refine s_op (o_buildSlice (ps := #[(0, (.int .i64 n))]) (cells := #[(.int .i64 n)]) Try.underlying28 ti3 (by decide) (parts1 rfl) (by kernel_rfl) hH fun b11 w12 hH13 => ?_)
    refine s_op (o_callf (vs := #[(.int .i64 (k : Int)), (.slice (some ⟨b11, 0, none⟩) 1 1)]) ca26 rfl (args2 rfl rfl) (put_c hH13.all (l := [n]) k ((sl_lit (f := iV) (l := [n]) rfl rfl (by simp)).mono (seg_sub 0 rfl)) (by first | omega | (simp only [List.length_cons, List.length_nil]; omega))) ?_)
    rintro _ w16 ⟨rfl, hX14⟩
    refine ⟨_, rfl, ?_⟩
    have hH15 := hX14.of_all
    refine s_op (o_assign (v := (S (putS k [n]))) rfl ?_)
    refine s_nil ?_
    refine t_norm (hK10 _ _ ?_)
    refine wp_seq_k fun K17 hK17 => ?_
    refine c_region ?_
    refine s_op (o_move (v := (S (putS k [n]))) rfl ?_)
    refine s_op (o_move (v := (S more)) rfl ?_)
    refine s_op (o_sadd rfl rfl (by have := put_one_len k n; omega) ?_)
    refine s_op (o_move (v := (.int .i64 (k : Int))) rfl ?_)
    refine s_op (o_callf (vs := #[(S ((putS k [n]) ++ more)), (.int .i64 (k : Int))]) ca29 rfl (args2 rfl rfl) (take_c hH15.all k ((putS k [n]) ++ more) (by have := put_one_len k n; rw [List.length_append]; omega)) ?_)
    rintro _ w20 ⟨rfl, hX18⟩
    refine ⟨_, rfl, ?_⟩
    have hH19 := hX18.of_all
    refine s_op (o_move (v := (.tuple #[(.int .i64 ((takeS ((putS k [n]) ++ more) k).1)), (S ((takeS ((putS k [n]) ++ more) k).2.1)), (.bool ((takeS ((putS k [n]) ++ more) k).2.2))])) rfl ?_)
    refine s_op (o_extract (v := (.int .i64 ((takeS ((putS k [n]) ++ more) k).1))) rfl rfl ?_)
    refine s_op (o_extract (v := (S ((takeS ((putS k [n]) ++ more) k).2.1))) rfl rfl ?_)
    refine s_op (o_extract (v := (.bool ((takeS ((putS k [n]) ++ more) k).2.2))) rfl rfl ?_)
    refine s_op (o_assign (v := (.int .i64 ((takeS ((putS k [n]) ++ more) k).1))) rfl ?_)
    refine s_op (o_assign (v := (S ((takeS ((putS k [n]) ++ more) k).2.1))) rfl ?_)
    refine s_op (o_assign (v := (.bool ((takeS ((putS k [n]) ++ more) k).2.2))) rfl ?_)
    refine s_nil ?_
    refine t_norm (hK17 _ _ ?_)
    refine wp_seq_k fun K21 hK21 => ?_
    refine wp_seq_k fun K22 hK22 => ?_
    refine c_region ?_
    refine s_op (o_move (v := (S (putS k [n]))) rfl ?_)
    refine s_op (o_seql (a := putS k [n]) (b := ([] : List UInt8)) rfl rfl ?_)
    refine s_nil ?_
    refine t_norm (hK22 _ _ ?_)
    refine c_cond rfl (fun h23 => ?_) (fun h23 => ?_)
    · -- putS k [n] = ([] : List UInt8)
      refine wp_seq_k fun K24 hK24 => ?_
      refine c_region ?_
      refine s_op (o_move (v := (.int .i64 n)) rfl ?_)
      refine s_op (o_lss (a := n) (b := 0) rfl rfl ?_)
      refine s_op (o_move (v := (.bool (decide (n < 0)))) rfl ?_)
      by_cases h25 : n < 0
      · -- n < 0
        refine s_off (b' := true) 37 rfl (congrArg Value.bool (decide_eq_true h25)) rfl ?_
        refine s_off (b' := true) 37 rfl (congrArg Value.bool (decide_eq_true h25)) rfl ?_
        refine s_off (b' := true) 37 rfl (congrArg Value.bool (decide_eq_true h25)) rfl ?_
        refine s_offu 40 rfl rfl ?_
        refine s_offu 40 rfl rfl ?_
        refine s_offu 40 rfl rfl ?_
        refine s_offu 40 rfl rfl ?_
        refine s_offu 40 rfl rfl ?_
        refine s_off (b' := true) 37 rfl (congrArg Value.bool (decide_eq_true h25)) rfl ?_
        refine s_op (o_pick_t (u := (.bool true)) ((rfl : _ = _).trans (congrArg Value.bool (decide_eq_true h25))) rfl ?_)
        refine s_op (o_move (v := (.bool true)) rfl ?_)
        refine s_on 48 rfl rfl (o_callf (vs := #[]) ca27 rfl (args0) (awake_c hH19.all) ?_)
        rintro _ w28 ⟨rfl, hX26⟩
        refine ⟨_, rfl, ?_⟩
        have hH27 := hX26.of_all
        refine s_op (o_pick_t (u := (.bool true)) rfl rfl ?_)
        refine s_op (o_assign (v := (.bool true)) rfl ?_)
        refine s_nil ?_
        refine t_norm (hK24 _ _ ?_)
        refine wp_ret ?_
        refine t_ret (c_ret1 Try.results7 (v := (.bool true)) rfl ?_)
        have hH29 : Has E w28 [R] := (hH27.front 1 rfl).first 1 rfl
        exact ⟨rfl, hH29⟩
      · -- not: n < 0
        refine s_on 37 rfl (congrArg Value.bool (decide_eq_false h25)) (o_move (v := (.int .i64 (k : Int))) rfl ?_)
        refine s_on 37 rfl (congrArg Value.bool (decide_eq_false h25)) (o_lss (a := (k : Int)) (b := 8) rfl rfl ?_)
        refine s_on 37 rfl (congrArg Value.bool (decide_eq_false h25)) (o_move (v := (.bool (decide ((k : Int) < 8)))) rfl ?_)
        by_cases h30 : (k : Int) < 8
        · -- (k : Int) < 8
          refine s_on 40 rfl (congrArg Value.bool (decide_eq_true h30)) (o_move (v := (.int .i64 n)) rfl ?_)
          refine s_on 40 rfl (congrArg Value.bool (decide_eq_true h30)) (o_move (v := (.int .i64 (k : Int))) rfl ?_)
          refine s_on 40 rfl (congrArg Value.bool (decide_eq_true h30)) (o_mul (a := 8) (b := (k : Int)) rfl rfl (w64 (by omega) (by omega)) ?_)
          refine s_on 40 rfl (congrArg Value.bool (decide_eq_true h30)) (o_shr (c := Int.fdiv n (2 ^ (min (8 * (k : Int)).toNat 64))) rfl rfl (by omega) rfl ?_)
          refine s_on 40 rfl (congrArg Value.bool (decide_eq_true h30)) (o_neq (a := Int.fdiv n (2 ^ (min (8 * (k : Int)).toNat 64))) (b := 0) rfl rfl ?_)
          refine s_on 37 rfl (congrArg Value.bool (decide_eq_false h25)) (o_pick_t (u := (.bool (decide (Int.fdiv n (2 ^ (min (8 * (k : Int)).toNat 64)) ≠ 0)))) ((rfl : _ = _).trans (congrArg Value.bool (decide_eq_true h30))) rfl ?_)
          refine s_op (o_pick_f (u := (.bool (decide (Int.fdiv n (2 ^ (min (8 * (k : Int)).toNat 64)) ≠ 0)))) ((rfl : _ = _).trans (congrArg Value.bool (decide_eq_false h25))) rfl ?_)
          refine s_op (o_move (v := (.bool (decide (Int.fdiv n (2 ^ (min (8 * (k : Int)).toNat 64)) ≠ 0)))) rfl ?_)
          by_cases h31 : Int.fdiv n (2 ^ (min (8 * (k : Int)).toNat 64)) ≠ 0
          · -- Int.fdiv n (2 ^ (min (8 * (k : Int)).toNat 64)) ≠ 0
            refine s_on 48 rfl (congrArg Value.bool (decide_eq_true h31)) (o_callf (vs := #[]) ca27 rfl (args0) (awake_c hH19.all) ?_)
            rintro _ w34 ⟨rfl, hX32⟩
            refine ⟨_, rfl, ?_⟩
            have hH33 := hX32.of_all
            refine s_op (o_pick_t (u := (.bool true)) ((rfl : _ = _).trans (congrArg Value.bool (decide_eq_true h31))) rfl ?_)
            refine s_op (o_assign (v := (.bool true)) rfl ?_)
            refine s_nil ?_
            refine t_norm (hK24 _ _ ?_)
            refine wp_ret ?_
            refine t_ret (c_ret1 Try.results7 (v := (.bool true)) rfl ?_)
            have hH35 : Has E w34 [R] := (hH33.front 1 rfl).first 1 rfl
            exact ⟨rfl, hH35⟩
          · -- not: Int.fdiv n (2 ^ (min (8 * (k : Int)).toNat 64)) ≠ 0
            exact absurd (put_one_no (by omega) (by omega) h23) (by simp only [fitsS]; rw [decide_eq_true (show (0 : Int) ≤ n by omega), decide_eq_true (show Int.fdiv n (2 ^ (min (8 * (k : Int)).toNat 64)) = 0 from Classical.not_not.1 h31)]; simp)
        · -- not: (k : Int) < 8
          exact absurd (put_one_no (by omega) (by omega) h23) (by simp only [fitsS]; rw [decide_eq_true (show (0 : Int) ≤ n by omega), decide_eq_true (show (k : Int) = 8 by omega)]; simp)
    · -- not: putS k [n] = ([] : List UInt8)
      refine wp_skip ?_
      refine t_norm (hK21 _ _ ?_)
      refine wp_seq_k fun K36 hK36 => ?_
      refine c_region ?_
      refine s_op (o_move (v := (.int .i64 ((takeS ((putS k [n]) ++ more) k).1))) rfl ?_)
      refine s_op (o_move (v := (.int .i64 n)) rfl ?_)
      refine s_op (o_eql (a := (takeS ((putS k [n]) ++ more) k).1) (b := n) rfl rfl ?_)
      refine s_op (o_move (v := (.bool (decide ((takeS ((putS k [n]) ++ more) k).1 = n)))) rfl ?_)
      by_cases h37 : (takeS ((putS k [n]) ++ more) k).1 = n
      · -- (takeS ((putS k [n]) ++ more) k).1 = n
        refine s_on 54 rfl (congrArg Value.bool (decide_eq_true h37)) (o_move (v := (S ((takeS ((putS k [n]) ++ more) k).2.1))) rfl ?_)
        refine s_on 54 rfl (congrArg Value.bool (decide_eq_true h37)) (o_move (v := (S more)) rfl ?_)
        refine s_on 54 rfl (congrArg Value.bool (decide_eq_true h37)) (o_seql (a := (takeS ((putS k [n]) ++ more) k).2.1) (b := more) rfl rfl ?_)
        refine s_op (o_pick_t (u := (.bool (decide ((takeS ((putS k [n]) ++ more) k).2.1 = more)))) ((rfl : _ = _).trans (congrArg Value.bool (decide_eq_true h37))) rfl ?_)
        refine s_op (o_move (v := (.bool (decide ((takeS ((putS k [n]) ++ more) k).2.1 = more)))) rfl ?_)
        by_cases h38 : (takeS ((putS k [n]) ++ more) k).2.1 = more
        · -- (takeS ((putS k [n]) ++ more) k).2.1 = more
          refine s_on 59 rfl (congrArg Value.bool (decide_eq_true h38)) (o_move (v := (.bool ((takeS ((putS k [n]) ++ more) k).2.2))) rfl ?_)
          refine s_op (o_pick_t (u := (.bool ((takeS ((putS k [n]) ++ more) k).2.2))) ((rfl : _ = _).trans (congrArg Value.bool (decide_eq_true h38))) rfl ?_)
          refine s_op (o_move (v := (.bool ((takeS ((putS k [n]) ++ more) k).2.2))) rfl ?_)
          rcases Bool.eq_false_or_eq_true ((takeS ((putS k [n]) ++ more) k).2.2) with h39 | h39
          · -- (takeS ((putS k [n]) ++ more) k).2.2
            refine s_on 62 rfl (congrArg Value.bool h39) (o_callf (vs := #[]) ca27 rfl (args0) (awake_c hH19.all) ?_)
            rintro _ w42 ⟨rfl, hX40⟩
            refine ⟨_, rfl, ?_⟩
            have hH41 := hX40.of_all
            refine s_op (o_pick_t (u := (.bool true)) ((rfl : _ = _).trans (congrArg Value.bool h39)) rfl ?_)
            refine s_op (o_assign (v := (.bool true)) rfl ?_)
            refine s_nil ?_
            refine t_norm (hK36 _ _ ?_)
            refine wp_ret ?_
            refine c_ret1 Try.results7 (v := (.bool true)) rfl ?_
            have hH43 : Has E w42 [R] := (hH41.front 1 rfl).first 1 rfl
            exact ⟨rfl, hH43⟩
          · -- not: (takeS ((putS k [n]) ++ more) k).2.2
            rw [back_law (more := more) (by omega) (by omega) hn.2 h23] at h39; simp at h39
        · -- not: (takeS ((putS k [n]) ++ more) k).2.1 = more
          exact absurd (by rw [back_law (more := more) (by omega) (by omega) hn.2 h23]) h38
      · -- not: (takeS ((putS k [n]) ++ more) k).1 = n
        exact absurd (by rw [back_law (more := more) (by omega) (by omega) hn.2 h23]) h37
end Go.Q
