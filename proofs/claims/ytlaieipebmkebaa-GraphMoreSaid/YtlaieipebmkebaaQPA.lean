/-
  Parts of a walk: what functions of the program compute, each told by a theorem.
-/
import Derived.Test.YtlaieipebmkebaaQP11
import Derived.Test.YtlaieipebmkebaaQP12
import Derived.Test.YtlaieipebmkebaaQP13
import Derived.Test.YtlaieipebmkebaaQGlaw
set_option linter.unusedVariables false
set_option linter.unusedSimpArgs false
namespace Go.Q
open Go.Proofs
set_option linter.unusedVariables false
set_option maxRecDepth 100000
attribute [local irreducible] wpList OK Code.wp
set_option maxHeartbeats 4000000 in
theorem awake15_c {E w : World} {R : List Hp} (hH : Has E w [R]) :
    Calls Try.prog 8 #[] w fun e w' => e = .returned (.bool true) ∧ Has E w' [R] := by
  refine c_enter (args := []) Try.func8 rfl Try.ntmps8 (by simp) ?_
  refine wp_seq_k fun K1 hK1 => ?_
  refine c_region ?_
  refine s_op (o_assign (v := (.bool false)) rfl ?_)
  refine s_nil ?_
  refine t_norm (hK1 _ _ ?_)
  refine wp_seq_k fun K2 hK2 => ?_
  refine c_region ?_
  refine s_op (o_sight (v := (.agg #[(.int .i64 1), (.int .i64 2)])) (fun _ => by kernel_rfl) ?_)
  refine s_op (o_sight (v := (.agg #[(.int .i64 2), (.int .i64 3)])) (fun _ => by kernel_rfl) ?_)
  refine s_op (o_sight (v := (.agg #[(.int .i64 3), (.int .i64 1)])) (fun _ => by kernel_rfl) ?_)
  refine s_op (o_buildSlice (ps := #[(0, (.agg #[(.int .i64 1), (.int .i64 2)])), (1, (.agg #[(.int .i64 2), (.int .i64 3)])), (2, (.agg #[(.int .i64 3), (.int .i64 1)]))]) (cells := #[(.int .i64 1), (.int .i64 2), (.int .i64 2), (.int .i64 3), (.int .i64 3), (.int .i64 1)]) Try.underlying22 ti42 (by decide) (parts3 rfl rfl rfl) (by kernel_rfl) hH fun b3 w4 hH5 => ?_)
  refine s_op (o_assign (v := (.slice (some ⟨b3, 0, none⟩) 3 3)) rfl ?_)
  refine s_nil ?_
  refine t_norm (hK2 _ _ ?_)
  refine wp_seq_k fun K6 hK6 => ?_
  refine c_region ?_
  refine s_op (o_move (v := (.slice (some ⟨b3, 0, none⟩) 3 3)) rfl ?_)
  refine s_op (o_callf (vs := #[(.slice (some ⟨b3, 0, none⟩) 3 3), (.int .i64 1), (.int .i64 1)]) ca16 rfl (args3 rfl rfl rfl) (way_c hH5.all (l := [(1, 2), (2, 3), (3, 1)]) ((sl_litF (f := tmC) (l := [(1, 2), (2, 3), (3, 1)]) tmC_len rfl rfl (by simp)).mono (seg_sub 0 rfl)) (by first | omega | decide) 1 1) ?_)
  rintro _ w13 ⟨v7, s8, rfl, ho9, hX11⟩
  refine ⟨_, rfl, ?_⟩
  have hH12 : Has E w13 [s8, [Hp.one b3 (.cells #[(.int .i64 1), (.int .i64 2), (.int .i64 2), (.int .i64 3), (.int .i64 3), (.int .i64 1)] 42 (0, 0))], R] := hX11.of_all1
  have hwl10 := rway_le [(1, 2), (2, 3), (3, 1)] 1 1
  refine s_op (o_buildSlice (ps := #[(0, (.int .i64 1)), (1, (.int .i64 2)), (2, (.int .i64 3))]) (cells := #[(.int .i64 1), (.int .i64 2), (.int .i64 3)]) Try.underlying23 ti3 (by decide) (parts3 rfl rfl rfl) (by kernel_rfl) hH12 fun b14 w15 hH16 => ?_)
  refine s_op (o_callf (vs := #[v7, (.slice (some ⟨b14, 0, none⟩) 3 3)]) ca9 rfl (args2 rfl rfl) (same_c hH16.all (a := (rwayS [(1, 2), (2, 3), (3, 1)] 1 1)) (b := [1, 2, 3]) (ho9.mono (seg_sub 1 rfl)) ((sl_lit (f := iV) (l := [1, 2, 3]) rfl rfl (by simp)).mono (seg_sub 0 rfl))) ?_)
  rintro _ w19 ⟨rfl, hX17⟩
  refine ⟨_, rfl, ?_⟩
  have hH18 := hX17.of_all
  refine s_op (o_move (v := (.bool (decide ((rwayS [(1, 2), (2, 3), (3, 1)] 1 1) = [1, 2, 3])))) rfl ?_)
  by_cases h20 : (rwayS [(1, 2), (2, 3), (3, 1)] 1 1) = [1, 2, 3]
  · -- (rwayS [(1, 2), (2, 3), (3, 1)] 1 1) = [1, 2, 3]
    refine s_on 10 rfl (congrArg Value.bool (decide_eq_true h20)) (o_move (v := (.slice (some ⟨b3, 0, none⟩) 3 3)) rfl ?_)
    refine s_on 10 rfl (congrArg Value.bool (decide_eq_true h20)) (o_buildSlice (ps := #[(0, (.int .i64 9)), (1, (.int .i64 2))]) (cells := #[(.int .i64 9), (.int .i64 2)]) Try.underlying23 ti3 (by decide) (parts2 rfl rfl) (by kernel_rfl) hH18 fun b21 w22 hH23 => ?_)
    refine s_on 10 rfl (congrArg Value.bool (decide_eq_true h20)) (o_callf (vs := #[(.slice (some ⟨b3, 0, none⟩) 3 3), (.slice (some ⟨b21, 0, none⟩) 2 2)]) ca18 rfl (args2 rfl rfl) (round_c hH23.all (l := [(1, 2), (2, 3), (3, 1)]) ((sl_litF (f := tmC) (l := [(1, 2), (2, 3), (3, 1)]) tmC_len rfl rfl (by simp)).mono (seg_sub 3 rfl)) (by first | omega | decide) (fr := [9, 2]) ((sl_lit (f := iV) (l := [9, 2]) rfl rfl (by simp)).mono (seg_sub 0 rfl))) ?_)
    rintro _ w26 ⟨rfl, hX24⟩
    refine ⟨_, rfl, ?_⟩
    have hH25 := hX24.of_all
    refine s_op (o_pick_t (u := (.bool ([9, 2].any (goesR [(1, 2), (2, 3), (3, 1)])))) ((rfl : _ = _).trans (congrArg Value.bool (decide_eq_true h20))) rfl ?_)
    refine s_op (o_move (v := (.bool ([9, 2].any (goesR [(1, 2), (2, 3), (3, 1)])))) rfl ?_)
    rcases Bool.eq_false_or_eq_true ([9, 2].any (goesR [(1, 2), (2, 3), (3, 1)])) with h27 | h27
    · -- [9, 2].any (goesR [(1, 2), (2, 3), (3, 1)])
      refine s_on 15 rfl (congrArg Value.bool h27) (o_move (v := (.slice (some ⟨b3, 0, none⟩) 3 3)) rfl ?_)
      refine s_on 15 rfl (congrArg Value.bool h27) (o_callf (vs := #[(.slice (some ⟨b3, 0, none⟩) 3 3)]) ca19 rfl (args1 rfl) (dead_c hH25.all (l := [(1, 2), (2, 3), (3, 1)]) ((sl_litF (f := tmC) (l := [(1, 2), (2, 3), (3, 1)]) tmC_len rfl rfl (by simp)).mono (seg_sub 3 rfl)) (by first | omega | decide)) ?_)
      rintro _ w33 ⟨v28, s29, rfl, ho30, hX31⟩
      refine ⟨_, rfl, ?_⟩
      have hH32 : Has E w33 [s29, [Hp.one b21 (.cells #[(.int .i64 9), (.int .i64 2)] 3 (0, 0))], [Hp.one b14 (.cells #[(.int .i64 1), (.int .i64 2), (.int .i64 3)] 3 (0, 0))], s8, [Hp.one b3 (.cells #[(.int .i64 1), (.int .i64 2), (.int .i64 2), (.int .i64 3), (.int .i64 3), (.int .i64 1)] 42 (0, 0))], R] := hX31.of_all1
      refine s_on 15 rfl (congrArg Value.bool h27) (o_buildSlice (ps := #[(0, (.int .i64 1)), (1, (.int .i64 2)), (2, (.int .i64 3))]) (cells := #[(.int .i64 1), (.int .i64 2), (.int .i64 3)]) Try.underlying23 ti3 (by decide) (parts3 rfl rfl rfl) (by kernel_rfl) hH32 fun b34 w35 hH36 => ?_)
      refine s_on 15 rfl (congrArg Value.bool h27) (o_callf (vs := #[v28, (.slice (some ⟨b34, 0, none⟩) 3 3)]) ca9 rfl (args2 rfl rfl) (same_c hH36.all (a := (deadS (goesR [(1, 2), (2, 3), (3, 1)]) [(1, 2), (2, 3), (3, 1)])) (b := [1, 2, 3]) (ho30.sl.mono (seg_sub 1 rfl)) ((sl_lit (f := iV) (l := [1, 2, 3]) rfl rfl (by simp)).mono (seg_sub 0 rfl))) ?_)
      rintro _ w39 ⟨rfl, hX37⟩
      refine ⟨_, rfl, ?_⟩
      have hH38 := hX37.of_all
      refine s_op (o_pick_t (u := (.bool (decide ((deadS (goesR [(1, 2), (2, 3), (3, 1)]) [(1, 2), (2, 3), (3, 1)]) = [1, 2, 3])))) ((rfl : _ = _).trans (congrArg Value.bool h27)) rfl ?_)
      refine s_op (o_assign (v := (.bool (decide ((deadS (goesR [(1, 2), (2, 3), (3, 1)]) [(1, 2), (2, 3), (3, 1)]) = [1, 2, 3])))) rfl ?_)
      refine s_nil ?_
      refine t_norm (hK6 _ _ ?_)
      refine wp_ret ?_
      refine c_ret1 Try.results8  (v := (.bool (decide ((deadS (goesR [(1, 2), (2, 3), (3, 1)]) [(1, 2), (2, 3), (3, 1)]) = [1, 2, 3])))) rfl ?_
      have hH40 : Has E w39 [R] := (hH38.front 6 rfl).first 1 rfl
      exact ⟨by rw [decide_eq_true awake_dead], hH40⟩
    · -- not: [9, 2].any (goesR [(1, 2), (2, 3), (3, 1)])
      rw [awake_round] at h27; cases h27
  · -- not: (rwayS [(1, 2), (2, 3), (3, 1)] 1 1) = [1, 2, 3]
    exact absurd awake_way h20
set_option maxHeartbeats 4000000 in
theorem edges_c {E w : World} {R : List Hp} (hH : Has E w [R]) {v : Value} {l : List (Int × Int)} (hv : Sl R 2 v l.length (l.flatMap tmC)) :
    Calls Try.prog 7 #[v] w fun e w' => ∃ v' hs', e = .returned (.tuple #[v', .bool (decide (((l.length : Nat) : Int) ≤ 40))]) ∧ Own 34 2 v' (l.take 40).length ((l.take 40).flatMap tmC) hs' ∧ Has E w' [hs', R] := by
  have hn_ := hv.le
  refine c_enter (args := [v]) Try.func7 rfl Try.ntmps7 (by simp) ?_
  refine wp_seq_k fun K1 hK1 => ?_
  refine c_region ?_
  refine s_op (o_assign (v := (.slice none 0 0)) rfl ?_)
  refine s_op (o_assign (v := (.bool false)) rfl ?_)
  refine s_nil ?_
  refine t_norm (hK1 _ _ ?_)
  refine wp_seq_k fun K2 hK2 => ?_
  refine c_region ?_
  refine s_op (o_assign (v := (.slice none 0 0)) rfl ?_)
  refine s_nil ?_
  refine t_norm (hK2 _ _ ?_)
  refine wp_seq_k fun K3 hK3 => ?_
  refine wp_seq_k fun K4 hK4 => ?_
  refine c_region ?_
  refine s_op (o_assign (v := (.int .i64 0)) rfl ?_)
  refine s_nil ?_
  refine t_norm (hK4 _ _ ?_)
  refine wp_block ?_
  let I6 : Nat → (Nat → Value) → World → Prop := fun n__ r__ w__ => ∃ (k : Nat) (va : Value) (ha : List Hp) (acc : List (Int × Int)), n__ = l.length - k ∧ Has E w__ [ha, R] ∧ (k ≤ l.length ∧ k ≤ 40) ∧ (Own 34 2 va acc.length (acc.flatMap tmC) ha) ∧ (acc = l.take k) ∧ (acc.length ≤ k) ∧ r__ 0 = v ∧ r__ 2 = (.slice none 0 0) ∧ r__ 3 = (.bool false) ∧ r__ 4 = va ∧ r__ 5 = (.int .i64 (k : Int))
  have hH7 : Has E w [[], R] := (Has.nil hH).first 2 rfl
  refine c_loop I6 _ ⟨0, (.slice none 0 0), [], [], rfl, hH7, ⟨Nat.zero_le _, Nat.zero_le _⟩, Own.nil 34 2, rfl, Nat.le_refl _, rfl, rfl, rfl, rfl, rfl⟩ ?_
  rintro n_ r10 w8 ⟨k, va, ha, acc, rfl, hH9, hk, hoa, hacc, hal, e5_0, e5_2, e5_3, e5_4, e5_5⟩
  refine wp_seq_k fun K11 hK11 => ?_
  refine wp_seq_k fun K12 hK12 => ?_
  refine c_region ?_
  refine s_op (o_move (v := (.int .i64 (k : Int))) e5_5 ?_)
  refine s_op (o_move (v := v) e5_0 ?_)
  refine s_op (o_lenS Try.underlying22 rfl hv ?_)
  refine s_op (o_lss (a := (k : Int)) (b := ((l.length : Nat) : Int)) rfl rfl ?_)
  refine s_op (o_move (v := (.bool (decide ((k : Int) < ((l.length : Nat) : Int))))) rfl ?_)
  by_cases h13 : (k : Int) < ((l.length : Nat) : Int)
  · -- (k : Int) < ((l.length : Nat) : Int)
    refine s_on 10 rfl (congrArg Value.bool (decide_eq_true h13)) (o_move (v := (.int .i64 (k : Int))) e5_5 ?_)
    refine s_on 10 rfl (congrArg Value.bool (decide_eq_true h13)) (o_lss (a := (k : Int)) (b := 40) rfl rfl ?_)
    refine s_op (o_pick_t (u := (.bool (decide ((k : Int) < 40)))) ((rfl : _ = _).trans (congrArg Value.bool (decide_eq_true h13))) rfl ?_)
    refine s_nil ?_
    refine t_norm (hK12 _ _ ?_)
    refine c_cond rfl (fun h14 => ?_) (fun h14 => ?_)
    · -- (k : Int) < 40
      refine wp_skip ?_
      refine t_norm (hK11 _ _ ?_)
      refine wp_seq_k fun K15 hK15 => ?_
      refine wp_block ?_
      refine c_region ?_
      refine s_op (o_move (v := va) e5_4 ?_)
      refine s_op (o_move (v := v) e5_0 ?_)
      refine s_op (o_move (v := (.int .i64 (k : Int))) e5_5 ?_)
      obtain ⟨x19, hx20⟩ : ∃ x_, l[((k : Int)).toNat]? = some x_ := get_some (by omega)
      refine s_op (o_indexF tmC_len Try.underlying22 ti42 rfl hv rfl rfl (by omega) hx20 fun b16 o17 hc18 => ?_)
      refine s_op (o_loadN (cs := [(.int .i64 x19.1), (.int .i64 x19.2)]) Try.underlying42 rfl ti42 rfl hH9 (seg_sub 1 rfl) hc18 ?_)
      refine s_op (o_buildSlice (ps := #[(0, (.agg #[(.int .i64 x19.1), (.int .i64 x19.2)]))]) (cells := #[(.int .i64 x19.1), (.int .i64 x19.2)]) Try.underlying24 ti34 (by decide) (parts1 rfl) (by kernel_rfl) hH9 fun b21 w22 hH23 => ?_)
      refine s_op (o_append Try.underlying24 ti34 rfl (by decide) rfl hoa rfl (sl_litF (f := tmC) (l := [(x19.1, x19.2)]) tmC_len rfl rfl (by simp)) (hH23.front 1 rfl) (seg_sub 0 rfl) (one_tm _) (by first | omega | (simp; omega)) (by first | omega | (simp; omega)) fun v24 s25 w27 ho26 hH28 => ?_)
      have ho26 : Own 34 2 v24 (acc ++ [(x19.1, x19.2)]).length ((acc ++ [(x19.1, x19.2)]).flatMap tmC) s25 := ho26.appF
      refine s_op (o_assign (v := v24) rfl ?_)
      refine s_nil ?_
      refine b_norm ?_
      refine t_norm (hK15 _ _ ?_)
      refine c_region ?_
      refine s_op (o_move (v := (.int .i64 (k : Int))) e5_5 ?_)
      refine s_op (o_add (a := (k : Int)) (b := 1) rfl rfl (w64 (by omega) (by omega)) ?_)
      refine s_op (o_assign (v := (.int .i64 ((k : Int) + 1))) rfl ?_)
      refine s_nil ?_
      have hH29 : Has E w27 [s25, R] := ((hH28.front 2 rfl).front 1 rfl).first 2 rfl
      refine t_norm ⟨l.length - (k + 1), _, rfl, ?_, ?_⟩
      · omega
      · exact ⟨(k + 1), v24, s25, (acc ++ [(x19.1, x19.2)]), rfl, hH29, (by omega), (ho26), (by rw [take_succ_of (show l[k]? = some _ from hx20), ← hacc]), (by rw [List.length_append, List.length_singleton]; omega), e5_0, e5_2, e5_3, rfl, rfl⟩
    · -- not: (k : Int) < 40
      refine wp_exit ?_
      refine t_exit (t_exit (x_in (?_)))
      refine t_norm (hK3 _ _ ?_)
      refine wp_seq_k fun K30 hK30 => ?_
      refine c_region ?_
      refine s_op (o_move (v := va) e5_4 ?_)
      refine s_op (o_move (v := v) e5_0 ?_)
      refine s_op (o_lenS Try.underlying22 rfl hv ?_)
      refine s_op (o_leq (a := ((l.length : Nat) : Int)) (b := 40) rfl rfl ?_)
      refine s_op (o_assign (v := va) rfl ?_)
      refine s_op (o_assign (v := (.bool (decide (((l.length : Nat) : Int) ≤ 40)))) rfl ?_)
      refine s_nil ?_
      refine t_norm (hK30 _ _ ?_)
      refine wp_ret ?_
      refine c_ret2 Try.results7  (v := va) rfl (x := (.bool (decide (((l.length : Nat) : Int) ≤ 40)))) rfl ?_
      have e : l.take 40 = acc := by rw [hacc]; rcases Nat.lt_or_ge k 40 with g | g; (rw [List.take_of_length_le (by omega), List.take_of_length_le (by omega)]); rw [show k = 40 by omega]
      exact ⟨_, _, rfl, by rw [e]; exact hoa, hH9⟩
  · -- not: (k : Int) < ((l.length : Nat) : Int)
    refine s_off (b' := false) 10 rfl (congrArg Value.bool (decide_eq_false h13)) rfl ?_
    refine s_off (b' := false) 10 rfl (congrArg Value.bool (decide_eq_false h13)) rfl ?_
    refine s_op (o_pick_f (u := (.bool false)) ((rfl : _ = _).trans (congrArg Value.bool (decide_eq_false h13))) rfl ?_)
    refine s_nil ?_
    refine t_norm (hK12 _ _ ?_)
    refine c_false rfl rfl ?_
    refine wp_exit ?_
    refine t_exit (t_exit (x_in (?_)))
    refine t_norm (hK3 _ _ ?_)
    refine wp_seq_k fun K31 hK31 => ?_
    refine c_region ?_
    refine s_op (o_move (v := va) e5_4 ?_)
    refine s_op (o_move (v := v) e5_0 ?_)
    refine s_op (o_lenS Try.underlying22 rfl hv ?_)
    refine s_op (o_leq (a := ((l.length : Nat) : Int)) (b := 40) rfl rfl ?_)
    refine s_op (o_assign (v := va) rfl ?_)
    refine s_op (o_assign (v := (.bool (decide (((l.length : Nat) : Int) ≤ 40)))) rfl ?_)
    refine s_nil ?_
    refine t_norm (hK31 _ _ ?_)
    refine wp_ret ?_
    refine c_ret2 Try.results7  (v := va) rfl (x := (.bool (decide (((l.length : Nat) : Int) ≤ 40)))) rfl ?_
    have e : l.take 40 = acc := by rw [hacc]; rcases Nat.lt_or_ge k 40 with g | g; (rw [List.take_of_length_le (by omega), List.take_of_length_le (by omega)]); rw [show k = 40 by omega]
    exact ⟨_, _, rfl, by rw [e]; exact hoa, hH9⟩
end Go.Q
