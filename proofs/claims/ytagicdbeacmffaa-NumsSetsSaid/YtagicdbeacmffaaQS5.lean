/-
  Parts of a walk: what functions of the program compute, each told by a theorem.
-/
import Derived.Test.YtagicdbeacmffaaQS4
import Derived.Test.YtagicdbeacmffaaQN2
set_option linter.unusedVariables false
set_option linter.unusedSimpArgs false
namespace Go.Q
open Go.Proofs
set_option linter.unusedVariables false
set_option maxRecDepth 100000
attribute [local irreducible] wpList OK Code.wp
theorem now_awake {now : List Int} (hs : now.Pairwise (· < ·)) (hm : ∀ a, a ∈ now ↔ a ∈ ([3, 1, 3] : List Int)) : now = [1, 3] :=
  sorted_eq hs (by decide) fun a => by rw [hm]; simp only [List.mem_cons, List.not_mem_nil, or_false]; omega
set_option maxHeartbeats 4000000 in
theorem awake_c {E w : World} {R : List Hp} (hH : Has E w [R]) :
    Calls Try.prog 27 #[] w fun e w' => e = .returned (.bool true) ∧ Has E w' [R] := by
  refine c_enter (args := []) Try.func27 rfl Try.ntmps27 (by simp) ?_
  refine wp_seq_k fun K1 hK1 => ?_
  refine c_region ?_
  refine s_op (o_assign (v := (.bool false)) rfl ?_)
  refine s_nil ?_
  refine t_norm (hK1 _ _ ?_)
  refine wp_seq_k fun K2 hK2 => ?_
  refine c_region ?_
  refine s_op (o_buildSlice (ps := #[(0, (.int .i64 1)), (1, (.int .i64 258))]) (cells := #[(.int .i64 1), (.int .i64 258)]) Try.underlying28 ti3 (by decide) (parts2 rfl rfl) (by kernel_rfl) hH fun b3 w4 hH5 => ?_)
  refine s_op (o_callf (vs := #[(.int .i64 2), (.slice (some ⟨b3, 0, none⟩) 2 2)]) ca26 rfl (args2 rfl rfl) (put_c hH5.all (l := [1, 258]) 2 ((sl_lit (f := iV) (l := [1, 258]) rfl rfl (by decide)).mono (seg_sub 0 rfl)) (by first | omega | (simp only [List.length_cons, List.length_nil]; omega))) ?_)
  rintro _ w8 ⟨rfl, hX6⟩
  refine ⟨_, rfl, ?_⟩
  have hH7 := hX6.of_all
  refine s_op (o_seql (a := putS 2 [1, 258]) (b := [0, 1, 1, 2]) rfl rfl ?_)
  refine s_op (o_move (v := (.bool (decide (putS 2 [1, 258] = [0, 1, 1, 2])))) rfl ?_)
  by_cases h9 : putS 2 [1, 258] = [0, 1, 1, 2]
  · -- putS 2 [1, 258] = [0, 1, 1, 2]
    refine s_on 4 rfl (congrArg Value.bool (decide_eq_true h9)) (o_buildSlice (ps := #[(0, (.int .i64 3)), (1, (.int .i64 1)), (2, (.int .i64 3))]) (cells := #[(.int .i64 3), (.int .i64 1), (.int .i64 3)]) Try.underlying28 ti3 (by decide) (parts3 rfl rfl rfl) (by kernel_rfl) hH7 fun b10 w11 hH12 => ?_)
    refine s_on 4 rfl (congrArg Value.bool (decide_eq_true h9)) (o_callf (vs := #[(.slice (some ⟨b10, 0, none⟩) 3 3)]) ca34 rfl (args1 rfl) (of_c hH12.all (l := [3, 1, 3]) ((sl_lit (f := iV) (l := [3, 1, 3]) rfl rfl (by decide)).mono (seg_sub 0 rfl)) (by first | omega | (simp only [List.length_cons, List.length_nil]; omega))) ?_)
    rintro _ w22 ⟨b13, v14, s15, now16, rfl, ho17, hso18, hm19, hX20⟩
    refine ⟨_, rfl, ?_⟩
    have hH21 : Has E w22 [s15, [Hp.one b13 (.cells #[v14] 81 (0, 0))], [Hp.one b10 (.cells #[(.int .i64 3), (.int .i64 1), (.int .i64 3)] 3 (0, 0))], [Hp.one b3 (.cells #[(.int .i64 1), (.int .i64 258)] 3 (0, 0))], R] := hX20.of_all2
    refine s_on 4 rfl (congrArg Value.bool (decide_eq_true h9)) (o_callf (vs := #[(.pointer (some ⟨b13, 0, none⟩))]) ca39 rfl (args1 rfl) (list_c ((hH21.front 1 rfl).front 1 rfl).all2 ho17 hso18 (by rw [now_awake hso18 hm19]; decide)) ?_)
    rintro _ w28 ⟨v23, s24, rfl, hv25, hX26⟩
    refine ⟨_, rfl, ?_⟩
    have hH27 : Has E w28 [s24, s15, [Hp.one b13 (.cells #[v14] 81 (0, 0))], [Hp.one b10 (.cells #[(.int .i64 3), (.int .i64 1), (.int .i64 3)] 3 (0, 0))], [Hp.one b3 (.cells #[(.int .i64 1), (.int .i64 258)] 3 (0, 0))], R] := hX26.of_all3
    refine s_on 4 rfl (congrArg Value.bool (decide_eq_true h9)) (o_buildSlice (ps := #[(0, (.int .i64 1)), (1, (.int .i64 3))]) (cells := #[(.int .i64 1), (.int .i64 3)]) Try.underlying28 ti3 (by decide) (parts2 rfl rfl) (by kernel_rfl) hH27 fun b29 w30 hH31 => ?_)
    refine s_on 4 rfl (congrArg Value.bool (decide_eq_true h9)) (o_callf (vs := #[v23, (.slice (some ⟨b29, 0, none⟩) 2 2)]) ca38 rfl (args2 rfl rfl) (same_c hH31.all (a := now16) (b := [1, 3]) (hv25.mono (seg_sub 1 rfl)) ((sl_lit (f := iV) (l := [1, 3]) rfl rfl (by decide)).mono (seg_sub 0 rfl))) ?_)
    rintro _ w34 ⟨rfl, hX32⟩
    refine ⟨_, rfl, ?_⟩
    have hH33 := hX32.of_all
    refine s_op (o_pick_t (u := (.bool (decide (now16 = [1, 3])))) ((rfl : _ = _).trans (congrArg Value.bool (decide_eq_true h9))) rfl ?_)
    refine s_op (o_move (v := (.bool (decide (now16 = [1, 3])))) rfl ?_)
    by_cases h35 : now16 = [1, 3]
    · -- now16 = [1, 3]
      refine s_on 11 rfl (congrArg Value.bool (decide_eq_true h35)) (o_buildSlice (ps := #[(0, (.int .i64 5)), (1, (.int .i64 2))]) (cells := #[(.int .i64 5), (.int .i64 2)]) Try.underlying28 ti3 (by decide) (parts2 rfl rfl) (by kernel_rfl) hH33 fun b36 w37 hH38 => ?_)
      refine s_on 11 rfl (congrArg Value.bool (decide_eq_true h35)) (o_callf (vs := #[(.int .i64 1), (.slice (some ⟨b36, 0, none⟩) 2 2)]) ca31 rfl (args2 rfl rfl) (most_c hH38.all (l := [5, 2]) 1 ((sl_lit (f := iV) (l := [5, 2]) rfl rfl (by decide)).mono (seg_sub 0 rfl))) ?_)
      rintro _ w41 ⟨rfl, hX39⟩
      refine ⟨_, rfl, ?_⟩
      have hH40 := hX39.of_all
      refine s_on 11 rfl (congrArg Value.bool (decide_eq_true h35)) (o_eql (a := [5, 2].foldl max 1) (b := 5) rfl rfl ?_)
      refine s_op (o_pick_t (u := (.bool (decide ([5, 2].foldl max 1 = 5)))) ((rfl : _ = _).trans (congrArg Value.bool (decide_eq_true h35))) rfl ?_)
      refine s_op (o_assign (v := (.bool (decide ([5, 2].foldl max 1 = 5)))) rfl ?_)
      refine s_nil ?_
      refine t_norm (hK2 _ _ ?_)
      refine wp_ret ?_
      refine c_ret1 Try.results27 (v := (.bool (decide ([5, 2].foldl max 1 = 5)))) rfl ?_
      have hH42 : Has E w41 [R] := (hH40.front 7 rfl).first 1 rfl
      exact ⟨rfl, hH42⟩
    · -- not: now16 = [1, 3]
      exact absurd (now_awake hso18 hm19) h35
  · -- not: putS 2 [1, 258] = [0, 1, 1, 2]
    exact absurd (by decide) h9
end Go.Q
