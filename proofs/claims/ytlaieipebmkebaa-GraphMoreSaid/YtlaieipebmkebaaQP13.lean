/-
  Parts of a walk: what functions of the program compute, each told by a theorem.
-/
import Derived.Test.YtlaieipebmkebaaQP9
set_option linter.unusedVariables false
set_option linter.unusedSimpArgs false
namespace Go.Q
open Go.Proofs
set_option linter.unusedVariables false
set_option maxRecDepth 100000
attribute [local irreducible] wpList OK Code.wp
set_option maxHeartbeats 4000000 in
theorem refround_c {E w : World} {R : List Hp} (hH : Has E w [R]) {v : Value} {l : List (Int × Int)} (hv : Sl R 2 v l.length (l.flatMap tmC)) (hl : l.length ≤ 1000) (a : Int) :
    Calls Try.prog 14 #[v, (.int .i64 a)] w fun e w' => e = .returned (.bool (decide (a ∈ reachS l [a]))) ∧ Has E w' [R] := by
  have hn_ := hv.le
  refine c_enter (args := [v, (.int .i64 a)]) Try.func14 rfl Try.ntmps14 (by simp) ?_
  refine wp_seq_k fun K1 hK1 => ?_
  refine c_region ?_
  refine s_op (o_assign (v := (.bool false)) rfl ?_)
  refine s_nil ?_
  refine t_norm (hK1 _ _ ?_)
  refine wp_seq_k fun K2 hK2 => ?_
  refine c_region ?_
  refine s_op (o_move (v := v) rfl ?_)
  refine s_op (o_move (v := (.int .i64 a)) rfl ?_)
  refine s_op (o_buildSlice (ps := #[(0, (.int .i64 a))]) (cells := #[(.int .i64 a)]) Try.underlying23 ti3 (by decide) (parts1 rfl) (by kernel_rfl) hH fun b3 w4 hH5 => ?_)
  refine s_op (o_callf (vs := #[v, (.slice (some ⟨b3, 0, none⟩) 1 1)]) ca13 rfl (args2 rfl rfl) (refreach_c hH5.all (l := l) (hv.mono (seg_sub 1 rfl)) (by omega) (fr := [a]) ((sl_lit (f := iV) (l := [a]) rfl rfl (by simp)).mono (seg_sub 0 rfl))) ?_)
  rintro _ w11 ⟨v6, s7, rfl, ho8, hX9⟩
  refine ⟨_, rfl, ?_⟩
  have hH10 : Has E w11 [s7, [Hp.one b3 (.cells #[(.int .i64 a)] 3 (0, 0))], R] := hX9.of_all1
  refine s_op (o_move (v := (.int .i64 a)) rfl ?_)
  refine s_op (o_callf (vs := #[v6, (.int .i64 a)]) ca20 rfl (args2 rfl rfl) (refhas_c hH10.all (l := (reachS l [a])) (ho8.sl.mono (seg_sub 0 rfl)) a) ?_)
  rintro _ w14 ⟨rfl, hX12⟩
  refine ⟨_, rfl, ?_⟩
  have hH13 := hX12.of_all
  refine s_op (o_assign (v := (.bool (decide (a ∈ (reachS l [a]))))) rfl ?_)
  refine s_nil ?_
  refine t_norm (hK2 _ _ ?_)
  refine wp_ret ?_
  refine c_ret1 Try.results14  (v := (.bool (decide (a ∈ (reachS l [a]))))) rfl ?_
  have hH15 : Has E w14 [R] := (hH13.front 2 rfl).first 1 rfl
  exact ⟨rfl, hH15⟩
end Go.Q
