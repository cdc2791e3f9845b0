/-
  Parts of a walk: what functions of the program compute, each told by a theorem.
-/
import Derived.Test.YtagicdbeacmffaaQKI
import Derived.Test.YtagicdbeacmffaaQJ
import Derived.Test.YtagicdbeacmffaaQM
import Derived.Test.YtagicdbeacmffaaQBase
set_option linter.unusedVariables false
set_option linter.unusedSimpArgs false
namespace Go.Q
open Go.Proofs
set_option linter.unusedVariables false
set_option maxRecDepth 100000
attribute [local irreducible] wpList OK Code.wp
set_option maxHeartbeats 4000000 in
theorem new_c {E w : World} {R : List Hp} (hH : Has E w [R]) (n : Int) (hn : 1 ≤ n ∧ n ≤ 8) :
    Calls Try.prog 13 #[(.int .i64 n)] w fun e w' => ∃ (b m1 m2 : Nat) (v' : Value) (hs' : List Hp), e = .returned (.pointer (some ⟨b, 0, none⟩)) ∧ Own 3 1 v' (List.replicate n.toNat (0 : Int)).length ((List.replicate n.toNat (0 : Int)).map iV) hs' ∧ Has E w' [hs', [Hp.one m1 (.map #[] 0)], [Hp.one m2 (.map #[] 0)], [Hp.one b (.cells #[(.int .i64 0), v', (.map (some m1)), (.map (some m2))] 75 (0, 0))], R] := by
  refine c_enter (args := [(.int .i64 n)]) Try.func13 rfl Try.ntmps13 (by simp) ?_
  refine wp_seq_k fun K1 hK1 => ?_
  refine c_region ?_
  refine s_op (o_assign (v := (.pointer none)) rfl ?_)
  refine s_nil ?_
  refine t_norm (hK1 _ _ ?_)
  refine wp_seq_k fun K2 hK2 => ?_
  refine wp_seq_k fun K3 hK3 => ?_
  refine c_region ?_
  refine s_op (o_move (v := (.int .i64 n)) rfl ?_)
  refine s_op (o_lss (a := n) (b := 1) rfl rfl ?_)
  refine s_op (o_move (v := (.bool (decide (n < 1)))) rfl ?_)
  by_cases h4 : n < 1
  · -- n < 1
    exfalso; omega
  · -- not: n < 1
    refine s_on 5 rfl (congrArg Value.bool (decide_eq_false h4)) (o_move (v := (.int .i64 n)) rfl ?_)
    refine s_on 5 rfl (congrArg Value.bool (decide_eq_false h4)) (o_gtr (a := n) (b := 8) rfl rfl ?_)
    refine s_op (o_pick_f (u := (.bool (decide (8 < n)))) ((rfl : _ = _).trans (congrArg Value.bool (decide_eq_false h4))) rfl ?_)
    refine s_nil ?_
    refine t_norm (hK3 _ _ ?_)
    refine c_cond rfl (fun h5 => ?_) (fun h5 => ?_)
    · -- 8 < n
      exfalso; omega
    · -- not: 8 < n
      refine wp_skip ?_
      refine t_norm (hK2 _ _ ?_)
      refine wp_seq_k fun K6 hK6 => ?_
      refine c_region ?_
      refine s_op (o_move (v := (.int .i64 n)) rfl ?_)
      refine s_op (o_make Try.underlying28 ti3 rfl rfl (by omega) (by omega) (by omega) (by omega) hH fun v7 s8 w10 ho9 hH11 => ?_)
      have ho12 : Own 3 1 v7 (List.replicate (n).toNat (0 : Int)).length ((List.replicate (n).toNat (0 : Int)).map iV) s8 := by rw [List.length_replicate, List.map_replicate, ← made_rep]; exact ho9
      obtain ⟨p13, c14, rfl⟩ := (Own.sl ho9).form
      refine s_op (o_makeMap hH11 fun m15 w16 hH17 => ?_)
      refine s_op (o_makeMap hH17 fun m18 w19 hH20 => ?_)
      refine s_op (o_sight (v := (.agg #[(.int .i64 0), (.slice p13 (n).toNat c14), (.map (some m15)), (.map (some m18))])) (fun _ => by kernel_rfl) ?_)
      refine s_op (o_box (cs := #[(.int .i64 0), (.slice p13 (n).toNat c14), (.map (some m15)), (.map (some m18))]) rfl rfl hH20 fun b21 w22 hH23 => ?_)
      refine s_op (o_assign (v := (.pointer (some ⟨b21, 0, none⟩))) rfl ?_)
      refine s_nil ?_
      refine t_norm (hK6 _ _ ?_)
      refine wp_ret ?_
      refine c_ret1 Try.results13 (v := (.pointer (some ⟨b21, 0, none⟩))) rfl ?_
      have hH24 : Has E w22 [s8, [Hp.one m15 (.map #[] 0)], [Hp.one m18 (.map #[] 0)], [Hp.one b21 (.cells #[(.int .i64 0), (.slice p13 (n).toNat c14), (.map (some m15)), (.map (some m18))] 75 (0, 0))], R] := (((((hH23.front 4 rfl).front 1 rfl).front 2 rfl).front 3 rfl).front 4 rfl).first 5 rfl
      exact ⟨_, _, _, _, _, rfl, ho12, hH24⟩
end Go.Q
