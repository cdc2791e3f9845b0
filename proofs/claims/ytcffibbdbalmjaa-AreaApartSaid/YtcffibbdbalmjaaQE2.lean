/-
  Parts of a walk: what functions of the program compute, each told by a theorem.
-/
import Derived.Test.YtcffibbdbalmjaaQESh1
import Derived.Test.YtcffibbdbalmjaaQE1
set_option linter.unusedVariables false
set_option linter.unusedSimpArgs false
namespace Go.Q
open Go.Proofs
set_option linter.unusedVariables false
set_option maxRecDepth 100000
attribute [local irreducible] wpList OK Code.wp
set_option maxHeartbeats 4000000 in
theorem blank_c {E w : World} {R : List Hp} (hH : Has E w [R]) :
    Calls Try.prog 76 #[] w fun e w' => e = .returned (S blankS) ∧ Has E w' [R] := by
  refine c_enter (args := []) Try.func76 rfl Try.ntmps76 (by simp) ?_
  refine wp_seq_k fun K1 hK1 => ?_
  refine c_region ?_
  refine s_op (o_assign (v := (S ([] : List UInt8))) rfl ?_)
  refine s_nil ?_
  refine t_norm (hK1 _ _ ?_)
  refine wp_seq_k fun K2 hK2 => ?_
  refine c_region ?_
  refine s_op (o_callf (vs := #[(S [0]), (.int .i64 64)]) ca119 rfl (args2 rfl rfl) (repeat_c hH.all 64 (by decide)) ?_)
  rintro _ w5 ⟨rfl, hX3⟩
  refine ⟨_, rfl, ?_⟩
  have hH4 := hX3.of_all
  refine s_op (o_assign (v := (S blankS)) rfl ?_)
  refine s_nil ?_
  refine t_norm (hK2 _ _ ?_)
  refine wp_ret ?_
  refine c_ret1 Try.results76  (v := (S blankS)) rfl ?_
  exact ⟨rfl, hH4⟩
set_option maxHeartbeats 4000000 in
theorem filled_c {E w : World} {R : List Hp} (hH : Has E w [R]) {v : Value} {l : List Bs} (hv : Sl R 1 v l.length (l.map sV)) (hn : l.length ≤ 1000000) (hl : l.flatten.length ≤ 1000000000) :
    Calls Try.prog 84 #[v] w fun e w' => e = .returned (.tuple #[S (if l.flatten.length ≤ 64 then fillS l.flatten else []), .bool (decide (l.flatten.length ≤ 64))]) ∧ Has E w' [R] := by
  have hn_ := hv.le
  have hb64 := blank_len
  refine c_enter (args := [v]) Try.func84 rfl Try.ntmps84 (by simp) ?_
  refine wp_seq_k fun K1 hK1 => ?_
  refine c_region ?_
  refine s_op (o_assign (v := (S ([] : List UInt8))) rfl ?_)
  refine s_op (o_assign (v := (.bool false)) rfl ?_)
  refine s_nil ?_
  refine t_norm (hK1 _ _ ?_)
  refine wp_seq_k fun K2 hK2 => ?_
  refine c_region ?_
  refine s_op (o_move (v := v) rfl ?_)
  refine s_op (o_callf (vs := #[v, (S ([] : List UInt8))]) ca79 rfl (args2 rfl rfl) (join_c hH.all (l := l) (hv.mono (seg_sub 0 rfl)) (by omega) (by omega)) ?_)
  rintro _ w5 ⟨rfl, hX3⟩
  refine ⟨_, rfl, ?_⟩
  have hH4 := hX3.of_all
  refine s_op (o_assign (v := (S l.flatten)) rfl ?_)
  refine s_nil ?_
  refine t_norm (hK2 _ _ ?_)
  refine wp_seq_k fun K6 hK6 => ?_
  refine wp_seq_k fun K7 hK7 => ?_
  refine c_region ?_
  refine s_op (o_move (v := (S l.flatten)) rfl ?_)
  refine s_op (o_slen Try.underlying9 rfl ?_)
  refine s_op (o_gtr (a := (l.flatten.length : Int)) (b := 64) rfl rfl ?_)
  refine s_nil ?_
  refine t_norm (hK7 _ _ ?_)
  refine c_cond rfl (fun h8 => ?_) (fun h8 => ?_)
  · -- 64 < (l.flatten.length : Int)
    refine wp_seq_k fun K9 hK9 => ?_
    refine c_region ?_
    refine s_op (o_assign (v := (S ([] : List UInt8))) rfl ?_)
    refine s_op (o_assign (v := (.bool false)) rfl ?_)
    refine s_nil ?_
    refine t_norm (hK9 _ _ ?_)
    refine wp_ret ?_
    refine t_ret (c_ret2 Try.results84  (v := (S ([] : List UInt8))) rfl (x := (.bool false)) rfl ?_)
    exact ⟨by rw [if_neg (by omega), decide_eq_false (by omega)], hH4⟩
  · -- not: 64 < (l.flatten.length : Int)
    refine wp_skip ?_
    refine t_norm (hK6 _ _ ?_)
    refine wp_seq_k fun K10 hK10 => ?_
    refine c_region ?_
    refine s_op (o_move (v := (S l.flatten)) rfl ?_)
    refine s_op (o_callf (vs := #[]) ca76 rfl (args0) (blank_c hH4.all) ?_)
    rintro _ w13 ⟨rfl, hX11⟩
    refine ⟨_, rfl, ?_⟩
    have hH12 := hX11.of_all
    refine s_op (o_move (v := (S l.flatten)) rfl ?_)
    refine s_op (o_slen Try.underlying9 rfl ?_)
    refine s_op (o_ssl_l Try.underlying9 rfl rfl (by omega) (by first | omega | (rw [blank_len]; omega)) ?_)
    refine s_op (o_sadd rfl rfl (by rw [List.length_drop, blank_len]; omega) ?_)
    refine s_op (o_assign (v := (S (l.flatten ++ (blankS.drop ((l.flatten.length : Int)).toNat)))) rfl ?_)
    refine s_op (o_assign (v := (.bool true)) rfl ?_)
    refine s_nil ?_
    refine t_norm (hK10 _ _ ?_)
    refine wp_ret ?_
    refine c_ret2 Try.results84  (v := (S (l.flatten ++ (blankS.drop ((l.flatten.length : Int)).toNat)))) rfl (x := (.bool true)) rfl ?_
    exact ⟨by rw [if_pos (by omega), decide_eq_true (by omega)]; rfl, hH12⟩
end Go.Q
