/-
  Parts of a walk: what functions of the program compute, each told by a theorem.
-/
import Derived.Test.YtagicdbeacmffaaQKI
import Derived.Test.YtagicdbeacmffaaQJ
import Derived.Test.YtagicdbeacmffaaQM
import Derived.Test.YtagicdbeacmffaaQBase
set_option linter.unusedVariables false
set_option linter.unusedSimpArgs false
namespace Go.Q
open Go.Proofs
set_option linter.unusedVariables false
set_option maxRecDepth 100000
attribute [local irreducible] wpList OK Code.wp
set_option maxHeartbeats 4000000 in
theorem met_c {E w : World} {R : List Hp} {b m1 m2 : Nat} {hi : Int} {v : Value} (hH : Has E w [[Hp.one b (.cells #[(.int .i64 hi), v, (.map (some m1)), (.map (some m2))] 75 (0, 0))], R]) (n : Int) :
    Calls Try.prog 45 #[(.pointer (some ⟨b, 0, none⟩)), (.int .i64 n)] w fun e w' => e = .returned (.int .i64 n) ∧ Has E w' [[Hp.one b (.cells #[(.int .i64 (max hi n)), v, (.map (some m1)), (.map (some m2))] 75 (0, 0))], R] := by
  refine c_enter (args := [(.pointer (some ⟨b, 0, none⟩)), (.int .i64 n)]) Try.func45 rfl Try.ntmps45 (by simp) ?_
  refine wp_seq_k fun K1 hK1 => ?_
  refine c_region ?_
  refine s_op (o_assign (v := (.int .i64 0)) rfl ?_)
  refine s_nil ?_
  refine t_norm (hK1 _ _ ?_)
  refine wp_seq_k fun K2 hK2 => ?_
  refine c_region ?_
  refine s_op (o_move (v := (.pointer (some ⟨b, 0, none⟩))) rfl ?_)
  refine s_op (o_move (v := (.pointer (some ⟨b, 0, none⟩))) rfl ?_)
  refine s_op (o_nilCheck rfl ?_)
  refine s_op (o_fieldAddr (k := 0) (fun _ => by kernel_rfl) rfl ?_)
  refine s_op (o_load1 (v := (.int .i64 hi)) Try.underlying3 rfl rfl hH (seg_sub 0 rfl) (CellsAt.one rfl) ?_)
  refine s_op (o_move (v := (.int .i64 n)) rfl ?_)
  refine s_op (o_max (a := hi) (b := n) rfl rfl ?_)
  refine s_op (o_nilCheck rfl ?_)
  refine s_op (o_fieldAddr (k := 0) (fun _ => by kernel_rfl) rfl ?_)
  refine s_eff (o_store1 (c' := #[(.int .i64 (max hi n)), v, (.map (some m1)), (.map (some m2))]) ti3 rfl rfl rfl (by simp) rfl (hH.front 0 rfl) fun w3 hH4 => ?_)
  refine s_nil ?_
  refine t_norm (hK2 _ _ ?_)
  refine wp_seq_k fun K5 hK5 => ?_
  refine c_region ?_
  refine s_op (o_move (v := (.int .i64 n)) rfl ?_)
  refine s_op (o_assign (v := (.int .i64 n)) rfl ?_)
  refine s_nil ?_
  refine t_norm (hK5 _ _ ?_)
  refine wp_ret ?_
  refine c_ret1 Try.results45 (v := (.int .i64 n)) rfl ?_
  exact ⟨rfl, hH4⟩
end Go.Q
