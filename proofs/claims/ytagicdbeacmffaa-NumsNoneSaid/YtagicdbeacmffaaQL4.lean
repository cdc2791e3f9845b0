/-
  Parts of a walk: what functions of the program compute, each told by a theorem.
-/
import Derived.Test.YtagicdbeacmffaaQS5
import Derived.Test.YtagicdbeacmffaaQS6
namespace Go.Q
set_option linter.unusedSimpArgs false
open Go.Proofs
set_option linter.unusedVariables false
set_option maxRecDepth 100000
attribute [local irreducible] wpList OK Code.wp
set_option maxHeartbeats 4000000 in
theorem NumsNone_c {E w : World} {R : List Hp} (hH : Has E w [R]) (n : Int) :
    Calls Try.prog 10 #[(.int .i64 n)] w fun e w' => e = .returned (.bool true) ∧ Has E w' [R] := by
  refine c_enter (args := [(.int .i64 n)]) Try.func10 rfl Try.ntmps10 (by simp) ?_
  refine wp_seq_k fun K1 hK1 => ?_
  refine c_region ?_
  refine s_op (o_assign (v := (.bool false)) rfl ?_)
  refine s_nil ?_
  refine t_norm (hK1 _ _ ?_)
  refine wp_seq_k fun K2 hK2 => ?_
  refine c_region ?_
  refine s_op (o_assign (v := (.pointer none)) rfl ?_)
  refine s_nil ?_
  refine t_norm (hK2 _ _ ?_)
  refine wp_seq_k fun K3 hK3 => ?_
  refine c_region ?_
  refine s_op (o_move (v := (.pointer none)) rfl ?_)
  refine s_op (o_callf (vs := #[(.pointer none)]) ca37 rfl (args1 rfl) (endsN_c hH.all) ?_)
  rintro _ w6 ⟨rfl, hX4⟩
  refine ⟨_, rfl, ?_⟩
  have hH5 := hX4.of_all
  refine s_op (o_move (v := (.tuple #[(.int .i64 (0 : Int)), (.int .i64 (0 : Int)), (.bool false)])) rfl ?_)
  refine s_op (o_extract (v := (.int .i64 (0 : Int))) rfl rfl ?_)
  refine s_op (o_extract (v := (.int .i64 (0 : Int))) rfl rfl ?_)
  refine s_op (o_extract (v := (.bool false)) rfl rfl ?_)
  refine s_op (o_assign (v := (.int .i64 (0 : Int))) rfl ?_)
  refine s_op (o_assign (v := (.int .i64 (0 : Int))) rfl ?_)
  refine s_op (o_assign (v := (.bool false)) rfl ?_)
  refine s_nil ?_
  refine t_norm (hK3 _ _ ?_)
  refine wp_seq_k fun K7 hK7 => ?_
  refine c_region ?_
  refine s_op (o_move (v := (.pointer none)) rfl ?_)
  refine s_op (o_move (v := (.int .i64 n)) rfl ?_)
  refine s_op (o_buildSlice (ps := #[(0, (.int .i64 n))]) (cells := #[(.int .i64 n)]) Try.underlying28 ti3 (by decide) (parts1 rfl) (by kernel_rfl) hH5 fun b8 w9 hH10 => ?_)
  refine s_op (o_callf (vs := #[(.pointer none), (.slice (some ⟨b8, 0, none⟩) 1 1)]) ca43 rfl (args2 rfl rfl) (addN_c hH10.all (l := [n]) ((sl_lit (f := iV) (l := [n]) rfl rfl (by simp)).mono (seg_sub 0 rfl))) ?_)
  rintro _ w13 ⟨rfl, hX11⟩
  refine ⟨_, rfl, ?_⟩
  have hH12 := hX11.of_all
  refine s_op (o_eql (a := (0 : Int)) (b := 0) rfl rfl ?_)
  refine s_op (o_move (v := (.bool (decide ((0 : Int) = 0)))) rfl ?_)
  by_cases h14 : (0 : Int) = 0
  · -- (0 : Int) = 0
    refine s_on 18 rfl (congrArg Value.bool (decide_eq_true h14)) (o_move (v := (.pointer none)) rfl ?_)
    refine s_on 18 rfl (congrArg Value.bool (decide_eq_true h14)) (o_move (v := (.int .i64 n)) rfl ?_)
    refine s_on 18 rfl (congrArg Value.bool (decide_eq_true h14)) (o_buildSlice (ps := #[(0, (.int .i64 n))]) (cells := #[(.int .i64 n)]) Try.underlying28 ti3 (by decide) (parts1 rfl) (by kernel_rfl) hH12 fun b15 w16 hH17 => ?_)
    refine s_on 18 rfl (congrArg Value.bool (decide_eq_true h14)) (o_callf (vs := #[(.pointer none), (.slice (some ⟨b15, 0, none⟩) 1 1)]) ca44 rfl (args2 rfl rfl) (dropN_c hH17.all (l := [n]) ((sl_lit (f := iV) (l := [n]) rfl rfl (by simp)).mono (seg_sub 0 rfl))) ?_)
    rintro _ w20 ⟨rfl, hX18⟩
    refine ⟨_, rfl, ?_⟩
    have hH19 := hX18.of_all
    refine s_on 18 rfl (congrArg Value.bool (decide_eq_true h14)) (o_eql (a := (0 : Int)) (b := 0) rfl rfl ?_)
    refine s_op (o_pick_t (u := (.bool (decide ((0 : Int) = 0)))) ((rfl : _ = _).trans (congrArg Value.bool (decide_eq_true h14))) rfl ?_)
    refine s_op (o_move (v := (.bool (decide ((0 : Int) = 0)))) rfl ?_)
    refine s_on 25 rfl (congrArg Value.bool (decide_eq_true h14)) (o_move (v := (.pointer none)) rfl ?_)
    refine s_on 25 rfl (congrArg Value.bool (decide_eq_true h14)) (o_move (v := (.int .i64 n)) rfl ?_)
    refine s_on 25 rfl (congrArg Value.bool (decide_eq_true h14)) (o_buildSlice (ps := #[(0, (.int .i64 n))]) (cells := #[(.int .i64 n)]) Try.underlying28 ti3 (by decide) (parts1 rfl) (by kernel_rfl) hH19 fun b21 w22 hH23 => ?_)
    refine s_on 25 rfl (congrArg Value.bool (decide_eq_true h14)) (o_callf (vs := #[(.pointer none), (.slice (some ⟨b21, 0, none⟩) 1 1)]) ca41 rfl (args2 rfl rfl) (hasN_c hH23.all (l := [n]) ((sl_lit (f := iV) (l := [n]) rfl rfl (by simp)).mono (seg_sub 0 rfl))) ?_)
    rintro _ w26 ⟨rfl, hX24⟩
    refine ⟨_, rfl, ?_⟩
    have hH25 := hX24.of_all
    refine s_on 25 rfl (congrArg Value.bool (decide_eq_true h14)) (o_not rfl ?_)
    refine s_op (o_pick_t (u := (.bool true)) ((rfl : _ = _).trans (congrArg Value.bool (decide_eq_true h14))) rfl ?_)
    refine s_op (o_move (v := (.bool true)) rfl ?_)
    refine s_on 32 rfl rfl (o_move (v := (.pointer none)) rfl ?_)
    refine s_on 32 rfl rfl (o_callf (vs := #[(.pointer none), (.slice none 0 0)]) ca41 rfl (args2 rfl rfl) (hasN_c hH25.all (l := ([] : List Int)) ((sl_nil (L := []) 1).mono (List.nil_subset _))) ?_)
    rintro _ w29 ⟨rfl, hX27⟩
    refine ⟨_, rfl, ?_⟩
    have hH28 := hX27.of_all
    refine s_op (o_pick_t (u := (.bool true)) rfl rfl ?_)
    refine s_op (o_move (v := (.bool true)) rfl ?_)
    refine s_on 36 rfl rfl (o_move (v := (.pointer none)) rfl ?_)
    refine s_on 36 rfl rfl (o_callf (vs := #[(.pointer none)]) ca40 rfl (args1 rfl) (lenN_c hH28.all) ?_)
    rintro _ w32 ⟨rfl, hX30⟩
    refine ⟨_, rfl, ?_⟩
    have hH31 := hX30.of_all
    refine s_on 36 rfl rfl (o_eql (a := (0 : Int)) (b := 0) rfl rfl ?_)
    refine s_op (o_pick_t (u := (.bool (decide ((0 : Int) = 0)))) rfl rfl ?_)
    refine s_op (o_move (v := (.bool (decide ((0 : Int) = 0)))) rfl ?_)
    refine s_on 41 rfl (congrArg Value.bool (decide_eq_true h14)) (o_move (v := (.int .i64 (0 : Int))) rfl ?_)
    refine s_on 41 rfl (congrArg Value.bool (decide_eq_true h14)) (o_eql (a := (0 : Int)) (b := 0) rfl rfl ?_)
    refine s_op (o_pick_t (u := (.bool (decide ((0 : Int) = 0)))) ((rfl : _ = _).trans (congrArg Value.bool (decide_eq_true h14))) rfl ?_)
    refine s_op (o_move (v := (.bool (decide ((0 : Int) = 0)))) rfl ?_)
    refine s_on 45 rfl (congrArg Value.bool (decide_eq_true h14)) (o_move (v := (.int .i64 (0 : Int))) rfl ?_)
    refine s_on 45 rfl (congrArg Value.bool (decide_eq_true h14)) (o_eql (a := (0 : Int)) (b := 0) rfl rfl ?_)
    refine s_op (o_pick_t (u := (.bool (decide ((0 : Int) = 0)))) ((rfl : _ = _).trans (congrArg Value.bool (decide_eq_true h14))) rfl ?_)
    refine s_op (o_move (v := (.bool (decide ((0 : Int) = 0)))) rfl ?_)
    refine s_on 49 rfl (congrArg Value.bool (decide_eq_true h14)) (o_move (v := (.bool false)) rfl ?_)
    refine s_on 49 rfl (congrArg Value.bool (decide_eq_true h14)) (o_not rfl ?_)
    refine s_op (o_pick_t (u := (.bool true)) ((rfl : _ = _).trans (congrArg Value.bool (decide_eq_true h14))) rfl ?_)
    refine s_op (o_move (v := (.bool true)) rfl ?_)
    refine s_on 53 rfl rfl (o_move (v := (.pointer none)) rfl ?_)
    refine s_on 53 rfl rfl (o_callf (vs := #[(.pointer none)]) ca39 rfl (args1 rfl) (listN_c hH31.all) ?_)
    rintro _ w35 ⟨rfl, hX33⟩
    refine ⟨_, rfl, ?_⟩
    have hH34 := hX33.of_all
    refine s_on 53 rfl rfl (o_lenS Try.underlying28 rfl (sl_nil (L := []) 1) ?_)
    refine s_on 53 rfl rfl (o_eql (a := ((0 : Nat) : Int)) (b := 0) rfl rfl ?_)
    refine s_op (o_pick_t (u := (.bool (decide (((0 : Nat) : Int) = 0)))) rfl rfl ?_)
    refine s_op (o_move (v := (.bool (decide (((0 : Nat) : Int) = 0)))) rfl ?_)
    by_cases h36 : ((0 : Nat) : Int) = 0
    · -- ((0 : Nat) : Int) = 0
      refine s_on 59 rfl (congrArg Value.bool (decide_eq_true h36)) (o_move (v := (.pointer none)) rfl ?_)
      refine s_on 59 rfl (congrArg Value.bool (decide_eq_true h36)) (o_move (v := (.int .i64 n)) rfl ?_)
      refine s_on 59 rfl (congrArg Value.bool (decide_eq_true h36)) (o_callf (vs := #[(.pointer none), (.int .i64 n)]) ca42 rfl (args2 rfl rfl) (fromN_c hH34.all n) ?_)
      rintro _ w39 ⟨rfl, hX37⟩
      refine ⟨_, rfl, ?_⟩
      have hH38 := hX37.of_all
      refine s_on 59 rfl (congrArg Value.bool (decide_eq_true h36)) (o_lenS Try.underlying28 rfl (sl_nil (L := []) 1) ?_)
      refine s_on 59 rfl (congrArg Value.bool (decide_eq_true h36)) (o_eql (a := ((0 : Nat) : Int)) (b := 0) rfl rfl ?_)
      refine s_op (o_pick_t (u := (.bool (decide (((0 : Nat) : Int) = 0)))) ((rfl : _ = _).trans (congrArg Value.bool (decide_eq_true h36))) rfl ?_)
      refine s_op (o_move (v := (.bool (decide (((0 : Nat) : Int) = 0)))) rfl ?_)
      refine s_on 66 rfl (congrArg Value.bool (decide_eq_true h36)) (o_callf (vs := #[]) ca27 rfl (args0) (awake_c hH38.all) ?_)
      rintro _ w42 ⟨rfl, hX40⟩
      refine ⟨_, rfl, ?_⟩
      have hH41 := hX40.of_all
      refine s_op (o_pick_t (u := (.bool true)) ((rfl : _ = _).trans (congrArg Value.bool (decide_eq_true h36))) rfl ?_)
      refine s_op (o_assign (v := (.bool true)) rfl ?_)
      refine s_nil ?_
      refine t_norm (hK7 _ _ ?_)
      refine wp_ret ?_
      refine c_ret1 Try.results10 (v := (.bool true)) rfl ?_
      have hH43 : Has E w42 [R] := (hH41.front 3 rfl).first 1 rfl
      exact ⟨rfl, hH43⟩
    · -- not: ((0 : Nat) : Int) = 0
      exact absurd rfl h36
  · -- not: (0 : Int) = 0
    exact absurd rfl h14
end Go.Q
