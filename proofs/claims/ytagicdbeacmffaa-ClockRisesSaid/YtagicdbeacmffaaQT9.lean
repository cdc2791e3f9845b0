/-
  Parts of a walk: what functions of the program compute, each told by a theorem.
-/
import Derived.Test.YtagicdbeacmffaaQT8
import Derived.Test.YtagicdbeacmffaaQT2
set_option linter.unusedVariables false
set_option linter.unusedSimpArgs false
namespace Go.Q
open Go.Proofs
set_option linter.unusedVariables false
set_option maxRecDepth 100000
attribute [local irreducible] wpList OK Code.wp
set_option maxHeartbeats 4000000 in
theorem awake9_c {E w : World} {R : List Hp} (hH : Has E w [R]) :
    Calls Try.prog 12 #[] w fun e w' => e = .returned (.bool true) ∧ Has E w' [R] := by
  refine c_enter (args := []) Try.func12 rfl Try.ntmps12 (by simp) ?_
  refine wp_seq_k fun K1 hK1 => ?_
  refine c_region ?_
  refine s_op (o_assign (v := (.bool false)) rfl ?_)
  refine s_nil ?_
  refine t_norm (hK1 _ _ ?_)
  refine wp_seq_k fun K2 hK2 => ?_
  refine c_region ?_
  refine s_op (o_callf (vs := #[(.int .i64 2)]) ca13 rfl (args1 rfl) (new_c hH.all 2 (by decide)) ?_)
  rintro _ w12 ⟨b3, m4, m5, v6, s7, rfl, ho8, hX10⟩
  refine ⟨_, rfl, ?_⟩
  have hH11 : Has E w12 [s7, [Hp.one m4 (.map #[] 0)], [Hp.one m5 (.map #[] 0)], [Hp.one b3 (.cells #[(.int .i64 0), v6, (.map (some m4)), (.map (some m5))] 75 (0, 0))], R] := hX10.of_all4
  have ho9 : Own 3 1 v6 ([0, 0] : List Int).length (([0, 0] : List Int).map iV) s7 := ho8
  refine s_op (o_assign (v := (.pointer (some ⟨b3, 0, none⟩))) rfl ?_)
  refine s_nil ?_
  refine t_norm (hK2 _ _ ?_)
  refine wp_seq_k fun K13 hK13 => ?_
  refine c_region ?_
  refine s_op (o_move (v := (.pointer (some ⟨b3, 0, none⟩))) rfl ?_)
  refine s_op (o_callf (vs := #[(.pointer (some ⟨b3, 0, none⟩)), (.int .i64 0), (.int .i64 5), (.int .i64 1)]) ca17 rfl (args4 rfl rfl rfl rfl) (ctick_c ((((hH11.front 3 rfl).front 3 rfl).front 3 rfl).front 3 rfl).all4 ho9 MapII.nil MapII.nil (by decide) 0 5 1 (1 : Int) (by decide) (by decide) (by decide) ) ?_)
  rintro _ w27 ⟨s14, es15, c16, es17, c18, rfl, ho19, h20, h21, hX25⟩
  refine ⟨_, rfl, ?_⟩
  have hH26 : Has E w27 [s14, [Hp.one m4 (.map es15 c16)], [Hp.one m5 (.map es17 c18)], [Hp.one b3 (.cells #[(.int .i64 (1 : Int)), v6, (.map (some m4)), (.map (some m5))] 75 (0, 0))], R] := hX25.of_all4
  have ho22 : Own 3 1 v6 ([1, 0] : List Int).length (([1, 0] : List Int).map iV) s14 := ho19
  have h23 : MapII es15 [(5, 1)] := h20
  have h24 : MapII es17 [(1, 1)] := h21
  refine s_op (o_move (v := (.tuple #[(.int .i64 (1 : Int)), (.int .i64 (0 : Int))])) rfl ?_)
  refine s_op (o_extract (v := (.int .i64 (1 : Int))) rfl rfl ?_)
  refine s_op (o_extract (v := (.int .i64 (0 : Int))) rfl rfl ?_)
  refine s_op (o_assign (v := (.int .i64 (1 : Int))) rfl ?_)
  refine s_op (o_assign (v := (.int .i64 (0 : Int))) rfl ?_)
  refine s_nil ?_
  refine t_norm (hK13 _ _ ?_)
  refine wp_seq_k fun K28 hK28 => ?_
  refine c_region ?_
  refine s_op (o_move (v := (.pointer (some ⟨b3, 0, none⟩))) rfl ?_)
  refine s_op (o_callf (vs := #[(.pointer (some ⟨b3, 0, none⟩)), (.int .i64 1), (.int .i64 5), (.int .i64 2)]) ca17 rfl (args4 rfl rfl rfl rfl) (ctick_c ((((hH26.front 3 rfl).front 3 rfl).front 3 rfl).front 3 rfl).all4 ho22 h23 h24 (by decide) 1 5 2 (2 : Int) (by decide) (by decide) (by decide) ) ?_)
  rintro _ w42 ⟨s29, es30, c31, es32, c33, rfl, ho34, h35, h36, hX40⟩
  refine ⟨_, rfl, ?_⟩
  have hH41 : Has E w42 [s29, [Hp.one m4 (.map es30 c31)], [Hp.one m5 (.map es32 c33)], [Hp.one b3 (.cells #[(.int .i64 (2 : Int)), v6, (.map (some m4)), (.map (some m5))] 75 (0, 0))], R] := hX40.of_all4
  have ho37 : Own 3 1 v6 ([1, 2] : List Int).length (([1, 2] : List Int).map iV) s29 := ho34
  have h38 : MapII es30 [(5, 2)] := h35
  have h39 : MapII es32 [(1, 1), (2, 2)] := h36
  refine s_op (o_move (v := (.tuple #[(.int .i64 (2 : Int)), (.int .i64 (0 : Int))])) rfl ?_)
  refine s_op (o_extract (v := (.int .i64 (2 : Int))) rfl rfl ?_)
  refine s_op (o_extract (v := (.int .i64 (0 : Int))) rfl rfl ?_)
  refine s_op (o_assign (v := (.int .i64 (2 : Int))) rfl ?_)
  refine s_op (o_assign (v := (.int .i64 (0 : Int))) rfl ?_)
  refine s_nil ?_
  refine t_norm (hK28 _ _ ?_)
  refine wp_seq_k fun K43 hK43 => ?_
  refine c_region ?_
  refine s_op (o_move (v := (.pointer (some ⟨b3, 0, none⟩))) rfl ?_)
  refine s_op (o_callf (vs := #[(.pointer (some ⟨b3, 0, none⟩)), (.int .i64 0), (.int .i64 6), (.int .i64 3)]) ca17 rfl (args4 rfl rfl rfl rfl) (ctick_c ((((hH41.front 3 rfl).front 3 rfl).front 3 rfl).front 3 rfl).all4 ho37 h38 h39 (by decide) 0 6 3 (2 : Int) (by decide) (by decide) (by decide) ) ?_)
  rintro _ w57 ⟨s44, es45, c46, es47, c48, rfl, ho49, h50, h51, hX55⟩
  refine ⟨_, rfl, ?_⟩
  have hH56 : Has E w57 [s44, [Hp.one m4 (.map es45 c46)], [Hp.one m5 (.map es47 c48)], [Hp.one b3 (.cells #[(.int .i64 (2 : Int)), v6, (.map (some m4)), (.map (some m5))] 75 (0, 0))], R] := hX55.of_all4
  have ho52 : Own 3 1 v6 ([2, 2] : List Int).length (([2, 2] : List Int).map iV) s44 := ho49
  have h53 : MapII es45 [(5, 2), (6, 2)] := h50
  have h54 : MapII es47 [(1, 1), (2, 2), (3, 2)] := h51
  refine s_op (o_move (v := (.tuple #[(.int .i64 (2 : Int)), (.int .i64 (0 : Int))])) rfl ?_)
  refine s_op (o_extract (v := (.int .i64 (2 : Int))) rfl rfl ?_)
  refine s_op (o_extract (v := (.int .i64 (0 : Int))) rfl rfl ?_)
  refine s_op (o_assign (v := (.int .i64 (2 : Int))) rfl ?_)
  refine s_op (o_assign (v := (.int .i64 (0 : Int))) rfl ?_)
  refine s_nil ?_
  refine t_norm (hK43 _ _ ?_)
  refine wp_seq_k fun K58 hK58 => ?_
  refine c_region ?_
  refine s_op (o_move (v := (.pointer (some ⟨b3, 0, none⟩))) rfl ?_)
  refine s_op (o_pnnil (p := some _) Try.underlying25 rfl rfl ?_)
  refine s_op (o_move (v := (.bool true)) rfl ?_)
  refine s_on 26 rfl rfl (o_move (v := (.int .i64 (1 : Int))) rfl ?_)
  refine s_on 26 rfl rfl (o_eql (a := (1 : Int)) (b := 1) rfl rfl ?_)
  refine s_op (o_pick_t (u := (.bool (decide ((1 : Int) = 1)))) rfl rfl ?_)
  refine s_op (o_move (v := (.bool (decide ((1 : Int) = 1)))) rfl ?_)
  by_cases h59 : (1 : Int) = 1
  · -- (1 : Int) = 1
    refine s_on 30 rfl (congrArg Value.bool (decide_eq_true h59)) (o_move (v := (.int .i64 (0 : Int))) rfl ?_)
    refine s_on 30 rfl (congrArg Value.bool (decide_eq_true h59)) (o_eql (a := (0 : Int)) (b := 0) rfl rfl ?_)
    refine s_op (o_pick_t (u := (.bool (decide ((0 : Int) = 0)))) ((rfl : _ = _).trans (congrArg Value.bool (decide_eq_true h59))) rfl ?_)
    refine s_op (o_move (v := (.bool (decide ((0 : Int) = 0)))) rfl ?_)
    by_cases h60 : (0 : Int) = 0
    · -- (0 : Int) = 0
      refine s_on 34 rfl (congrArg Value.bool (decide_eq_true h60)) (o_move (v := (.int .i64 (2 : Int))) rfl ?_)
      refine s_on 34 rfl (congrArg Value.bool (decide_eq_true h60)) (o_eql (a := (2 : Int)) (b := 2) rfl rfl ?_)
      refine s_op (o_pick_t (u := (.bool (decide ((2 : Int) = 2)))) ((rfl : _ = _).trans (congrArg Value.bool (decide_eq_true h60))) rfl ?_)
      refine s_op (o_move (v := (.bool (decide ((2 : Int) = 2)))) rfl ?_)
      by_cases h61 : (2 : Int) = 2
      · -- (2 : Int) = 2
        refine s_on 38 rfl (congrArg Value.bool (decide_eq_true h61)) (o_move (v := (.int .i64 (0 : Int))) rfl ?_)
        refine s_on 38 rfl (congrArg Value.bool (decide_eq_true h61)) (o_eql (a := (0 : Int)) (b := 0) rfl rfl ?_)
        refine s_op (o_pick_t (u := (.bool (decide ((0 : Int) = 0)))) ((rfl : _ = _).trans (congrArg Value.bool (decide_eq_true h61))) rfl ?_)
        refine s_op (o_move (v := (.bool (decide ((0 : Int) = 0)))) rfl ?_)
        refine s_on 42 rfl (congrArg Value.bool (decide_eq_true h60)) (o_move (v := (.int .i64 (2 : Int))) rfl ?_)
        refine s_on 42 rfl (congrArg Value.bool (decide_eq_true h60)) (o_eql (a := (2 : Int)) (b := 2) rfl rfl ?_)
        refine s_op (o_pick_t (u := (.bool (decide ((2 : Int) = 2)))) ((rfl : _ = _).trans (congrArg Value.bool (decide_eq_true h60))) rfl ?_)
        refine s_op (o_move (v := (.bool (decide ((2 : Int) = 2)))) rfl ?_)
        refine s_on 46 rfl (congrArg Value.bool (decide_eq_true h61)) (o_move (v := (.int .i64 (0 : Int))) rfl ?_)
        refine s_on 46 rfl (congrArg Value.bool (decide_eq_true h61)) (o_eql (a := (0 : Int)) (b := 0) rfl rfl ?_)
        refine s_op (o_pick_t (u := (.bool (decide ((0 : Int) = 0)))) ((rfl : _ = _).trans (congrArg Value.bool (decide_eq_true h61))) rfl ?_)
        refine s_op (o_move (v := (.bool (decide ((0 : Int) = 0)))) rfl ?_)
        refine s_on 50 rfl (congrArg Value.bool (decide_eq_true h60)) (o_move (v := (.pointer (some ⟨b3, 0, none⟩))) rfl ?_)
        refine s_on 50 rfl (congrArg Value.bool (decide_eq_true h60)) (o_callf (vs := #[(.pointer (some ⟨b3, 0, none⟩))]) ca25 rfl (args1 rfl) (ctop_c (hH56.front 3 rfl).all1) ?_)
        rintro _ w64 ⟨rfl, hX62⟩
        refine ⟨_, rfl, ?_⟩
        have hH63 : Has E w64 [[Hp.one b3 (.cells #[(.int .i64 (2 : Int)), v6, (.map (some m4)), (.map (some m5))] 75 (0, 0))], s44, [Hp.one m4 (.map es45 c46)], [Hp.one m5 (.map es47 c48)], R] := hX62.of_all1
        refine s_on 50 rfl (congrArg Value.bool (decide_eq_true h60)) (o_eql (a := (2 : Int)) (b := 2) rfl rfl ?_)
        refine s_op (o_pick_t (u := (.bool (decide ((2 : Int) = 2)))) ((rfl : _ = _).trans (congrArg Value.bool (decide_eq_true h60))) rfl ?_)
        refine s_op (o_assign (v := (.bool (decide ((2 : Int) = 2)))) rfl ?_)
        refine s_nil ?_
        refine t_norm (hK58 _ _ ?_)
        refine wp_ret ?_
        refine c_ret1 Try.results12 (v := (.bool (decide ((2 : Int) = 2)))) rfl ?_
        have hH65 : Has E w64 [R] := (hH63.front 4 rfl).first 1 rfl
        exact ⟨rfl, hH65⟩
      · -- not: (2 : Int) = 2
        exact absurd (by decide) h61
    · -- not: (0 : Int) = 0
      exact absurd (by decide) h60
  · -- not: (1 : Int) = 1
    exact absurd (by decide) h59
end Go.Q
