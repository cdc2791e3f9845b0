/-
  Parts of a walk: what functions of the program compute, each told by a theorem.
-/
import Derived.Test.YtagicdbeacmffaaDoorQV8
import Derived.Test.YtagicdbeacmffaaDoorQV9
set_option linter.unusedVariables false
set_option linter.unusedSimpArgs false
namespace Go.Q
open Go.Proofs
set_option linter.unusedVariables false
set_option maxRecDepth 100000
attribute [local irreducible] wpList OK Code.wp
set_option maxHeartbeats 4000000 in
theorem awake3_c {E w : World} {R : List Hp} (hH : Has E w [R]) (hg : CellsAt R 0 0 nibV) :
    Calls Tryd.prog 23 #[] w fun e w' => e = .returned (.bool true) ∧ Has E w' [R] := by
  refine c_enter (args := []) Tryd.func23 rfl Tryd.ntmps23 (by simp) ?_
  refine wp_seq_k fun K1 hK1 => ?_
  refine c_region ?_
  refine s_op (o_assign (v := (.bool false)) rfl ?_)
  refine s_nil ?_
  refine t_norm (hK1 _ _ ?_)
  refine wp_seq_k fun K2 hK2 => ?_
  refine c_region ?_
  refine s_op (o_sight (v := (.agg #[(.int .i64 1), (.int .i64 0), (.int .i64 5), (S [97])])) (fun _ => by kernel_rfl) ?_)
  refine s_op (o_buildSlice (ps := #[(0, (S [98]))]) (cells := #[(S [98])]) Tryd.underlying22 ti9 (by decide) (parts1 rfl) (by kernel_rfl) hH fun b3 w4 hH5 => ?_)
  refine s_op (o_callf (vs := #[(.agg #[(.int .i64 1), (.int .i64 0), (.int .i64 5), (S [97])]), (.slice (some ⟨b3, 0, none⟩) 1 1)]) ca26 rfl (args2 rfl rfl) (make_c hH5.all (hg.mono (seg_sub 1 rfl)) (Fr.mk 1 0 5 [97]) (by decide) (l := [[98]]) ((sl_lit (f := sV) (l := [[98]]) rfl rfl (by simp)).mono (seg_sub 0 rfl)) (by decide) (by decide) (by decide)) ?_)
  rintro _ w8 ⟨rfl, hX6⟩
  refine ⟨_, rfl, ?_⟩
  have hH7 := hX6.of_all
  refine s_op (o_assign (v := (S (makeS (Fr.mk 1 0 5 ([97] ++ [[98]].flatten))))) rfl ?_)
  refine s_nil ?_
  refine t_norm (hK2 _ _ ?_)
  refine wp_seq_k fun K9 hK9 => ?_
  refine c_region ?_
  refine s_op (o_move (v := (S (makeS (Fr.mk 1 0 5 ([97] ++ [[98]].flatten))))) rfl ?_)
  refine s_op (o_sadd rfl rfl (by decide +kernel) ?_)
  refine s_op (o_callf (vs := #[(S ((makeS (Fr.mk 1 0 5 ([97] ++ [[98]].flatten))) ++ [109, 111, 114, 101]))]) ca24 rfl (args1 rfl) (fopen_c hH7.all (hg.mono (seg_sub 1 rfl)) ((makeS (Fr.mk 1 0 5 ([97] ++ [[98]].flatten))) ++ [109, 111, 114, 101]) (by decide +kernel)) ?_)
  rintro _ w12 ⟨rfl, hX10⟩
  refine ⟨_, rfl, ?_⟩
  have hH11 := hX10.of_all
  refine s_op (o_move (v := (.tuple #[(.agg #[(.int .i64 ((oF ((makeS (Fr.mk 1 0 5 ([97] ++ [[98]].flatten))) ++ [109, 111, 114, 101])).ep)), (.int .i64 ((oF ((makeS (Fr.mk 1 0 5 ([97] ++ [[98]].flatten))) ++ [109, 111, 114, 101])).pl)), (.int .i64 ((oF ((makeS (Fr.mk 1 0 5 ([97] ++ [[98]].flatten))) ++ [109, 111, 114, 101])).gsn)), (S ((oF ((makeS (Fr.mk 1 0 5 ([97] ++ [[98]].flatten))) ++ [109, 111, 114, 101])).data))]), (.int .i64 (oN ((makeS (Fr.mk 1 0 5 ([97] ++ [[98]].flatten))) ++ [109, 111, 114, 101]))), (.bool (opensB ((makeS (Fr.mk 1 0 5 ([97] ++ [[98]].flatten))) ++ [109, 111, 114, 101])))])) rfl ?_)
  refine s_op (o_extract (v := (.agg #[(.int .i64 ((oF ((makeS (Fr.mk 1 0 5 ([97] ++ [[98]].flatten))) ++ [109, 111, 114, 101])).ep)), (.int .i64 ((oF ((makeS (Fr.mk 1 0 5 ([97] ++ [[98]].flatten))) ++ [109, 111, 114, 101])).pl)), (.int .i64 ((oF ((makeS (Fr.mk 1 0 5 ([97] ++ [[98]].flatten))) ++ [109, 111, 114, 101])).gsn)), (S ((oF ((makeS (Fr.mk 1 0 5 ([97] ++ [[98]].flatten))) ++ [109, 111, 114, 101])).data))])) rfl rfl ?_)
  refine s_op (o_extract (v := (.int .i64 (oN ((makeS (Fr.mk 1 0 5 ([97] ++ [[98]].flatten))) ++ [109, 111, 114, 101])))) rfl rfl ?_)
  refine s_op (o_extract (v := (.bool (opensB ((makeS (Fr.mk 1 0 5 ([97] ++ [[98]].flatten))) ++ [109, 111, 114, 101])))) rfl rfl ?_)
  refine s_op (o_alloc (cs := #[(.int .i64 0), (.int .i64 0), (.int .i64 0), (S ([] : List UInt8))]) ti40 rfl hH11 fun b13 w14 hH15 => ?_)
  refine s_eff (o_storeN (vs := [(.int .i64 ((oF ((makeS (Fr.mk 1 0 5 ([97] ++ [[98]].flatten))) ++ [109, 111, 114, 101])).ep)), (.int .i64 ((oF ((makeS (Fr.mk 1 0 5 ([97] ++ [[98]].flatten))) ++ [109, 111, 114, 101])).pl)), (.int .i64 ((oF ((makeS (Fr.mk 1 0 5 ([97] ++ [[98]].flatten))) ++ [109, 111, 114, 101])).gsn)), (S ((oF ((makeS (Fr.mk 1 0 5 ([97] ++ [[98]].flatten))) ++ [109, 111, 114, 101])).data))]) (c' := #[(.int .i64 ((oF ((makeS (Fr.mk 1 0 5 ([97] ++ [[98]].flatten))) ++ [109, 111, 114, 101])).ep)), (.int .i64 ((oF ((makeS (Fr.mk 1 0 5 ([97] ++ [[98]].flatten))) ++ [109, 111, 114, 101])).pl)), (.int .i64 ((oF ((makeS (Fr.mk 1 0 5 ([97] ++ [[98]].flatten))) ++ [109, 111, 114, 101])).gsn)), (S ((oF ((makeS (Fr.mk 1 0 5 ([97] ++ [[98]].flatten))) ++ [109, 111, 114, 101])).data))]) ti40 rfl rfl rfl rfl (by intro u hu; simp only [List.mem_cons, List.not_mem_nil, or_false] at hu; rcases hu with rfl | rfl | rfl | rfl <;> first | rfl) (by simp) (by kernel_rfl) (hH15.front 0 rfl) fun w16 hH17 => ?_)
  refine s_op (o_assign (v := (.int .i64 (oN ((makeS (Fr.mk 1 0 5 ([97] ++ [[98]].flatten))) ++ [109, 111, 114, 101])))) rfl ?_)
  refine s_op (o_assign (v := (.bool (opensB ((makeS (Fr.mk 1 0 5 ([97] ++ [[98]].flatten))) ++ [109, 111, 114, 101])))) rfl ?_)
  refine s_nil ?_
  refine t_norm (hK9 _ _ ?_)
  refine wp_seq_k fun K18 hK18 => ?_
  refine c_region ?_
  refine s_op (o_move (v := (S (makeS (Fr.mk 1 0 5 ([97] ++ [[98]].flatten))))) rfl ?_)
  refine s_op (o_slen Tryd.underlying9 rfl ?_)
  refine s_op (o_eql (a := ((makeS (Fr.mk 1 0 5 ([97] ++ [[98]].flatten))).length : Int)) (b := 27) rfl rfl ?_)
  refine s_op (o_move (v := (.bool (decide (((makeS (Fr.mk 1 0 5 ([97] ++ [[98]].flatten))).length : Int) = 27)))) rfl ?_)
  by_cases h19 : ((makeS (Fr.mk 1 0 5 ([97] ++ [[98]].flatten))).length : Int) = 27
  · -- ((makeS (Fr.mk 1 0 5 ([97] ++ [[98]].flatten))).length : Int) = 27
    refine s_on 18 rfl (congrArg Value.bool (decide_eq_true h19)) (o_move (v := (S (makeS (Fr.mk 1 0 5 ([97] ++ [[98]].flatten))))) rfl ?_)
    refine s_on 18 rfl (congrArg Value.bool (decide_eq_true h19)) (o_ssl_h Tryd.underlying9 rfl rfl (by omega) (by decide +kernel) ?_)
    refine s_on 18 rfl (congrArg Value.bool (decide_eq_true h19)) (o_seql (a := (makeS (Fr.mk 1 0 5 ([97] ++ [[98]].flatten))).take 5) (b := [2, 0, 0, 0, 1]) rfl rfl ?_)
    refine s_op (o_pick_t (u := (.bool (decide ((makeS (Fr.mk 1 0 5 ([97] ++ [[98]].flatten))).take 5 = [2, 0, 0, 0, 1])))) ((rfl : _ = _).trans (congrArg Value.bool (decide_eq_true h19))) rfl ?_)
    refine s_op (o_move (v := (.bool (decide ((makeS (Fr.mk 1 0 5 ([97] ++ [[98]].flatten))).take 5 = [2, 0, 0, 0, 1])))) rfl ?_)
    by_cases h20 : (makeS (Fr.mk 1 0 5 ([97] ++ [[98]].flatten))).take 5 = [2, 0, 0, 0, 1]
    · -- (makeS (Fr.mk 1 0 5 ([97] ++ [[98]].flatten))).take 5 = [2, 0, 0, 0, 1]
      refine s_on 23 rfl (congrArg Value.bool (decide_eq_true h20)) (o_loadN (cs := [(.int .i64 ((oF ((makeS (Fr.mk 1 0 5 ([97] ++ [[98]].flatten))) ++ [109, 111, 114, 101])).ep)), (.int .i64 ((oF ((makeS (Fr.mk 1 0 5 ([97] ++ [[98]].flatten))) ++ [109, 111, 114, 101])).pl)), (.int .i64 ((oF ((makeS (Fr.mk 1 0 5 ([97] ++ [[98]].flatten))) ++ [109, 111, 114, 101])).gsn)), (S ((oF ((makeS (Fr.mk 1 0 5 ([97] ++ [[98]].flatten))) ++ [109, 111, 114, 101])).data))]) Tryd.underlying40 rfl ti40 rfl hH17 (seg_sub 0 rfl) (CellsAt.one rfl) ?_)
      refine s_on 23 rfl (congrArg Value.bool (decide_eq_true h20)) (o_sight (v := (.agg #[(.int .i64 1), (.int .i64 0), (.int .i64 5), (S [97, 98])])) (fun _ => by kernel_rfl) ?_)
      refine s_on 23 rfl (congrArg Value.bool (decide_eq_true h20)) (o_eqFr (a := (Fr.mk ((oF ((makeS (Fr.mk 1 0 5 ([97] ++ [[98]].flatten))) ++ [109, 111, 114, 101])).ep) ((oF ((makeS (Fr.mk 1 0 5 ([97] ++ [[98]].flatten))) ++ [109, 111, 114, 101])).pl) ((oF ((makeS (Fr.mk 1 0 5 ([97] ++ [[98]].flatten))) ++ [109, 111, 114, 101])).gsn) ((oF ((makeS (Fr.mk 1 0 5 ([97] ++ [[98]].flatten))) ++ [109, 111, 114, 101])).data))) (b := (Fr.mk 1 0 5 [97, 98])) (by decide) rfl rfl ?_)
      refine s_op (o_pick_t (u := (.bool (frEq (Fr.mk ((oF ((makeS (Fr.mk 1 0 5 ([97] ++ [[98]].flatten))) ++ [109, 111, 114, 101])).ep) ((oF ((makeS (Fr.mk 1 0 5 ([97] ++ [[98]].flatten))) ++ [109, 111, 114, 101])).pl) ((oF ((makeS (Fr.mk 1 0 5 ([97] ++ [[98]].flatten))) ++ [109, 111, 114, 101])).gsn) ((oF ((makeS (Fr.mk 1 0 5 ([97] ++ [[98]].flatten))) ++ [109, 111, 114, 101])).data)) (Fr.mk 1 0 5 [97, 98])))) ((rfl : _ = _).trans (congrArg Value.bool (decide_eq_true h20))) rfl ?_)
      refine s_op (o_move (v := (.bool (frEq (Fr.mk ((oF ((makeS (Fr.mk 1 0 5 ([97] ++ [[98]].flatten))) ++ [109, 111, 114, 101])).ep) ((oF ((makeS (Fr.mk 1 0 5 ([97] ++ [[98]].flatten))) ++ [109, 111, 114, 101])).pl) ((oF ((makeS (Fr.mk 1 0 5 ([97] ++ [[98]].flatten))) ++ [109, 111, 114, 101])).gsn) ((oF ((makeS (Fr.mk 1 0 5 ([97] ++ [[98]].flatten))) ++ [109, 111, 114, 101])).data)) (Fr.mk 1 0 5 [97, 98])))) rfl ?_)
      rcases Bool.eq_false_or_eq_true (frEq (Fr.mk ((oF ((makeS (Fr.mk 1 0 5 ([97] ++ [[98]].flatten))) ++ [109, 111, 114, 101])).ep) ((oF ((makeS (Fr.mk 1 0 5 ([97] ++ [[98]].flatten))) ++ [109, 111, 114, 101])).pl) ((oF ((makeS (Fr.mk 1 0 5 ([97] ++ [[98]].flatten))) ++ [109, 111, 114, 101])).gsn) ((oF ((makeS (Fr.mk 1 0 5 ([97] ++ [[98]].flatten))) ++ [109, 111, 114, 101])).data)) (Fr.mk 1 0 5 [97, 98])) with h21 | h21
      · -- (frEq (Fr.mk ((oF ((makeS (Fr.mk 1 0 5 ([97] ++ [[98]].flatten))) ++ [109, 111, 114, 101])).ep) ((oF ((makeS (Fr.mk 1 0 5 ([97] ++ [[98]].flatten))) ++ [109, 111, 114, 101])).pl) ((oF ((makeS (Fr.mk 1 0 5 ([97] ++ [[98]].flatten))) ++ [109, 111, 114, 101])).gsn) ((oF ((makeS (Fr.mk 1 0 5 ([97] ++ [[98]].flatten))) ++ [109, 111, 114, 101])).data)) (Fr.mk 1 0 5 [97, 98]))
        refine s_on 28 rfl (congrArg Value.bool h21) (o_move (v := (.int .i64 (oN ((makeS (Fr.mk 1 0 5 ([97] ++ [[98]].flatten))) ++ [109, 111, 114, 101])))) rfl ?_)
        refine s_on 28 rfl (congrArg Value.bool h21) (o_eql (a := (oN ((makeS (Fr.mk 1 0 5 ([97] ++ [[98]].flatten))) ++ [109, 111, 114, 101]))) (b := 27) rfl rfl ?_)
        refine s_op (o_pick_t (u := (.bool (decide ((oN ((makeS (Fr.mk 1 0 5 ([97] ++ [[98]].flatten))) ++ [109, 111, 114, 101])) = 27)))) ((rfl : _ = _).trans (congrArg Value.bool h21)) rfl ?_)
        refine s_op (o_move (v := (.bool (decide ((oN ((makeS (Fr.mk 1 0 5 ([97] ++ [[98]].flatten))) ++ [109, 111, 114, 101])) = 27)))) rfl ?_)
        by_cases h22 : (oN ((makeS (Fr.mk 1 0 5 ([97] ++ [[98]].flatten))) ++ [109, 111, 114, 101])) = 27
        · -- (oN ((makeS (Fr.mk 1 0 5 ([97] ++ [[98]].flatten))) ++ [109, 111, 114, 101])) = 27
          refine s_on 32 rfl (congrArg Value.bool (decide_eq_true h22)) (o_move (v := (.bool (opensB ((makeS (Fr.mk 1 0 5 ([97] ++ [[98]].flatten))) ++ [109, 111, 114, 101])))) rfl ?_)
          refine s_op (o_pick_t (u := (.bool (opensB ((makeS (Fr.mk 1 0 5 ([97] ++ [[98]].flatten))) ++ [109, 111, 114, 101])))) ((rfl : _ = _).trans (congrArg Value.bool (decide_eq_true h22))) rfl ?_)
          refine s_op (o_assign (v := (.bool (opensB ((makeS (Fr.mk 1 0 5 ([97] ++ [[98]].flatten))) ++ [109, 111, 114, 101])))) rfl ?_)
          refine s_nil ?_
          refine t_norm (hK18 _ _ ?_)
          refine wp_ret ?_
          refine c_ret1 Tryd.results23  (v := (.bool (opensB ((makeS (Fr.mk 1 0 5 ([97] ++ [[98]].flatten))) ++ [109, 111, 114, 101])))) rfl ?_
          have hH23 : Has E w16 [R] := (hH17.front 2 rfl).first 1 rfl
          exact ⟨by rw [show (opensB ((makeS (Fr.mk 1 0 5 ([97] ++ [[98]].flatten))) ++ [109, 111, 114, 101])) = true from by decide +kernel], hH23⟩
        · -- not: (oN ((makeS (Fr.mk 1 0 5 ([97] ++ [[98]].flatten))) ++ [109, 111, 114, 101])) = 27
          exact absurd (by decide +kernel) h22
      · -- not: (frEq (Fr.mk ((oF ((makeS (Fr.mk 1 0 5 ([97] ++ [[98]].flatten))) ++ [109, 111, 114, 101])).ep) ((oF ((makeS (Fr.mk 1 0 5 ([97] ++ [[98]].flatten))) ++ [109, 111, 114, 101])).pl) ((oF ((makeS (Fr.mk 1 0 5 ([97] ++ [[98]].flatten))) ++ [109, 111, 114, 101])).gsn) ((oF ((makeS (Fr.mk 1 0 5 ([97] ++ [[98]].flatten))) ++ [109, 111, 114, 101])).data)) (Fr.mk 1 0 5 [97, 98]))
        exact absurd h21 (by decide +kernel)
    · -- not: (makeS (Fr.mk 1 0 5 ([97] ++ [[98]].flatten))).take 5 = [2, 0, 0, 0, 1]
      exact absurd (by decide +kernel) h20
  · -- not: ((makeS (Fr.mk 1 0 5 ([97] ++ [[98]].flatten))).length : Int) = 27
    exact absurd (by decide +kernel) h19
end Go.Q
