/-
  Parts of a walk: what functions of the program compute, each told by a theorem.
-/
import Derived.Test.YtagicdbeacmffaaDoorQV10
set_option linter.unusedVariables false
set_option linter.unusedSimpArgs false
namespace Go.Q
open Go.Proofs
set_option linter.unusedVariables false
set_option maxRecDepth 100000
attribute [local irreducible] wpList OK Code.wp
set_option maxHeartbeats 4000000 in
theorem FrameOpens_c {E w : World} {R : List Hp} (hH : Has E w [R]) (hg : CellsAt R 0 0 nibV) (s : List UInt8) (hsl : s.length ≤ 9223372036854775807) :
    Calls Tryd.prog 7 #[(S s)] w fun e w' => e = .returned (.bool true) ∧ Has E w' [R] := by
  have hle := oF_le s
  refine c_enter (args := [(S s)]) Tryd.func7 rfl Tryd.ntmps7 (by simp) ?_
  refine wp_seq_k fun K1 hK1 => ?_
  refine c_region ?_
  refine s_op (o_assign (v := (.bool false)) rfl ?_)
  refine s_nil ?_
  refine t_norm (hK1 _ _ ?_)
  refine wp_seq_k fun K2 hK2 => ?_
  refine wp_seq_k fun K3 hK3 => ?_
  refine c_region ?_
  refine s_op (o_move (v := (S s)) rfl ?_)
  refine s_op (o_slen Tryd.underlying9 rfl ?_)
  refine s_op (o_gtr (a := (s.length : Int)) (b := 2000) rfl rfl ?_)
  refine s_nil ?_
  refine t_norm (hK3 _ _ ?_)
  refine c_cond rfl (fun h4 => ?_) (fun h4 => ?_)
  · -- 2000 < (s.length : Int)
    refine wp_seq_k fun K5 hK5 => ?_
    refine c_region ?_
    refine s_op (o_callf (vs := #[]) ca23 rfl (args0) (awake3_c hH.all (hg.mono (seg_sub 0 rfl))) ?_)
    rintro _ w8 ⟨rfl, hX6⟩
    refine ⟨_, rfl, ?_⟩
    have hH7 := hX6.of_all
    refine s_op (o_assign (v := (.bool true)) rfl ?_)
    refine s_nil ?_
    refine t_norm (hK5 _ _ ?_)
    refine wp_ret ?_
    refine t_ret (c_ret1 Tryd.results7  (v := (.bool true)) rfl ?_)
    exact ⟨rfl, hH7⟩
  · -- not: 2000 < (s.length : Int)
    refine wp_skip ?_
    refine t_norm (hK2 _ _ ?_)
    refine wp_seq_k fun K9 hK9 => ?_
    refine c_region ?_
    refine s_op (o_move (v := (S s)) rfl ?_)
    refine s_op (o_callf (vs := #[(S s)]) ca24 rfl (args1 rfl) (fopen_c hH.all (hg.mono (seg_sub 0 rfl)) s (by omega)) ?_)
    rintro _ w12 ⟨rfl, hX10⟩
    refine ⟨_, rfl, ?_⟩
    have hH11 := hX10.of_all
    refine s_op (o_move (v := (.tuple #[(.agg #[(.int .i64 ((oF s).ep)), (.int .i64 ((oF s).pl)), (.int .i64 ((oF s).gsn)), (S ((oF s).data))]), (.int .i64 (oN s)), (.bool (opensB s))])) rfl ?_)
    refine s_op (o_extract (v := (.agg #[(.int .i64 ((oF s).ep)), (.int .i64 ((oF s).pl)), (.int .i64 ((oF s).gsn)), (S ((oF s).data))])) rfl rfl ?_)
    refine s_op (o_extract (v := (.int .i64 (oN s))) rfl rfl ?_)
    refine s_op (o_extract (v := (.bool (opensB s))) rfl rfl ?_)
    refine s_op (o_alloc (cs := #[(.int .i64 0), (.int .i64 0), (.int .i64 0), (S ([] : List UInt8))]) ti40 rfl hH11 fun b13 w14 hH15 => ?_)
    refine s_eff (o_storeN (vs := [(.int .i64 ((oF s).ep)), (.int .i64 ((oF s).pl)), (.int .i64 ((oF s).gsn)), (S ((oF s).data))]) (c' := #[(.int .i64 ((oF s).ep)), (.int .i64 ((oF s).pl)), (.int .i64 ((oF s).gsn)), (S ((oF s).data))]) ti40 rfl rfl rfl rfl (by intro u hu; simp only [List.mem_cons, List.not_mem_nil, or_false] at hu; rcases hu with rfl | rfl | rfl | rfl <;> first | rfl) (by simp) (by kernel_rfl) (hH15.front 0 rfl) fun w16 hH17 => ?_)
    refine s_op (o_assign (v := (.int .i64 (oN s))) rfl ?_)
    refine s_op (o_assign (v := (.bool (opensB s))) rfl ?_)
    refine s_nil ?_
    refine t_norm (hK9 _ _ ?_)
    refine wp_seq_k fun K18 hK18 => ?_
    refine c_region ?_
    refine s_op (o_move (v := (S s)) rfl ?_)
    refine s_op (o_callf (vs := #[(S s)]) ca25 rfl (args1 rfl) (fref_c hH17.all s (by omega)) ?_)
    rintro _ w21 ⟨rfl, hX19⟩
    refine ⟨_, rfl, ?_⟩
    have hH20 := hX19.of_all
    refine s_op (o_move (v := (.tuple #[(.agg #[(.int .i64 ((oF s).ep)), (.int .i64 ((oF s).pl)), (.int .i64 ((oF s).gsn)), (S ((oF s).data))]), (.bool (opensB s))])) rfl ?_)
    refine s_op (o_extract (v := (.agg #[(.int .i64 ((oF s).ep)), (.int .i64 ((oF s).pl)), (.int .i64 ((oF s).gsn)), (S ((oF s).data))])) rfl rfl ?_)
    refine s_op (o_extract (v := (.bool (opensB s))) rfl rfl ?_)
    refine s_op (o_alloc (cs := #[(.int .i64 0), (.int .i64 0), (.int .i64 0), (S ([] : List UInt8))]) ti43 rfl hH20 fun b22 w23 hH24 => ?_)
    refine s_eff (o_storeN (vs := [(.int .i64 ((oF s).ep)), (.int .i64 ((oF s).pl)), (.int .i64 ((oF s).gsn)), (S ((oF s).data))]) (c' := #[(.int .i64 ((oF s).ep)), (.int .i64 ((oF s).pl)), (.int .i64 ((oF s).gsn)), (S ((oF s).data))]) ti43 rfl rfl rfl rfl (by intro u hu; simp only [List.mem_cons, List.not_mem_nil, or_false] at hu; rcases hu with rfl | rfl | rfl | rfl <;> first | rfl) (by simp) (by kernel_rfl) (hH24.front 0 rfl) fun w25 hH26 => ?_)
    refine s_op (o_assign (v := (.bool (opensB s))) rfl ?_)
    refine s_nil ?_
    refine t_norm (hK18 _ _ ?_)
    refine wp_seq_k fun K27 hK27 => ?_
    refine wp_seq_k fun K28 hK28 => ?_
    refine c_region ?_
    refine s_op (o_move (v := (.bool (opensB s))) rfl ?_)
    refine s_op (o_not rfl ?_)
    refine s_nil ?_
    refine t_norm (hK28 _ _ ?_)
    refine c_condb rfl (fun h29 => ?_) (fun h29 => ?_)
    · -- !(opensB s)
      have ho : opensB s = false := not_t h29
      have hz := oF_no ho
      refine wp_seq_k fun K30 hK30 => ?_
      refine c_region ?_
      refine s_op (o_loadN (cs := [(.int .i64 ((oF s).ep)), (.int .i64 ((oF s).pl)), (.int .i64 ((oF s).gsn)), (S ((oF s).data))]) Tryd.underlying40 rfl ti40 rfl hH26 (seg_sub 1 rfl) (CellsAt.one rfl) ?_)
      refine s_op (o_sight (v := (.agg #[(.int .i64 0), (.int .i64 0), (.int .i64 0), (S ([] : List UInt8))])) (fun _ => by kernel_rfl) ?_)
      refine s_op (o_eqFr (a := (Fr.mk ((oF s).ep) ((oF s).pl) ((oF s).gsn) ((oF s).data))) (b := (Fr.mk 0 0 0 ([] : List UInt8))) (by decide) rfl rfl ?_)
      refine s_op (o_move (v := (.bool (frEq (Fr.mk ((oF s).ep) ((oF s).pl) ((oF s).gsn) ((oF s).data)) (Fr.mk 0 0 0 ([] : List UInt8))))) rfl ?_)
      rcases Bool.eq_false_or_eq_true (frEq (Fr.mk ((oF s).ep) ((oF s).pl) ((oF s).gsn) ((oF s).data)) (Fr.mk 0 0 0 ([] : List UInt8))) with h31 | h31
      · -- (frEq (Fr.mk ((oF s).ep) ((oF s).pl) ((oF s).gsn) ((oF s).data)) (Fr.mk 0 0 0 ([] : List UInt8)))
        refine s_on 28 rfl (congrArg Value.bool h31) (o_move (v := (.int .i64 (oN s))) rfl ?_)
        refine s_on 28 rfl (congrArg Value.bool h31) (o_eql (a := (oN s)) (b := 0) rfl rfl ?_)
        refine s_op (o_pick_t (u := (.bool (decide ((oN s) = 0)))) ((rfl : _ = _).trans (congrArg Value.bool h31)) rfl ?_)
        refine s_op (o_move (v := (.bool (decide ((oN s) = 0)))) rfl ?_)
        by_cases h32 : (oN s) = 0
        · -- (oN s) = 0
          refine s_on 32 rfl (congrArg Value.bool (decide_eq_true h32)) (o_move (v := (.bool (opensB s))) rfl ?_)
          refine s_on 32 rfl (congrArg Value.bool (decide_eq_true h32)) (o_not rfl ?_)
          refine s_op (o_pick_t (u := (.bool (!(opensB s)))) ((rfl : _ = _).trans (congrArg Value.bool (decide_eq_true h32))) rfl ?_)
          refine s_op (o_move (v := (.bool (!(opensB s)))) rfl ?_)
          refine s_on 36 rfl (congrArg Value.bool h29) (o_callf (vs := #[]) ca23 rfl (args0) (awake3_c hH26.all (hg.mono (seg_sub 2 rfl))) ?_)
          rintro _ w35 ⟨rfl, hX33⟩
          refine ⟨_, rfl, ?_⟩
          have hH34 := hX33.of_all
          refine s_op (o_pick_t (u := (.bool true)) ((rfl : _ = _).trans (congrArg Value.bool h29)) rfl ?_)
          refine s_op (o_assign (v := (.bool true)) rfl ?_)
          refine s_nil ?_
          refine t_norm (hK30 _ _ ?_)
          refine wp_ret ?_
          refine t_ret (c_ret1 Tryd.results7  (v := (.bool true)) rfl ?_)
          have hH36 : Has E w35 [R] := (hH34.front 2 rfl).first 1 rfl
          exact ⟨rfl, hH36⟩
        · -- not: (oN s) = 0
          exact absurd hz.2 h32
      · -- not: (frEq (Fr.mk ((oF s).ep) ((oF s).pl) ((oF s).gsn) ((oF s).data)) (Fr.mk 0 0 0 ([] : List UInt8)))
        rw [hz.1] at h31
        exact absurd h31 (by decide)
    · -- not: !(opensB s)
      have ho : opensB s = true := not_f h29
      have hy := oN_yes ho
      refine wp_skip ?_
      refine t_norm (hK27 _ _ ?_)
      refine wp_seq_k fun K37 hK37 => ?_
      refine c_region ?_
      refine s_op (o_loadN (cs := [(.int .i64 ((oF s).ep)), (.int .i64 ((oF s).pl)), (.int .i64 ((oF s).gsn)), (S ((oF s).data))]) Tryd.underlying40 rfl ti40 rfl hH26 (seg_sub 1 rfl) (CellsAt.one rfl) ?_)
      refine s_op (o_loadN (cs := [(.int .i64 ((oF s).ep)), (.int .i64 ((oF s).pl)), (.int .i64 ((oF s).gsn)), (S ((oF s).data))]) Tryd.underlying43 rfl ti43 rfl hH26 (seg_sub 0 rfl) (CellsAt.one rfl) ?_)
      refine s_op (o_eqFr (a := (Fr.mk ((oF s).ep) ((oF s).pl) ((oF s).gsn) ((oF s).data))) (b := (Fr.mk ((oF s).ep) ((oF s).pl) ((oF s).gsn) ((oF s).data))) (by decide) rfl rfl ?_)
      refine s_op (o_move (v := (.bool (frEq (Fr.mk ((oF s).ep) ((oF s).pl) ((oF s).gsn) ((oF s).data)) (Fr.mk ((oF s).ep) ((oF s).pl) ((oF s).gsn) ((oF s).data))))) rfl ?_)
      rcases Bool.eq_false_or_eq_true (frEq (Fr.mk ((oF s).ep) ((oF s).pl) ((oF s).gsn) ((oF s).data)) (Fr.mk ((oF s).ep) ((oF s).pl) ((oF s).gsn) ((oF s).data))) with h38 | h38
      · -- (frEq (Fr.mk ((oF s).ep) ((oF s).pl) ((oF s).gsn) ((oF s).data)) (Fr.mk ((oF s).ep) ((oF s).pl) ((oF s).gsn) ((oF s).data)))
        refine s_on 42 rfl (congrArg Value.bool h38) (o_move (v := (.int .i64 (oN s))) rfl ?_)
        refine s_on 42 rfl (congrArg Value.bool h38) (o_fieldAddr (k := 3) (fun _ => by kernel_rfl) rfl ?_)
        refine s_on 42 rfl (congrArg Value.bool h38) (o_load1 (v := (S ((oF s).data))) Tryd.underlying9 rfl rfl hH26 (seg_sub 0 rfl) (CellsAt.one rfl) ?_)
        refine s_on 42 rfl (congrArg Value.bool h38) (o_slen Tryd.underlying9 rfl ?_)
        refine s_on 42 rfl (congrArg Value.bool h38) (o_add (a := 25) (b := (((oF s).data).length : Int)) rfl rfl (w64 (by omega) (by omega)) ?_)
        refine s_on 42 rfl (congrArg Value.bool h38) (o_eql (a := (oN s)) (b := 25 + (((oF s).data).length : Int)) rfl rfl ?_)
        refine s_op (o_pick_t (u := (.bool (decide ((oN s) = 25 + (((oF s).data).length : Int))))) ((rfl : _ = _).trans (congrArg Value.bool h38)) rfl ?_)
        refine s_op (o_move (v := (.bool (decide ((oN s) = 25 + (((oF s).data).length : Int))))) rfl ?_)
        by_cases h39 : (oN s) = 25 + (((oF s).data).length : Int)
        · -- (oN s) = 25 + (((oF s).data).length : Int)
          refine s_on 50 rfl (congrArg Value.bool (decide_eq_true h39)) (o_move (v := (.bool (opensB s))) rfl ?_)
          refine s_op (o_pick_t (u := (.bool (opensB s))) ((rfl : _ = _).trans (congrArg Value.bool (decide_eq_true h39))) rfl ?_)
          refine s_op (o_move (v := (.bool (opensB s))) rfl ?_)
          rcases Bool.eq_false_or_eq_true (opensB s) with h40 | h40
          · -- (opensB s)
            refine s_on 53 rfl (congrArg Value.bool h40) (o_callf (vs := #[]) ca23 rfl (args0) (awake3_c hH26.all (hg.mono (seg_sub 2 rfl))) ?_)
            rintro _ w43 ⟨rfl, hX41⟩
            refine ⟨_, rfl, ?_⟩
            have hH42 := hX41.of_all
            refine s_op (o_pick_t (u := (.bool true)) ((rfl : _ = _).trans (congrArg Value.bool h40)) rfl ?_)
            refine s_op (o_assign (v := (.bool true)) rfl ?_)
            refine s_nil ?_
            refine t_norm (hK37 _ _ ?_)
            refine wp_ret ?_
            refine c_ret1 Tryd.results7  (v := (.bool true)) rfl ?_
            have hH44 : Has E w43 [R] := (hH42.front 2 rfl).first 1 rfl
            exact ⟨rfl, hH44⟩
          · -- not: (opensB s)
            rw [ho] at h40
            cases h40
        · -- not: (oN s) = 25 + (((oF s).data).length : Int)
          exfalso; omega
      · -- not: (frEq (Fr.mk ((oF s).ep) ((oF s).pl) ((oF s).gsn) ((oF s).data)) (Fr.mk ((oF s).ep) ((oF s).pl) ((oF s).gsn) ((oF s).data)))
        exact absurd (frEq_refl _) (by rw [h38]; decide)
end Go.Q
