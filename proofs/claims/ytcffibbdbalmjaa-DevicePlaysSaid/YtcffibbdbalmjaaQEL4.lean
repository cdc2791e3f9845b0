/-
  Parts of a walk: what functions of the program compute, each told by a theorem.
-/
import Derived.Test.YtcffibbdbalmjaaQE12
set_option linter.unusedVariables false
set_option linter.unusedSimpArgs false
namespace Go.Q
open Go.Proofs
set_option linter.unusedVariables false
set_option maxRecDepth 100000
attribute [local irreducible] wpList OK Code.wp
set_option maxHeartbeats 4000000 in
theorem DevicePlays_c {E w : World} {R : List Hp} (hH : Has E w [R]) (a b : Int) {v : Value} {l : List DAct} (hv : Sl R 5 v l.length (l.flatMap daC)) (hok : ∀ a ∈ l, DaOk R a) :
    Calls Try.prog 12 #[(.int .i64 a), (.int .i64 b), v] w fun e w' => e = .returned (.bool true) ∧ Has E w' [R] := by
  have hn_ := hv.le
  refine c_enter (args := [(.int .i64 a), (.int .i64 b), v]) Try.func12 rfl Try.ntmps12 (by simp) ?_
  refine wp_seq_k fun K1 hK1 => ?_
  refine c_region ?_
  refine s_op (o_assign (v := (.bool false)) rfl ?_)
  refine s_nil ?_
  refine t_norm (hK1 _ _ ?_)
  refine wp_seq_k fun K2 hK2 => ?_
  refine wp_seq_k fun K3 hK3 => ?_
  refine c_region ?_
  refine s_op (o_move (v := v) rfl ?_)
  refine s_op (o_callf (vs := #[v]) ca50 rfl (args1 rfl) (lgreat_c hH.all (l := l) (hv.mono (seg_sub 0 rfl)) (fun a ha => (hok a ha).mono (seg_sub 0 rfl))) ?_)
  rintro _ w8 ⟨gb4, rfl, hg5, hX6⟩
  refine ⟨_, rfl, ?_⟩
  have hH7 : Has E w8 [R] := hX6.of_all
  refine s_op (o_move (v := (.bool gb4)) rfl ?_)
  rcases Bool.eq_false_or_eq_true gb4 with h9 | h9
  · -- gb4
    refine s_off (b' := true) 18 rfl (congrArg Value.bool h9) rfl ?_
    refine s_off (b' := true) 18 rfl (congrArg Value.bool h9) rfl ?_
    refine s_off (b' := true) 18 rfl (congrArg Value.bool h9) rfl ?_
    refine s_offu 21 rfl rfl ?_
    refine s_offu 21 rfl rfl ?_
    refine s_off (b' := true) 18 rfl (congrArg Value.bool h9) rfl ?_
    refine s_op (o_pick_t (u := (.bool true)) ((rfl : _ = _).trans (congrArg Value.bool h9)) rfl ?_)
    refine s_op (o_move (v := (.bool true)) rfl ?_)
    refine s_off (b' := true) 26 rfl rfl rfl ?_
    refine s_off (b' := true) 26 rfl rfl rfl ?_
    refine s_off (b' := true) 26 rfl rfl rfl ?_
    refine s_offu 29 rfl rfl ?_
    refine s_offu 29 rfl rfl ?_
    refine s_off (b' := true) 26 rfl rfl rfl ?_
    refine s_op (o_pick_t (u := (.bool true)) rfl rfl ?_)
    refine s_op (o_move (v := (.bool true)) rfl ?_)
    refine s_off (b' := true) 34 rfl rfl rfl ?_
    refine s_off (b' := true) 34 rfl rfl rfl ?_
    refine s_op (o_pick_t (u := (.bool true)) rfl rfl ?_)
    refine s_nil ?_
    refine t_norm (hK3 _ _ ?_)
    refine c_true rfl rfl ?_
    refine wp_seq_k fun K10 hK10 => ?_
    refine c_region ?_
    refine s_op (o_callf (vs := #[]) ca27 rfl (args0) (awake5_c hH7.all) ?_)
    rintro _ w13 ⟨rfl, hX11⟩
    refine ⟨_, rfl, ?_⟩
    have hH12 := hX11.of_all
    refine s_op (o_assign (v := (.bool true)) rfl ?_)
    refine s_nil ?_
    refine t_norm (hK10 _ _ ?_)
    refine wp_ret ?_
    refine t_ret (c_ret1 Try.results12  (v := (.bool true)) rfl ?_)
    exact ⟨rfl, hH12⟩
  · -- not: gb4
    have hfine := hg5 h9
    have hl60 := hfine.1
    refine s_on 18 rfl (congrArg Value.bool h9) (o_move (v := (.int .i64 a)) rfl ?_)
    refine s_on 18 rfl (congrArg Value.bool h9) (o_gtr (a := a) (b := 40) rfl rfl ?_)
    refine s_on 18 rfl (congrArg Value.bool h9) (o_move (v := (.bool (decide (40 < a)))) rfl ?_)
    by_cases h14 : 40 < a
    · -- 40 < a
      refine s_on 21 rfl (congrArg Value.bool (decide_eq_true h14)) (o_move (v := (.int .i64 a)) rfl ?_)
      refine s_on 21 rfl (congrArg Value.bool (decide_eq_true h14)) (o_leq (a := a) (b := 4096) rfl rfl ?_)
      refine s_on 18 rfl (congrArg Value.bool h9) (o_pick_t (u := (.bool (decide (a ≤ 4096)))) ((rfl : _ = _).trans (congrArg Value.bool (decide_eq_true h14))) rfl ?_)
      refine s_op (o_pick_f (u := (.bool (decide (a ≤ 4096)))) ((rfl : _ = _).trans (congrArg Value.bool h9)) rfl ?_)
      refine s_op (o_move (v := (.bool (decide (a ≤ 4096)))) rfl ?_)
      by_cases h15 : a ≤ 4096
      · -- a ≤ 4096
        refine s_off (b' := true) 26 rfl (congrArg Value.bool (decide_eq_true h15)) rfl ?_
        refine s_off (b' := true) 26 rfl (congrArg Value.bool (decide_eq_true h15)) rfl ?_
        refine s_off (b' := true) 26 rfl (congrArg Value.bool (decide_eq_true h15)) rfl ?_
        refine s_offu 29 rfl rfl ?_
        refine s_offu 29 rfl rfl ?_
        refine s_off (b' := true) 26 rfl (congrArg Value.bool (decide_eq_true h15)) rfl ?_
        refine s_op (o_pick_t (u := (.bool true)) ((rfl : _ = _).trans (congrArg Value.bool (decide_eq_true h15))) rfl ?_)
        refine s_op (o_move (v := (.bool true)) rfl ?_)
        refine s_off (b' := true) 34 rfl rfl rfl ?_
        refine s_off (b' := true) 34 rfl rfl rfl ?_
        refine s_op (o_pick_t (u := (.bool true)) rfl rfl ?_)
        refine s_nil ?_
        refine t_norm (hK3 _ _ ?_)
        refine c_true rfl rfl ?_
        refine wp_seq_k fun K16 hK16 => ?_
        refine c_region ?_
        refine s_op (o_callf (vs := #[]) ca27 rfl (args0) (awake5_c hH7.all) ?_)
        rintro _ w19 ⟨rfl, hX17⟩
        refine ⟨_, rfl, ?_⟩
        have hH18 := hX17.of_all
        refine s_op (o_assign (v := (.bool true)) rfl ?_)
        refine s_nil ?_
        refine t_norm (hK16 _ _ ?_)
        refine wp_ret ?_
        refine t_ret (c_ret1 Try.results12  (v := (.bool true)) rfl ?_)
        exact ⟨rfl, hH18⟩
      · -- not: a ≤ 4096
        refine s_on 26 rfl (congrArg Value.bool (decide_eq_false h15)) (o_move (v := (.int .i64 b)) rfl ?_)
        refine s_on 26 rfl (congrArg Value.bool (decide_eq_false h15)) (o_gtr (a := b) (b := 40) rfl rfl ?_)
        refine s_on 26 rfl (congrArg Value.bool (decide_eq_false h15)) (o_move (v := (.bool (decide (40 < b)))) rfl ?_)
        by_cases h20 : 40 < b
        · -- 40 < b
          refine s_on 29 rfl (congrArg Value.bool (decide_eq_true h20)) (o_move (v := (.int .i64 b)) rfl ?_)
          refine s_on 29 rfl (congrArg Value.bool (decide_eq_true h20)) (o_leq (a := b) (b := 4096) rfl rfl ?_)
          refine s_on 26 rfl (congrArg Value.bool (decide_eq_false h15)) (o_pick_t (u := (.bool (decide (b ≤ 4096)))) ((rfl : _ = _).trans (congrArg Value.bool (decide_eq_true h20))) rfl ?_)
          refine s_op (o_pick_f (u := (.bool (decide (b ≤ 4096)))) ((rfl : _ = _).trans (congrArg Value.bool (decide_eq_false h15))) rfl ?_)
          refine s_op (o_move (v := (.bool (decide (b ≤ 4096)))) rfl ?_)
          by_cases h21 : b ≤ 4096
          · -- b ≤ 4096
            refine s_off (b' := true) 34 rfl (congrArg Value.bool (decide_eq_true h21)) rfl ?_
            refine s_off (b' := true) 34 rfl (congrArg Value.bool (decide_eq_true h21)) rfl ?_
            refine s_op (o_pick_t (u := (.bool true)) ((rfl : _ = _).trans (congrArg Value.bool (decide_eq_true h21))) rfl ?_)
            refine s_nil ?_
            refine t_norm (hK3 _ _ ?_)
            refine c_true rfl rfl ?_
            refine wp_seq_k fun K22 hK22 => ?_
            refine c_region ?_
            refine s_op (o_callf (vs := #[]) ca27 rfl (args0) (awake5_c hH7.all) ?_)
            rintro _ w25 ⟨rfl, hX23⟩
            refine ⟨_, rfl, ?_⟩
            have hH24 := hX23.of_all
            refine s_op (o_assign (v := (.bool true)) rfl ?_)
            refine s_nil ?_
            refine t_norm (hK22 _ _ ?_)
            refine wp_ret ?_
            refine t_ret (c_ret1 Try.results12  (v := (.bool true)) rfl ?_)
            exact ⟨rfl, hH24⟩
          · -- not: b ≤ 4096
            refine s_on 34 rfl (congrArg Value.bool (decide_eq_false h21)) (o_callf (vs := #[]) ca27 rfl (args0) (awake5_c hH7.all) ?_)
            rintro _ w28 ⟨rfl, hX26⟩
            refine ⟨_, rfl, ?_⟩
            have hH27 := hX26.of_all
            refine s_on 34 rfl (congrArg Value.bool (decide_eq_false h21)) (o_not rfl ?_)
            refine s_op (o_pick_f (u := (.bool false)) ((rfl : _ = _).trans (congrArg Value.bool (decide_eq_false h21))) rfl ?_)
            refine s_nil ?_
            refine t_norm (hK3 _ _ ?_)
            refine c_false rfl rfl ?_
            refine wp_skip ?_
            refine t_norm (hK2 _ _ ?_)
            refine wp_seq_k fun K29 hK29 => ?_
            refine c_region ?_
            refine s_op (o_sight (v := (.agg #[(.bool false), (.bool false), (.int .i64 0), (.int .i64 0)])) (fun _ => by kernel_rfl) ?_)
            refine s_op (o_box (cs := #[(.bool false), (.bool false), (.int .i64 0), (.int .i64 0)]) rfl rfl hH27 fun b30 w31 hH32 => ?_)
            refine s_op (o_assign (v := (.pointer (some ⟨b30, 0, none⟩))) rfl ?_)
            refine s_nil ?_
            refine t_norm (hK29 _ _ ?_)
            refine wp_seq_k fun K33 hK33 => ?_
            refine c_region ?_
            refine s_op (o_move (v := (.pointer (some ⟨b30, 0, none⟩))) rfl ?_)
            refine s_op (o_move (v := (.int .i64 a)) rfl ?_)
            have hH34 : Has E w31 [[Hp.one b30 (.cells #[(.bool (Pw.mk false false 0 0).off), (.bool (Pw.mk false false 0 0).armed), (.int .i64 (Pw.mk false false 0 0).left), (.int .i64 (Pw.mk false false 0 0).uses)] 101 (0, 0))], R] := hH32
            by_cases hab35 : 1 ≤ a ∧ a ≤ 4096
            · -- a device
              exfalso; omega
            · -- none
              refine s_op (o_callf (vs := #[(.pointer (some ⟨b30, 0, none⟩)), (.int .i64 a)]) ca23 rfl (args2 rfl rfl) (new_bad hH34.all (by omega)) ?_)
              rintro _ w38 ⟨rfl, hX36⟩
              refine ⟨_, rfl, ?_⟩
              have hH37 := hX36.of_all
              refine s_op (o_move (v := (.pointer (some ⟨b30, 0, none⟩))) rfl ?_)
              refine s_op (o_move (v := (.int .i64 b)) rfl ?_)
              by_cases hab39 : 1 ≤ b ∧ b ≤ 4096
              · -- a device
                exfalso; omega
              · -- none
                refine s_op (o_callf (vs := #[(.pointer (some ⟨b30, 0, none⟩)), (.int .i64 b)]) ca23 rfl (args2 rfl rfl) (new_bad hH37.all (by omega)) ?_)
                rintro _ w42 ⟨rfl, hX40⟩
                refine ⟨_, rfl, ?_⟩
                have hH41 := hX40.of_all
                refine s_op (o_assign (v := (.pointer none)) rfl ?_)
                refine s_op (o_assign (v := (.pointer none)) rfl ?_)
                refine s_nil ?_
                refine t_norm (hK33 _ _ ?_)
                refine wp_seq_k fun K43 hK43 => ?_
                refine wp_seq_k fun K44 hK44 => ?_
                refine c_region ?_
                refine s_op (o_move (v := (.pointer none)) rfl ?_)
                refine s_op (o_pnil (p := none) Try.underlying46 rfl rfl ?_)
                refine s_op (o_move (v := (.int .i64 a)) rfl ?_)
                refine s_op (o_lss (a := a) (b := 1) rfl rfl ?_)
                refine s_op (o_move (v := (.bool (decide (a < 1)))) rfl ?_)
                by_cases h45 : a < 1
                · -- a < 1
                  refine s_off (b' := true) 51 rfl (congrArg Value.bool (decide_eq_true h45)) rfl ?_
                  refine s_off (b' := true) 51 rfl (congrArg Value.bool (decide_eq_true h45)) rfl ?_
                  refine s_op (o_pick_t (u := (.bool true)) ((rfl : _ = _).trans (congrArg Value.bool (decide_eq_true h45))) rfl ?_)
                  refine s_op (o_neqb Try.underlying4 rfl rfl ?_)
                  refine s_op (o_move (v := (.bool (!(true == true)))) rfl ?_)
                  rcases Bool.eq_false_or_eq_true (!(true == true)) with h46 | h46
                  · -- !(true == true)
                    exfalso; first | (simp at h46; done) | (simp at h46; omega)
                  · -- not: !(true == true)
                    refine s_on 56 rfl (congrArg Value.bool h46) (o_move (v := (.pointer none)) rfl ?_)
                    refine s_on 56 rfl (congrArg Value.bool h46) (o_pnil (p := none) Try.underlying46 rfl rfl ?_)
                    refine s_on 56 rfl (congrArg Value.bool h46) (o_move (v := (.int .i64 b)) rfl ?_)
                    refine s_on 56 rfl (congrArg Value.bool h46) (o_lss (a := b) (b := 1) rfl rfl ?_)
                    refine s_on 56 rfl (congrArg Value.bool h46) (o_move (v := (.bool (decide (b < 1)))) rfl ?_)
                    by_cases h47 : b < 1
                    · -- b < 1
                      refine s_off (b' := true) 61 rfl (congrArg Value.bool (decide_eq_true h47)) rfl ?_
                      refine s_off (b' := true) 61 rfl (congrArg Value.bool (decide_eq_true h47)) rfl ?_
                      refine s_on 56 rfl (congrArg Value.bool h46) (o_pick_t (u := (.bool true)) ((rfl : _ = _).trans (congrArg Value.bool (decide_eq_true h47))) rfl ?_)
                      refine s_on 56 rfl (congrArg Value.bool h46) (o_neqb Try.underlying4 rfl rfl ?_)
                      refine s_op (o_pick_f (u := (.bool (!(true == true)))) ((rfl : _ = _).trans (congrArg Value.bool h46)) rfl ?_)
                      refine s_nil ?_
                      refine t_norm (hK44 _ _ ?_)
                      refine c_false rfl h46 ?_
                      refine wp_skip ?_
                      refine t_norm (hK43 _ _ ?_)
                      refine wp_seq_k fun K48 hK48 => ?_
                      refine wp_seq_k fun K49 hK49 => ?_
                      refine c_region ?_
                      refine s_op (o_move (v := (.pointer none)) rfl ?_)
                      refine s_op (o_pnil (p := none) Try.underlying46 rfl rfl ?_)
                      refine s_op (o_move (v := (.bool true)) rfl ?_)
                      refine s_off (b' := true) 69 rfl rfl rfl ?_
                      refine s_off (b' := true) 69 rfl rfl rfl ?_
                      refine s_op (o_pick_t (u := (.bool true)) rfl rfl ?_)
                      refine s_nil ?_
                      refine t_norm (hK49 _ _ ?_)
                      refine c_true rfl rfl ?_
                      refine wp_seq_k fun K50 hK50 => ?_
                      refine c_region ?_
                      refine s_op (o_assign (v := (.bool true)) rfl ?_)
                      refine s_nil ?_
                      refine t_norm (hK50 _ _ ?_)
                      refine wp_ret ?_
                      refine t_ret (c_ret1 Try.results12  (v := (.bool true)) rfl ?_)
                      have hH51 : Has E w42 [R] := (hH41.front 1 rfl).first 1 rfl
                      exact ⟨rfl, hH51⟩
                    · -- not: b < 1
                      refine s_on 61 rfl (congrArg Value.bool (decide_eq_false h47)) (o_move (v := (.int .i64 b)) rfl ?_)
                      refine s_on 61 rfl (congrArg Value.bool (decide_eq_false h47)) (o_gtr (a := b) (b := 4096) rfl rfl ?_)
                      refine s_on 56 rfl (congrArg Value.bool h46) (o_pick_f (u := (.bool (decide (4096 < b)))) ((rfl : _ = _).trans (congrArg Value.bool (decide_eq_false h47))) rfl ?_)
                      refine s_on 56 rfl (congrArg Value.bool h46) (o_neqb Try.underlying4 rfl rfl ?_)
                      refine s_op (o_pick_f (u := (.bool (!(true == (decide (4096 < b)))))) ((rfl : _ = _).trans (congrArg Value.bool h46)) rfl ?_)
                      refine s_nil ?_
                      refine t_norm (hK44 _ _ ?_)
                      refine c_condb rfl (fun h52 => ?_) (fun h52 => ?_)
                      · -- !(true == (decide (4096 < b)))
                        exfalso; first | (simp at h52; done) | (simp at h52; omega)
                      · -- not: !(true == (decide (4096 < b)))
                        refine wp_skip ?_
                        refine t_norm (hK43 _ _ ?_)
                        refine wp_seq_k fun K53 hK53 => ?_
                        refine wp_seq_k fun K54 hK54 => ?_
                        refine c_region ?_
                        refine s_op (o_move (v := (.pointer none)) rfl ?_)
                        refine s_op (o_pnil (p := none) Try.underlying46 rfl rfl ?_)
                        refine s_op (o_move (v := (.bool true)) rfl ?_)
                        refine s_off (b' := true) 69 rfl rfl rfl ?_
                        refine s_off (b' := true) 69 rfl rfl rfl ?_
                        refine s_op (o_pick_t (u := (.bool true)) rfl rfl ?_)
                        refine s_nil ?_
                        refine t_norm (hK54 _ _ ?_)
                        refine c_true rfl rfl ?_
                        refine wp_seq_k fun K55 hK55 => ?_
                        refine c_region ?_
                        refine s_op (o_assign (v := (.bool true)) rfl ?_)
                        refine s_nil ?_
                        refine t_norm (hK55 _ _ ?_)
                        refine wp_ret ?_
                        refine t_ret (c_ret1 Try.results12  (v := (.bool true)) rfl ?_)
                        have hH56 : Has E w42 [R] := (hH41.front 1 rfl).first 1 rfl
                        exact ⟨rfl, hH56⟩
                · -- not: a < 1
                  refine s_on 51 rfl (congrArg Value.bool (decide_eq_false h45)) (o_move (v := (.int .i64 a)) rfl ?_)
                  refine s_on 51 rfl (congrArg Value.bool (decide_eq_false h45)) (o_gtr (a := a) (b := 4096) rfl rfl ?_)
                  refine s_op (o_pick_f (u := (.bool (decide (4096 < a)))) ((rfl : _ = _).trans (congrArg Value.bool (decide_eq_false h45))) rfl ?_)
                  refine s_op (o_neqb Try.underlying4 rfl rfl ?_)
                  refine s_op (o_move (v := (.bool (!(true == (decide (4096 < a)))))) rfl ?_)
                  rcases Bool.eq_false_or_eq_true (!(true == (decide (4096 < a)))) with h57 | h57
                  · -- !(true == (decide (4096 < a)))
                    exfalso; first | (simp at h57; done) | (simp at h57; omega)
                  · -- not: !(true == (decide (4096 < a)))
                    refine s_on 56 rfl (congrArg Value.bool h57) (o_move (v := (.pointer none)) rfl ?_)
                    refine s_on 56 rfl (congrArg Value.bool h57) (o_pnil (p := none) Try.underlying46 rfl rfl ?_)
                    refine s_on 56 rfl (congrArg Value.bool h57) (o_move (v := (.int .i64 b)) rfl ?_)
                    refine s_on 56 rfl (congrArg Value.bool h57) (o_lss (a := b) (b := 1) rfl rfl ?_)
                    refine s_on 56 rfl (congrArg Value.bool h57) (o_move (v := (.bool (decide (b < 1)))) rfl ?_)
                    by_cases h58 : b < 1
                    · -- b < 1
                      refine s_off (b' := true) 61 rfl (congrArg Value.bool (decide_eq_true h58)) rfl ?_
                      refine s_off (b' := true) 61 rfl (congrArg Value.bool (decide_eq_true h58)) rfl ?_
                      refine s_on 56 rfl (congrArg Value.bool h57) (o_pick_t (u := (.bool true)) ((rfl : _ = _).trans (congrArg Value.bool (decide_eq_true h58))) rfl ?_)
                      refine s_on 56 rfl (congrArg Value.bool h57) (o_neqb Try.underlying4 rfl rfl ?_)
                      refine s_op (o_pick_f (u := (.bool (!(true == true)))) ((rfl : _ = _).trans (congrArg Value.bool h57)) rfl ?_)
                      refine s_nil ?_
                      refine t_norm (hK44 _ _ ?_)
                      refine c_condb rfl (fun h59 => ?_) (fun h59 => ?_)
                      · -- !(true == true)
                        exfalso; first | (simp at h59; done) | (simp at h59; omega)
                      · -- not: !(true == true)
                        refine wp_skip ?_
                        refine t_norm (hK43 _ _ ?_)
                        refine wp_seq_k fun K60 hK60 => ?_
                        refine wp_seq_k fun K61 hK61 => ?_
                        refine c_region ?_
                        refine s_op (o_move (v := (.pointer none)) rfl ?_)
                        refine s_op (o_pnil (p := none) Try.underlying46 rfl rfl ?_)
                        refine s_op (o_move (v := (.bool true)) rfl ?_)
                        refine s_off (b' := true) 69 rfl rfl rfl ?_
                        refine s_off (b' := true) 69 rfl rfl rfl ?_
                        refine s_op (o_pick_t (u := (.bool true)) rfl rfl ?_)
                        refine s_nil ?_
                        refine t_norm (hK61 _ _ ?_)
                        refine c_true rfl rfl ?_
                        refine wp_seq_k fun K62 hK62 => ?_
                        refine c_region ?_
                        refine s_op (o_assign (v := (.bool true)) rfl ?_)
                        refine s_nil ?_
                        refine t_norm (hK62 _ _ ?_)
                        refine wp_ret ?_
                        refine t_ret (c_ret1 Try.results12  (v := (.bool true)) rfl ?_)
                        have hH63 : Has E w42 [R] := (hH41.front 1 rfl).first 1 rfl
                        exact ⟨rfl, hH63⟩
                    · -- not: b < 1
                      refine s_on 61 rfl (congrArg Value.bool (decide_eq_false h58)) (o_move (v := (.int .i64 b)) rfl ?_)
                      refine s_on 61 rfl (congrArg Value.bool (decide_eq_false h58)) (o_gtr (a := b) (b := 4096) rfl rfl ?_)
                      refine s_on 56 rfl (congrArg Value.bool h57) (o_pick_f (u := (.bool (decide (4096 < b)))) ((rfl : _ = _).trans (congrArg Value.bool (decide_eq_false h58))) rfl ?_)
                      refine s_on 56 rfl (congrArg Value.bool h57) (o_neqb Try.underlying4 rfl rfl ?_)
                      refine s_op (o_pick_f (u := (.bool (!(true == (decide (4096 < b)))))) ((rfl : _ = _).trans (congrArg Value.bool h57)) rfl ?_)
                      refine s_nil ?_
                      refine t_norm (hK44 _ _ ?_)
                      refine c_condb rfl (fun h64 => ?_) (fun h64 => ?_)
                      · -- !(true == (decide (4096 < b)))
                        exfalso; first | (simp at h64; done) | (simp at h64; omega)
                      · -- not: !(true == (decide (4096 < b)))
                        refine wp_skip ?_
                        refine t_norm (hK43 _ _ ?_)
                        refine wp_seq_k fun K65 hK65 => ?_
                        refine wp_seq_k fun K66 hK66 => ?_
                        refine c_region ?_
                        refine s_op (o_move (v := (.pointer none)) rfl ?_)
                        refine s_op (o_pnil (p := none) Try.underlying46 rfl rfl ?_)
                        refine s_op (o_move (v := (.bool true)) rfl ?_)
                        refine s_off (b' := true) 69 rfl rfl rfl ?_
                        refine s_off (b' := true) 69 rfl rfl rfl ?_
                        refine s_op (o_pick_t (u := (.bool true)) rfl rfl ?_)
                        refine s_nil ?_
                        refine t_norm (hK66 _ _ ?_)
                        refine c_true rfl rfl ?_
                        refine wp_seq_k fun K67 hK67 => ?_
                        refine c_region ?_
                        refine s_op (o_assign (v := (.bool true)) rfl ?_)
                        refine s_nil ?_
                        refine t_norm (hK67 _ _ ?_)
                        refine wp_ret ?_
                        refine t_ret (c_ret1 Try.results12  (v := (.bool true)) rfl ?_)
                        have hH68 : Has E w42 [R] := (hH41.front 1 rfl).first 1 rfl
                        exact ⟨rfl, hH68⟩
        · -- not: 40 < b
          refine s_off (b' := false) 29 rfl (congrArg Value.bool (decide_eq_false h20)) rfl ?_
          refine s_off (b' := false) 29 rfl (congrArg Value.bool (decide_eq_false h20)) rfl ?_
          refine s_on 26 rfl (congrArg Value.bool (decide_eq_false h15)) (o_pick_f (u := (.bool false)) ((rfl : _ = _).trans (congrArg Value.bool (decide_eq_false h20))) rfl ?_)
          refine s_op (o_pick_f (u := (.bool false)) ((rfl : _ = _).trans (congrArg Value.bool (decide_eq_false h15))) rfl ?_)
          refine s_op (o_move (v := (.bool false)) rfl ?_)
          refine s_on 34 rfl rfl (o_callf (vs := #[]) ca27 rfl (args0) (awake5_c hH7.all) ?_)
          rintro _ w71 ⟨rfl, hX69⟩
          refine ⟨_, rfl, ?_⟩
          have hH70 := hX69.of_all
          refine s_on 34 rfl rfl (o_not rfl ?_)
          refine s_op (o_pick_f (u := (.bool false)) rfl rfl ?_)
          refine s_nil ?_
          refine t_norm (hK3 _ _ ?_)
          refine c_false rfl rfl ?_
          refine wp_skip ?_
          refine t_norm (hK2 _ _ ?_)
          refine wp_seq_k fun K72 hK72 => ?_
          refine c_region ?_
          refine s_op (o_sight (v := (.agg #[(.bool false), (.bool false), (.int .i64 0), (.int .i64 0)])) (fun _ => by kernel_rfl) ?_)
          refine s_op (o_box (cs := #[(.bool false), (.bool false), (.int .i64 0), (.int .i64 0)]) rfl rfl hH70 fun b73 w74 hH75 => ?_)
          refine s_op (o_assign (v := (.pointer (some ⟨b73, 0, none⟩))) rfl ?_)
          refine s_nil ?_
          refine t_norm (hK72 _ _ ?_)
          refine wp_seq_k fun K76 hK76 => ?_
          refine c_region ?_
          refine s_op (o_move (v := (.pointer (some ⟨b73, 0, none⟩))) rfl ?_)
          refine s_op (o_move (v := (.int .i64 a)) rfl ?_)
          have hH77 : Has E w74 [[Hp.one b73 (.cells #[(.bool (Pw.mk false false 0 0).off), (.bool (Pw.mk false false 0 0).armed), (.int .i64 (Pw.mk false false 0 0).left), (.int .i64 (Pw.mk false false 0 0).uses)] 101 (0, 0))], R] := hH75
          by_cases hab78 : 1 ≤ a ∧ a ≤ 4096
          · -- a device
            exfalso; omega
          · -- none
            refine s_op (o_callf (vs := #[(.pointer (some ⟨b73, 0, none⟩)), (.int .i64 a)]) ca23 rfl (args2 rfl rfl) (new_bad hH77.all (by omega)) ?_)
            rintro _ w81 ⟨rfl, hX79⟩
            refine ⟨_, rfl, ?_⟩
            have hH80 := hX79.of_all
            refine s_op (o_move (v := (.pointer (some ⟨b73, 0, none⟩))) rfl ?_)
            refine s_op (o_move (v := (.int .i64 b)) rfl ?_)
            by_cases hab82 : 1 ≤ b ∧ b ≤ 4096
            · -- a device
              refine s_op (o_callf (vs := #[(.pointer (some ⟨b73, 0, none⟩)), (.int .i64 b)]) ca23 rfl (args2 rfl rfl) (new_wI hH80.all (pb := b73) hab82) ?_)
              rintro _ w88 ⟨db83, sg84, rfl, hd85, hX86⟩
              refine ⟨_, rfl, ?_⟩
              have hH87 : Has E w88 [sg84, [Hp.one b73 (.cells #[(.bool (Pw.mk false false 0 0).off), (.bool (Pw.mk false false 0 0).armed), (.int .i64 (Pw.mk false false 0 0).left), (.int .i64 (Pw.mk false false 0 0).uses)] 101 (0, 0))], R] := hX86.of_all1
              refine s_op (o_assign (v := (.pointer none)) rfl ?_)
              refine s_op (o_assign (v := (.pointer (some ⟨db83, 0, none⟩))) rfl ?_)
              refine s_nil ?_
              refine t_norm (hK76 _ _ ?_)
              refine wp_seq_k fun K89 hK89 => ?_
              refine wp_seq_k fun K90 hK90 => ?_
              refine c_region ?_
              refine s_op (o_move (v := (.pointer none)) rfl ?_)
              refine s_op (o_pnil (p := none) Try.underlying46 rfl rfl ?_)
              refine s_op (o_move (v := (.int .i64 a)) rfl ?_)
              refine s_op (o_lss (a := a) (b := 1) rfl rfl ?_)
              refine s_op (o_move (v := (.bool (decide (a < 1)))) rfl ?_)
              by_cases h91 : a < 1
              · -- a < 1
                refine s_off (b' := true) 51 rfl (congrArg Value.bool (decide_eq_true h91)) rfl ?_
                refine s_off (b' := true) 51 rfl (congrArg Value.bool (decide_eq_true h91)) rfl ?_
                refine s_op (o_pick_t (u := (.bool true)) ((rfl : _ = _).trans (congrArg Value.bool (decide_eq_true h91))) rfl ?_)
                refine s_op (o_neqb Try.underlying4 rfl rfl ?_)
                refine s_op (o_move (v := (.bool (!(true == true)))) rfl ?_)
                rcases Bool.eq_false_or_eq_true (!(true == true)) with h92 | h92
                · -- !(true == true)
                  exfalso; first | (simp at h92; done) | (simp at h92; omega)
                · -- not: !(true == true)
                  refine s_on 56 rfl (congrArg Value.bool h92) (o_move (v := (.pointer (some ⟨db83, 0, none⟩))) rfl ?_)
                  refine s_on 56 rfl (congrArg Value.bool h92) (o_pnil (p := some _) Try.underlying46 rfl rfl ?_)
                  refine s_on 56 rfl (congrArg Value.bool h92) (o_move (v := (.int .i64 b)) rfl ?_)
                  refine s_on 56 rfl (congrArg Value.bool h92) (o_lss (a := b) (b := 1) rfl rfl ?_)
                  refine s_on 56 rfl (congrArg Value.bool h92) (o_move (v := (.bool (decide (b < 1)))) rfl ?_)
                  by_cases h93 : b < 1
                  · -- b < 1
                    exfalso; omega
                  · -- not: b < 1
                    refine s_on 61 rfl (congrArg Value.bool (decide_eq_false h93)) (o_move (v := (.int .i64 b)) rfl ?_)
                    refine s_on 61 rfl (congrArg Value.bool (decide_eq_false h93)) (o_gtr (a := b) (b := 4096) rfl rfl ?_)
                    refine s_on 56 rfl (congrArg Value.bool h92) (o_pick_f (u := (.bool (decide (4096 < b)))) ((rfl : _ = _).trans (congrArg Value.bool (decide_eq_false h93))) rfl ?_)
                    refine s_on 56 rfl (congrArg Value.bool h92) (o_neqb Try.underlying4 rfl rfl ?_)
                    refine s_op (o_pick_f (u := (.bool (!(false == (decide (4096 < b)))))) ((rfl : _ = _).trans (congrArg Value.bool h92)) rfl ?_)
                    refine s_nil ?_
                    refine t_norm (hK90 _ _ ?_)
                    refine c_condb rfl (fun h94 => ?_) (fun h94 => ?_)
                    · -- !(false == (decide (4096 < b)))
                      exfalso; first | (simp at h94; done) | (simp at h94; omega)
                    · -- not: !(false == (decide (4096 < b)))
                      refine wp_skip ?_
                      refine t_norm (hK89 _ _ ?_)
                      refine wp_seq_k fun K95 hK95 => ?_
                      refine wp_seq_k fun K96 hK96 => ?_
                      refine c_region ?_
                      refine s_op (o_move (v := (.pointer none)) rfl ?_)
                      refine s_op (o_pnil (p := none) Try.underlying46 rfl rfl ?_)
                      refine s_op (o_move (v := (.bool true)) rfl ?_)
                      refine s_off (b' := true) 69 rfl rfl rfl ?_
                      refine s_off (b' := true) 69 rfl rfl rfl ?_
                      refine s_op (o_pick_t (u := (.bool true)) rfl rfl ?_)
                      refine s_nil ?_
                      refine t_norm (hK96 _ _ ?_)
                      refine c_true rfl rfl ?_
                      refine wp_seq_k fun K97 hK97 => ?_
                      refine c_region ?_
                      refine s_op (o_assign (v := (.bool true)) rfl ?_)
                      refine s_nil ?_
                      refine t_norm (hK97 _ _ ?_)
                      refine wp_ret ?_
                      refine t_ret (c_ret1 Try.results12  (v := (.bool true)) rfl ?_)
                      have hH98 : Has E w88 [R] := (hH87.front 2 rfl).first 1 rfl
                      exact ⟨rfl, hH98⟩
              · -- not: a < 1
                refine s_on 51 rfl (congrArg Value.bool (decide_eq_false h91)) (o_move (v := (.int .i64 a)) rfl ?_)
                refine s_on 51 rfl (congrArg Value.bool (decide_eq_false h91)) (o_gtr (a := a) (b := 4096) rfl rfl ?_)
                refine s_op (o_pick_f (u := (.bool (decide (4096 < a)))) ((rfl : _ = _).trans (congrArg Value.bool (decide_eq_false h91))) rfl ?_)
                refine s_op (o_neqb Try.underlying4 rfl rfl ?_)
                refine s_op (o_move (v := (.bool (!(true == (decide (4096 < a)))))) rfl ?_)
                rcases Bool.eq_false_or_eq_true (!(true == (decide (4096 < a)))) with h99 | h99
                · -- !(true == (decide (4096 < a)))
                  exfalso; first | (simp at h99; done) | (simp at h99; omega)
                · -- not: !(true == (decide (4096 < a)))
                  refine s_on 56 rfl (congrArg Value.bool h99) (o_move (v := (.pointer (some ⟨db83, 0, none⟩))) rfl ?_)
                  refine s_on 56 rfl (congrArg Value.bool h99) (o_pnil (p := some _) Try.underlying46 rfl rfl ?_)
                  refine s_on 56 rfl (congrArg Value.bool h99) (o_move (v := (.int .i64 b)) rfl ?_)
                  refine s_on 56 rfl (congrArg Value.bool h99) (o_lss (a := b) (b := 1) rfl rfl ?_)
                  refine s_on 56 rfl (congrArg Value.bool h99) (o_move (v := (.bool (decide (b < 1)))) rfl ?_)
                  by_cases h100 : b < 1
                  · -- b < 1
                    exfalso; omega
                  · -- not: b < 1
                    refine s_on 61 rfl (congrArg Value.bool (decide_eq_false h100)) (o_move (v := (.int .i64 b)) rfl ?_)
                    refine s_on 61 rfl (congrArg Value.bool (decide_eq_false h100)) (o_gtr (a := b) (b := 4096) rfl rfl ?_)
                    refine s_on 56 rfl (congrArg Value.bool h99) (o_pick_f (u := (.bool (decide (4096 < b)))) ((rfl : _ = _).trans (congrArg Value.bool (decide_eq_false h100))) rfl ?_)
                    refine s_on 56 rfl (congrArg Value.bool h99) (o_neqb Try.underlying4 rfl rfl ?_)
                    refine s_op (o_pick_f (u := (.bool (!(false == (decide (4096 < b)))))) ((rfl : _ = _).trans (congrArg Value.bool h99)) rfl ?_)
                    refine s_nil ?_
                    refine t_norm (hK90 _ _ ?_)
                    refine c_condb rfl (fun h101 => ?_) (fun h101 => ?_)
                    · -- !(false == (decide (4096 < b)))
                      exfalso; first | (simp at h101; done) | (simp at h101; omega)
                    · -- not: !(false == (decide (4096 < b)))
                      refine wp_skip ?_
                      refine t_norm (hK89 _ _ ?_)
                      refine wp_seq_k fun K102 hK102 => ?_
                      refine wp_seq_k fun K103 hK103 => ?_
                      refine c_region ?_
                      refine s_op (o_move (v := (.pointer none)) rfl ?_)
                      refine s_op (o_pnil (p := none) Try.underlying46 rfl rfl ?_)
                      refine s_op (o_move (v := (.bool true)) rfl ?_)
                      refine s_off (b' := true) 69 rfl rfl rfl ?_
                      refine s_off (b' := true) 69 rfl rfl rfl ?_
                      refine s_op (o_pick_t (u := (.bool true)) rfl rfl ?_)
                      refine s_nil ?_
                      refine t_norm (hK103 _ _ ?_)
                      refine c_true rfl rfl ?_
                      refine wp_seq_k fun K104 hK104 => ?_
                      refine c_region ?_
                      refine s_op (o_assign (v := (.bool true)) rfl ?_)
                      refine s_nil ?_
                      refine t_norm (hK104 _ _ ?_)
                      refine wp_ret ?_
                      refine t_ret (c_ret1 Try.results12  (v := (.bool true)) rfl ?_)
                      have hH105 : Has E w88 [R] := (hH87.front 2 rfl).first 1 rfl
                      exact ⟨rfl, hH105⟩
            · -- none
              refine s_op (o_callf (vs := #[(.pointer (some ⟨b73, 0, none⟩)), (.int .i64 b)]) ca23 rfl (args2 rfl rfl) (new_bad hH80.all (by omega)) ?_)
              rintro _ w108 ⟨rfl, hX106⟩
              refine ⟨_, rfl, ?_⟩
              have hH107 := hX106.of_all
              refine s_op (o_assign (v := (.pointer none)) rfl ?_)
              refine s_op (o_assign (v := (.pointer none)) rfl ?_)
              refine s_nil ?_
              refine t_norm (hK76 _ _ ?_)
              refine wp_seq_k fun K109 hK109 => ?_
              refine wp_seq_k fun K110 hK110 => ?_
              refine c_region ?_
              refine s_op (o_move (v := (.pointer none)) rfl ?_)
              refine s_op (o_pnil (p := none) Try.underlying46 rfl rfl ?_)
              refine s_op (o_move (v := (.int .i64 a)) rfl ?_)
              refine s_op (o_lss (a := a) (b := 1) rfl rfl ?_)
              refine s_op (o_move (v := (.bool (decide (a < 1)))) rfl ?_)
              by_cases h111 : a < 1
              · -- a < 1
                refine s_off (b' := true) 51 rfl (congrArg Value.bool (decide_eq_true h111)) rfl ?_
                refine s_off (b' := true) 51 rfl (congrArg Value.bool (decide_eq_true h111)) rfl ?_
                refine s_op (o_pick_t (u := (.bool true)) ((rfl : _ = _).trans (congrArg Value.bool (decide_eq_true h111))) rfl ?_)
                refine s_op (o_neqb Try.underlying4 rfl rfl ?_)
                refine s_op (o_move (v := (.bool (!(true == true)))) rfl ?_)
                rcases Bool.eq_false_or_eq_true (!(true == true)) with h112 | h112
                · -- !(true == true)
                  exfalso; first | (simp at h112; done) | (simp at h112; omega)
                · -- not: !(true == true)
                  refine s_on 56 rfl (congrArg Value.bool h112) (o_move (v := (.pointer none)) rfl ?_)
                  refine s_on 56 rfl (congrArg Value.bool h112) (o_pnil (p := none) Try.underlying46 rfl rfl ?_)
                  refine s_on 56 rfl (congrArg Value.bool h112) (o_move (v := (.int .i64 b)) rfl ?_)
                  refine s_on 56 rfl (congrArg Value.bool h112) (o_lss (a := b) (b := 1) rfl rfl ?_)
                  refine s_on 56 rfl (congrArg Value.bool h112) (o_move (v := (.bool (decide (b < 1)))) rfl ?_)
                  by_cases h113 : b < 1
                  · -- b < 1
                    refine s_off (b' := true) 61 rfl (congrArg Value.bool (decide_eq_true h113)) rfl ?_
                    refine s_off (b' := true) 61 rfl (congrArg Value.bool (decide_eq_true h113)) rfl ?_
                    refine s_on 56 rfl (congrArg Value.bool h112) (o_pick_t (u := (.bool true)) ((rfl : _ = _).trans (congrArg Value.bool (decide_eq_true h113))) rfl ?_)
                    refine s_on 56 rfl (congrArg Value.bool h112) (o_neqb Try.underlying4 rfl rfl ?_)
                    refine s_op (o_pick_f (u := (.bool (!(true == true)))) ((rfl : _ = _).trans (congrArg Value.bool h112)) rfl ?_)
                    refine s_nil ?_
                    refine t_norm (hK110 _ _ ?_)
                    refine c_false rfl h112 ?_
                    refine wp_skip ?_
                    refine t_norm (hK109 _ _ ?_)
                    refine wp_seq_k fun K114 hK114 => ?_
                    refine wp_seq_k fun K115 hK115 => ?_
                    refine c_region ?_
                    refine s_op (o_move (v := (.pointer none)) rfl ?_)
                    refine s_op (o_pnil (p := none) Try.underlying46 rfl rfl ?_)
                    refine s_op (o_move (v := (.bool true)) rfl ?_)
                    refine s_off (b' := true) 69 rfl rfl rfl ?_
                    refine s_off (b' := true) 69 rfl rfl rfl ?_
                    refine s_op (o_pick_t (u := (.bool true)) rfl rfl ?_)
                    refine s_nil ?_
                    refine t_norm (hK115 _ _ ?_)
                    refine c_true rfl rfl ?_
                    refine wp_seq_k fun K116 hK116 => ?_
                    refine c_region ?_
                    refine s_op (o_assign (v := (.bool true)) rfl ?_)
                    refine s_nil ?_
                    refine t_norm (hK116 _ _ ?_)
                    refine wp_ret ?_
                    refine t_ret (c_ret1 Try.results12  (v := (.bool true)) rfl ?_)
                    have hH117 : Has E w108 [R] := (hH107.front 1 rfl).first 1 rfl
                    exact ⟨rfl, hH117⟩
                  · -- not: b < 1
                    refine s_on 61 rfl (congrArg Value.bool (decide_eq_false h113)) (o_move (v := (.int .i64 b)) rfl ?_)
                    refine s_on 61 rfl (congrArg Value.bool (decide_eq_false h113)) (o_gtr (a := b) (b := 4096) rfl rfl ?_)
                    refine s_on 56 rfl (congrArg Value.bool h112) (o_pick_f (u := (.bool (decide (4096 < b)))) ((rfl : _ = _).trans (congrArg Value.bool (decide_eq_false h113))) rfl ?_)
                    refine s_on 56 rfl (congrArg Value.bool h112) (o_neqb Try.underlying4 rfl rfl ?_)
                    refine s_op (o_pick_f (u := (.bool (!(true == (decide (4096 < b)))))) ((rfl : _ = _).trans (congrArg Value.bool h112)) rfl ?_)
                    refine s_nil ?_
                    refine t_norm (hK110 _ _ ?_)
                    refine c_condb rfl (fun h118 => ?_) (fun h118 => ?_)
                    · -- !(true == (decide (4096 < b)))
                      exfalso; first | (simp at h118; done) | (simp at h118; omega)
                    · -- not: !(true == (decide (4096 < b)))
                      refine wp_skip ?_
                      refine t_norm (hK109 _ _ ?_)
                      refine wp_seq_k fun K119 hK119 => ?_
                      refine wp_seq_k fun K120 hK120 => ?_
                      refine c_region ?_
                      refine s_op (o_move (v := (.pointer none)) rfl ?_)
                      refine s_op (o_pnil (p := none) Try.underlying46 rfl rfl ?_)
                      refine s_op (o_move (v := (.bool true)) rfl ?_)
                      refine s_off (b' := true) 69 rfl rfl rfl ?_
                      refine s_off (b' := true) 69 rfl rfl rfl ?_
                      refine s_op (o_pick_t (u := (.bool true)) rfl rfl ?_)
                      refine s_nil ?_
                      refine t_norm (hK120 _ _ ?_)
                      refine c_true rfl rfl ?_
                      refine wp_seq_k fun K121 hK121 => ?_
                      refine c_region ?_
                      refine s_op (o_assign (v := (.bool true)) rfl ?_)
                      refine s_nil ?_
                      refine t_norm (hK121 _ _ ?_)
                      refine wp_ret ?_
                      refine t_ret (c_ret1 Try.results12  (v := (.bool true)) rfl ?_)
                      have hH122 : Has E w108 [R] := (hH107.front 1 rfl).first 1 rfl
                      exact ⟨rfl, hH122⟩
              · -- not: a < 1
                refine s_on 51 rfl (congrArg Value.bool (decide_eq_false h111)) (o_move (v := (.int .i64 a)) rfl ?_)
                refine s_on 51 rfl (congrArg Value.bool (decide_eq_false h111)) (o_gtr (a := a) (b := 4096) rfl rfl ?_)
                refine s_op (o_pick_f (u := (.bool (decide (4096 < a)))) ((rfl : _ = _).trans (congrArg Value.bool (decide_eq_false h111))) rfl ?_)
                refine s_op (o_neqb Try.underlying4 rfl rfl ?_)
                refine s_op (o_move (v := (.bool (!(true == (decide (4096 < a)))))) rfl ?_)
                rcases Bool.eq_false_or_eq_true (!(true == (decide (4096 < a)))) with h123 | h123
                · -- !(true == (decide (4096 < a)))
                  exfalso; first | (simp at h123; done) | (simp at h123; omega)
                · -- not: !(true == (decide (4096 < a)))
                  refine s_on 56 rfl (congrArg Value.bool h123) (o_move (v := (.pointer none)) rfl ?_)
                  refine s_on 56 rfl (congrArg Value.bool h123) (o_pnil (p := none) Try.underlying46 rfl rfl ?_)
                  refine s_on 56 rfl (congrArg Value.bool h123) (o_move (v := (.int .i64 b)) rfl ?_)
                  refine s_on 56 rfl (congrArg Value.bool h123) (o_lss (a := b) (b := 1) rfl rfl ?_)
                  refine s_on 56 rfl (congrArg Value.bool h123) (o_move (v := (.bool (decide (b < 1)))) rfl ?_)
                  by_cases h124 : b < 1
                  · -- b < 1
                    refine s_off (b' := true) 61 rfl (congrArg Value.bool (decide_eq_true h124)) rfl ?_
                    refine s_off (b' := true) 61 rfl (congrArg Value.bool (decide_eq_true h124)) rfl ?_
                    refine s_on 56 rfl (congrArg Value.bool h123) (o_pick_t (u := (.bool true)) ((rfl : _ = _).trans (congrArg Value.bool (decide_eq_true h124))) rfl ?_)
                    refine s_on 56 rfl (congrArg Value.bool h123) (o_neqb Try.underlying4 rfl rfl ?_)
                    refine s_op (o_pick_f (u := (.bool (!(true == true)))) ((rfl : _ = _).trans (congrArg Value.bool h123)) rfl ?_)
                    refine s_nil ?_
                    refine t_norm (hK110 _ _ ?_)
                    refine c_condb rfl (fun h125 => ?_) (fun h125 => ?_)
                    · -- !(true == true)
                      exfalso; first | (simp at h125; done) | (simp at h125; omega)
                    · -- not: !(true == true)
                      refine wp_skip ?_
                      refine t_norm (hK109 _ _ ?_)
                      refine wp_seq_k fun K126 hK126 => ?_
                      refine wp_seq_k fun K127 hK127 => ?_
                      refine c_region ?_
                      refine s_op (o_move (v := (.pointer none)) rfl ?_)
                      refine s_op (o_pnil (p := none) Try.underlying46 rfl rfl ?_)
                      refine s_op (o_move (v := (.bool true)) rfl ?_)
                      refine s_off (b' := true) 69 rfl rfl rfl ?_
                      refine s_off (b' := true) 69 rfl rfl rfl ?_
                      refine s_op (o_pick_t (u := (.bool true)) rfl rfl ?_)
                      refine s_nil ?_
                      refine t_norm (hK127 _ _ ?_)
                      refine c_true rfl rfl ?_
                      refine wp_seq_k fun K128 hK128 => ?_
                      refine c_region ?_
                      refine s_op (o_assign (v := (.bool true)) rfl ?_)
                      refine s_nil ?_
                      refine t_norm (hK128 _ _ ?_)
                      refine wp_ret ?_
                      refine t_ret (c_ret1 Try.results12  (v := (.bool true)) rfl ?_)
                      have hH129 : Has E w108 [R] := (hH107.front 1 rfl).first 1 rfl
                      exact ⟨rfl, hH129⟩
                  · -- not: b < 1
                    refine s_on 61 rfl (congrArg Value.bool (decide_eq_false h124)) (o_move (v := (.int .i64 b)) rfl ?_)
                    refine s_on 61 rfl (congrArg Value.bool (decide_eq_false h124)) (o_gtr (a := b) (b := 4096) rfl rfl ?_)
                    refine s_on 56 rfl (congrArg Value.bool h123) (o_pick_f (u := (.bool (decide (4096 < b)))) ((rfl : _ = _).trans (congrArg Value.bool (decide_eq_false h124))) rfl ?_)
                    refine s_on 56 rfl (congrArg Value.bool h123) (o_neqb Try.underlying4 rfl rfl ?_)
                    refine s_op (o_pick_f (u := (.bool (!(true == (decide (4096 < b)))))) ((rfl : _ = _).trans (congrArg Value.bool h123)) rfl ?_)
                    refine s_nil ?_
                    refine t_norm (hK110 _ _ ?_)
                    refine c_condb rfl (fun h130 => ?_) (fun h130 => ?_)
                    · -- !(true == (decide (4096 < b)))
                      exfalso; first | (simp at h130; done) | (simp at h130; omega)
                    · -- not: !(true == (decide (4096 < b)))
                      refine wp_skip ?_
                      refine t_norm (hK109 _ _ ?_)
                      refine wp_seq_k fun K131 hK131 => ?_
                      refine wp_seq_k fun K132 hK132 => ?_
                      refine c_region ?_
                      refine s_op (o_move (v := (.pointer none)) rfl ?_)
                      refine s_op (o_pnil (p := none) Try.underlying46 rfl rfl ?_)
                      refine s_op (o_move (v := (.bool true)) rfl ?_)
                      refine s_off (b' := true) 69 rfl rfl rfl ?_
                      refine s_off (b' := true) 69 rfl rfl rfl ?_
                      refine s_op (o_pick_t (u := (.bool true)) rfl rfl ?_)
                      refine s_nil ?_
                      refine t_norm (hK132 _ _ ?_)
                      refine c_true rfl rfl ?_
                      refine wp_seq_k fun K133 hK133 => ?_
                      refine c_region ?_
                      refine s_op (o_assign (v := (.bool true)) rfl ?_)
                      refine s_nil ?_
                      refine t_norm (hK133 _ _ ?_)
                      refine wp_ret ?_
                      refine t_ret (c_ret1 Try.results12  (v := (.bool true)) rfl ?_)
                      have hH134 : Has E w108 [R] := (hH107.front 1 rfl).first 1 rfl
                      exact ⟨rfl, hH134⟩
    · -- not: 40 < a
      refine s_off (b' := false) 21 rfl (congrArg Value.bool (decide_eq_false h14)) rfl ?_
      refine s_off (b' := false) 21 rfl (congrArg Value.bool (decide_eq_false h14)) rfl ?_
      refine s_on 18 rfl (congrArg Value.bool h9) (o_pick_f (u := (.bool false)) ((rfl : _ = _).trans (congrArg Value.bool (decide_eq_false h14))) rfl ?_)
      refine s_op (o_pick_f (u := (.bool false)) ((rfl : _ = _).trans (congrArg Value.bool h9)) rfl ?_)
      refine s_op (o_move (v := (.bool false)) rfl ?_)
      refine s_on 26 rfl rfl (o_move (v := (.int .i64 b)) rfl ?_)
      refine s_on 26 rfl rfl (o_gtr (a := b) (b := 40) rfl rfl ?_)
      refine s_on 26 rfl rfl (o_move (v := (.bool (decide (40 < b)))) rfl ?_)
      by_cases h135 : 40 < b
      · -- 40 < b
        refine s_on 29 rfl (congrArg Value.bool (decide_eq_true h135)) (o_move (v := (.int .i64 b)) rfl ?_)
        refine s_on 29 rfl (congrArg Value.bool (decide_eq_true h135)) (o_leq (a := b) (b := 4096) rfl rfl ?_)
        refine s_on 26 rfl rfl (o_pick_t (u := (.bool (decide (b ≤ 4096)))) ((rfl : _ = _).trans (congrArg Value.bool (decide_eq_true h135))) rfl ?_)
        refine s_op (o_pick_f (u := (.bool (decide (b ≤ 4096)))) rfl rfl ?_)
        refine s_op (o_move (v := (.bool (decide (b ≤ 4096)))) rfl ?_)
        by_cases h136 : b ≤ 4096
        · -- b ≤ 4096
          refine s_off (b' := true) 34 rfl (congrArg Value.bool (decide_eq_true h136)) rfl ?_
          refine s_off (b' := true) 34 rfl (congrArg Value.bool (decide_eq_true h136)) rfl ?_
          refine s_op (o_pick_t (u := (.bool true)) ((rfl : _ = _).trans (congrArg Value.bool (decide_eq_true h136))) rfl ?_)
          refine s_nil ?_
          refine t_norm (hK3 _ _ ?_)
          refine c_true rfl rfl ?_
          refine wp_seq_k fun K137 hK137 => ?_
          refine c_region ?_
          refine s_op (o_callf (vs := #[]) ca27 rfl (args0) (awake5_c hH7.all) ?_)
          rintro _ w140 ⟨rfl, hX138⟩
          refine ⟨_, rfl, ?_⟩
          have hH139 := hX138.of_all
          refine s_op (o_assign (v := (.bool true)) rfl ?_)
          refine s_nil ?_
          refine t_norm (hK137 _ _ ?_)
          refine wp_ret ?_
          refine t_ret (c_ret1 Try.results12  (v := (.bool true)) rfl ?_)
          exact ⟨rfl, hH139⟩
        · -- not: b ≤ 4096
          refine s_on 34 rfl (congrArg Value.bool (decide_eq_false h136)) (o_callf (vs := #[]) ca27 rfl (args0) (awake5_c hH7.all) ?_)
          rintro _ w143 ⟨rfl, hX141⟩
          refine ⟨_, rfl, ?_⟩
          have hH142 := hX141.of_all
          refine s_on 34 rfl (congrArg Value.bool (decide_eq_false h136)) (o_not rfl ?_)
          refine s_op (o_pick_f (u := (.bool false)) ((rfl : _ = _).trans (congrArg Value.bool (decide_eq_false h136))) rfl ?_)
          refine s_nil ?_
          refine t_norm (hK3 _ _ ?_)
          refine c_false rfl rfl ?_
          refine wp_skip ?_
          refine t_norm (hK2 _ _ ?_)
          refine wp_seq_k fun K144 hK144 => ?_
          refine c_region ?_
          refine s_op (o_sight (v := (.agg #[(.bool false), (.bool false), (.int .i64 0), (.int .i64 0)])) (fun _ => by kernel_rfl) ?_)
          refine s_op (o_box (cs := #[(.bool false), (.bool false), (.int .i64 0), (.int .i64 0)]) rfl rfl hH142 fun b145 w146 hH147 => ?_)
          refine s_op (o_assign (v := (.pointer (some ⟨b145, 0, none⟩))) rfl ?_)
          refine s_nil ?_
          refine t_norm (hK144 _ _ ?_)
          refine wp_seq_k fun K148 hK148 => ?_
          refine c_region ?_
          refine s_op (o_move (v := (.pointer (some ⟨b145, 0, none⟩))) rfl ?_)
          refine s_op (o_move (v := (.int .i64 a)) rfl ?_)
          have hH149 : Has E w146 [[Hp.one b145 (.cells #[(.bool (Pw.mk false false 0 0).off), (.bool (Pw.mk false false 0 0).armed), (.int .i64 (Pw.mk false false 0 0).left), (.int .i64 (Pw.mk false false 0 0).uses)] 101 (0, 0))], R] := hH147
          by_cases hab150 : 1 ≤ a ∧ a ≤ 4096
          · -- a device
            refine s_op (o_callf (vs := #[(.pointer (some ⟨b145, 0, none⟩)), (.int .i64 a)]) ca23 rfl (args2 rfl rfl) (new_wI hH149.all (pb := b145) hab150) ?_)
            rintro _ w156 ⟨db151, sg152, rfl, hd153, hX154⟩
            refine ⟨_, rfl, ?_⟩
            have hH155 : Has E w156 [sg152, [Hp.one b145 (.cells #[(.bool (Pw.mk false false 0 0).off), (.bool (Pw.mk false false 0 0).armed), (.int .i64 (Pw.mk false false 0 0).left), (.int .i64 (Pw.mk false false 0 0).uses)] 101 (0, 0))], R] := hX154.of_all1
            refine s_op (o_move (v := (.pointer (some ⟨b145, 0, none⟩))) rfl ?_)
            refine s_op (o_move (v := (.int .i64 b)) rfl ?_)
            by_cases hab157 : 1 ≤ b ∧ b ≤ 4096
            · -- a device
              exfalso; omega
            · -- none
              refine s_op (o_callf (vs := #[(.pointer (some ⟨b145, 0, none⟩)), (.int .i64 b)]) ca23 rfl (args2 rfl rfl) (new_bad hH155.all (by omega)) ?_)
              rintro _ w160 ⟨rfl, hX158⟩
              refine ⟨_, rfl, ?_⟩
              have hH159 := hX158.of_all
              refine s_op (o_assign (v := (.pointer (some ⟨db151, 0, none⟩))) rfl ?_)
              refine s_op (o_assign (v := (.pointer none)) rfl ?_)
              refine s_nil ?_
              refine t_norm (hK148 _ _ ?_)
              refine wp_seq_k fun K161 hK161 => ?_
              refine wp_seq_k fun K162 hK162 => ?_
              refine c_region ?_
              refine s_op (o_move (v := (.pointer (some ⟨db151, 0, none⟩))) rfl ?_)
              refine s_op (o_pnil (p := some _) Try.underlying46 rfl rfl ?_)
              refine s_op (o_move (v := (.int .i64 a)) rfl ?_)
              refine s_op (o_lss (a := a) (b := 1) rfl rfl ?_)
              refine s_op (o_move (v := (.bool (decide (a < 1)))) rfl ?_)
              by_cases h163 : a < 1
              · -- a < 1
                exfalso; omega
              · -- not: a < 1
                refine s_on 51 rfl (congrArg Value.bool (decide_eq_false h163)) (o_move (v := (.int .i64 a)) rfl ?_)
                refine s_on 51 rfl (congrArg Value.bool (decide_eq_false h163)) (o_gtr (a := a) (b := 4096) rfl rfl ?_)
                refine s_op (o_pick_f (u := (.bool (decide (4096 < a)))) ((rfl : _ = _).trans (congrArg Value.bool (decide_eq_false h163))) rfl ?_)
                refine s_op (o_neqb Try.underlying4 rfl rfl ?_)
                refine s_op (o_move (v := (.bool (!(false == (decide (4096 < a)))))) rfl ?_)
                rcases Bool.eq_false_or_eq_true (!(false == (decide (4096 < a)))) with h164 | h164
                · -- !(false == (decide (4096 < a)))
                  exfalso; first | (simp at h164; done) | (simp at h164; omega)
                · -- not: !(false == (decide (4096 < a)))
                  refine s_on 56 rfl (congrArg Value.bool h164) (o_move (v := (.pointer none)) rfl ?_)
                  refine s_on 56 rfl (congrArg Value.bool h164) (o_pnil (p := none) Try.underlying46 rfl rfl ?_)
                  refine s_on 56 rfl (congrArg Value.bool h164) (o_move (v := (.int .i64 b)) rfl ?_)
                  refine s_on 56 rfl (congrArg Value.bool h164) (o_lss (a := b) (b := 1) rfl rfl ?_)
                  refine s_on 56 rfl (congrArg Value.bool h164) (o_move (v := (.bool (decide (b < 1)))) rfl ?_)
                  by_cases h165 : b < 1
                  · -- b < 1
                    refine s_off (b' := true) 61 rfl (congrArg Value.bool (decide_eq_true h165)) rfl ?_
                    refine s_off (b' := true) 61 rfl (congrArg Value.bool (decide_eq_true h165)) rfl ?_
                    refine s_on 56 rfl (congrArg Value.bool h164) (o_pick_t (u := (.bool true)) ((rfl : _ = _).trans (congrArg Value.bool (decide_eq_true h165))) rfl ?_)
                    refine s_on 56 rfl (congrArg Value.bool h164) (o_neqb Try.underlying4 rfl rfl ?_)
                    refine s_op (o_pick_f (u := (.bool (!(true == true)))) ((rfl : _ = _).trans (congrArg Value.bool h164)) rfl ?_)
                    refine s_nil ?_
                    refine t_norm (hK162 _ _ ?_)
                    refine c_condb rfl (fun h166 => ?_) (fun h166 => ?_)
                    · -- !(true == true)
                      exfalso; first | (simp at h166; done) | (simp at h166; omega)
                    · -- not: !(true == true)
                      refine wp_skip ?_
                      refine t_norm (hK161 _ _ ?_)
                      refine wp_seq_k fun K167 hK167 => ?_
                      refine wp_seq_k fun K168 hK168 => ?_
                      refine c_region ?_
                      refine s_op (o_move (v := (.pointer (some ⟨db151, 0, none⟩))) rfl ?_)
                      refine s_op (o_pnil (p := some _) Try.underlying46 rfl rfl ?_)
                      refine s_op (o_move (v := (.bool false)) rfl ?_)
                      refine s_on 69 rfl rfl (o_move (v := (.pointer none)) rfl ?_)
                      refine s_on 69 rfl rfl (o_pnil (p := none) Try.underlying46 rfl rfl ?_)
                      refine s_op (o_pick_f (u := (.bool true)) rfl rfl ?_)
                      refine s_nil ?_
                      refine t_norm (hK168 _ _ ?_)
                      refine c_true rfl rfl ?_
                      refine wp_seq_k fun K169 hK169 => ?_
                      refine c_region ?_
                      refine s_op (o_assign (v := (.bool true)) rfl ?_)
                      refine s_nil ?_
                      refine t_norm (hK169 _ _ ?_)
                      refine wp_ret ?_
                      refine t_ret (c_ret1 Try.results12  (v := (.bool true)) rfl ?_)
                      have hH170 : Has E w160 [R] := (hH159.front 2 rfl).first 1 rfl
                      exact ⟨rfl, hH170⟩
                  · -- not: b < 1
                    refine s_on 61 rfl (congrArg Value.bool (decide_eq_false h165)) (o_move (v := (.int .i64 b)) rfl ?_)
                    refine s_on 61 rfl (congrArg Value.bool (decide_eq_false h165)) (o_gtr (a := b) (b := 4096) rfl rfl ?_)
                    refine s_on 56 rfl (congrArg Value.bool h164) (o_pick_f (u := (.bool (decide (4096 < b)))) ((rfl : _ = _).trans (congrArg Value.bool (decide_eq_false h165))) rfl ?_)
                    refine s_on 56 rfl (congrArg Value.bool h164) (o_neqb Try.underlying4 rfl rfl ?_)
                    refine s_op (o_pick_f (u := (.bool (!(true == (decide (4096 < b)))))) ((rfl : _ = _).trans (congrArg Value.bool h164)) rfl ?_)
                    refine s_nil ?_
                    refine t_norm (hK162 _ _ ?_)
                    refine c_condb rfl (fun h171 => ?_) (fun h171 => ?_)
                    · -- !(true == (decide (4096 < b)))
                      exfalso; first | (simp at h171; done) | (simp at h171; omega)
                    · -- not: !(true == (decide (4096 < b)))
                      refine wp_skip ?_
                      refine t_norm (hK161 _ _ ?_)
                      refine wp_seq_k fun K172 hK172 => ?_
                      refine wp_seq_k fun K173 hK173 => ?_
                      refine c_region ?_
                      refine s_op (o_move (v := (.pointer (some ⟨db151, 0, none⟩))) rfl ?_)
                      refine s_op (o_pnil (p := some _) Try.underlying46 rfl rfl ?_)
                      refine s_op (o_move (v := (.bool false)) rfl ?_)
                      refine s_on 69 rfl rfl (o_move (v := (.pointer none)) rfl ?_)
                      refine s_on 69 rfl rfl (o_pnil (p := none) Try.underlying46 rfl rfl ?_)
                      refine s_op (o_pick_f (u := (.bool true)) rfl rfl ?_)
                      refine s_nil ?_
                      refine t_norm (hK173 _ _ ?_)
                      refine c_true rfl rfl ?_
                      refine wp_seq_k fun K174 hK174 => ?_
                      refine c_region ?_
                      refine s_op (o_assign (v := (.bool true)) rfl ?_)
                      refine s_nil ?_
                      refine t_norm (hK174 _ _ ?_)
                      refine wp_ret ?_
                      refine t_ret (c_ret1 Try.results12  (v := (.bool true)) rfl ?_)
                      have hH175 : Has E w160 [R] := (hH159.front 2 rfl).first 1 rfl
                      exact ⟨rfl, hH175⟩
          · -- none
            refine s_op (o_callf (vs := #[(.pointer (some ⟨b145, 0, none⟩)), (.int .i64 a)]) ca23 rfl (args2 rfl rfl) (new_bad hH149.all (by omega)) ?_)
            rintro _ w178 ⟨rfl, hX176⟩
            refine ⟨_, rfl, ?_⟩
            have hH177 := hX176.of_all
            refine s_op (o_move (v := (.pointer (some ⟨b145, 0, none⟩))) rfl ?_)
            refine s_op (o_move (v := (.int .i64 b)) rfl ?_)
            by_cases hab179 : 1 ≤ b ∧ b ≤ 4096
            · -- a device
              exfalso; omega
            · -- none
              refine s_op (o_callf (vs := #[(.pointer (some ⟨b145, 0, none⟩)), (.int .i64 b)]) ca23 rfl (args2 rfl rfl) (new_bad hH177.all (by omega)) ?_)
              rintro _ w182 ⟨rfl, hX180⟩
              refine ⟨_, rfl, ?_⟩
              have hH181 := hX180.of_all
              refine s_op (o_assign (v := (.pointer none)) rfl ?_)
              refine s_op (o_assign (v := (.pointer none)) rfl ?_)
              refine s_nil ?_
              refine t_norm (hK148 _ _ ?_)
              refine wp_seq_k fun K183 hK183 => ?_
              refine wp_seq_k fun K184 hK184 => ?_
              refine c_region ?_
              refine s_op (o_move (v := (.pointer none)) rfl ?_)
              refine s_op (o_pnil (p := none) Try.underlying46 rfl rfl ?_)
              refine s_op (o_move (v := (.int .i64 a)) rfl ?_)
              refine s_op (o_lss (a := a) (b := 1) rfl rfl ?_)
              refine s_op (o_move (v := (.bool (decide (a < 1)))) rfl ?_)
              by_cases h185 : a < 1
              · -- a < 1
                refine s_off (b' := true) 51 rfl (congrArg Value.bool (decide_eq_true h185)) rfl ?_
                refine s_off (b' := true) 51 rfl (congrArg Value.bool (decide_eq_true h185)) rfl ?_
                refine s_op (o_pick_t (u := (.bool true)) ((rfl : _ = _).trans (congrArg Value.bool (decide_eq_true h185))) rfl ?_)
                refine s_op (o_neqb Try.underlying4 rfl rfl ?_)
                refine s_op (o_move (v := (.bool (!(true == true)))) rfl ?_)
                rcases Bool.eq_false_or_eq_true (!(true == true)) with h186 | h186
                · -- !(true == true)
                  exfalso; first | (simp at h186; done) | (simp at h186; omega)
                · -- not: !(true == true)
                  refine s_on 56 rfl (congrArg Value.bool h186) (o_move (v := (.pointer none)) rfl ?_)
                  refine s_on 56 rfl (congrArg Value.bool h186) (o_pnil (p := none) Try.underlying46 rfl rfl ?_)
                  refine s_on 56 rfl (congrArg Value.bool h186) (o_move (v := (.int .i64 b)) rfl ?_)
                  refine s_on 56 rfl (congrArg Value.bool h186) (o_lss (a := b) (b := 1) rfl rfl ?_)
                  refine s_on 56 rfl (congrArg Value.bool h186) (o_move (v := (.bool (decide (b < 1)))) rfl ?_)
                  by_cases h187 : b < 1
                  · -- b < 1
                    refine s_off (b' := true) 61 rfl (congrArg Value.bool (decide_eq_true h187)) rfl ?_
                    refine s_off (b' := true) 61 rfl (congrArg Value.bool (decide_eq_true h187)) rfl ?_
                    refine s_on 56 rfl (congrArg Value.bool h186) (o_pick_t (u := (.bool true)) ((rfl : _ = _).trans (congrArg Value.bool (decide_eq_true h187))) rfl ?_)
                    refine s_on 56 rfl (congrArg Value.bool h186) (o_neqb Try.underlying4 rfl rfl ?_)
                    refine s_op (o_pick_f (u := (.bool (!(true == true)))) ((rfl : _ = _).trans (congrArg Value.bool h186)) rfl ?_)
                    refine s_nil ?_
                    refine t_norm (hK184 _ _ ?_)
                    refine c_false rfl h186 ?_
                    refine wp_skip ?_
                    refine t_norm (hK183 _ _ ?_)
                    refine wp_seq_k fun K188 hK188 => ?_
                    refine wp_seq_k fun K189 hK189 => ?_
                    refine c_region ?_
                    refine s_op (o_move (v := (.pointer none)) rfl ?_)
                    refine s_op (o_pnil (p := none) Try.underlying46 rfl rfl ?_)
                    refine s_op (o_move (v := (.bool true)) rfl ?_)
                    refine s_off (b' := true) 69 rfl rfl rfl ?_
                    refine s_off (b' := true) 69 rfl rfl rfl ?_
                    refine s_op (o_pick_t (u := (.bool true)) rfl rfl ?_)
                    refine s_nil ?_
                    refine t_norm (hK189 _ _ ?_)
                    refine c_true rfl rfl ?_
                    refine wp_seq_k fun K190 hK190 => ?_
                    refine c_region ?_
                    refine s_op (o_assign (v := (.bool true)) rfl ?_)
                    refine s_nil ?_
                    refine t_norm (hK190 _ _ ?_)
                    refine wp_ret ?_
                    refine t_ret (c_ret1 Try.results12  (v := (.bool true)) rfl ?_)
                    have hH191 : Has E w182 [R] := (hH181.front 1 rfl).first 1 rfl
                    exact ⟨rfl, hH191⟩
                  · -- not: b < 1
                    refine s_on 61 rfl (congrArg Value.bool (decide_eq_false h187)) (o_move (v := (.int .i64 b)) rfl ?_)
                    refine s_on 61 rfl (congrArg Value.bool (decide_eq_false h187)) (o_gtr (a := b) (b := 4096) rfl rfl ?_)
                    refine s_on 56 rfl (congrArg Value.bool h186) (o_pick_f (u := (.bool (decide (4096 < b)))) ((rfl : _ = _).trans (congrArg Value.bool (decide_eq_false h187))) rfl ?_)
                    refine s_on 56 rfl (congrArg Value.bool h186) (o_neqb Try.underlying4 rfl rfl ?_)
                    refine s_op (o_pick_f (u := (.bool (!(true == (decide (4096 < b)))))) ((rfl : _ = _).trans (congrArg Value.bool h186)) rfl ?_)
                    refine s_nil ?_
                    refine t_norm (hK184 _ _ ?_)
                    refine c_condb rfl (fun h192 => ?_) (fun h192 => ?_)
                    · -- !(true == (decide (4096 < b)))
                      exfalso; first | (simp at h192; done) | (simp at h192; omega)
                    · -- not: !(true == (decide (4096 < b)))
                      refine wp_skip ?_
                      refine t_norm (hK183 _ _ ?_)
                      refine wp_seq_k fun K193 hK193 => ?_
                      refine wp_seq_k fun K194 hK194 => ?_
                      refine c_region ?_
                      refine s_op (o_move (v := (.pointer none)) rfl ?_)
                      refine s_op (o_pnil (p := none) Try.underlying46 rfl rfl ?_)
                      refine s_op (o_move (v := (.bool true)) rfl ?_)
                      refine s_off (b' := true) 69 rfl rfl rfl ?_
                      refine s_off (b' := true) 69 rfl rfl rfl ?_
                      refine s_op (o_pick_t (u := (.bool true)) rfl rfl ?_)
                      refine s_nil ?_
                      refine t_norm (hK194 _ _ ?_)
                      refine c_true rfl rfl ?_
                      refine wp_seq_k fun K195 hK195 => ?_
                      refine c_region ?_
                      refine s_op (o_assign (v := (.bool true)) rfl ?_)
                      refine s_nil ?_
                      refine t_norm (hK195 _ _ ?_)
                      refine wp_ret ?_
                      refine t_ret (c_ret1 Try.results12  (v := (.bool true)) rfl ?_)
                      have hH196 : Has E w182 [R] := (hH181.front 1 rfl).first 1 rfl
                      exact ⟨rfl, hH196⟩
              · -- not: a < 1
                refine s_on 51 rfl (congrArg Value.bool (decide_eq_false h185)) (o_move (v := (.int .i64 a)) rfl ?_)
                refine s_on 51 rfl (congrArg Value.bool (decide_eq_false h185)) (o_gtr (a := a) (b := 4096) rfl rfl ?_)
                refine s_op (o_pick_f (u := (.bool (decide (4096 < a)))) ((rfl : _ = _).trans (congrArg Value.bool (decide_eq_false h185))) rfl ?_)
                refine s_op (o_neqb Try.underlying4 rfl rfl ?_)
                refine s_op (o_move (v := (.bool (!(true == (decide (4096 < a)))))) rfl ?_)
                rcases Bool.eq_false_or_eq_true (!(true == (decide (4096 < a)))) with h197 | h197
                · -- !(true == (decide (4096 < a)))
                  exfalso; first | (simp at h197; done) | (simp at h197; omega)
                · -- not: !(true == (decide (4096 < a)))
                  refine s_on 56 rfl (congrArg Value.bool h197) (o_move (v := (.pointer none)) rfl ?_)
                  refine s_on 56 rfl (congrArg Value.bool h197) (o_pnil (p := none) Try.underlying46 rfl rfl ?_)
                  refine s_on 56 rfl (congrArg Value.bool h197) (o_move (v := (.int .i64 b)) rfl ?_)
                  refine s_on 56 rfl (congrArg Value.bool h197) (o_lss (a := b) (b := 1) rfl rfl ?_)
                  refine s_on 56 rfl (congrArg Value.bool h197) (o_move (v := (.bool (decide (b < 1)))) rfl ?_)
                  by_cases h198 : b < 1
                  · -- b < 1
                    refine s_off (b' := true) 61 rfl (congrArg Value.bool (decide_eq_true h198)) rfl ?_
                    refine s_off (b' := true) 61 rfl (congrArg Value.bool (decide_eq_true h198)) rfl ?_
                    refine s_on 56 rfl (congrArg Value.bool h197) (o_pick_t (u := (.bool true)) ((rfl : _ = _).trans (congrArg Value.bool (decide_eq_true h198))) rfl ?_)
                    refine s_on 56 rfl (congrArg Value.bool h197) (o_neqb Try.underlying4 rfl rfl ?_)
                    refine s_op (o_pick_f (u := (.bool (!(true == true)))) ((rfl : _ = _).trans (congrArg Value.bool h197)) rfl ?_)
                    refine s_nil ?_
                    refine t_norm (hK184 _ _ ?_)
                    refine c_condb rfl (fun h199 => ?_) (fun h199 => ?_)
                    · -- !(true == true)
                      exfalso; first | (simp at h199; done) | (simp at h199; omega)
                    · -- not: !(true == true)
                      refine wp_skip ?_
                      refine t_norm (hK183 _ _ ?_)
                      refine wp_seq_k fun K200 hK200 => ?_
                      refine wp_seq_k fun K201 hK201 => ?_
                      refine c_region ?_
                      refine s_op (o_move (v := (.pointer none)) rfl ?_)
                      refine s_op (o_pnil (p := none) Try.underlying46 rfl rfl ?_)
                      refine s_op (o_move (v := (.bool true)) rfl ?_)
                      refine s_off (b' := true) 69 rfl rfl rfl ?_
                      refine s_off (b' := true) 69 rfl rfl rfl ?_
                      refine s_op (o_pick_t (u := (.bool true)) rfl rfl ?_)
                      refine s_nil ?_
                      refine t_norm (hK201 _ _ ?_)
                      refine c_true rfl rfl ?_
                      refine wp_seq_k fun K202 hK202 => ?_
                      refine c_region ?_
                      refine s_op (o_assign (v := (.bool true)) rfl ?_)
                      refine s_nil ?_
                      refine t_norm (hK202 _ _ ?_)
                      refine wp_ret ?_
                      refine t_ret (c_ret1 Try.results12  (v := (.bool true)) rfl ?_)
                      have hH203 : Has E w182 [R] := (hH181.front 1 rfl).first 1 rfl
                      exact ⟨rfl, hH203⟩
                  · -- not: b < 1
                    refine s_on 61 rfl (congrArg Value.bool (decide_eq_false h198)) (o_move (v := (.int .i64 b)) rfl ?_)
                    refine s_on 61 rfl (congrArg Value.bool (decide_eq_false h198)) (o_gtr (a := b) (b := 4096) rfl rfl ?_)
                    refine s_on 56 rfl (congrArg Value.bool h197) (o_pick_f (u := (.bool (decide (4096 < b)))) ((rfl : _ = _).trans (congrArg Value.bool (decide_eq_false h198))) rfl ?_)
                    refine s_on 56 rfl (congrArg Value.bool h197) (o_neqb Try.underlying4 rfl rfl ?_)
                    refine s_op (o_pick_f (u := (.bool (!(true == (decide (4096 < b)))))) ((rfl : _ = _).trans (congrArg Value.bool h197)) rfl ?_)
                    refine s_nil ?_
                    refine t_norm (hK184 _ _ ?_)
                    refine c_condb rfl (fun h204 => ?_) (fun h204 => ?_)
                    · -- !(true == (decide (4096 < b)))
                      exfalso; first | (simp at h204; done) | (simp at h204; omega)
                    · -- not: !(true == (decide (4096 < b)))
                      refine wp_skip ?_
                      refine t_norm (hK183 _ _ ?_)
                      refine wp_seq_k fun K205 hK205 => ?_
                      refine wp_seq_k fun K206 hK206 => ?_
                      refine c_region ?_
                      refine s_op (o_move (v := (.pointer none)) rfl ?_)
                      refine s_op (o_pnil (p := none) Try.underlying46 rfl rfl ?_)
                      refine s_op (o_move (v := (.bool true)) rfl ?_)
                      refine s_off (b' := true) 69 rfl rfl rfl ?_
                      refine s_off (b' := true) 69 rfl rfl rfl ?_
                      refine s_op (o_pick_t (u := (.bool true)) rfl rfl ?_)
                      refine s_nil ?_
                      refine t_norm (hK206 _ _ ?_)
                      refine c_true rfl rfl ?_
                      refine wp_seq_k fun K207 hK207 => ?_
                      refine c_region ?_
                      refine s_op (o_assign (v := (.bool true)) rfl ?_)
                      refine s_nil ?_
                      refine t_norm (hK207 _ _ ?_)
                      refine wp_ret ?_
                      refine t_ret (c_ret1 Try.results12  (v := (.bool true)) rfl ?_)
                      have hH208 : Has E w182 [R] := (hH181.front 1 rfl).first 1 rfl
                      exact ⟨rfl, hH208⟩
      · -- not: 40 < b
        refine s_off (b' := false) 29 rfl (congrArg Value.bool (decide_eq_false h135)) rfl ?_
        refine s_off (b' := false) 29 rfl (congrArg Value.bool (decide_eq_false h135)) rfl ?_
        refine s_on 26 rfl rfl (o_pick_f (u := (.bool false)) ((rfl : _ = _).trans (congrArg Value.bool (decide_eq_false h135))) rfl ?_)
        refine s_op (o_pick_f (u := (.bool false)) rfl rfl ?_)
        refine s_op (o_move (v := (.bool false)) rfl ?_)
        refine s_on 34 rfl rfl (o_callf (vs := #[]) ca27 rfl (args0) (awake5_c hH7.all) ?_)
        rintro _ w211 ⟨rfl, hX209⟩
        refine ⟨_, rfl, ?_⟩
        have hH210 := hX209.of_all
        refine s_on 34 rfl rfl (o_not rfl ?_)
        refine s_op (o_pick_f (u := (.bool false)) rfl rfl ?_)
        refine s_nil ?_
        refine t_norm (hK3 _ _ ?_)
        refine c_false rfl rfl ?_
        refine wp_skip ?_
        refine t_norm (hK2 _ _ ?_)
        refine wp_seq_k fun K212 hK212 => ?_
        refine c_region ?_
        refine s_op (o_sight (v := (.agg #[(.bool false), (.bool false), (.int .i64 0), (.int .i64 0)])) (fun _ => by kernel_rfl) ?_)
        refine s_op (o_box (cs := #[(.bool false), (.bool false), (.int .i64 0), (.int .i64 0)]) rfl rfl hH210 fun b213 w214 hH215 => ?_)
        refine s_op (o_assign (v := (.pointer (some ⟨b213, 0, none⟩))) rfl ?_)
        refine s_nil ?_
        refine t_norm (hK212 _ _ ?_)
        refine wp_seq_k fun K216 hK216 => ?_
        refine c_region ?_
        refine s_op (o_move (v := (.pointer (some ⟨b213, 0, none⟩))) rfl ?_)
        refine s_op (o_move (v := (.int .i64 a)) rfl ?_)
        have hH217 : Has E w214 [[Hp.one b213 (.cells #[(.bool (Pw.mk false false 0 0).off), (.bool (Pw.mk false false 0 0).armed), (.int .i64 (Pw.mk false false 0 0).left), (.int .i64 (Pw.mk false false 0 0).uses)] 101 (0, 0))], R] := hH215
        by_cases hab218 : 1 ≤ a ∧ a ≤ 4096
        · -- a device
          refine s_op (o_callf (vs := #[(.pointer (some ⟨b213, 0, none⟩)), (.int .i64 a)]) ca23 rfl (args2 rfl rfl) (new_wI hH217.all (pb := b213) hab218) ?_)
          rintro _ w224 ⟨db219, sg220, rfl, hd221, hX222⟩
          refine ⟨_, rfl, ?_⟩
          have hH223 : Has E w224 [sg220, [Hp.one b213 (.cells #[(.bool (Pw.mk false false 0 0).off), (.bool (Pw.mk false false 0 0).armed), (.int .i64 (Pw.mk false false 0 0).left), (.int .i64 (Pw.mk false false 0 0).uses)] 101 (0, 0))], R] := hX222.of_all1
          refine s_op (o_move (v := (.pointer (some ⟨b213, 0, none⟩))) rfl ?_)
          refine s_op (o_move (v := (.int .i64 b)) rfl ?_)
          by_cases hab225 : 1 ≤ b ∧ b ≤ 4096
          · -- a device
            refine s_op (o_callf (vs := #[(.pointer (some ⟨b213, 0, none⟩)), (.int .i64 b)]) ca23 rfl (args2 rfl rfl) (new_wI hH223.all (pb := b213) hab225) ?_)
            rintro _ w231 ⟨db226, sg227, rfl, hd228, hX229⟩
            refine ⟨_, rfl, ?_⟩
            have hH230 : Has E w231 [sg227, sg220, [Hp.one b213 (.cells #[(.bool (Pw.mk false false 0 0).off), (.bool (Pw.mk false false 0 0).armed), (.int .i64 (Pw.mk false false 0 0).left), (.int .i64 (Pw.mk false false 0 0).uses)] 101 (0, 0))], R] := hX229.of_all1
            refine s_op (o_assign (v := (.pointer (some ⟨db219, 0, none⟩))) rfl ?_)
            refine s_op (o_assign (v := (.pointer (some ⟨db226, 0, none⟩))) rfl ?_)
            refine s_nil ?_
            refine t_norm (hK216 _ _ ?_)
            refine wp_seq_k fun K232 hK232 => ?_
            refine wp_seq_k fun K233 hK233 => ?_
            refine c_region ?_
            refine s_op (o_move (v := (.pointer (some ⟨db219, 0, none⟩))) rfl ?_)
            refine s_op (o_pnil (p := some _) Try.underlying46 rfl rfl ?_)
            refine s_op (o_move (v := (.int .i64 a)) rfl ?_)
            refine s_op (o_lss (a := a) (b := 1) rfl rfl ?_)
            refine s_op (o_move (v := (.bool (decide (a < 1)))) rfl ?_)
            by_cases h234 : a < 1
            · -- a < 1
              exfalso; omega
            · -- not: a < 1
              refine s_on 51 rfl (congrArg Value.bool (decide_eq_false h234)) (o_move (v := (.int .i64 a)) rfl ?_)
              refine s_on 51 rfl (congrArg Value.bool (decide_eq_false h234)) (o_gtr (a := a) (b := 4096) rfl rfl ?_)
              refine s_op (o_pick_f (u := (.bool (decide (4096 < a)))) ((rfl : _ = _).trans (congrArg Value.bool (decide_eq_false h234))) rfl ?_)
              refine s_op (o_neqb Try.underlying4 rfl rfl ?_)
              refine s_op (o_move (v := (.bool (!(false == (decide (4096 < a)))))) rfl ?_)
              rcases Bool.eq_false_or_eq_true (!(false == (decide (4096 < a)))) with h235 | h235
              · -- !(false == (decide (4096 < a)))
                exfalso; first | (simp at h235; done) | (simp at h235; omega)
              · -- not: !(false == (decide (4096 < a)))
                refine s_on 56 rfl (congrArg Value.bool h235) (o_move (v := (.pointer (some ⟨db226, 0, none⟩))) rfl ?_)
                refine s_on 56 rfl (congrArg Value.bool h235) (o_pnil (p := some _) Try.underlying46 rfl rfl ?_)
                refine s_on 56 rfl (congrArg Value.bool h235) (o_move (v := (.int .i64 b)) rfl ?_)
                refine s_on 56 rfl (congrArg Value.bool h235) (o_lss (a := b) (b := 1) rfl rfl ?_)
                refine s_on 56 rfl (congrArg Value.bool h235) (o_move (v := (.bool (decide (b < 1)))) rfl ?_)
                by_cases h236 : b < 1
                · -- b < 1
                  exfalso; omega
                · -- not: b < 1
                  refine s_on 61 rfl (congrArg Value.bool (decide_eq_false h236)) (o_move (v := (.int .i64 b)) rfl ?_)
                  refine s_on 61 rfl (congrArg Value.bool (decide_eq_false h236)) (o_gtr (a := b) (b := 4096) rfl rfl ?_)
                  refine s_on 56 rfl (congrArg Value.bool h235) (o_pick_f (u := (.bool (decide (4096 < b)))) ((rfl : _ = _).trans (congrArg Value.bool (decide_eq_false h236))) rfl ?_)
                  refine s_on 56 rfl (congrArg Value.bool h235) (o_neqb Try.underlying4 rfl rfl ?_)
                  refine s_op (o_pick_f (u := (.bool (!(false == (decide (4096 < b)))))) ((rfl : _ = _).trans (congrArg Value.bool h235)) rfl ?_)
                  refine s_nil ?_
                  refine t_norm (hK233 _ _ ?_)
                  refine c_condb rfl (fun h237 => ?_) (fun h237 => ?_)
                  · -- !(false == (decide (4096 < b)))
                    exfalso; first | (simp at h237; done) | (simp at h237; omega)
                  · -- not: !(false == (decide (4096 < b)))
                    refine wp_skip ?_
                    refine t_norm (hK232 _ _ ?_)
                    refine wp_seq_k fun K238 hK238 => ?_
                    refine wp_seq_k fun K239 hK239 => ?_
                    refine c_region ?_
                    refine s_op (o_move (v := (.pointer (some ⟨db219, 0, none⟩))) rfl ?_)
                    refine s_op (o_pnil (p := some _) Try.underlying46 rfl rfl ?_)
                    refine s_op (o_move (v := (.bool false)) rfl ?_)
                    refine s_on 69 rfl rfl (o_move (v := (.pointer (some ⟨db226, 0, none⟩))) rfl ?_)
                    refine s_on 69 rfl rfl (o_pnil (p := some _) Try.underlying46 rfl rfl ?_)
                    refine s_op (o_pick_f (u := (.bool false)) rfl rfl ?_)
                    refine s_nil ?_
                    refine t_norm (hK239 _ _ ?_)
                    refine c_false rfl rfl ?_
                    refine wp_skip ?_
                    refine t_norm (hK238 _ _ ?_)
                    refine wp_seq_k fun K240 hK240 => ?_
                    refine c_region ?_
                    refine s_op (o_move (v := (.int .i64 a)) rfl ?_)
                    refine s_op (o_callf (vs := #[(.int .i64 a)]) ca54 rfl (args1 rfl) (begin_cI hH230.all hab218) ?_)
                    rintro _ w250 ⟨qm241, v242, s243, v244, s245, rfl, ho246, ho247, hX248⟩
                    refine ⟨_, rfl, ?_⟩
                    have hH249 : Has E w250 [s243, s245, [Hp.one qm241 (.cells #[v242, v244, (.slice none 0 0)] 189 (0, 0))], sg227, sg220, [Hp.one b213 (.cells #[(.bool (Pw.mk false false 0 0).off), (.bool (Pw.mk false false 0 0).armed), (.int .i64 (Pw.mk false false 0 0).left), (.int .i64 (Pw.mk false false 0 0).uses)] 101 (0, 0))], R] := hX248.of_all3
                    refine s_op (o_move (v := (.int .i64 b)) rfl ?_)
                    refine s_op (o_callf (vs := #[(.int .i64 b)]) ca54 rfl (args1 rfl) (begin_cI hH249.all hab225) ?_)
                    rintro _ w260 ⟨qm251, v252, s253, v254, s255, rfl, ho256, ho257, hX258⟩
                    refine ⟨_, rfl, ?_⟩
                    have hH259 : Has E w260 [s253, s255, [Hp.one qm251 (.cells #[v252, v254, (.slice none 0 0)] 189 (0, 0))], s243, s245, [Hp.one qm241 (.cells #[v242, v244, (.slice none 0 0)] 189 (0, 0))], sg227, sg220, [Hp.one b213 (.cells #[(.bool (Pw.mk false false 0 0).off), (.bool (Pw.mk false false 0 0).armed), (.int .i64 (Pw.mk false false 0 0).left), (.int .i64 (Pw.mk false false 0 0).uses)] 101 (0, 0))], R] := hX258.of_all3
                    refine s_op (o_assign (v := (.pointer (some ⟨qm241, 0, none⟩))) rfl ?_)
                    refine s_op (o_assign (v := (.pointer (some ⟨qm251, 0, none⟩))) rfl ?_)
                    refine s_nil ?_
                    refine t_norm (hK240 _ _ ?_)
                    refine wp_seq_k fun K261 hK261 => ?_
                    refine c_region ?_
                    refine s_op (o_sight (v := (.agg #[(.bool false), (.bool false), (.int .i64 0), (.int .i64 0)])) (fun _ => by kernel_rfl) ?_)
                    refine s_op (o_box (cs := #[(.bool false), (.bool false), (.int .i64 0), (.int .i64 0)]) rfl rfl hH259 fun b262 w263 hH264 => ?_)
                    refine s_op (o_assign (v := (.pointer (some ⟨b262, 0, none⟩))) rfl ?_)
                    refine s_nil ?_
                    refine t_norm (hK261 _ _ ?_)
                    refine wp_seq_k fun K265 hK265 => ?_
                    refine wp_seq_k fun K266 hK266 => ?_
                    refine c_region ?_
                    refine s_op (o_assign (v := (.int .i64 0)) rfl ?_)
                    refine s_nil ?_
                    refine t_norm (hK266 _ _ ?_)
                    refine wp_block ?_
                    have hH267 : Has E w263 [[Hp.one b262 (.cells #[(.bool (Pw.mk false false 0 0).off), (.bool (Pw.mk false false 0 0).armed), (.int .i64 (Pw.mk false false 0 0).left), (.int .i64 (Pw.mk false false 0 0).uses)] 112 (0, 0))], s253, s255, [Hp.one qm251 (.cells #[v252, v254, (.slice none 0 0)] 189 (0, 0))], s243, s245, [Hp.one qm241 (.cells #[v242, v244, (.slice none 0 0)] 189 (0, 0))], sg227, sg220, [Hp.one b213 (.cells #[(.bool (Pw.mk false false 0 0).off), (.bool (Pw.mk false false 0 0).armed), (.int .i64 (Pw.mk false false 0 0).left), (.int .i64 (Pw.mk false false 0 0).uses)] 101 (0, 0))], R] := hH264
                    let I269 : Nat → (Nat → Value) → World → Prop := fun n__ r__ w__ => ∃ (i : Nat) (p : Pw) (q : Pw) (sga : List Hp) (laa : List Bs) (loa : List (Int × Bs)) (nwa : List Bs) (lsa : List Int) (v1a : Value) (h1a : List Hp) (v2a : Value) (h2a : List Hp) (v3a : Value) (h3a : List Hp) (sgb : List Hp) (lab : List Bs) (lob : List (Int × Bs)) (nwb : List Bs) (lsb : List Int) (v1b : Value) (h1b : List Hp) (v2b : Value) (h2b : List Hp) (v3b : Value) (h3b : List Hp), n__ = l.length - i ∧ Has E w__ [[Hp.one b213 (.cells #[(.bool p.off), (.bool p.armed), (.int .i64 p.left), (.int .i64 p.uses)] 101 (0, 0))], [Hp.one b262 (.cells #[(.bool q.off), (.bool q.armed), (.int .i64 q.left), (.int .i64 q.uses)] 112 (0, 0))], sga, h1a, h2a, h3a, [Hp.one qm241 (.cells #[v1a, v2a, v3a] 189 (0, 0))], sgb, h1b, h2b, h3b, [Hp.one qm251 (.cells #[v1b, v2b, v3b] 189 (0, 0))], R] ∧ (i ≤ l.length) ∧ (DevAt b213 sga db219 laa loa) ∧ (laa.length = (a).toNat) ∧ (Sim laa loa nwa lsa) ∧ (Own 9 1 v1a laa.length (laa.map sV) h1a) ∧ (Own 9 1 v2a nwa.length (nwa.map sV) h2a) ∧ (Own 3 1 v3a lsa.length (lsa.map iV) h3a) ∧ (DevAt b213 sgb db226 lab lob) ∧ (lab.length = (b).toNat) ∧ (Sim lab lob nwb lsb) ∧ (Own 9 1 v1b lab.length (lab.map sV) h1b) ∧ (Own 9 1 v2b nwb.length (nwb.map sV) h2b) ∧ (Own 3 1 v3b lsb.length (lsb.map iV) h3b) ∧ (PR i p q) ∧ r__ 0 = (.int .i64 a) ∧ r__ 1 = (.int .i64 b) ∧ r__ 2 = v ∧ r__ 7 = (.pointer (some ⟨b213, 0, none⟩)) ∧ r__ 8 = (.pointer (some ⟨db219, 0, none⟩)) ∧ r__ 9 = (.pointer (some ⟨db226, 0, none⟩)) ∧ r__ 10 = (.pointer (some ⟨qm241, 0, none⟩)) ∧ r__ 11 = (.pointer (some ⟨qm251, 0, none⟩)) ∧ r__ 12 = (.pointer (some ⟨b262, 0, none⟩)) ∧ r__ 13 = (.int .i64 (i : Int)) ∧ r__ 37 = (.bool false) ∧ r__ 66 = (.bool (!(false == (decide (4096 < b))))) ∧ r__ 72 = (.bool false)
                    have hH270 : Has E w263 [[Hp.one b213 (.cells #[(.bool (Pw.mk false false 0 0).off), (.bool (Pw.mk false false 0 0).armed), (.int .i64 (Pw.mk false false 0 0).left), (.int .i64 (Pw.mk false false 0 0).uses)] 101 (0, 0))], [Hp.one b262 (.cells #[(.bool (Pw.mk false false 0 0).off), (.bool (Pw.mk false false 0 0).armed), (.int .i64 (Pw.mk false false 0 0).left), (.int .i64 (Pw.mk false false 0 0).uses)] 112 (0, 0))], sg220, s243, s245, [], [Hp.one qm241 (.cells #[v242, v244, (.slice none 0 0)] 189 (0, 0))], sg227, s253, s255, [], [Hp.one qm251 (.cells #[v252, v254, (.slice none 0 0)] 189 (0, 0))], R] := Has.pick (Has.nil (Has.nil hH267)) [11, 2, 9, 5, 5, 0, 4, 4, 1, 1, 0, 0, 0] (by kernel_rfl)
                    refine c_loop I269 _ ⟨0, (Pw.mk false false 0 0), (Pw.mk false false 0 0), sg220, (List.replicate (a).toNat blankS), ([] : List (Int × Bs)), (List.replicate (a).toNat blankS), [], v242, s243, v244, s245, (.slice none 0 0), [], sg227, (List.replicate (b).toNat blankS), ([] : List (Int × Bs)), (List.replicate (b).toNat blankS), [], v252, s253, v254, s255, (.slice none 0 0), [], rfl, hH270, Nat.zero_le _, hd221, (by simp), Sim.new _, ho246, ho247, Own.nil 3 1, hd228, (by simp), Sim.new _, ho256, ho257, Own.nil 3 1, PR.new, rfl, rfl, rfl, rfl, rfl, rfl, rfl, rfl, rfl, rfl, rfl, rfl, rfl⟩ ?_
                    rintro n_ r273 w271 ⟨i, p, q, sga, laa, loa, nwa, lsa, v1a, h1a, v2a, h2a, v3a, h3a, sgb, lab, lob, nwb, lsb, v1b, h1b, v2b, h2b, v3b, h3b, rfl, hH272, hi, hda, hla, hsima, ho1a, ho2a, ho3a, hdb, hlb, hsimb, ho1b, ho2b, ho3b, hpr, e268_0, e268_1, e268_2, e268_7, e268_8, e268_9, e268_10, e268_11, e268_12, e268_13, e268_37, e268_66, e268_72⟩
                    refine wp_seq_k fun K274 hK274 => ?_
                    refine wp_seq_k fun K275 hK275 => ?_
                    refine c_region ?_
                    refine s_op (o_move (v := (.int .i64 (i : Int))) e268_13 ?_)
                    refine s_op (o_move (v := v) e268_2 ?_)
                    refine s_op (o_lenS Try.underlying97 rfl hv ?_)
                    refine s_op (o_lss (a := (i : Int)) (b := ((l.length : Nat) : Int)) rfl rfl ?_)
                    refine s_nil ?_
                    refine t_norm (hK275 _ _ ?_)
                    refine c_cond rfl (fun h276 => ?_) (fun h276 => ?_)
                    · -- (i : Int) < ((l.length : Nat) : Int)
                      refine wp_skip ?_
                      refine t_norm (hK274 _ _ ?_)
                      refine wp_seq_k fun K277 hK277 => ?_
                      refine wp_block ?_
                      refine wp_seq_k fun K278 hK278 => ?_
                      refine c_region ?_
                      refine s_op (o_move (v := (.pointer (some ⟨db219, 0, none⟩))) e268_8 ?_)
                      refine s_op (o_move (v := (.pointer (some ⟨qm241, 0, none⟩))) e268_10 ?_)
                      refine s_op (o_assign (v := (.pointer (some ⟨db219, 0, none⟩))) rfl ?_)
                      refine s_op (o_assign (v := (.pointer (some ⟨qm241, 0, none⟩))) rfl ?_)
                      refine s_nil ?_
                      refine t_norm (hK278 _ _ ?_)
                      refine wp_seq_k fun K279 hK279 => ?_
                      refine wp_seq_k fun K280 hK280 => ?_
                      refine c_region ?_
                      refine s_op (o_move (v := v) e268_2 ?_)
                      refine s_op (o_move (v := (.int .i64 (i : Int))) e268_13 ?_)
                      obtain ⟨x284, hx285⟩ : ∃ x_, l[((i : Int)).toNat]? = some x_ := get_some (by omega)
                      refine s_op (o_indexF daC_len Try.underlying97 ti104 rfl hv rfl rfl (by omega) hx285 fun b281 o282 hc283 => ?_)
                      refine s_op (o_fieldAddr (k := o282 + 2) (fun _ => by kernel_rfl) rfl ?_)
                      refine s_op (o_load1 (v := (.bool x284.other)) Try.underlying4 rfl rfl hH272 (seg_sub 12 rfl) (CellsAt.field (k := 2) (ds := [(.bool x284.other)]) hc283 rfl) ?_)
                      refine s_nil ?_
                      refine t_norm (hK280 _ _ ?_)
                      refine c_condb rfl (fun h286 => ?_) (fun h286 => ?_)
                      · -- x284.other
                        refine c_region ?_
                        refine s_op (o_move (v := (.pointer (some ⟨db226, 0, none⟩))) e268_9 ?_)
                        refine s_op (o_move (v := (.pointer (some ⟨qm251, 0, none⟩))) e268_11 ?_)
                        refine s_op (o_assign (v := (.pointer (some ⟨db226, 0, none⟩))) rfl ?_)
                        refine s_op (o_assign (v := (.pointer (some ⟨qm251, 0, none⟩))) rfl ?_)
                        refine s_nil ?_
                        refine t_norm (hK279 _ _ ?_)
                        refine wp_seq_k fun K287 hK287 => ?_
                        refine Rest.region mixed (by kernel_rfl) ?_
                        have hH288 : Has E { w271 with drawn := w271.drawn + 1 } [[Hp.one b213 (.cells #[(.bool p.off), (.bool p.armed), (.int .i64 p.left), (.int .i64 p.uses)] 101 (0, 0))], [Hp.one b262 (.cells #[(.bool q.off), (.bool q.armed), (.int .i64 q.left), (.int .i64 q.uses)] 112 (0, 0))], sga, h1a, h2a, h3a, [Hp.one qm241 (.cells #[v1a, v2a, v3a] 189 (0, 0))], sgb, h1b, h2b, h3b, [Hp.one qm251 (.cells #[v1b, v2b, v3b] 189 (0, 0))], R] := Has0.drew hH272 _
                        refine Rest.phase [[Hp.one b213 (.cells #[(.bool p.off), (.bool p.armed), (.int .i64 p.left), (.int .i64 p.uses)] 101 (0, 0))], [Hp.one b262 (.cells #[(.bool q.off), (.bool q.armed), (.int .i64 q.left), (.int .i64 q.uses)] 112 (0, 0))], sga, h1a, h2a, h3a, [Hp.one qm241 (.cells #[v1a, v2a, v3a] 189 (0, 0))], sgb, h1b, h2b, h3b, [Hp.one qm251 (.cells #[v1b, v2b, v3b] 189 (0, 0))], R] (fun i_ => match i_ with | _ => []) (fun i_ v_ h_ m_ => match i_ with | 0 => v_ = (.pointer (some ⟨db226, 0, none⟩)) ∧ h_ = [] | 1 => v_ = (.pointer (some ⟨qm251, 0, none⟩)) ∧ h_ = [] | 2 => v_ = (.pointer (some ⟨b262, 0, none⟩)) ∧ h_ = [] | 3 => v_ = v ∧ h_ = [] | 4 => v_ = (.int .i64 (i : Int)) ∧ h_ = [] | 5 => ∃ (b289 : Nat) (o290 : Nat), v_ = (.pointer (some ⟨b289, o290, none⟩)) ∧ h_ = [] ∧ (CellsAt R b289 o290 [(.int .i64 x284.kind), (.int .i64 x284.n), (.bool x284.other), x284.dv, x284.kv]) | 6 => v_ = (.agg #[(.int .i64 x284.kind), (.int .i64 x284.n), (.bool x284.other), x284.dv, x284.kv]) ∧ h_ = [] | _ => True) 0 7 (by decide) (by decide) (by kernel_rfl) (flow_has (cs := []) hH288 rfl) ?_ ?_ ?_
                        · intro i_ o_ hi_ ho_
                          match i_, ho_, hi_ with
                          | i_ + 0, _, hi_ => exact absurd hi_ (by omega)
                        · intro i_ o_ hlo_ him_ ho_ r' w' G hs_ ht
                          match i_, ho_, him_, hlo_ with
                          | 0, ho_, him_, hlo_ =>
                            obtain rfl := Option.some.inj ho_
                            have e14 : r' 14 = (.pointer (some ⟨db226, 0, none⟩)) := ht.was 14 (by kernel_rfl)
                            have hG := ht.has.drop
                            refine GOK.free rfl ?_
                            refine o_move (v := (.pointer (some ⟨db226, 0, none⟩))) e14 ?_
                            exact ⟨_, ⟨rfl, rfl⟩, hG⟩
                          | 1, ho_, him_, hlo_ =>
                            obtain rfl := Option.some.inj ho_
                            have e15 : r' 15 = (.pointer (some ⟨qm251, 0, none⟩)) := ht.was 15 (by kernel_rfl)
                            have hG := ht.has.drop
                            refine GOK.free rfl ?_
                            refine o_move (v := (.pointer (some ⟨qm251, 0, none⟩))) e15 ?_
                            exact ⟨_, ⟨rfl, rfl⟩, hG⟩
                          | 2, ho_, him_, hlo_ =>
                            obtain rfl := Option.some.inj ho_
                            have e12 : r' 12 = (.pointer (some ⟨b262, 0, none⟩)) := (ht.was 12 (by kernel_rfl)).trans e268_12
                            have hG := ht.has.drop
                            refine GOK.free rfl ?_
                            refine o_move (v := (.pointer (some ⟨b262, 0, none⟩))) e12 ?_
                            exact ⟨_, ⟨rfl, rfl⟩, hG⟩
                          | 3, ho_, him_, hlo_ =>
                            obtain rfl := Option.some.inj ho_
                            have e2 : r' 2 = v := (ht.was 2 (by kernel_rfl)).trans e268_2
                            have hG := ht.has.drop
                            refine GOK.free rfl ?_
                            refine o_move (v := v) e2 ?_
                            exact ⟨_, ⟨rfl, rfl⟩, hG⟩
                          | 4, ho_, him_, hlo_ =>
                            obtain rfl := Option.some.inj ho_
                            have e13 : r' 13 = (.int .i64 (i : Int)) := (ht.was 13 (by kernel_rfl)).trans e268_13
                            have hG := ht.has.drop
                            refine GOK.free rfl ?_
                            refine o_move (v := (.int .i64 (i : Int))) e13 ?_
                            exact ⟨_, ⟨rfl, rfl⟩, hG⟩
                          | 5, ho_, him_, hlo_ =>
                            obtain rfl := Option.some.inj ho_
                            obtain ⟨e97, eh3⟩ := (ht.done 3 _ rfl rfl).1
                            obtain ⟨e98, eh4⟩ := (ht.done 4 _ rfl rfl).1
                            have hG := ht.has.drop
                            refine GOK.free rfl ?_
                            refine o_indexF daC_len Try.underlying97 ti104 e97 hv rfl e98 (by omega) hx285 fun b289 o290 hc291 => ?_
                            exact ⟨_, ⟨b289, o290, rfl, rfl, hc291⟩, hG⟩
                          | 6, ho_, him_, hlo_ =>
                            obtain rfl := Option.some.inj ho_
                            obtain ⟨b289, o290, e99, eh5, hc291⟩ := (ht.done 5 _ rfl rfl).1
                            have hG := ht.has.drop
                            refine GOK.free rfl ?_
                            refine o_loadN (cs := [(.int .i64 x284.kind), (.int .i64 x284.n), (.bool x284.other), x284.dv, x284.kv]) Try.underlying104 rfl ti104 e99 hG (ht.fr R (by simp)) hc291 ?_
                            exact ⟨_, ⟨rfl, rfl⟩, hG⟩
                          | i_ + 7, ho_, him_, hlo_ => exact absurd him_ (by omega)
                        · intro vs292 hs293 w294 hT295 hC_ hH296
                          obtain ⟨e0_, eh0_⟩ := hT295 0 _ (by decide) rfl
                          obtain ⟨e1_, eh1_⟩ := hT295 1 _ (by decide) rfl
                          obtain ⟨e2_, eh2_⟩ := hT295 2 _ (by decide) rfl
                          obtain ⟨e3_, eh3_⟩ := hT295 3 _ (by decide) rfl
                          obtain ⟨e4_, eh4_⟩ := hT295 4 _ (by decide) rfl
                          obtain ⟨b289, o290, e5_, eh5_, hc291⟩ := hT295 5 _ (by decide) rfl
                          obtain ⟨e6_, eh6_⟩ := hT295 6 _ (by decide) rfl
                          have hH297 : Has E w294 ([[Hp.one b213 (.cells #[(.bool p.off), (.bool p.armed), (.int .i64 p.left), (.int .i64 p.uses)] 101 (0, 0))], [Hp.one b262 (.cells #[(.bool q.off), (.bool q.armed), (.int .i64 q.left), (.int .i64 q.uses)] 112 (0, 0))], sga, h1a, h2a, h3a, [Hp.one qm241 (.cells #[v1a, v2a, v3a] 189 (0, 0))], sgb, h1b, h2b, h3b, [Hp.one qm251 (.cells #[v1b, v2b, v3b] 189 (0, 0))], R] ++ []) := flow_back (cs := []) hH296 (by show (hs293 0 ++ (hs293 1 ++ (hs293 2 ++ (hs293 3 ++ (hs293 4 ++ (hs293 5 ++ (hs293 6 ++ (hs293 7 ++ (hs293 8 ++ (hs293 9 ++ (hs293 10 ++ (hs293 11 ++ (hs293 12 ++ (hs293 13 ++ (hs293 14 ++ (hs293 15 ++ (hs293 16 ++ (hs293 17 ++ (hs293 18 ++ (hs293 19 ++ (hs293 20 ++ (hs293 21 ++ (hs293 22 ++ (hs293 23 ++ (hs293 24 ++ (hs293 25 ++ (hs293 26 ++ (hs293 27 ++ (hs293 28 ++ (hs293 29 ++ (hs293 30 ++ (hs293 31 ++ (hs293 32 ++ (hs293 33 ++ (hs293 34 ++ (hs293 35 ++ (hs293 36 ++ (hs293 37 ++ (hs293 38 ++ (hs293 39 ++ (hs293 40 ++ []))))))))))))))))))))))))))))))))))))))))) = _; rw [eh0_, eh1_, eh2_, eh3_, eh4_, eh5_, eh6_, hC_ 7 (by decide) (by decide), hC_ 8 (by decide) (by decide), hC_ 9 (by decide) (by decide), hC_ 10 (by decide) (by decide), hC_ 11 (by decide) (by decide), hC_ 12 (by decide) (by decide), hC_ 13 (by decide) (by decide), hC_ 14 (by decide) (by decide), hC_ 15 (by decide) (by decide), hC_ 16 (by decide) (by decide), hC_ 17 (by decide) (by decide), hC_ 18 (by decide) (by decide), hC_ 19 (by decide) (by decide), hC_ 20 (by decide) (by decide), hC_ 21 (by decide) (by decide), hC_ 22 (by decide) (by decide), hC_ 23 (by decide) (by decide), hC_ 24 (by decide) (by decide), hC_ 25 (by decide) (by decide), hC_ 26 (by decide) (by decide), hC_ 27 (by decide) (by decide), hC_ 28 (by decide) (by decide), hC_ 29 (by decide) (by decide), hC_ 30 (by decide) (by decide), hC_ 31 (by decide) (by decide), hC_ 32 (by decide) (by decide), hC_ 33 (by decide) (by decide), hC_ 34 (by decide) (by decide), hC_ 35 (by decide) (by decide), hC_ 36 (by decide) (by decide), hC_ 37 (by decide) (by decide), hC_ 38 (by decide) (by decide), hC_ 39 (by decide) (by decide), hC_ 40 (by decide) (by decide)]; rfl)
                          generalize hr299 : puts vs292 _ 0 _ = r298
                          have e300_0 : r298 0 = (.int .i64 a) := by rw [← hr299]; exact e268_0
                          have e300_1 : r298 1 = (.int .i64 b) := by rw [← hr299]; exact e268_1
                          have e300_2 : r298 2 = v := by rw [← hr299]; exact e268_2
                          have e300_7 : r298 7 = (.pointer (some ⟨b213, 0, none⟩)) := by rw [← hr299]; exact e268_7
                          have e300_8 : r298 8 = (.pointer (some ⟨db219, 0, none⟩)) := by rw [← hr299]; exact e268_8
                          have e300_9 : r298 9 = (.pointer (some ⟨db226, 0, none⟩)) := by rw [← hr299]; exact e268_9
                          have e300_10 : r298 10 = (.pointer (some ⟨qm241, 0, none⟩)) := by rw [← hr299]; exact e268_10
                          have e300_11 : r298 11 = (.pointer (some ⟨qm251, 0, none⟩)) := by rw [← hr299]; exact e268_11
                          have e300_12 : r298 12 = (.pointer (some ⟨b262, 0, none⟩)) := by rw [← hr299]; exact e268_12
                          have e300_13 : r298 13 = (.int .i64 (i : Int)) := by rw [← hr299]; exact e268_13
                          have e300_14 : r298 14 = (.pointer (some ⟨db226, 0, none⟩)) := by rw [← hr299]; exact rfl
                          have e300_15 : r298 15 = (.pointer (some ⟨qm251, 0, none⟩)) := by rw [← hr299]; exact rfl
                          have e300_37 : r298 37 = (.bool false) := by rw [← hr299]; exact e268_37
                          have e300_66 : r298 66 = (.bool (!(false == (decide (4096 < b))))) := by rw [← hr299]; exact e268_66
                          have e300_72 : r298 72 = (.bool false) := by rw [← hr299]; exact e268_72
                          have e300_82 : r298 82 = (.bool (decide ((i : Int) < ((l.length : Nat) : Int)))) := by rw [← hr299]; exact rfl
                          have e300_91 : r298 91 = (.bool x284.other) := by rw [← hr299]; exact rfl
                          have e300_94 : r298 94 = (.pointer (some ⟨db226, 0, none⟩)) := by rw [← hr299]; exact e0_
                          have e300_95 : r298 95 = (.pointer (some ⟨qm251, 0, none⟩)) := by rw [← hr299]; exact e1_
                          have e300_96 : r298 96 = (.pointer (some ⟨b262, 0, none⟩)) := by rw [← hr299]; exact e2_
                          have e300_100 : r298 100 = (.agg #[(.int .i64 x284.kind), (.int .i64 x284.n), (.bool x284.other), x284.dv, x284.kv]) := by rw [← hr299]; exact e6_
                          refine r_op 7 rfl (by kernel_rfl) (o_callf (vs := #[(.pointer (some ⟨db226, 0, none⟩)), (.pointer (some ⟨qm251, 0, none⟩)), (.pointer (some ⟨b262, 0, none⟩)), (.agg #[(.int .i64 x284.kind), (.int .i64 x284.n), (.bool x284.other), x284.dv, x284.kv])]) ca55 rfl (args4 e300_94 e300_95 e300_96 e300_100) (does_c (((((((hH297.front 1 rfl).front 11 rfl).front 11 rfl).front 11 rfl).front 11 rfl).front 5 rfl).front 11 rfl).all7 hdb ho1b ho2b ho3b hsimb hpr (by omega) (by omega) ((hok x284 (List.mem_of_getElem? hx285)).mono (seg_sub 5 rfl)) (hfine.2 x284 (List.mem_of_getElem? hx285))) ?_)
                          rintro _ w323 ⟨sg301, la302, lo303, p304, q305, nw306, ls307, v308, s309, v310, s311, v312, s313, rfl, hd314, hl315, hsim316, hpr317, ho318, ho319, ho320, hX321⟩
                          refine ⟨_, rfl, ?_⟩
                          have hH322 : Has E w323 [sg301, [Hp.one b213 (.cells #[(.bool p304.off), (.bool p304.armed), (.int .i64 p304.left), (.int .i64 p304.uses)] 101 (0, 0))], s309, s311, s313, [Hp.one qm251 (.cells #[v308, v310, v312] 189 (0, 0))], [Hp.one b262 (.cells #[(.bool q305.off), (.bool q305.armed), (.int .i64 q305.left), (.int .i64 q305.uses)] 112 (0, 0))], sga, h1a, h2a, h3a, [Hp.one qm241 (.cells #[v1a, v2a, v3a] 189 (0, 0))], R] := hX321.of_all7
                          refine r_op 8 rfl (by kernel_rfl) (o_not rfl ?_)
                          refine r_op 9 rfl (by kernel_rfl) (o_move (v := (.bool false)) rfl ?_)
                          refine Rest.phase [sg301, [Hp.one b213 (.cells #[(.bool p304.off), (.bool p304.armed), (.int .i64 p304.left), (.int .i64 p304.uses)] 101 (0, 0))], s309, s311, s313, [Hp.one qm251 (.cells #[v308, v310, v312] 189 (0, 0))], [Hp.one b262 (.cells #[(.bool q305.off), (.bool q305.armed), (.int .i64 q305.left), (.int .i64 q305.uses)] 112 (0, 0))], sga, h1a, h2a, h3a, [Hp.one qm241 (.cells #[v1a, v2a, v3a] 189 (0, 0))], R] (fun i_ => match i_ with | _ => []) (fun i_ v_ h_ m_ => match i_ with | 0 => v_ = (.pointer (some ⟨db226, 0, none⟩)) ∧ h_ = [] | 1 => v_ = (.pointer (some ⟨qm251, 0, none⟩)) ∧ h_ = [] | 2 => v_ = (.pointer (some ⟨b262, 0, none⟩)) ∧ h_ = [] | 3 => h_ = [] | 4 => h_ = [] | 5 => h_ = [] | 6 => v_ = (.agg #[(.int .i64 x284.kind), (.int .i64 x284.n), (.bool x284.other), x284.dv, x284.kv]) ∧ h_ = [] | 7 => v_ = (.bool true) ∧ h_ = [] | 8 => v_ = (.bool false) ∧ h_ = [] | 9 => v_ = (.bool false) ∧ h_ = [] | 10 => v_ = (.pointer (some ⟨db219, 0, none⟩)) ∧ h_ = [] | 11 => v_ = (.pointer (some ⟨qm241, 0, none⟩)) ∧ h_ = [] | 12 => v_ = (.pointer (some ⟨b262, 0, none⟩)) ∧ h_ = [] | _ => True) 10 13 (by decide) (by decide) (by kernel_rfl) (flow_has (cs := []) hH322 rfl) ?_ ?_ ?_
                          · intro i_ o_ hi_ ho_
                            match i_, ho_, hi_ with
                            | 0, ho_, _ => obtain rfl := Option.some.inj ho_; exact ⟨e300_94, rfl⟩
                            | 1, ho_, _ => obtain rfl := Option.some.inj ho_; exact ⟨e300_95, rfl⟩
                            | 2, ho_, _ => obtain rfl := Option.some.inj ho_; exact ⟨e300_96, rfl⟩
                            | 3, ho_, _ => obtain rfl := Option.some.inj ho_; exact rfl
                            | 4, ho_, _ => obtain rfl := Option.some.inj ho_; exact rfl
                            | 5, ho_, _ => obtain rfl := Option.some.inj ho_; exact rfl
                            | 6, ho_, _ => obtain rfl := Option.some.inj ho_; exact ⟨e300_100, rfl⟩
                            | 7, ho_, _ => obtain rfl := Option.some.inj ho_; exact ⟨rfl, rfl⟩
                            | 8, ho_, _ => obtain rfl := Option.some.inj ho_; exact ⟨rfl, rfl⟩
                            | 9, ho_, _ => obtain rfl := Option.some.inj ho_; exact ⟨rfl, rfl⟩
                            | i_ + 10, _, hi_ => exact absurd hi_ (by omega)
                          · intro i_ o_ hlo_ him_ ho_ r' w' G hs_ ht
                            match i_, ho_, him_, hlo_ with
                            | 0, ho_, him_, hlo_ => exact absurd hlo_ (by decide)
                            | 1, ho_, him_, hlo_ => exact absurd hlo_ (by decide)
                            | 2, ho_, him_, hlo_ => exact absurd hlo_ (by decide)
                            | 3, ho_, him_, hlo_ => exact absurd hlo_ (by decide)
                            | 4, ho_, him_, hlo_ => exact absurd hlo_ (by decide)
                            | 5, ho_, him_, hlo_ => exact absurd hlo_ (by decide)
                            | 6, ho_, him_, hlo_ => exact absurd hlo_ (by decide)
                            | 7, ho_, him_, hlo_ => exact absurd hlo_ (by decide)
                            | 8, ho_, him_, hlo_ => exact absurd hlo_ (by decide)
                            | 9, ho_, him_, hlo_ => exact absurd hlo_ (by decide)
                            | 10, ho_, him_, hlo_ =>
                              obtain rfl := Option.some.inj ho_
                              obtain ⟨e103, eh9⟩ := (ht.done 9 _ rfl rfl).1
                              have e8 : r' 8 = (.pointer (some ⟨db219, 0, none⟩)) := (ht.was 8 (by kernel_rfl)).trans e300_8
                              have hG := ht.has.drop
                              refine GOK.on rfl rfl e103 ?_
                              refine o_move (v := (.pointer (some ⟨db219, 0, none⟩))) e8 ?_
                              exact ⟨_, ⟨rfl, rfl⟩, hG⟩
                            | 11, ho_, him_, hlo_ =>
                              obtain rfl := Option.some.inj ho_
                              obtain ⟨e103, eh9⟩ := (ht.done 9 _ rfl rfl).1
                              have e10 : r' 10 = (.pointer (some ⟨qm241, 0, none⟩)) := (ht.was 10 (by kernel_rfl)).trans e300_10
                              have hG := ht.has.drop
                              refine GOK.on rfl rfl e103 ?_
                              refine o_move (v := (.pointer (some ⟨qm241, 0, none⟩))) e10 ?_
                              exact ⟨_, ⟨rfl, rfl⟩, hG⟩
                            | 12, ho_, him_, hlo_ =>
                              obtain rfl := Option.some.inj ho_
                              obtain ⟨e103, eh9⟩ := (ht.done 9 _ rfl rfl).1
                              have e12 : r' 12 = (.pointer (some ⟨b262, 0, none⟩)) := (ht.was 12 (by kernel_rfl)).trans e300_12
                              have hG := ht.has.drop
                              refine GOK.on rfl rfl e103 ?_
                              refine o_move (v := (.pointer (some ⟨b262, 0, none⟩))) e12 ?_
                              exact ⟨_, ⟨rfl, rfl⟩, hG⟩
                            | i_ + 13, ho_, him_, hlo_ => exact absurd him_ (by omega)
                          · intro vs324 hs325 w326 hT327 hC_ hH328
                            obtain ⟨e0_, eh0_⟩ := hT327 0 _ (by decide) rfl
                            obtain ⟨e1_, eh1_⟩ := hT327 1 _ (by decide) rfl
                            obtain ⟨e2_, eh2_⟩ := hT327 2 _ (by decide) rfl
                            have eh3_ := hT327 3 _ (by decide) rfl
                            have eh4_ := hT327 4 _ (by decide) rfl
                            have eh5_ := hT327 5 _ (by decide) rfl
                            obtain ⟨e6_, eh6_⟩ := hT327 6 _ (by decide) rfl
                            obtain ⟨e7_, eh7_⟩ := hT327 7 _ (by decide) rfl
                            obtain ⟨e8_, eh8_⟩ := hT327 8 _ (by decide) rfl
                            obtain ⟨e9_, eh9_⟩ := hT327 9 _ (by decide) rfl
                            obtain ⟨e10_, eh10_⟩ := hT327 10 _ (by decide) rfl
                            obtain ⟨e11_, eh11_⟩ := hT327 11 _ (by decide) rfl
                            obtain ⟨e12_, eh12_⟩ := hT327 12 _ (by decide) rfl
                            have hH329 : Has E w326 ([sg301, [Hp.one b213 (.cells #[(.bool p304.off), (.bool p304.armed), (.int .i64 p304.left), (.int .i64 p304.uses)] 101 (0, 0))], s309, s311, s313, [Hp.one qm251 (.cells #[v308, v310, v312] 189 (0, 0))], [Hp.one b262 (.cells #[(.bool q305.off), (.bool q305.armed), (.int .i64 q305.left), (.int .i64 q305.uses)] 112 (0, 0))], sga, h1a, h2a, h3a, [Hp.one qm241 (.cells #[v1a, v2a, v3a] 189 (0, 0))], R] ++ []) := flow_back (cs := []) hH328 (by show (hs325 0 ++ (hs325 1 ++ (hs325 2 ++ (hs325 3 ++ (hs325 4 ++ (hs325 5 ++ (hs325 6 ++ (hs325 7 ++ (hs325 8 ++ (hs325 9 ++ (hs325 10 ++ (hs325 11 ++ (hs325 12 ++ (hs325 13 ++ (hs325 14 ++ (hs325 15 ++ (hs325 16 ++ (hs325 17 ++ (hs325 18 ++ (hs325 19 ++ (hs325 20 ++ (hs325 21 ++ (hs325 22 ++ (hs325 23 ++ (hs325 24 ++ (hs325 25 ++ (hs325 26 ++ (hs325 27 ++ (hs325 28 ++ (hs325 29 ++ (hs325 30 ++ (hs325 31 ++ (hs325 32 ++ (hs325 33 ++ (hs325 34 ++ (hs325 35 ++ (hs325 36 ++ (hs325 37 ++ (hs325 38 ++ (hs325 39 ++ (hs325 40 ++ []))))))))))))))))))))))))))))))))))))))))) = _; rw [eh0_, eh1_, eh2_, eh3_, eh4_, eh5_, eh6_, eh7_, eh8_, eh9_, eh10_, eh11_, eh12_, hC_ 13 (by decide) (by decide), hC_ 14 (by decide) (by decide), hC_ 15 (by decide) (by decide), hC_ 16 (by decide) (by decide), hC_ 17 (by decide) (by decide), hC_ 18 (by decide) (by decide), hC_ 19 (by decide) (by decide), hC_ 20 (by decide) (by decide), hC_ 21 (by decide) (by decide), hC_ 22 (by decide) (by decide), hC_ 23 (by decide) (by decide), hC_ 24 (by decide) (by decide), hC_ 25 (by decide) (by decide), hC_ 26 (by decide) (by decide), hC_ 27 (by decide) (by decide), hC_ 28 (by decide) (by decide), hC_ 29 (by decide) (by decide), hC_ 30 (by decide) (by decide), hC_ 31 (by decide) (by decide), hC_ 32 (by decide) (by decide), hC_ 33 (by decide) (by decide), hC_ 34 (by decide) (by decide), hC_ 35 (by decide) (by decide), hC_ 36 (by decide) (by decide), hC_ 37 (by decide) (by decide), hC_ 38 (by decide) (by decide), hC_ 39 (by decide) (by decide), hC_ 40 (by decide) (by decide)]; rfl)
                            generalize hr331 : puts vs324 _ 0 _ = r330
                            have e332_0 : r330 0 = (.int .i64 a) := by rw [← hr331]; exact e300_0
                            have e332_1 : r330 1 = (.int .i64 b) := by rw [← hr331]; exact e300_1
                            have e332_2 : r330 2 = v := by rw [← hr331]; exact e300_2
                            have e332_7 : r330 7 = (.pointer (some ⟨b213, 0, none⟩)) := by rw [← hr331]; exact e300_7
                            have e332_8 : r330 8 = (.pointer (some ⟨db219, 0, none⟩)) := by rw [← hr331]; exact e300_8
                            have e332_9 : r330 9 = (.pointer (some ⟨db226, 0, none⟩)) := by rw [← hr331]; exact e300_9
                            have e332_10 : r330 10 = (.pointer (some ⟨qm241, 0, none⟩)) := by rw [← hr331]; exact e300_10
                            have e332_11 : r330 11 = (.pointer (some ⟨qm251, 0, none⟩)) := by rw [← hr331]; exact e300_11
                            have e332_12 : r330 12 = (.pointer (some ⟨b262, 0, none⟩)) := by rw [← hr331]; exact e300_12
                            have e332_13 : r330 13 = (.int .i64 (i : Int)) := by rw [← hr331]; exact e300_13
                            have e332_14 : r330 14 = (.pointer (some ⟨db226, 0, none⟩)) := by rw [← hr331]; exact e300_14
                            have e332_15 : r330 15 = (.pointer (some ⟨qm251, 0, none⟩)) := by rw [← hr331]; exact e300_15
                            have e332_37 : r330 37 = (.bool false) := by rw [← hr331]; exact e300_37
                            have e332_66 : r330 66 = (.bool (!(false == (decide (4096 < b))))) := by rw [← hr331]; exact e300_66
                            have e332_72 : r330 72 = (.bool false) := by rw [← hr331]; exact e300_72
                            have e332_82 : r330 82 = (.bool (decide ((i : Int) < ((l.length : Nat) : Int)))) := by rw [← hr331]; exact e300_82
                            have e332_91 : r330 91 = (.bool x284.other) := by rw [← hr331]; exact e300_91
                            have e332_103 : r330 103 = (.bool false) := by rw [← hr331]; exact e9_
                            have e332_104 : r330 104 = (.pointer (some ⟨db219, 0, none⟩)) := by rw [← hr331]; exact e10_
                            have e332_105 : r330 105 = (.pointer (some ⟨qm241, 0, none⟩)) := by rw [← hr331]; exact e11_
                            have e332_106 : r330 106 = (.pointer (some ⟨b262, 0, none⟩)) := by rw [← hr331]; exact e12_
                            refine r_on 13 rfl (by kernel_rfl) 103 rfl e332_103 (o_callf (vs := #[(.pointer (some ⟨db219, 0, none⟩)), (.pointer (some ⟨qm241, 0, none⟩)), (.pointer (some ⟨b262, 0, none⟩))]) ca56 rfl (args3 e332_104 e332_105 e332_106) (same5_c (((((((hH329.front 6 rfl).front 11 rfl).front 11 rfl).front 11 rfl).front 11 rfl).front 6 rfl).front 11 rfl).all7 hda ho1a ho2a ho3a hsima hpr317 (by omega) (by omega)) ?_)
                            rintro _ w335 ⟨rfl, hX333⟩
                            refine ⟨_, rfl, ?_⟩
                            have hH334 : Has E w335 [sga, [Hp.one b213 (.cells #[(.bool p304.off), (.bool p304.armed), (.int .i64 p304.left), (.int .i64 p304.uses)] 101 (0, 0))], h1a, h2a, h3a, [Hp.one qm241 (.cells #[v1a, v2a, v3a] 189 (0, 0))], [Hp.one b262 (.cells #[(.bool q305.off), (.bool q305.armed), (.int .i64 q305.left), (.int .i64 q305.uses)] 112 (0, 0))], sg301, s309, s311, s313, [Hp.one qm251 (.cells #[v308, v310, v312] 189 (0, 0))], R] := hX333.of_all7
                            refine r_on 14 rfl (by kernel_rfl) 103 rfl e332_103 (o_not rfl ?_)
                            refine r_op 15 rfl (by kernel_rfl) (o_pick_f (u := (.bool false)) e332_103 rfl ?_)
                            refine r_op 16 rfl (by kernel_rfl) (o_move (v := (.bool false)) rfl ?_)
                            refine Rest.phase [sga, [Hp.one b213 (.cells #[(.bool p304.off), (.bool p304.armed), (.int .i64 p304.left), (.int .i64 p304.uses)] 101 (0, 0))], h1a, h2a, h3a, [Hp.one qm241 (.cells #[v1a, v2a, v3a] 189 (0, 0))], [Hp.one b262 (.cells #[(.bool q305.off), (.bool q305.armed), (.int .i64 q305.left), (.int .i64 q305.uses)] 112 (0, 0))], sg301, s309, s311, s313, [Hp.one qm251 (.cells #[v308, v310, v312] 189 (0, 0))], R] (fun i_ => match i_ with | _ => []) (fun i_ v_ h_ m_ => match i_ with | 0 => h_ = [] | 1 => h_ = [] | 2 => h_ = [] | 3 => h_ = [] | 4 => h_ = [] | 5 => h_ = [] | 6 => h_ = [] | 7 => h_ = [] | 8 => h_ = [] | 9 => v_ = (.bool false) ∧ h_ = [] | 10 => v_ = (.pointer (some ⟨db219, 0, none⟩)) ∧ h_ = [] | 11 => v_ = (.pointer (some ⟨qm241, 0, none⟩)) ∧ h_ = [] | 12 => v_ = (.pointer (some ⟨b262, 0, none⟩)) ∧ h_ = [] | 13 => v_ = (.bool true) ∧ h_ = [] | 14 => v_ = (.bool false) ∧ h_ = [] | 15 => v_ = (.bool false) ∧ h_ = [] | 16 => v_ = (.bool false) ∧ h_ = [] | 17 => v_ = (.pointer (some ⟨db226, 0, none⟩)) ∧ h_ = [] | 18 => v_ = (.pointer (some ⟨qm251, 0, none⟩)) ∧ h_ = [] | 19 => v_ = (.pointer (some ⟨b262, 0, none⟩)) ∧ h_ = [] | _ => True) 17 20 (by decide) (by decide) (by kernel_rfl) (flow_has (cs := []) hH334 rfl) ?_ ?_ ?_
                            · intro i_ o_ hi_ ho_
                              match i_, ho_, hi_ with
                              | 0, ho_, _ => obtain rfl := Option.some.inj ho_; exact rfl
                              | 1, ho_, _ => obtain rfl := Option.some.inj ho_; exact rfl
                              | 2, ho_, _ => obtain rfl := Option.some.inj ho_; exact rfl
                              | 3, ho_, _ => obtain rfl := Option.some.inj ho_; exact rfl
                              | 4, ho_, _ => obtain rfl := Option.some.inj ho_; exact rfl
                              | 5, ho_, _ => obtain rfl := Option.some.inj ho_; exact rfl
                              | 6, ho_, _ => obtain rfl := Option.some.inj ho_; exact rfl
                              | 7, ho_, _ => obtain rfl := Option.some.inj ho_; exact rfl
                              | 8, ho_, _ => obtain rfl := Option.some.inj ho_; exact rfl
                              | 9, ho_, _ => obtain rfl := Option.some.inj ho_; exact ⟨e332_103, rfl⟩
                              | 10, ho_, _ => obtain rfl := Option.some.inj ho_; exact ⟨e332_104, rfl⟩
                              | 11, ho_, _ => obtain rfl := Option.some.inj ho_; exact ⟨e332_105, rfl⟩
                              | 12, ho_, _ => obtain rfl := Option.some.inj ho_; exact ⟨e332_106, rfl⟩
                              | 13, ho_, _ => obtain rfl := Option.some.inj ho_; exact ⟨rfl, rfl⟩
                              | 14, ho_, _ => obtain rfl := Option.some.inj ho_; exact ⟨rfl, rfl⟩
                              | 15, ho_, _ => obtain rfl := Option.some.inj ho_; exact ⟨rfl, rfl⟩
                              | 16, ho_, _ => obtain rfl := Option.some.inj ho_; exact ⟨rfl, rfl⟩
                              | i_ + 17, _, hi_ => exact absurd hi_ (by omega)
                            · intro i_ o_ hlo_ him_ ho_ r' w' G hs_ ht
                              match i_, ho_, him_, hlo_ with
                              | 0, ho_, him_, hlo_ => exact absurd hlo_ (by decide)
                              | 1, ho_, him_, hlo_ => exact absurd hlo_ (by decide)
                              | 2, ho_, him_, hlo_ => exact absurd hlo_ (by decide)
                              | 3, ho_, him_, hlo_ => exact absurd hlo_ (by decide)
                              | 4, ho_, him_, hlo_ => exact absurd hlo_ (by decide)
                              | 5, ho_, him_, hlo_ => exact absurd hlo_ (by decide)
                              | 6, ho_, him_, hlo_ => exact absurd hlo_ (by decide)
                              | 7, ho_, him_, hlo_ => exact absurd hlo_ (by decide)
                              | 8, ho_, him_, hlo_ => exact absurd hlo_ (by decide)
                              | 9, ho_, him_, hlo_ => exact absurd hlo_ (by decide)
                              | 10, ho_, him_, hlo_ => exact absurd hlo_ (by decide)
                              | 11, ho_, him_, hlo_ => exact absurd hlo_ (by decide)
                              | 12, ho_, him_, hlo_ => exact absurd hlo_ (by decide)
                              | 13, ho_, him_, hlo_ => exact absurd hlo_ (by decide)
                              | 14, ho_, him_, hlo_ => exact absurd hlo_ (by decide)
                              | 15, ho_, him_, hlo_ => exact absurd hlo_ (by decide)
                              | 16, ho_, him_, hlo_ => exact absurd hlo_ (by decide)
                              | 17, ho_, him_, hlo_ =>
                                obtain rfl := Option.some.inj ho_
                                obtain ⟨e110, eh16⟩ := (ht.done 16 _ rfl rfl).1
                                have e9 : r' 9 = (.pointer (some ⟨db226, 0, none⟩)) := (ht.was 9 (by kernel_rfl)).trans e332_9
                                have hG := ht.has.drop
                                refine GOK.on rfl rfl e110 ?_
                                refine o_move (v := (.pointer (some ⟨db226, 0, none⟩))) e9 ?_
                                exact ⟨_, ⟨rfl, rfl⟩, hG⟩
                              | 18, ho_, him_, hlo_ =>
                                obtain rfl := Option.some.inj ho_
                                obtain ⟨e110, eh16⟩ := (ht.done 16 _ rfl rfl).1
                                have e11 : r' 11 = (.pointer (some ⟨qm251, 0, none⟩)) := (ht.was 11 (by kernel_rfl)).trans e332_11
                                have hG := ht.has.drop
                                refine GOK.on rfl rfl e110 ?_
                                refine o_move (v := (.pointer (some ⟨qm251, 0, none⟩))) e11 ?_
                                exact ⟨_, ⟨rfl, rfl⟩, hG⟩
                              | 19, ho_, him_, hlo_ =>
                                obtain rfl := Option.some.inj ho_
                                obtain ⟨e110, eh16⟩ := (ht.done 16 _ rfl rfl).1
                                have e12 : r' 12 = (.pointer (some ⟨b262, 0, none⟩)) := (ht.was 12 (by kernel_rfl)).trans e332_12
                                have hG := ht.has.drop
                                refine GOK.on rfl rfl e110 ?_
                                refine o_move (v := (.pointer (some ⟨b262, 0, none⟩))) e12 ?_
                                exact ⟨_, ⟨rfl, rfl⟩, hG⟩
                              | i_ + 20, ho_, him_, hlo_ => exact absurd him_ (by omega)
                            · intro vs336 hs337 w338 hT339 hC_ hH340
                              have eh0_ := hT339 0 _ (by decide) rfl
                              have eh1_ := hT339 1 _ (by decide) rfl
                              have eh2_ := hT339 2 _ (by decide) rfl
                              have eh3_ := hT339 3 _ (by decide) rfl
                              have eh4_ := hT339 4 _ (by decide) rfl
                              have eh5_ := hT339 5 _ (by decide) rfl
                              have eh6_ := hT339 6 _ (by decide) rfl
                              have eh7_ := hT339 7 _ (by decide) rfl
                              have eh8_ := hT339 8 _ (by decide) rfl
                              obtain ⟨e9_, eh9_⟩ := hT339 9 _ (by decide) rfl
                              obtain ⟨e10_, eh10_⟩ := hT339 10 _ (by decide) rfl
                              obtain ⟨e11_, eh11_⟩ := hT339 11 _ (by decide) rfl
                              obtain ⟨e12_, eh12_⟩ := hT339 12 _ (by decide) rfl
                              obtain ⟨e13_, eh13_⟩ := hT339 13 _ (by decide) rfl
                              obtain ⟨e14_, eh14_⟩ := hT339 14 _ (by decide) rfl
                              obtain ⟨e15_, eh15_⟩ := hT339 15 _ (by decide) rfl
                              obtain ⟨e16_, eh16_⟩ := hT339 16 _ (by decide) rfl
                              obtain ⟨e17_, eh17_⟩ := hT339 17 _ (by decide) rfl
                              obtain ⟨e18_, eh18_⟩ := hT339 18 _ (by decide) rfl
                              obtain ⟨e19_, eh19_⟩ := hT339 19 _ (by decide) rfl
                              have hH341 : Has E w338 ([sga, [Hp.one b213 (.cells #[(.bool p304.off), (.bool p304.armed), (.int .i64 p304.left), (.int .i64 p304.uses)] 101 (0, 0))], h1a, h2a, h3a, [Hp.one qm241 (.cells #[v1a, v2a, v3a] 189 (0, 0))], [Hp.one b262 (.cells #[(.bool q305.off), (.bool q305.armed), (.int .i64 q305.left), (.int .i64 q305.uses)] 112 (0, 0))], sg301, s309, s311, s313, [Hp.one qm251 (.cells #[v308, v310, v312] 189 (0, 0))], R] ++ []) := flow_back (cs := []) hH340 (by show (hs337 0 ++ (hs337 1 ++ (hs337 2 ++ (hs337 3 ++ (hs337 4 ++ (hs337 5 ++ (hs337 6 ++ (hs337 7 ++ (hs337 8 ++ (hs337 9 ++ (hs337 10 ++ (hs337 11 ++ (hs337 12 ++ (hs337 13 ++ (hs337 14 ++ (hs337 15 ++ (hs337 16 ++ (hs337 17 ++ (hs337 18 ++ (hs337 19 ++ (hs337 20 ++ (hs337 21 ++ (hs337 22 ++ (hs337 23 ++ (hs337 24 ++ (hs337 25 ++ (hs337 26 ++ (hs337 27 ++ (hs337 28 ++ (hs337 29 ++ (hs337 30 ++ (hs337 31 ++ (hs337 32 ++ (hs337 33 ++ (hs337 34 ++ (hs337 35 ++ (hs337 36 ++ (hs337 37 ++ (hs337 38 ++ (hs337 39 ++ (hs337 40 ++ []))))))))))))))))))))))))))))))))))))))))) = _; rw [eh0_, eh1_, eh2_, eh3_, eh4_, eh5_, eh6_, eh7_, eh8_, eh9_, eh10_, eh11_, eh12_, eh13_, eh14_, eh15_, eh16_, eh17_, eh18_, eh19_, hC_ 20 (by decide) (by decide), hC_ 21 (by decide) (by decide), hC_ 22 (by decide) (by decide), hC_ 23 (by decide) (by decide), hC_ 24 (by decide) (by decide), hC_ 25 (by decide) (by decide), hC_ 26 (by decide) (by decide), hC_ 27 (by decide) (by decide), hC_ 28 (by decide) (by decide), hC_ 29 (by decide) (by decide), hC_ 30 (by decide) (by decide), hC_ 31 (by decide) (by decide), hC_ 32 (by decide) (by decide), hC_ 33 (by decide) (by decide), hC_ 34 (by decide) (by decide), hC_ 35 (by decide) (by decide), hC_ 36 (by decide) (by decide), hC_ 37 (by decide) (by decide), hC_ 38 (by decide) (by decide), hC_ 39 (by decide) (by decide), hC_ 40 (by decide) (by decide)]; rfl)
                              generalize hr343 : puts vs336 _ 0 _ = r342
                              have e344_0 : r342 0 = (.int .i64 a) := by rw [← hr343]; exact e332_0
                              have e344_1 : r342 1 = (.int .i64 b) := by rw [← hr343]; exact e332_1
                              have e344_2 : r342 2 = v := by rw [← hr343]; exact e332_2
                              have e344_7 : r342 7 = (.pointer (some ⟨b213, 0, none⟩)) := by rw [← hr343]; exact e332_7
                              have e344_8 : r342 8 = (.pointer (some ⟨db219, 0, none⟩)) := by rw [← hr343]; exact e332_8
                              have e344_9 : r342 9 = (.pointer (some ⟨db226, 0, none⟩)) := by rw [← hr343]; exact e332_9
                              have e344_10 : r342 10 = (.pointer (some ⟨qm241, 0, none⟩)) := by rw [← hr343]; exact e332_10
                              have e344_11 : r342 11 = (.pointer (some ⟨qm251, 0, none⟩)) := by rw [← hr343]; exact e332_11
                              have e344_12 : r342 12 = (.pointer (some ⟨b262, 0, none⟩)) := by rw [← hr343]; exact e332_12
                              have e344_13 : r342 13 = (.int .i64 (i : Int)) := by rw [← hr343]; exact e332_13
                              have e344_14 : r342 14 = (.pointer (some ⟨db226, 0, none⟩)) := by rw [← hr343]; exact e332_14
                              have e344_15 : r342 15 = (.pointer (some ⟨qm251, 0, none⟩)) := by rw [← hr343]; exact e332_15
                              have e344_37 : r342 37 = (.bool false) := by rw [← hr343]; exact e332_37
                              have e344_66 : r342 66 = (.bool (!(false == (decide (4096 < b))))) := by rw [← hr343]; exact e332_66
                              have e344_72 : r342 72 = (.bool false) := by rw [← hr343]; exact e332_72
                              have e344_82 : r342 82 = (.bool (decide ((i : Int) < ((l.length : Nat) : Int)))) := by rw [← hr343]; exact e332_82
                              have e344_91 : r342 91 = (.bool x284.other) := by rw [← hr343]; exact e332_91
                              have e344_110 : r342 110 = (.bool false) := by rw [← hr343]; exact e16_
                              have e344_111 : r342 111 = (.pointer (some ⟨db226, 0, none⟩)) := by rw [← hr343]; exact e17_
                              have e344_112 : r342 112 = (.pointer (some ⟨qm251, 0, none⟩)) := by rw [← hr343]; exact e18_
                              have e344_113 : r342 113 = (.pointer (some ⟨b262, 0, none⟩)) := by rw [← hr343]; exact e19_
                              refine r_on 20 rfl (by kernel_rfl) 110 rfl e344_110 (o_callf (vs := #[(.pointer (some ⟨db226, 0, none⟩)), (.pointer (some ⟨qm251, 0, none⟩)), (.pointer (some ⟨b262, 0, none⟩))]) ca56 rfl (args3 e344_111 e344_112 e344_113) (same5_c (((((((hH341.front 6 rfl).front 11 rfl).front 11 rfl).front 11 rfl).front 11 rfl).front 6 rfl).front 11 rfl).all7 hd314 ho318 ho319 ho320 hsim316 hpr317 (by omega) (by omega)) ?_)
                              rintro _ w347 ⟨rfl, hX345⟩
                              refine ⟨_, rfl, ?_⟩
                              have hH346 : Has E w347 [sg301, [Hp.one b213 (.cells #[(.bool p304.off), (.bool p304.armed), (.int .i64 p304.left), (.int .i64 p304.uses)] 101 (0, 0))], s309, s311, s313, [Hp.one qm251 (.cells #[v308, v310, v312] 189 (0, 0))], [Hp.one b262 (.cells #[(.bool q305.off), (.bool q305.armed), (.int .i64 q305.left), (.int .i64 q305.uses)] 112 (0, 0))], sga, h1a, h2a, h3a, [Hp.one qm241 (.cells #[v1a, v2a, v3a] 189 (0, 0))], R] := hX345.of_all7
                              refine r_on 21 rfl (by kernel_rfl) 110 rfl e344_110 (o_not rfl ?_)
                              refine r_op 22 rfl (by kernel_rfl) (o_pick_f (u := (.bool false)) e344_110 rfl ?_)
                              refine r_op 23 rfl (by kernel_rfl) (o_move (v := (.bool false)) rfl ?_)
                              refine Rest.phase [sg301, [Hp.one b213 (.cells #[(.bool p304.off), (.bool p304.armed), (.int .i64 p304.left), (.int .i64 p304.uses)] 101 (0, 0))], s309, s311, s313, [Hp.one qm251 (.cells #[v308, v310, v312] 189 (0, 0))], [Hp.one b262 (.cells #[(.bool q305.off), (.bool q305.armed), (.int .i64 q305.left), (.int .i64 q305.uses)] 112 (0, 0))], sga, h1a, h2a, h3a, [Hp.one qm241 (.cells #[v1a, v2a, v3a] 189 (0, 0))], R] (fun i_ => match i_ with | _ => []) (fun i_ v_ h_ m_ => match i_ with | 0 => h_ = [] | 1 => h_ = [] | 2 => h_ = [] | 3 => h_ = [] | 4 => h_ = [] | 5 => h_ = [] | 6 => h_ = [] | 7 => h_ = [] | 8 => h_ = [] | 9 => h_ = [] | 10 => h_ = [] | 11 => h_ = [] | 12 => h_ = [] | 13 => h_ = [] | 14 => h_ = [] | 15 => h_ = [] | 16 => v_ = (.bool false) ∧ h_ = [] | 17 => v_ = (.pointer (some ⟨db226, 0, none⟩)) ∧ h_ = [] | 18 => v_ = (.pointer (some ⟨qm251, 0, none⟩)) ∧ h_ = [] | 19 => v_ = (.pointer (some ⟨b262, 0, none⟩)) ∧ h_ = [] | 20 => v_ = (.bool true) ∧ h_ = [] | 21 => v_ = (.bool false) ∧ h_ = [] | 22 => v_ = (.bool false) ∧ h_ = [] | 23 => v_ = (.bool false) ∧ h_ = [] | 24 => v_ = (.pointer (some ⟨b213, 0, none⟩)) ∧ h_ = [] | 25 => v_ = (.bool (!p304.off)) ∧ h_ = [] | 26 => v_ = (.pointer (some ⟨b262, 0, none⟩)) ∧ h_ = [] | 27 => v_ = (.pointer (some ⟨b262, 0, none⟩)) ∧ h_ = [] | 28 => v_ = (.pointer (some ⟨b262, 0, none⟩)) ∧ h_ = [] | 29 => v_ = (.bool q305.off) ∧ h_ = [] | _ => True) 24 30 (by decide) (by decide) (by kernel_rfl) (flow_has (cs := []) hH346 rfl) ?_ ?_ ?_
                              · intro i_ o_ hi_ ho_
                                match i_, ho_, hi_ with
                                | 0, ho_, _ => obtain rfl := Option.some.inj ho_; exact rfl
                                | 1, ho_, _ => obtain rfl := Option.some.inj ho_; exact rfl
                                | 2, ho_, _ => obtain rfl := Option.some.inj ho_; exact rfl
                                | 3, ho_, _ => obtain rfl := Option.some.inj ho_; exact rfl
                                | 4, ho_, _ => obtain rfl := Option.some.inj ho_; exact rfl
                                | 5, ho_, _ => obtain rfl := Option.some.inj ho_; exact rfl
                                | 6, ho_, _ => obtain rfl := Option.some.inj ho_; exact rfl
                                | 7, ho_, _ => obtain rfl := Option.some.inj ho_; exact rfl
                                | 8, ho_, _ => obtain rfl := Option.some.inj ho_; exact rfl
                                | 9, ho_, _ => obtain rfl := Option.some.inj ho_; exact rfl
                                | 10, ho_, _ => obtain rfl := Option.some.inj ho_; exact rfl
                                | 11, ho_, _ => obtain rfl := Option.some.inj ho_; exact rfl
                                | 12, ho_, _ => obtain rfl := Option.some.inj ho_; exact rfl
                                | 13, ho_, _ => obtain rfl := Option.some.inj ho_; exact rfl
                                | 14, ho_, _ => obtain rfl := Option.some.inj ho_; exact rfl
                                | 15, ho_, _ => obtain rfl := Option.some.inj ho_; exact rfl
                                | 16, ho_, _ => obtain rfl := Option.some.inj ho_; exact ⟨e344_110, rfl⟩
                                | 17, ho_, _ => obtain rfl := Option.some.inj ho_; exact ⟨e344_111, rfl⟩
                                | 18, ho_, _ => obtain rfl := Option.some.inj ho_; exact ⟨e344_112, rfl⟩
                                | 19, ho_, _ => obtain rfl := Option.some.inj ho_; exact ⟨e344_113, rfl⟩
                                | 20, ho_, _ => obtain rfl := Option.some.inj ho_; exact ⟨rfl, rfl⟩
                                | 21, ho_, _ => obtain rfl := Option.some.inj ho_; exact ⟨rfl, rfl⟩
                                | 22, ho_, _ => obtain rfl := Option.some.inj ho_; exact ⟨rfl, rfl⟩
                                | 23, ho_, _ => obtain rfl := Option.some.inj ho_; exact ⟨rfl, rfl⟩
                                | i_ + 24, _, hi_ => exact absurd hi_ (by omega)
                              · intro i_ o_ hlo_ him_ ho_ r' w' G hs_ ht
                                match i_, ho_, him_, hlo_ with
                                | 0, ho_, him_, hlo_ => exact absurd hlo_ (by decide)
                                | 1, ho_, him_, hlo_ => exact absurd hlo_ (by decide)
                                | 2, ho_, him_, hlo_ => exact absurd hlo_ (by decide)
                                | 3, ho_, him_, hlo_ => exact absurd hlo_ (by decide)
                                | 4, ho_, him_, hlo_ => exact absurd hlo_ (by decide)
                                | 5, ho_, him_, hlo_ => exact absurd hlo_ (by decide)
                                | 6, ho_, him_, hlo_ => exact absurd hlo_ (by decide)
                                | 7, ho_, him_, hlo_ => exact absurd hlo_ (by decide)
                                | 8, ho_, him_, hlo_ => exact absurd hlo_ (by decide)
                                | 9, ho_, him_, hlo_ => exact absurd hlo_ (by decide)
                                | 10, ho_, him_, hlo_ => exact absurd hlo_ (by decide)
                                | 11, ho_, him_, hlo_ => exact absurd hlo_ (by decide)
                                | 12, ho_, him_, hlo_ => exact absurd hlo_ (by decide)
                                | 13, ho_, him_, hlo_ => exact absurd hlo_ (by decide)
                                | 14, ho_, him_, hlo_ => exact absurd hlo_ (by decide)
                                | 15, ho_, him_, hlo_ => exact absurd hlo_ (by decide)
                                | 16, ho_, him_, hlo_ => exact absurd hlo_ (by decide)
                                | 17, ho_, him_, hlo_ => exact absurd hlo_ (by decide)
                                | 18, ho_, him_, hlo_ => exact absurd hlo_ (by decide)
                                | 19, ho_, him_, hlo_ => exact absurd hlo_ (by decide)
                                | 20, ho_, him_, hlo_ => exact absurd hlo_ (by decide)
                                | 21, ho_, him_, hlo_ => exact absurd hlo_ (by decide)
                                | 22, ho_, him_, hlo_ => exact absurd hlo_ (by decide)
                                | 23, ho_, him_, hlo_ => exact absurd hlo_ (by decide)
                                | 24, ho_, him_, hlo_ =>
                                  obtain rfl := Option.some.inj ho_
                                  obtain ⟨e117, eh23⟩ := (ht.done 23 _ rfl rfl).1
                                  have e7 : r' 7 = (.pointer (some ⟨b213, 0, none⟩)) := (ht.was 7 (by kernel_rfl)).trans e344_7
                                  have hG := ht.has.drop
                                  refine GOK.on rfl rfl e117 ?_
                                  refine o_move (v := (.pointer (some ⟨b213, 0, none⟩))) e7 ?_
                                  exact ⟨_, ⟨rfl, rfl⟩, hG⟩
                                | 25, ho_, him_, hlo_ =>
                                  obtain rfl := Option.some.inj ho_
                                  obtain ⟨e117, eh23⟩ := (ht.done 23 _ rfl rfl).1
                                  obtain ⟨e118, eh24⟩ := (ht.done 24 _ rfl rfl).1
                                  have hG := ht.has.drop
                                  refine GOK.on rfl rfl e117 ?_
                                  refine o_callf (vs := #[(.pointer (some ⟨b213, 0, none⟩))]) ca57 rfl (args1 e118) (pon_r (p := p304) hG.all (ht.fr [Hp.one b213 (.cells #[(.bool p304.off), (.bool p304.armed), (.int .i64 p304.left), (.int .i64 p304.uses)] 101 (0, 0))] (by simp))) ?_
                                  rintro _ w350 ⟨rfl, hX348⟩
                                  refine ⟨_, rfl, ?_⟩
                                  have hH349 := hX348.of_all
                                  exact ⟨_, ⟨rfl, rfl⟩, hH349⟩
                                | 26, ho_, him_, hlo_ =>
                                  obtain rfl := Option.some.inj ho_
                                  obtain ⟨e117, eh23⟩ := (ht.done 23 _ rfl rfl).1
                                  have e12 : r' 12 = (.pointer (some ⟨b262, 0, none⟩)) := (ht.was 12 (by kernel_rfl)).trans e344_12
                                  have hG := ht.has.drop
                                  refine GOK.on rfl rfl e117 ?_
                                  refine o_move (v := (.pointer (some ⟨b262, 0, none⟩))) e12 ?_
                                  exact ⟨_, ⟨rfl, rfl⟩, hG⟩
                                | 27, ho_, him_, hlo_ =>
                                  obtain rfl := Option.some.inj ho_
                                  obtain ⟨e117, eh23⟩ := (ht.done 23 _ rfl rfl).1
                                  obtain ⟨e120, eh26⟩ := (ht.done 26 _ rfl rfl).1
                                  have hG := ht.has.drop
                                  refine GOK.on rfl rfl e117 ?_
                                  refine o_nilCheck e120 ?_
                                  exact ⟨_, ⟨rfl, rfl⟩, hG⟩
                                | 28, ho_, him_, hlo_ =>
                                  obtain rfl := Option.some.inj ho_
                                  obtain ⟨e117, eh23⟩ := (ht.done 23 _ rfl rfl).1
                                  obtain ⟨e121, eh27⟩ := (ht.done 27 _ rfl rfl).1
                                  have hG := ht.has.drop
                                  refine GOK.on rfl rfl e117 ?_
                                  refine o_fieldAddr (k := 0) (fun _ => by kernel_rfl) e121 ?_
                                  exact ⟨_, ⟨rfl, rfl⟩, hG⟩
                                | 29, ho_, him_, hlo_ =>
                                  obtain rfl := Option.some.inj ho_
                                  obtain ⟨e117, eh23⟩ := (ht.done 23 _ rfl rfl).1
                                  obtain ⟨e122, eh28⟩ := (ht.done 28 _ rfl rfl).1
                                  have hG := ht.has.drop
                                  refine GOK.on rfl rfl e117 ?_
                                  refine o_load1 (v := (.bool q305.off)) Try.underlying4 rfl e122 hG (ht.fr [Hp.one b262 (.cells #[(.bool q305.off), (.bool q305.armed), (.int .i64 q305.left), (.int .i64 q305.uses)] 112 (0, 0))] (by simp)) (CellsAt.one rfl) ?_
                                  exact ⟨_, ⟨rfl, rfl⟩, hG⟩
                                | i_ + 30, ho_, him_, hlo_ => exact absurd him_ (by omega)
                              · intro vs351 hs352 w353 hT354 hC_ hH355
                                have eh0_ := hT354 0 _ (by decide) rfl
                                have eh1_ := hT354 1 _ (by decide) rfl
                                have eh2_ := hT354 2 _ (by decide) rfl
                                have eh3_ := hT354 3 _ (by decide) rfl
                                have eh4_ := hT354 4 _ (by decide) rfl
                                have eh5_ := hT354 5 _ (by decide) rfl
                                have eh6_ := hT354 6 _ (by decide) rfl
                                have eh7_ := hT354 7 _ (by decide) rfl
                                have eh8_ := hT354 8 _ (by decide) rfl
                                have eh9_ := hT354 9 _ (by decide) rfl
                                have eh10_ := hT354 10 _ (by decide) rfl
                                have eh11_ := hT354 11 _ (by decide) rfl
                                have eh12_ := hT354 12 _ (by decide) rfl
                                have eh13_ := hT354 13 _ (by decide) rfl
                                have eh14_ := hT354 14 _ (by decide) rfl
                                have eh15_ := hT354 15 _ (by decide) rfl
                                obtain ⟨e16_, eh16_⟩ := hT354 16 _ (by decide) rfl
                                obtain ⟨e17_, eh17_⟩ := hT354 17 _ (by decide) rfl
                                obtain ⟨e18_, eh18_⟩ := hT354 18 _ (by decide) rfl
                                obtain ⟨e19_, eh19_⟩ := hT354 19 _ (by decide) rfl
                                obtain ⟨e20_, eh20_⟩ := hT354 20 _ (by decide) rfl
                                obtain ⟨e21_, eh21_⟩ := hT354 21 _ (by decide) rfl
                                obtain ⟨e22_, eh22_⟩ := hT354 22 _ (by decide) rfl
                                obtain ⟨e23_, eh23_⟩ := hT354 23 _ (by decide) rfl
                                obtain ⟨e24_, eh24_⟩ := hT354 24 _ (by decide) rfl
                                obtain ⟨e25_, eh25_⟩ := hT354 25 _ (by decide) rfl
                                obtain ⟨e26_, eh26_⟩ := hT354 26 _ (by decide) rfl
                                obtain ⟨e27_, eh27_⟩ := hT354 27 _ (by decide) rfl
                                obtain ⟨e28_, eh28_⟩ := hT354 28 _ (by decide) rfl
                                obtain ⟨e29_, eh29_⟩ := hT354 29 _ (by decide) rfl
                                have hH356 : Has E w353 ([sg301, [Hp.one b213 (.cells #[(.bool p304.off), (.bool p304.armed), (.int .i64 p304.left), (.int .i64 p304.uses)] 101 (0, 0))], s309, s311, s313, [Hp.one qm251 (.cells #[v308, v310, v312] 189 (0, 0))], [Hp.one b262 (.cells #[(.bool q305.off), (.bool q305.armed), (.int .i64 q305.left), (.int .i64 q305.uses)] 112 (0, 0))], sga, h1a, h2a, h3a, [Hp.one qm241 (.cells #[v1a, v2a, v3a] 189 (0, 0))], R] ++ []) := flow_back (cs := []) hH355 (by show (hs352 0 ++ (hs352 1 ++ (hs352 2 ++ (hs352 3 ++ (hs352 4 ++ (hs352 5 ++ (hs352 6 ++ (hs352 7 ++ (hs352 8 ++ (hs352 9 ++ (hs352 10 ++ (hs352 11 ++ (hs352 12 ++ (hs352 13 ++ (hs352 14 ++ (hs352 15 ++ (hs352 16 ++ (hs352 17 ++ (hs352 18 ++ (hs352 19 ++ (hs352 20 ++ (hs352 21 ++ (hs352 22 ++ (hs352 23 ++ (hs352 24 ++ (hs352 25 ++ (hs352 26 ++ (hs352 27 ++ (hs352 28 ++ (hs352 29 ++ (hs352 30 ++ (hs352 31 ++ (hs352 32 ++ (hs352 33 ++ (hs352 34 ++ (hs352 35 ++ (hs352 36 ++ (hs352 37 ++ (hs352 38 ++ (hs352 39 ++ (hs352 40 ++ []))))))))))))))))))))))))))))))))))))))))) = _; rw [eh0_, eh1_, eh2_, eh3_, eh4_, eh5_, eh6_, eh7_, eh8_, eh9_, eh10_, eh11_, eh12_, eh13_, eh14_, eh15_, eh16_, eh17_, eh18_, eh19_, eh20_, eh21_, eh22_, eh23_, eh24_, eh25_, eh26_, eh27_, eh28_, eh29_, hC_ 30 (by decide) (by decide), hC_ 31 (by decide) (by decide), hC_ 32 (by decide) (by decide), hC_ 33 (by decide) (by decide), hC_ 34 (by decide) (by decide), hC_ 35 (by decide) (by decide), hC_ 36 (by decide) (by decide), hC_ 37 (by decide) (by decide), hC_ 38 (by decide) (by decide), hC_ 39 (by decide) (by decide), hC_ 40 (by decide) (by decide)]; rfl)
                                generalize hr358 : puts vs351 _ 0 _ = r357
                                have e359_0 : r357 0 = (.int .i64 a) := by rw [← hr358]; exact e344_0
                                have e359_1 : r357 1 = (.int .i64 b) := by rw [← hr358]; exact e344_1
                                have e359_2 : r357 2 = v := by rw [← hr358]; exact e344_2
                                have e359_7 : r357 7 = (.pointer (some ⟨b213, 0, none⟩)) := by rw [← hr358]; exact e344_7
                                have e359_8 : r357 8 = (.pointer (some ⟨db219, 0, none⟩)) := by rw [← hr358]; exact e344_8
                                have e359_9 : r357 9 = (.pointer (some ⟨db226, 0, none⟩)) := by rw [← hr358]; exact e344_9
                                have e359_10 : r357 10 = (.pointer (some ⟨qm241, 0, none⟩)) := by rw [← hr358]; exact e344_10
                                have e359_11 : r357 11 = (.pointer (some ⟨qm251, 0, none⟩)) := by rw [← hr358]; exact e344_11
                                have e359_12 : r357 12 = (.pointer (some ⟨b262, 0, none⟩)) := by rw [← hr358]; exact e344_12
                                have e359_13 : r357 13 = (.int .i64 (i : Int)) := by rw [← hr358]; exact e344_13
                                have e359_14 : r357 14 = (.pointer (some ⟨db226, 0, none⟩)) := by rw [← hr358]; exact e344_14
                                have e359_15 : r357 15 = (.pointer (some ⟨qm251, 0, none⟩)) := by rw [← hr358]; exact e344_15
                                have e359_37 : r357 37 = (.bool false) := by rw [← hr358]; exact e344_37
                                have e359_66 : r357 66 = (.bool (!(false == (decide (4096 < b))))) := by rw [← hr358]; exact e344_66
                                have e359_72 : r357 72 = (.bool false) := by rw [← hr358]; exact e344_72
                                have e359_82 : r357 82 = (.bool (decide ((i : Int) < ((l.length : Nat) : Int)))) := by rw [← hr358]; exact e344_82
                                have e359_91 : r357 91 = (.bool x284.other) := by rw [← hr358]; exact e344_91
                                have e359_117 : r357 117 = (.bool false) := by rw [← hr358]; exact e23_
                                have e359_119 : r357 119 = (.bool (!p304.off)) := by rw [← hr358]; exact e25_
                                have e359_123 : r357 123 = (.bool q305.off) := by rw [← hr358]; exact e29_
                                refine r_on 30 rfl (by kernel_rfl) 117 rfl e359_117 (o_eqlb Try.underlying4 e359_119 e359_123 ?_)
                                refine r_op 31 rfl (by kernel_rfl) (o_pick_f (u := (.bool ((!p304.off) == q305.off))) e359_117 rfl ?_)
                                refine r_op 32 rfl (by kernel_rfl) (o_move (v := (.bool ((!p304.off) == q305.off))) rfl ?_)
                                rcases Bool.eq_false_or_eq_true ((!p304.off) == q305.off) with h360 | h360
                                · -- (!p304.off) == q305.off
                                  exact absurd h360 (by rw [hpr317.off]; cases Pw.off _ <;> decide)
                                · -- not: (!p304.off) == q305.off
                                  refine Rest.phase [sg301, [Hp.one b213 (.cells #[(.bool p304.off), (.bool p304.armed), (.int .i64 p304.left), (.int .i64 p304.uses)] 101 (0, 0))], s309, s311, s313, [Hp.one qm251 (.cells #[v308, v310, v312] 189 (0, 0))], [Hp.one b262 (.cells #[(.bool q305.off), (.bool q305.armed), (.int .i64 q305.left), (.int .i64 q305.uses)] 112 (0, 0))], sga, h1a, h2a, h3a, [Hp.one qm241 (.cells #[v1a, v2a, v3a] 189 (0, 0))], R] (fun i_ => match i_ with | _ => []) (fun i_ v_ h_ m_ => match i_ with | 0 => h_ = [] | 1 => h_ = [] | 2 => h_ = [] | 3 => h_ = [] | 4 => h_ = [] | 5 => h_ = [] | 6 => h_ = [] | 7 => h_ = [] | 8 => h_ = [] | 9 => h_ = [] | 10 => h_ = [] | 11 => h_ = [] | 12 => h_ = [] | 13 => h_ = [] | 14 => h_ = [] | 15 => h_ = [] | 16 => h_ = [] | 17 => h_ = [] | 18 => h_ = [] | 19 => h_ = [] | 20 => h_ = [] | 21 => h_ = [] | 22 => h_ = [] | 23 => v_ = (.bool false) ∧ h_ = [] | 24 => h_ = [] | 25 => v_ = (.bool (!p304.off)) ∧ h_ = [] | 26 => h_ = [] | 27 => h_ = [] | 28 => h_ = [] | 29 => v_ = (.bool q305.off) ∧ h_ = [] | 30 => v_ = (.bool ((!p304.off) == q305.off)) ∧ h_ = [] | 31 => v_ = (.bool ((!p304.off) == q305.off)) ∧ h_ = [] | 32 => v_ = (.bool ((!p304.off) == q305.off)) ∧ h_ = [] | 33 => v_ = (.pointer (some ⟨b213, 0, none⟩)) ∧ h_ = [] | 34 => v_ = (.int .i64 p304.uses) ∧ h_ = [] | 35 => v_ = (.pointer (some ⟨b262, 0, none⟩)) ∧ h_ = [] | 36 => v_ = (.pointer (some ⟨b262, 0, none⟩)) ∧ h_ = [] | 37 => v_ = (.pointer (some ⟨b262, 3, none⟩)) ∧ h_ = [] | 38 => v_ = (.int .i64 q305.uses) ∧ h_ = [] | _ => True) 33 39 (by decide) (by decide) (by kernel_rfl) (flow_has (cs := []) hH356 rfl) ?_ ?_ ?_
                                  · intro i_ o_ hi_ ho_
                                    match i_, ho_, hi_ with
                                    | 0, ho_, _ => obtain rfl := Option.some.inj ho_; exact rfl
                                    | 1, ho_, _ => obtain rfl := Option.some.inj ho_; exact rfl
                                    | 2, ho_, _ => obtain rfl := Option.some.inj ho_; exact rfl
                                    | 3, ho_, _ => obtain rfl := Option.some.inj ho_; exact rfl
                                    | 4, ho_, _ => obtain rfl := Option.some.inj ho_; exact rfl
                                    | 5, ho_, _ => obtain rfl := Option.some.inj ho_; exact rfl
                                    | 6, ho_, _ => obtain rfl := Option.some.inj ho_; exact rfl
                                    | 7, ho_, _ => obtain rfl := Option.some.inj ho_; exact rfl
                                    | 8, ho_, _ => obtain rfl := Option.some.inj ho_; exact rfl
                                    | 9, ho_, _ => obtain rfl := Option.some.inj ho_; exact rfl
                                    | 10, ho_, _ => obtain rfl := Option.some.inj ho_; exact rfl
                                    | 11, ho_, _ => obtain rfl := Option.some.inj ho_; exact rfl
                                    | 12, ho_, _ => obtain rfl := Option.some.inj ho_; exact rfl
                                    | 13, ho_, _ => obtain rfl := Option.some.inj ho_; exact rfl
                                    | 14, ho_, _ => obtain rfl := Option.some.inj ho_; exact rfl
                                    | 15, ho_, _ => obtain rfl := Option.some.inj ho_; exact rfl
                                    | 16, ho_, _ => obtain rfl := Option.some.inj ho_; exact rfl
                                    | 17, ho_, _ => obtain rfl := Option.some.inj ho_; exact rfl
                                    | 18, ho_, _ => obtain rfl := Option.some.inj ho_; exact rfl
                                    | 19, ho_, _ => obtain rfl := Option.some.inj ho_; exact rfl
                                    | 20, ho_, _ => obtain rfl := Option.some.inj ho_; exact rfl
                                    | 21, ho_, _ => obtain rfl := Option.some.inj ho_; exact rfl
                                    | 22, ho_, _ => obtain rfl := Option.some.inj ho_; exact rfl
                                    | 23, ho_, _ => obtain rfl := Option.some.inj ho_; exact ⟨e359_117, rfl⟩
                                    | 24, ho_, _ => obtain rfl := Option.some.inj ho_; exact rfl
                                    | 25, ho_, _ => obtain rfl := Option.some.inj ho_; exact ⟨e359_119, rfl⟩
                                    | 26, ho_, _ => obtain rfl := Option.some.inj ho_; exact rfl
                                    | 27, ho_, _ => obtain rfl := Option.some.inj ho_; exact rfl
                                    | 28, ho_, _ => obtain rfl := Option.some.inj ho_; exact rfl
                                    | 29, ho_, _ => obtain rfl := Option.some.inj ho_; exact ⟨e359_123, rfl⟩
                                    | 30, ho_, _ => obtain rfl := Option.some.inj ho_; exact ⟨rfl, rfl⟩
                                    | 31, ho_, _ => obtain rfl := Option.some.inj ho_; exact ⟨rfl, rfl⟩
                                    | 32, ho_, _ => obtain rfl := Option.some.inj ho_; exact ⟨rfl, rfl⟩
                                    | i_ + 33, _, hi_ => exact absurd hi_ (by omega)
                                  · intro i_ o_ hlo_ him_ ho_ r' w' G hs_ ht
                                    match i_, ho_, him_, hlo_ with
                                    | 0, ho_, him_, hlo_ => exact absurd hlo_ (by decide)
                                    | 1, ho_, him_, hlo_ => exact absurd hlo_ (by decide)
                                    | 2, ho_, him_, hlo_ => exact absurd hlo_ (by decide)
                                    | 3, ho_, him_, hlo_ => exact absurd hlo_ (by decide)
                                    | 4, ho_, him_, hlo_ => exact absurd hlo_ (by decide)
                                    | 5, ho_, him_, hlo_ => exact absurd hlo_ (by decide)
                                    | 6, ho_, him_, hlo_ => exact absurd hlo_ (by decide)
                                    | 7, ho_, him_, hlo_ => exact absurd hlo_ (by decide)
                                    | 8, ho_, him_, hlo_ => exact absurd hlo_ (by decide)
                                    | 9, ho_, him_, hlo_ => exact absurd hlo_ (by decide)
                                    | 10, ho_, him_, hlo_ => exact absurd hlo_ (by decide)
                                    | 11, ho_, him_, hlo_ => exact absurd hlo_ (by decide)
                                    | 12, ho_, him_, hlo_ => exact absurd hlo_ (by decide)
                                    | 13, ho_, him_, hlo_ => exact absurd hlo_ (by decide)
                                    | 14, ho_, him_, hlo_ => exact absurd hlo_ (by decide)
                                    | 15, ho_, him_, hlo_ => exact absurd hlo_ (by decide)
                                    | 16, ho_, him_, hlo_ => exact absurd hlo_ (by decide)
                                    | 17, ho_, him_, hlo_ => exact absurd hlo_ (by decide)
                                    | 18, ho_, him_, hlo_ => exact absurd hlo_ (by decide)
                                    | 19, ho_, him_, hlo_ => exact absurd hlo_ (by decide)
                                    | 20, ho_, him_, hlo_ => exact absurd hlo_ (by decide)
                                    | 21, ho_, him_, hlo_ => exact absurd hlo_ (by decide)
                                    | 22, ho_, him_, hlo_ => exact absurd hlo_ (by decide)
                                    | 23, ho_, him_, hlo_ => exact absurd hlo_ (by decide)
                                    | 24, ho_, him_, hlo_ => exact absurd hlo_ (by decide)
                                    | 25, ho_, him_, hlo_ => exact absurd hlo_ (by decide)
                                    | 26, ho_, him_, hlo_ => exact absurd hlo_ (by decide)
                                    | 27, ho_, him_, hlo_ => exact absurd hlo_ (by decide)
                                    | 28, ho_, him_, hlo_ => exact absurd hlo_ (by decide)
                                    | 29, ho_, him_, hlo_ => exact absurd hlo_ (by decide)
                                    | 30, ho_, him_, hlo_ => exact absurd hlo_ (by decide)
                                    | 31, ho_, him_, hlo_ => exact absurd hlo_ (by decide)
                                    | 32, ho_, him_, hlo_ => exact absurd hlo_ (by decide)
                                    | 33, ho_, him_, hlo_ =>
                                      obtain rfl := Option.some.inj ho_
                                      obtain ⟨e126, eh32⟩ := (ht.done 32 _ rfl rfl).1
                                      have e7 : r' 7 = (.pointer (some ⟨b213, 0, none⟩)) := (ht.was 7 (by kernel_rfl)).trans e359_7
                                      have hG := ht.has.drop
                                      refine GOK.on rfl rfl (Eq.trans e126 (congrArg Value.bool h360)) ?_
                                      refine o_move (v := (.pointer (some ⟨b213, 0, none⟩))) e7 ?_
                                      exact ⟨_, ⟨rfl, rfl⟩, hG⟩
                                    | 34, ho_, him_, hlo_ =>
                                      obtain rfl := Option.some.inj ho_
                                      obtain ⟨e126, eh32⟩ := (ht.done 32 _ rfl rfl).1
                                      obtain ⟨e127, eh33⟩ := (ht.done 33 _ rfl rfl).1
                                      have hG := ht.has.drop
                                      refine GOK.on rfl rfl (Eq.trans e126 (congrArg Value.bool h360)) ?_
                                      refine o_callf (vs := #[(.pointer (some ⟨b213, 0, none⟩))]) ca58 rfl (args1 e127) (puses_r (p := p304) hG.all (ht.fr [Hp.one b213 (.cells #[(.bool p304.off), (.bool p304.armed), (.int .i64 p304.left), (.int .i64 p304.uses)] 101 (0, 0))] (by simp))) ?_
                                      rintro _ w363 ⟨rfl, hX361⟩
                                      refine ⟨_, rfl, ?_⟩
                                      have hH362 := hX361.of_all
                                      exact ⟨_, ⟨rfl, rfl⟩, hH362⟩
                                    | 35, ho_, him_, hlo_ =>
                                      obtain rfl := Option.some.inj ho_
                                      obtain ⟨e126, eh32⟩ := (ht.done 32 _ rfl rfl).1
                                      have e12 : r' 12 = (.pointer (some ⟨b262, 0, none⟩)) := (ht.was 12 (by kernel_rfl)).trans e359_12
                                      have hG := ht.has.drop
                                      refine GOK.on rfl rfl (Eq.trans e126 (congrArg Value.bool h360)) ?_
                                      refine o_move (v := (.pointer (some ⟨b262, 0, none⟩))) e12 ?_
                                      exact ⟨_, ⟨rfl, rfl⟩, hG⟩
                                    | 36, ho_, him_, hlo_ =>
                                      obtain rfl := Option.some.inj ho_
                                      obtain ⟨e126, eh32⟩ := (ht.done 32 _ rfl rfl).1
                                      obtain ⟨e129, eh35⟩ := (ht.done 35 _ rfl rfl).1
                                      have hG := ht.has.drop
                                      refine GOK.on rfl rfl (Eq.trans e126 (congrArg Value.bool h360)) ?_
                                      refine o_nilCheck e129 ?_
                                      exact ⟨_, ⟨rfl, rfl⟩, hG⟩
                                    | 37, ho_, him_, hlo_ =>
                                      obtain rfl := Option.some.inj ho_
                                      obtain ⟨e126, eh32⟩ := (ht.done 32 _ rfl rfl).1
                                      obtain ⟨e130, eh36⟩ := (ht.done 36 _ rfl rfl).1
                                      have hG := ht.has.drop
                                      refine GOK.on rfl rfl (Eq.trans e126 (congrArg Value.bool h360)) ?_
                                      refine o_fieldAddr (k := 3) (fun _ => by kernel_rfl) e130 ?_
                                      exact ⟨_, ⟨rfl, rfl⟩, hG⟩
                                    | 38, ho_, him_, hlo_ =>
                                      obtain rfl := Option.some.inj ho_
                                      obtain ⟨e126, eh32⟩ := (ht.done 32 _ rfl rfl).1
                                      obtain ⟨e131, eh37⟩ := (ht.done 37 _ rfl rfl).1
                                      have hG := ht.has.drop
                                      refine GOK.on rfl rfl (Eq.trans e126 (congrArg Value.bool h360)) ?_
                                      refine o_load1 (v := (.int .i64 q305.uses)) Try.underlying3 rfl e131 hG (ht.fr [Hp.one b262 (.cells #[(.bool q305.off), (.bool q305.armed), (.int .i64 q305.left), (.int .i64 q305.uses)] 112 (0, 0))] (by simp)) (CellsAt.one rfl) ?_
                                      exact ⟨_, ⟨rfl, rfl⟩, hG⟩
                                    | i_ + 39, ho_, him_, hlo_ => exact absurd him_ (by omega)
                                  · intro vs364 hs365 w366 hT367 hC_ hH368
                                    have eh0_ := hT367 0 _ (by decide) rfl
                                    have eh1_ := hT367 1 _ (by decide) rfl
                                    have eh2_ := hT367 2 _ (by decide) rfl
                                    have eh3_ := hT367 3 _ (by decide) rfl
                                    have eh4_ := hT367 4 _ (by decide) rfl
                                    have eh5_ := hT367 5 _ (by decide) rfl
                                    have eh6_ := hT367 6 _ (by decide) rfl
                                    have eh7_ := hT367 7 _ (by decide) rfl
                                    have eh8_ := hT367 8 _ (by decide) rfl
                                    have eh9_ := hT367 9 _ (by decide) rfl
                                    have eh10_ := hT367 10 _ (by decide) rfl
                                    have eh11_ := hT367 11 _ (by decide) rfl
                                    have eh12_ := hT367 12 _ (by decide) rfl
                                    have eh13_ := hT367 13 _ (by decide) rfl
                                    have eh14_ := hT367 14 _ (by decide) rfl
                                    have eh15_ := hT367 15 _ (by decide) rfl
                                    have eh16_ := hT367 16 _ (by decide) rfl
                                    have eh17_ := hT367 17 _ (by decide) rfl
                                    have eh18_ := hT367 18 _ (by decide) rfl
                                    have eh19_ := hT367 19 _ (by decide) rfl
                                    have eh20_ := hT367 20 _ (by decide) rfl
                                    have eh21_ := hT367 21 _ (by decide) rfl
                                    have eh22_ := hT367 22 _ (by decide) rfl
                                    obtain ⟨e23_, eh23_⟩ := hT367 23 _ (by decide) rfl
                                    have eh24_ := hT367 24 _ (by decide) rfl
                                    obtain ⟨e25_, eh25_⟩ := hT367 25 _ (by decide) rfl
                                    have eh26_ := hT367 26 _ (by decide) rfl
                                    have eh27_ := hT367 27 _ (by decide) rfl
                                    have eh28_ := hT367 28 _ (by decide) rfl
                                    obtain ⟨e29_, eh29_⟩ := hT367 29 _ (by decide) rfl
                                    obtain ⟨e30_, eh30_⟩ := hT367 30 _ (by decide) rfl
                                    obtain ⟨e31_, eh31_⟩ := hT367 31 _ (by decide) rfl
                                    obtain ⟨e32_, eh32_⟩ := hT367 32 _ (by decide) rfl
                                    obtain ⟨e33_, eh33_⟩ := hT367 33 _ (by decide) rfl
                                    obtain ⟨e34_, eh34_⟩ := hT367 34 _ (by decide) rfl
                                    obtain ⟨e35_, eh35_⟩ := hT367 35 _ (by decide) rfl
                                    obtain ⟨e36_, eh36_⟩ := hT367 36 _ (by decide) rfl
                                    obtain ⟨e37_, eh37_⟩ := hT367 37 _ (by decide) rfl
                                    obtain ⟨e38_, eh38_⟩ := hT367 38 _ (by decide) rfl
                                    have hH369 : Has E w366 ([sg301, [Hp.one b213 (.cells #[(.bool p304.off), (.bool p304.armed), (.int .i64 p304.left), (.int .i64 p304.uses)] 101 (0, 0))], s309, s311, s313, [Hp.one qm251 (.cells #[v308, v310, v312] 189 (0, 0))], [Hp.one b262 (.cells #[(.bool q305.off), (.bool q305.armed), (.int .i64 q305.left), (.int .i64 q305.uses)] 112 (0, 0))], sga, h1a, h2a, h3a, [Hp.one qm241 (.cells #[v1a, v2a, v3a] 189 (0, 0))], R] ++ []) := flow_back (cs := []) hH368 (by show (hs365 0 ++ (hs365 1 ++ (hs365 2 ++ (hs365 3 ++ (hs365 4 ++ (hs365 5 ++ (hs365 6 ++ (hs365 7 ++ (hs365 8 ++ (hs365 9 ++ (hs365 10 ++ (hs365 11 ++ (hs365 12 ++ (hs365 13 ++ (hs365 14 ++ (hs365 15 ++ (hs365 16 ++ (hs365 17 ++ (hs365 18 ++ (hs365 19 ++ (hs365 20 ++ (hs365 21 ++ (hs365 22 ++ (hs365 23 ++ (hs365 24 ++ (hs365 25 ++ (hs365 26 ++ (hs365 27 ++ (hs365 28 ++ (hs365 29 ++ (hs365 30 ++ (hs365 31 ++ (hs365 32 ++ (hs365 33 ++ (hs365 34 ++ (hs365 35 ++ (hs365 36 ++ (hs365 37 ++ (hs365 38 ++ (hs365 39 ++ (hs365 40 ++ []))))))))))))))))))))))))))))))))))))))))) = _; rw [eh0_, eh1_, eh2_, eh3_, eh4_, eh5_, eh6_, eh7_, eh8_, eh9_, eh10_, eh11_, eh12_, eh13_, eh14_, eh15_, eh16_, eh17_, eh18_, eh19_, eh20_, eh21_, eh22_, eh23_, eh24_, eh25_, eh26_, eh27_, eh28_, eh29_, eh30_, eh31_, eh32_, eh33_, eh34_, eh35_, eh36_, eh37_, eh38_, hC_ 39 (by decide) (by decide), hC_ 40 (by decide) (by decide)]; rfl)
                                    generalize hr371 : puts vs364 _ 0 _ = r370
                                    have e372_0 : r370 0 = (.int .i64 a) := by rw [← hr371]; exact e359_0
                                    have e372_1 : r370 1 = (.int .i64 b) := by rw [← hr371]; exact e359_1
                                    have e372_2 : r370 2 = v := by rw [← hr371]; exact e359_2
                                    have e372_7 : r370 7 = (.pointer (some ⟨b213, 0, none⟩)) := by rw [← hr371]; exact e359_7
                                    have e372_8 : r370 8 = (.pointer (some ⟨db219, 0, none⟩)) := by rw [← hr371]; exact e359_8
                                    have e372_9 : r370 9 = (.pointer (some ⟨db226, 0, none⟩)) := by rw [← hr371]; exact e359_9
                                    have e372_10 : r370 10 = (.pointer (some ⟨qm241, 0, none⟩)) := by rw [← hr371]; exact e359_10
                                    have e372_11 : r370 11 = (.pointer (some ⟨qm251, 0, none⟩)) := by rw [← hr371]; exact e359_11
                                    have e372_12 : r370 12 = (.pointer (some ⟨b262, 0, none⟩)) := by rw [← hr371]; exact e359_12
                                    have e372_13 : r370 13 = (.int .i64 (i : Int)) := by rw [← hr371]; exact e359_13
                                    have e372_14 : r370 14 = (.pointer (some ⟨db226, 0, none⟩)) := by rw [← hr371]; exact e359_14
                                    have e372_15 : r370 15 = (.pointer (some ⟨qm251, 0, none⟩)) := by rw [← hr371]; exact e359_15
                                    have e372_37 : r370 37 = (.bool false) := by rw [← hr371]; exact e359_37
                                    have e372_66 : r370 66 = (.bool (!(false == (decide (4096 < b))))) := by rw [← hr371]; exact e359_66
                                    have e372_72 : r370 72 = (.bool false) := by rw [← hr371]; exact e359_72
                                    have e372_82 : r370 82 = (.bool (decide ((i : Int) < ((l.length : Nat) : Int)))) := by rw [← hr371]; exact e359_82
                                    have e372_91 : r370 91 = (.bool x284.other) := by rw [← hr371]; exact e359_91
                                    have e372_126 : r370 126 = (.bool ((!p304.off) == q305.off)) := by rw [← hr371]; exact e32_
                                    have e372_128 : r370 128 = (.int .i64 p304.uses) := by rw [← hr371]; exact e34_
                                    have e372_132 : r370 132 = (.int .i64 q305.uses) := by rw [← hr371]; exact e38_
                                    refine r_on 39 rfl (by kernel_rfl) 126 rfl (Eq.trans e372_126 (congrArg Value.bool h360)) (o_neq (a := p304.uses) (b := q305.uses) e372_128 e372_132 ?_)
                                    refine r_op 40 rfl (by kernel_rfl) (o_pick_f (u := (.bool (decide (p304.uses ≠ q305.uses)))) ((e372_126 : _ = _).trans (congrArg Value.bool h360)) rfl ?_)
                                    refine Rest.done (by kernel_rfl) ?_
                                    refine t_norm (hK287 _ _ ?_)
                                    refine c_cond rfl (fun h373 => ?_) (fun h373 => ?_)
                                    · -- p304.uses ≠ q305.uses
                                      exact absurd hpr317.uses h373
                                    · -- not: p304.uses ≠ q305.uses
                                      refine wp_skip ?_
                                      refine b_norm ?_
                                      refine t_norm (hK277 _ _ ?_)
                                      refine c_region ?_
                                      refine s_op (o_move (v := (.int .i64 (i : Int))) e372_13 ?_)
                                      refine s_op (o_add (a := (i : Int)) (b := 1) rfl rfl (w64 (by omega) (by omega)) ?_)
                                      refine s_op (o_assign (v := (.int .i64 ((i : Int) + 1))) rfl ?_)
                                      refine s_nil ?_
                                      have hH374 : Has E w366 [[Hp.one b213 (.cells #[(.bool p304.off), (.bool p304.armed), (.int .i64 p304.left), (.int .i64 p304.uses)] 101 (0, 0))], [Hp.one b262 (.cells #[(.bool q305.off), (.bool q305.armed), (.int .i64 q305.left), (.int .i64 q305.uses)] 112 (0, 0))], sga, h1a, h2a, h3a, [Hp.one qm241 (.cells #[v1a, v2a, v3a] 189 (0, 0))], sg301, s309, s311, s313, [Hp.one qm251 (.cells #[v308, v310, v312] 189 (0, 0))], R] := Has.pick hH369 [1, 5, 5, 5, 5, 5, 5, 0, 0, 0, 0, 0, 0] (by kernel_rfl)
                                      refine t_norm ⟨l.length - (i + 1), _, rfl, ?_, ?_⟩
                                      · omega
                                      · exact ⟨(i + 1), p304, q305, sga, laa, loa, nwa, lsa, v1a, h1a, v2a, h2a, v3a, h3a, sg301, la302, lo303, nw306, ls307, v308, s309, v310, s311, v312, s313, rfl, hH374, (by omega), (hda), (hla), (hsima), (ho1a), (ho2a), (ho3a), (hd314), ((hl315.trans hlb)), (hsim316), (ho318), (ho319), (ho320), (hpr317), e372_0, e372_1, e372_2, e372_7, e372_8, e372_9, e372_10, e372_11, e372_12, rfl, e372_37, e372_66, e372_72⟩
                      · -- not: x284.other
                        refine wp_skip ?_
                        refine t_norm (hK279 _ _ ?_)
                        refine wp_seq_k fun K375 hK375 => ?_
                        refine Rest.region mixed (by kernel_rfl) ?_
                        have hH376 : Has E { w271 with drawn := w271.drawn + 1 } [[Hp.one b213 (.cells #[(.bool p.off), (.bool p.armed), (.int .i64 p.left), (.int .i64 p.uses)] 101 (0, 0))], [Hp.one b262 (.cells #[(.bool q.off), (.bool q.armed), (.int .i64 q.left), (.int .i64 q.uses)] 112 (0, 0))], sga, h1a, h2a, h3a, [Hp.one qm241 (.cells #[v1a, v2a, v3a] 189 (0, 0))], sgb, h1b, h2b, h3b, [Hp.one qm251 (.cells #[v1b, v2b, v3b] 189 (0, 0))], R] := Has0.drew hH272 _
                        refine Rest.phase [[Hp.one b213 (.cells #[(.bool p.off), (.bool p.armed), (.int .i64 p.left), (.int .i64 p.uses)] 101 (0, 0))], [Hp.one b262 (.cells #[(.bool q.off), (.bool q.armed), (.int .i64 q.left), (.int .i64 q.uses)] 112 (0, 0))], sga, h1a, h2a, h3a, [Hp.one qm241 (.cells #[v1a, v2a, v3a] 189 (0, 0))], sgb, h1b, h2b, h3b, [Hp.one qm251 (.cells #[v1b, v2b, v3b] 189 (0, 0))], R] (fun i_ => match i_ with | _ => []) (fun i_ v_ h_ m_ => match i_ with | 0 => v_ = (.pointer (some ⟨db219, 0, none⟩)) ∧ h_ = [] | 1 => v_ = (.pointer (some ⟨qm241, 0, none⟩)) ∧ h_ = [] | 2 => v_ = (.pointer (some ⟨b262, 0, none⟩)) ∧ h_ = [] | 3 => v_ = v ∧ h_ = [] | 4 => v_ = (.int .i64 (i : Int)) ∧ h_ = [] | 5 => ∃ (b377 : Nat) (o378 : Nat), v_ = (.pointer (some ⟨b377, o378, none⟩)) ∧ h_ = [] ∧ (CellsAt R b377 o378 [(.int .i64 x284.kind), (.int .i64 x284.n), (.bool x284.other), x284.dv, x284.kv]) | 6 => v_ = (.agg #[(.int .i64 x284.kind), (.int .i64 x284.n), (.bool x284.other), x284.dv, x284.kv]) ∧ h_ = [] | _ => True) 0 7 (by decide) (by decide) (by kernel_rfl) (flow_has (cs := []) hH376 rfl) ?_ ?_ ?_
                        · intro i_ o_ hi_ ho_
                          match i_, ho_, hi_ with
                          | i_ + 0, _, hi_ => exact absurd hi_ (by omega)
                        · intro i_ o_ hlo_ him_ ho_ r' w' G hs_ ht
                          match i_, ho_, him_, hlo_ with
                          | 0, ho_, him_, hlo_ =>
                            obtain rfl := Option.some.inj ho_
                            have e14 : r' 14 = (.pointer (some ⟨db219, 0, none⟩)) := ht.was 14 (by kernel_rfl)
                            have hG := ht.has.drop
                            refine GOK.free rfl ?_
                            refine o_move (v := (.pointer (some ⟨db219, 0, none⟩))) e14 ?_
                            exact ⟨_, ⟨rfl, rfl⟩, hG⟩
                          | 1, ho_, him_, hlo_ =>
                            obtain rfl := Option.some.inj ho_
                            have e15 : r' 15 = (.pointer (some ⟨qm241, 0, none⟩)) := ht.was 15 (by kernel_rfl)
                            have hG := ht.has.drop
                            refine GOK.free rfl ?_
                            refine o_move (v := (.pointer (some ⟨qm241, 0, none⟩))) e15 ?_
                            exact ⟨_, ⟨rfl, rfl⟩, hG⟩
                          | 2, ho_, him_, hlo_ =>
                            obtain rfl := Option.some.inj ho_
                            have e12 : r' 12 = (.pointer (some ⟨b262, 0, none⟩)) := (ht.was 12 (by kernel_rfl)).trans e268_12
                            have hG := ht.has.drop
                            refine GOK.free rfl ?_
                            refine o_move (v := (.pointer (some ⟨b262, 0, none⟩))) e12 ?_
                            exact ⟨_, ⟨rfl, rfl⟩, hG⟩
                          | 3, ho_, him_, hlo_ =>
                            obtain rfl := Option.some.inj ho_
                            have e2 : r' 2 = v := (ht.was 2 (by kernel_rfl)).trans e268_2
                            have hG := ht.has.drop
                            refine GOK.free rfl ?_
                            refine o_move (v := v) e2 ?_
                            exact ⟨_, ⟨rfl, rfl⟩, hG⟩
                          | 4, ho_, him_, hlo_ =>
                            obtain rfl := Option.some.inj ho_
                            have e13 : r' 13 = (.int .i64 (i : Int)) := (ht.was 13 (by kernel_rfl)).trans e268_13
                            have hG := ht.has.drop
                            refine GOK.free rfl ?_
                            refine o_move (v := (.int .i64 (i : Int))) e13 ?_
                            exact ⟨_, ⟨rfl, rfl⟩, hG⟩
                          | 5, ho_, him_, hlo_ =>
                            obtain rfl := Option.some.inj ho_
                            obtain ⟨e97, eh3⟩ := (ht.done 3 _ rfl rfl).1
                            obtain ⟨e98, eh4⟩ := (ht.done 4 _ rfl rfl).1
                            have hG := ht.has.drop
                            refine GOK.free rfl ?_
                            refine o_indexF daC_len Try.underlying97 ti104 e97 hv rfl e98 (by omega) hx285 fun b377 o378 hc379 => ?_
                            exact ⟨_, ⟨b377, o378, rfl, rfl, hc379⟩, hG⟩
                          | 6, ho_, him_, hlo_ =>
                            obtain rfl := Option.some.inj ho_
                            obtain ⟨b377, o378, e99, eh5, hc379⟩ := (ht.done 5 _ rfl rfl).1
                            have hG := ht.has.drop
                            refine GOK.free rfl ?_
                            refine o_loadN (cs := [(.int .i64 x284.kind), (.int .i64 x284.n), (.bool x284.other), x284.dv, x284.kv]) Try.underlying104 rfl ti104 e99 hG (ht.fr R (by simp)) hc379 ?_
                            exact ⟨_, ⟨rfl, rfl⟩, hG⟩
                          | i_ + 7, ho_, him_, hlo_ => exact absurd him_ (by omega)
                        · intro vs380 hs381 w382 hT383 hC_ hH384
                          obtain ⟨e0_, eh0_⟩ := hT383 0 _ (by decide) rfl
                          obtain ⟨e1_, eh1_⟩ := hT383 1 _ (by decide) rfl
                          obtain ⟨e2_, eh2_⟩ := hT383 2 _ (by decide) rfl
                          obtain ⟨e3_, eh3_⟩ := hT383 3 _ (by decide) rfl
                          obtain ⟨e4_, eh4_⟩ := hT383 4 _ (by decide) rfl
                          obtain ⟨b377, o378, e5_, eh5_, hc379⟩ := hT383 5 _ (by decide) rfl
                          obtain ⟨e6_, eh6_⟩ := hT383 6 _ (by decide) rfl
                          have hH385 : Has E w382 ([[Hp.one b213 (.cells #[(.bool p.off), (.bool p.armed), (.int .i64 p.left), (.int .i64 p.uses)] 101 (0, 0))], [Hp.one b262 (.cells #[(.bool q.off), (.bool q.armed), (.int .i64 q.left), (.int .i64 q.uses)] 112 (0, 0))], sga, h1a, h2a, h3a, [Hp.one qm241 (.cells #[v1a, v2a, v3a] 189 (0, 0))], sgb, h1b, h2b, h3b, [Hp.one qm251 (.cells #[v1b, v2b, v3b] 189 (0, 0))], R] ++ []) := flow_back (cs := []) hH384 (by show (hs381 0 ++ (hs381 1 ++ (hs381 2 ++ (hs381 3 ++ (hs381 4 ++ (hs381 5 ++ (hs381 6 ++ (hs381 7 ++ (hs381 8 ++ (hs381 9 ++ (hs381 10 ++ (hs381 11 ++ (hs381 12 ++ (hs381 13 ++ (hs381 14 ++ (hs381 15 ++ (hs381 16 ++ (hs381 17 ++ (hs381 18 ++ (hs381 19 ++ (hs381 20 ++ (hs381 21 ++ (hs381 22 ++ (hs381 23 ++ (hs381 24 ++ (hs381 25 ++ (hs381 26 ++ (hs381 27 ++ (hs381 28 ++ (hs381 29 ++ (hs381 30 ++ (hs381 31 ++ (hs381 32 ++ (hs381 33 ++ (hs381 34 ++ (hs381 35 ++ (hs381 36 ++ (hs381 37 ++ (hs381 38 ++ (hs381 39 ++ (hs381 40 ++ []))))))))))))))))))))))))))))))))))))))))) = _; rw [eh0_, eh1_, eh2_, eh3_, eh4_, eh5_, eh6_, hC_ 7 (by decide) (by decide), hC_ 8 (by decide) (by decide), hC_ 9 (by decide) (by decide), hC_ 10 (by decide) (by decide), hC_ 11 (by decide) (by decide), hC_ 12 (by decide) (by decide), hC_ 13 (by decide) (by decide), hC_ 14 (by decide) (by decide), hC_ 15 (by decide) (by decide), hC_ 16 (by decide) (by decide), hC_ 17 (by decide) (by decide), hC_ 18 (by decide) (by decide), hC_ 19 (by decide) (by decide), hC_ 20 (by decide) (by decide), hC_ 21 (by decide) (by decide), hC_ 22 (by decide) (by decide), hC_ 23 (by decide) (by decide), hC_ 24 (by decide) (by decide), hC_ 25 (by decide) (by decide), hC_ 26 (by decide) (by decide), hC_ 27 (by decide) (by decide), hC_ 28 (by decide) (by decide), hC_ 29 (by decide) (by decide), hC_ 30 (by decide) (by decide), hC_ 31 (by decide) (by decide), hC_ 32 (by decide) (by decide), hC_ 33 (by decide) (by decide), hC_ 34 (by decide) (by decide), hC_ 35 (by decide) (by decide), hC_ 36 (by decide) (by decide), hC_ 37 (by decide) (by decide), hC_ 38 (by decide) (by decide), hC_ 39 (by decide) (by decide), hC_ 40 (by decide) (by decide)]; rfl)
                          generalize hr387 : puts vs380 _ 0 _ = r386
                          have e388_0 : r386 0 = (.int .i64 a) := by rw [← hr387]; exact e268_0
                          have e388_1 : r386 1 = (.int .i64 b) := by rw [← hr387]; exact e268_1
                          have e388_2 : r386 2 = v := by rw [← hr387]; exact e268_2
                          have e388_7 : r386 7 = (.pointer (some ⟨b213, 0, none⟩)) := by rw [← hr387]; exact e268_7
                          have e388_8 : r386 8 = (.pointer (some ⟨db219, 0, none⟩)) := by rw [← hr387]; exact e268_8
                          have e388_9 : r386 9 = (.pointer (some ⟨db226, 0, none⟩)) := by rw [← hr387]; exact e268_9
                          have e388_10 : r386 10 = (.pointer (some ⟨qm241, 0, none⟩)) := by rw [← hr387]; exact e268_10
                          have e388_11 : r386 11 = (.pointer (some ⟨qm251, 0, none⟩)) := by rw [← hr387]; exact e268_11
                          have e388_12 : r386 12 = (.pointer (some ⟨b262, 0, none⟩)) := by rw [← hr387]; exact e268_12
                          have e388_13 : r386 13 = (.int .i64 (i : Int)) := by rw [← hr387]; exact e268_13
                          have e388_14 : r386 14 = (.pointer (some ⟨db219, 0, none⟩)) := by rw [← hr387]; exact rfl
                          have e388_15 : r386 15 = (.pointer (some ⟨qm241, 0, none⟩)) := by rw [← hr387]; exact rfl
                          have e388_37 : r386 37 = (.bool false) := by rw [← hr387]; exact e268_37
                          have e388_66 : r386 66 = (.bool (!(false == (decide (4096 < b))))) := by rw [← hr387]; exact e268_66
                          have e388_72 : r386 72 = (.bool false) := by rw [← hr387]; exact e268_72
                          have e388_82 : r386 82 = (.bool (decide ((i : Int) < ((l.length : Nat) : Int)))) := by rw [← hr387]; exact rfl
                          have e388_91 : r386 91 = (.bool x284.other) := by rw [← hr387]; exact rfl
                          have e388_94 : r386 94 = (.pointer (some ⟨db219, 0, none⟩)) := by rw [← hr387]; exact e0_
                          have e388_95 : r386 95 = (.pointer (some ⟨qm241, 0, none⟩)) := by rw [← hr387]; exact e1_
                          have e388_96 : r386 96 = (.pointer (some ⟨b262, 0, none⟩)) := by rw [← hr387]; exact e2_
                          have e388_100 : r386 100 = (.agg #[(.int .i64 x284.kind), (.int .i64 x284.n), (.bool x284.other), x284.dv, x284.kv]) := by rw [← hr387]; exact e6_
                          refine r_op 7 rfl (by kernel_rfl) (o_callf (vs := #[(.pointer (some ⟨db219, 0, none⟩)), (.pointer (some ⟨qm241, 0, none⟩)), (.pointer (some ⟨b262, 0, none⟩)), (.agg #[(.int .i64 x284.kind), (.int .i64 x284.n), (.bool x284.other), x284.dv, x284.kv])]) ca55 rfl (args4 e388_94 e388_95 e388_96 e388_100) (does_c (((((((hH385.front 1 rfl).front 6 rfl).front 6 rfl).front 6 rfl).front 6 rfl).front 5 rfl).front 6 rfl).all7 hda ho1a ho2a ho3a hsima hpr (by omega) (by omega) ((hok x284 (List.mem_of_getElem? hx285)).mono (seg_sub 5 rfl)) (hfine.2 x284 (List.mem_of_getElem? hx285))) ?_)
                          rintro _ w411 ⟨sg389, la390, lo391, p392, q393, nw394, ls395, v396, s397, v398, s399, v400, s401, rfl, hd402, hl403, hsim404, hpr405, ho406, ho407, ho408, hX409⟩
                          refine ⟨_, rfl, ?_⟩
                          have hH410 : Has E w411 [sg389, [Hp.one b213 (.cells #[(.bool p392.off), (.bool p392.armed), (.int .i64 p392.left), (.int .i64 p392.uses)] 101 (0, 0))], s397, s399, s401, [Hp.one qm241 (.cells #[v396, v398, v400] 189 (0, 0))], [Hp.one b262 (.cells #[(.bool q393.off), (.bool q393.armed), (.int .i64 q393.left), (.int .i64 q393.uses)] 112 (0, 0))], sgb, h1b, h2b, h3b, [Hp.one qm251 (.cells #[v1b, v2b, v3b] 189 (0, 0))], R] := hX409.of_all7
                          refine r_op 8 rfl (by kernel_rfl) (o_not rfl ?_)
                          refine r_op 9 rfl (by kernel_rfl) (o_move (v := (.bool false)) rfl ?_)
                          refine Rest.phase [sg389, [Hp.one b213 (.cells #[(.bool p392.off), (.bool p392.armed), (.int .i64 p392.left), (.int .i64 p392.uses)] 101 (0, 0))], s397, s399, s401, [Hp.one qm241 (.cells #[v396, v398, v400] 189 (0, 0))], [Hp.one b262 (.cells #[(.bool q393.off), (.bool q393.armed), (.int .i64 q393.left), (.int .i64 q393.uses)] 112 (0, 0))], sgb, h1b, h2b, h3b, [Hp.one qm251 (.cells #[v1b, v2b, v3b] 189 (0, 0))], R] (fun i_ => match i_ with | _ => []) (fun i_ v_ h_ m_ => match i_ with | 0 => v_ = (.pointer (some ⟨db219, 0, none⟩)) ∧ h_ = [] | 1 => v_ = (.pointer (some ⟨qm241, 0, none⟩)) ∧ h_ = [] | 2 => v_ = (.pointer (some ⟨b262, 0, none⟩)) ∧ h_ = [] | 3 => h_ = [] | 4 => h_ = [] | 5 => h_ = [] | 6 => v_ = (.agg #[(.int .i64 x284.kind), (.int .i64 x284.n), (.bool x284.other), x284.dv, x284.kv]) ∧ h_ = [] | 7 => v_ = (.bool true) ∧ h_ = [] | 8 => v_ = (.bool false) ∧ h_ = [] | 9 => v_ = (.bool false) ∧ h_ = [] | 10 => v_ = (.pointer (some ⟨db219, 0, none⟩)) ∧ h_ = [] | 11 => v_ = (.pointer (some ⟨qm241, 0, none⟩)) ∧ h_ = [] | 12 => v_ = (.pointer (some ⟨b262, 0, none⟩)) ∧ h_ = [] | _ => True) 10 13 (by decide) (by decide) (by kernel_rfl) (flow_has (cs := []) hH410 rfl) ?_ ?_ ?_
                          · intro i_ o_ hi_ ho_
                            match i_, ho_, hi_ with
                            | 0, ho_, _ => obtain rfl := Option.some.inj ho_; exact ⟨e388_94, rfl⟩
                            | 1, ho_, _ => obtain rfl := Option.some.inj ho_; exact ⟨e388_95, rfl⟩
                            | 2, ho_, _ => obtain rfl := Option.some.inj ho_; exact ⟨e388_96, rfl⟩
                            | 3, ho_, _ => obtain rfl := Option.some.inj ho_; exact rfl
                            | 4, ho_, _ => obtain rfl := Option.some.inj ho_; exact rfl
                            | 5, ho_, _ => obtain rfl := Option.some.inj ho_; exact rfl
                            | 6, ho_, _ => obtain rfl := Option.some.inj ho_; exact ⟨e388_100, rfl⟩
                            | 7, ho_, _ => obtain rfl := Option.some.inj ho_; exact ⟨rfl, rfl⟩
                            | 8, ho_, _ => obtain rfl := Option.some.inj ho_; exact ⟨rfl, rfl⟩
                            | 9, ho_, _ => obtain rfl := Option.some.inj ho_; exact ⟨rfl, rfl⟩
                            | i_ + 10, _, hi_ => exact absurd hi_ (by omega)
                          · intro i_ o_ hlo_ him_ ho_ r' w' G hs_ ht
                            match i_, ho_, him_, hlo_ with
                            | 0, ho_, him_, hlo_ => exact absurd hlo_ (by decide)
                            | 1, ho_, him_, hlo_ => exact absurd hlo_ (by decide)
                            | 2, ho_, him_, hlo_ => exact absurd hlo_ (by decide)
                            | 3, ho_, him_, hlo_ => exact absurd hlo_ (by decide)
                            | 4, ho_, him_, hlo_ => exact absurd hlo_ (by decide)
                            | 5, ho_, him_, hlo_ => exact absurd hlo_ (by decide)
                            | 6, ho_, him_, hlo_ => exact absurd hlo_ (by decide)
                            | 7, ho_, him_, hlo_ => exact absurd hlo_ (by decide)
                            | 8, ho_, him_, hlo_ => exact absurd hlo_ (by decide)
                            | 9, ho_, him_, hlo_ => exact absurd hlo_ (by decide)
                            | 10, ho_, him_, hlo_ =>
                              obtain rfl := Option.some.inj ho_
                              obtain ⟨e103, eh9⟩ := (ht.done 9 _ rfl rfl).1
                              have e8 : r' 8 = (.pointer (some ⟨db219, 0, none⟩)) := (ht.was 8 (by kernel_rfl)).trans e388_8
                              have hG := ht.has.drop
                              refine GOK.on rfl rfl e103 ?_
                              refine o_move (v := (.pointer (some ⟨db219, 0, none⟩))) e8 ?_
                              exact ⟨_, ⟨rfl, rfl⟩, hG⟩
                            | 11, ho_, him_, hlo_ =>
                              obtain rfl := Option.some.inj ho_
                              obtain ⟨e103, eh9⟩ := (ht.done 9 _ rfl rfl).1
                              have e10 : r' 10 = (.pointer (some ⟨qm241, 0, none⟩)) := (ht.was 10 (by kernel_rfl)).trans e388_10
                              have hG := ht.has.drop
                              refine GOK.on rfl rfl e103 ?_
                              refine o_move (v := (.pointer (some ⟨qm241, 0, none⟩))) e10 ?_
                              exact ⟨_, ⟨rfl, rfl⟩, hG⟩
                            | 12, ho_, him_, hlo_ =>
                              obtain rfl := Option.some.inj ho_
                              obtain ⟨e103, eh9⟩ := (ht.done 9 _ rfl rfl).1
                              have e12 : r' 12 = (.pointer (some ⟨b262, 0, none⟩)) := (ht.was 12 (by kernel_rfl)).trans e388_12
                              have hG := ht.has.drop
                              refine GOK.on rfl rfl e103 ?_
                              refine o_move (v := (.pointer (some ⟨b262, 0, none⟩))) e12 ?_
                              exact ⟨_, ⟨rfl, rfl⟩, hG⟩
                            | i_ + 13, ho_, him_, hlo_ => exact absurd him_ (by omega)
                          · intro vs412 hs413 w414 hT415 hC_ hH416
                            obtain ⟨e0_, eh0_⟩ := hT415 0 _ (by decide) rfl
                            obtain ⟨e1_, eh1_⟩ := hT415 1 _ (by decide) rfl
                            obtain ⟨e2_, eh2_⟩ := hT415 2 _ (by decide) rfl
                            have eh3_ := hT415 3 _ (by decide) rfl
                            have eh4_ := hT415 4 _ (by decide) rfl
                            have eh5_ := hT415 5 _ (by decide) rfl
                            obtain ⟨e6_, eh6_⟩ := hT415 6 _ (by decide) rfl
                            obtain ⟨e7_, eh7_⟩ := hT415 7 _ (by decide) rfl
                            obtain ⟨e8_, eh8_⟩ := hT415 8 _ (by decide) rfl
                            obtain ⟨e9_, eh9_⟩ := hT415 9 _ (by decide) rfl
                            obtain ⟨e10_, eh10_⟩ := hT415 10 _ (by decide) rfl
                            obtain ⟨e11_, eh11_⟩ := hT415 11 _ (by decide) rfl
                            obtain ⟨e12_, eh12_⟩ := hT415 12 _ (by decide) rfl
                            have hH417 : Has E w414 ([sg389, [Hp.one b213 (.cells #[(.bool p392.off), (.bool p392.armed), (.int .i64 p392.left), (.int .i64 p392.uses)] 101 (0, 0))], s397, s399, s401, [Hp.one qm241 (.cells #[v396, v398, v400] 189 (0, 0))], [Hp.one b262 (.cells #[(.bool q393.off), (.bool q393.armed), (.int .i64 q393.left), (.int .i64 q393.uses)] 112 (0, 0))], sgb, h1b, h2b, h3b, [Hp.one qm251 (.cells #[v1b, v2b, v3b] 189 (0, 0))], R] ++ []) := flow_back (cs := []) hH416 (by show (hs413 0 ++ (hs413 1 ++ (hs413 2 ++ (hs413 3 ++ (hs413 4 ++ (hs413 5 ++ (hs413 6 ++ (hs413 7 ++ (hs413 8 ++ (hs413 9 ++ (hs413 10 ++ (hs413 11 ++ (hs413 12 ++ (hs413 13 ++ (hs413 14 ++ (hs413 15 ++ (hs413 16 ++ (hs413 17 ++ (hs413 18 ++ (hs413 19 ++ (hs413 20 ++ (hs413 21 ++ (hs413 22 ++ (hs413 23 ++ (hs413 24 ++ (hs413 25 ++ (hs413 26 ++ (hs413 27 ++ (hs413 28 ++ (hs413 29 ++ (hs413 30 ++ (hs413 31 ++ (hs413 32 ++ (hs413 33 ++ (hs413 34 ++ (hs413 35 ++ (hs413 36 ++ (hs413 37 ++ (hs413 38 ++ (hs413 39 ++ (hs413 40 ++ []))))))))))))))))))))))))))))))))))))))))) = _; rw [eh0_, eh1_, eh2_, eh3_, eh4_, eh5_, eh6_, eh7_, eh8_, eh9_, eh10_, eh11_, eh12_, hC_ 13 (by decide) (by decide), hC_ 14 (by decide) (by decide), hC_ 15 (by decide) (by decide), hC_ 16 (by decide) (by decide), hC_ 17 (by decide) (by decide), hC_ 18 (by decide) (by decide), hC_ 19 (by decide) (by decide), hC_ 20 (by decide) (by decide), hC_ 21 (by decide) (by decide), hC_ 22 (by decide) (by decide), hC_ 23 (by decide) (by decide), hC_ 24 (by decide) (by decide), hC_ 25 (by decide) (by decide), hC_ 26 (by decide) (by decide), hC_ 27 (by decide) (by decide), hC_ 28 (by decide) (by decide), hC_ 29 (by decide) (by decide), hC_ 30 (by decide) (by decide), hC_ 31 (by decide) (by decide), hC_ 32 (by decide) (by decide), hC_ 33 (by decide) (by decide), hC_ 34 (by decide) (by decide), hC_ 35 (by decide) (by decide), hC_ 36 (by decide) (by decide), hC_ 37 (by decide) (by decide), hC_ 38 (by decide) (by decide), hC_ 39 (by decide) (by decide), hC_ 40 (by decide) (by decide)]; rfl)
                            generalize hr419 : puts vs412 _ 0 _ = r418
                            have e420_0 : r418 0 = (.int .i64 a) := by rw [← hr419]; exact e388_0
                            have e420_1 : r418 1 = (.int .i64 b) := by rw [← hr419]; exact e388_1
                            have e420_2 : r418 2 = v := by rw [← hr419]; exact e388_2
                            have e420_7 : r418 7 = (.pointer (some ⟨b213, 0, none⟩)) := by rw [← hr419]; exact e388_7
                            have e420_8 : r418 8 = (.pointer (some ⟨db219, 0, none⟩)) := by rw [← hr419]; exact e388_8
                            have e420_9 : r418 9 = (.pointer (some ⟨db226, 0, none⟩)) := by rw [← hr419]; exact e388_9
                            have e420_10 : r418 10 = (.pointer (some ⟨qm241, 0, none⟩)) := by rw [← hr419]; exact e388_10
                            have e420_11 : r418 11 = (.pointer (some ⟨qm251, 0, none⟩)) := by rw [← hr419]; exact e388_11
                            have e420_12 : r418 12 = (.pointer (some ⟨b262, 0, none⟩)) := by rw [← hr419]; exact e388_12
                            have e420_13 : r418 13 = (.int .i64 (i : Int)) := by rw [← hr419]; exact e388_13
                            have e420_14 : r418 14 = (.pointer (some ⟨db219, 0, none⟩)) := by rw [← hr419]; exact e388_14
                            have e420_15 : r418 15 = (.pointer (some ⟨qm241, 0, none⟩)) := by rw [← hr419]; exact e388_15
                            have e420_37 : r418 37 = (.bool false) := by rw [← hr419]; exact e388_37
                            have e420_66 : r418 66 = (.bool (!(false == (decide (4096 < b))))) := by rw [← hr419]; exact e388_66
                            have e420_72 : r418 72 = (.bool false) := by rw [← hr419]; exact e388_72
                            have e420_82 : r418 82 = (.bool (decide ((i : Int) < ((l.length : Nat) : Int)))) := by rw [← hr419]; exact e388_82
                            have e420_91 : r418 91 = (.bool x284.other) := by rw [← hr419]; exact e388_91
                            have e420_103 : r418 103 = (.bool false) := by rw [← hr419]; exact e9_
                            have e420_104 : r418 104 = (.pointer (some ⟨db219, 0, none⟩)) := by rw [← hr419]; exact e10_
                            have e420_105 : r418 105 = (.pointer (some ⟨qm241, 0, none⟩)) := by rw [← hr419]; exact e11_
                            have e420_106 : r418 106 = (.pointer (some ⟨b262, 0, none⟩)) := by rw [← hr419]; exact e12_
                            refine r_on 13 rfl (by kernel_rfl) 103 rfl e420_103 (o_callf (vs := #[(.pointer (some ⟨db219, 0, none⟩)), (.pointer (some ⟨qm241, 0, none⟩)), (.pointer (some ⟨b262, 0, none⟩))]) ca56 rfl (args3 e420_104 e420_105 e420_106) (same5_c (((((((hH417.front 6 rfl).front 6 rfl).front 6 rfl).front 6 rfl).front 6 rfl).front 6 rfl).front 6 rfl).all7 hd402 ho406 ho407 ho408 hsim404 hpr405 (by omega) (by omega)) ?_)
                            rintro _ w423 ⟨rfl, hX421⟩
                            refine ⟨_, rfl, ?_⟩
                            have hH422 : Has E w423 [sg389, [Hp.one b213 (.cells #[(.bool p392.off), (.bool p392.armed), (.int .i64 p392.left), (.int .i64 p392.uses)] 101 (0, 0))], s397, s399, s401, [Hp.one qm241 (.cells #[v396, v398, v400] 189 (0, 0))], [Hp.one b262 (.cells #[(.bool q393.off), (.bool q393.armed), (.int .i64 q393.left), (.int .i64 q393.uses)] 112 (0, 0))], sgb, h1b, h2b, h3b, [Hp.one qm251 (.cells #[v1b, v2b, v3b] 189 (0, 0))], R] := hX421.of_all7
                            refine r_on 14 rfl (by kernel_rfl) 103 rfl e420_103 (o_not rfl ?_)
                            refine r_op 15 rfl (by kernel_rfl) (o_pick_f (u := (.bool false)) e420_103 rfl ?_)
                            refine r_op 16 rfl (by kernel_rfl) (o_move (v := (.bool false)) rfl ?_)
                            refine Rest.phase [sg389, [Hp.one b213 (.cells #[(.bool p392.off), (.bool p392.armed), (.int .i64 p392.left), (.int .i64 p392.uses)] 101 (0, 0))], s397, s399, s401, [Hp.one qm241 (.cells #[v396, v398, v400] 189 (0, 0))], [Hp.one b262 (.cells #[(.bool q393.off), (.bool q393.armed), (.int .i64 q393.left), (.int .i64 q393.uses)] 112 (0, 0))], sgb, h1b, h2b, h3b, [Hp.one qm251 (.cells #[v1b, v2b, v3b] 189 (0, 0))], R] (fun i_ => match i_ with | _ => []) (fun i_ v_ h_ m_ => match i_ with | 0 => h_ = [] | 1 => h_ = [] | 2 => h_ = [] | 3 => h_ = [] | 4 => h_ = [] | 5 => h_ = [] | 6 => h_ = [] | 7 => h_ = [] | 8 => h_ = [] | 9 => v_ = (.bool false) ∧ h_ = [] | 10 => v_ = (.pointer (some ⟨db219, 0, none⟩)) ∧ h_ = [] | 11 => v_ = (.pointer (some ⟨qm241, 0, none⟩)) ∧ h_ = [] | 12 => v_ = (.pointer (some ⟨b262, 0, none⟩)) ∧ h_ = [] | 13 => v_ = (.bool true) ∧ h_ = [] | 14 => v_ = (.bool false) ∧ h_ = [] | 15 => v_ = (.bool false) ∧ h_ = [] | 16 => v_ = (.bool false) ∧ h_ = [] | 17 => v_ = (.pointer (some ⟨db226, 0, none⟩)) ∧ h_ = [] | 18 => v_ = (.pointer (some ⟨qm251, 0, none⟩)) ∧ h_ = [] | 19 => v_ = (.pointer (some ⟨b262, 0, none⟩)) ∧ h_ = [] | _ => True) 17 20 (by decide) (by decide) (by kernel_rfl) (flow_has (cs := []) hH422 rfl) ?_ ?_ ?_
                            · intro i_ o_ hi_ ho_
                              match i_, ho_, hi_ with
                              | 0, ho_, _ => obtain rfl := Option.some.inj ho_; exact rfl
                              | 1, ho_, _ => obtain rfl := Option.some.inj ho_; exact rfl
                              | 2, ho_, _ => obtain rfl := Option.some.inj ho_; exact rfl
                              | 3, ho_, _ => obtain rfl := Option.some.inj ho_; exact rfl
                              | 4, ho_, _ => obtain rfl := Option.some.inj ho_; exact rfl
                              | 5, ho_, _ => obtain rfl := Option.some.inj ho_; exact rfl
                              | 6, ho_, _ => obtain rfl := Option.some.inj ho_; exact rfl
                              | 7, ho_, _ => obtain rfl := Option.some.inj ho_; exact rfl
                              | 8, ho_, _ => obtain rfl := Option.some.inj ho_; exact rfl
                              | 9, ho_, _ => obtain rfl := Option.some.inj ho_; exact ⟨e420_103, rfl⟩
                              | 10, ho_, _ => obtain rfl := Option.some.inj ho_; exact ⟨e420_104, rfl⟩
                              | 11, ho_, _ => obtain rfl := Option.some.inj ho_; exact ⟨e420_105, rfl⟩
                              | 12, ho_, _ => obtain rfl := Option.some.inj ho_; exact ⟨e420_106, rfl⟩
                              | 13, ho_, _ => obtain rfl := Option.some.inj ho_; exact ⟨rfl, rfl⟩
                              | 14, ho_, _ => obtain rfl := Option.some.inj ho_; exact ⟨rfl, rfl⟩
                              | 15, ho_, _ => obtain rfl := Option.some.inj ho_; exact ⟨rfl, rfl⟩
                              | 16, ho_, _ => obtain rfl := Option.some.inj ho_; exact ⟨rfl, rfl⟩
                              | i_ + 17, _, hi_ => exact absurd hi_ (by omega)
                            · intro i_ o_ hlo_ him_ ho_ r' w' G hs_ ht
                              match i_, ho_, him_, hlo_ with
                              | 0, ho_, him_, hlo_ => exact absurd hlo_ (by decide)
                              | 1, ho_, him_, hlo_ => exact absurd hlo_ (by decide)
                              | 2, ho_, him_, hlo_ => exact absurd hlo_ (by decide)
                              | 3, ho_, him_, hlo_ => exact absurd hlo_ (by decide)
                              | 4, ho_, him_, hlo_ => exact absurd hlo_ (by decide)
                              | 5, ho_, him_, hlo_ => exact absurd hlo_ (by decide)
                              | 6, ho_, him_, hlo_ => exact absurd hlo_ (by decide)
                              | 7, ho_, him_, hlo_ => exact absurd hlo_ (by decide)
                              | 8, ho_, him_, hlo_ => exact absurd hlo_ (by decide)
                              | 9, ho_, him_, hlo_ => exact absurd hlo_ (by decide)
                              | 10, ho_, him_, hlo_ => exact absurd hlo_ (by decide)
                              | 11, ho_, him_, hlo_ => exact absurd hlo_ (by decide)
                              | 12, ho_, him_, hlo_ => exact absurd hlo_ (by decide)
                              | 13, ho_, him_, hlo_ => exact absurd hlo_ (by decide)
                              | 14, ho_, him_, hlo_ => exact absurd hlo_ (by decide)
                              | 15, ho_, him_, hlo_ => exact absurd hlo_ (by decide)
                              | 16, ho_, him_, hlo_ => exact absurd hlo_ (by decide)
                              | 17, ho_, him_, hlo_ =>
                                obtain rfl := Option.some.inj ho_
                                obtain ⟨e110, eh16⟩ := (ht.done 16 _ rfl rfl).1
                                have e9 : r' 9 = (.pointer (some ⟨db226, 0, none⟩)) := (ht.was 9 (by kernel_rfl)).trans e420_9
                                have hG := ht.has.drop
                                refine GOK.on rfl rfl e110 ?_
                                refine o_move (v := (.pointer (some ⟨db226, 0, none⟩))) e9 ?_
                                exact ⟨_, ⟨rfl, rfl⟩, hG⟩
                              | 18, ho_, him_, hlo_ =>
                                obtain rfl := Option.some.inj ho_
                                obtain ⟨e110, eh16⟩ := (ht.done 16 _ rfl rfl).1
                                have e11 : r' 11 = (.pointer (some ⟨qm251, 0, none⟩)) := (ht.was 11 (by kernel_rfl)).trans e420_11
                                have hG := ht.has.drop
                                refine GOK.on rfl rfl e110 ?_
                                refine o_move (v := (.pointer (some ⟨qm251, 0, none⟩))) e11 ?_
                                exact ⟨_, ⟨rfl, rfl⟩, hG⟩
                              | 19, ho_, him_, hlo_ =>
                                obtain rfl := Option.some.inj ho_
                                obtain ⟨e110, eh16⟩ := (ht.done 16 _ rfl rfl).1
                                have e12 : r' 12 = (.pointer (some ⟨b262, 0, none⟩)) := (ht.was 12 (by kernel_rfl)).trans e420_12
                                have hG := ht.has.drop
                                refine GOK.on rfl rfl e110 ?_
                                refine o_move (v := (.pointer (some ⟨b262, 0, none⟩))) e12 ?_
                                exact ⟨_, ⟨rfl, rfl⟩, hG⟩
                              | i_ + 20, ho_, him_, hlo_ => exact absurd him_ (by omega)
                            · intro vs424 hs425 w426 hT427 hC_ hH428
                              have eh0_ := hT427 0 _ (by decide) rfl
                              have eh1_ := hT427 1 _ (by decide) rfl
                              have eh2_ := hT427 2 _ (by decide) rfl
                              have eh3_ := hT427 3 _ (by decide) rfl
                              have eh4_ := hT427 4 _ (by decide) rfl
                              have eh5_ := hT427 5 _ (by decide) rfl
                              have eh6_ := hT427 6 _ (by decide) rfl
                              have eh7_ := hT427 7 _ (by decide) rfl
                              have eh8_ := hT427 8 _ (by decide) rfl
                              obtain ⟨e9_, eh9_⟩ := hT427 9 _ (by decide) rfl
                              obtain ⟨e10_, eh10_⟩ := hT427 10 _ (by decide) rfl
                              obtain ⟨e11_, eh11_⟩ := hT427 11 _ (by decide) rfl
                              obtain ⟨e12_, eh12_⟩ := hT427 12 _ (by decide) rfl
                              obtain ⟨e13_, eh13_⟩ := hT427 13 _ (by decide) rfl
                              obtain ⟨e14_, eh14_⟩ := hT427 14 _ (by decide) rfl
                              obtain ⟨e15_, eh15_⟩ := hT427 15 _ (by decide) rfl
                              obtain ⟨e16_, eh16_⟩ := hT427 16 _ (by decide) rfl
                              obtain ⟨e17_, eh17_⟩ := hT427 17 _ (by decide) rfl
                              obtain ⟨e18_, eh18_⟩ := hT427 18 _ (by decide) rfl
                              obtain ⟨e19_, eh19_⟩ := hT427 19 _ (by decide) rfl
                              have hH429 : Has E w426 ([sg389, [Hp.one b213 (.cells #[(.bool p392.off), (.bool p392.armed), (.int .i64 p392.left), (.int .i64 p392.uses)] 101 (0, 0))], s397, s399, s401, [Hp.one qm241 (.cells #[v396, v398, v400] 189 (0, 0))], [Hp.one b262 (.cells #[(.bool q393.off), (.bool q393.armed), (.int .i64 q393.left), (.int .i64 q393.uses)] 112 (0, 0))], sgb, h1b, h2b, h3b, [Hp.one qm251 (.cells #[v1b, v2b, v3b] 189 (0, 0))], R] ++ []) := flow_back (cs := []) hH428 (by show (hs425 0 ++ (hs425 1 ++ (hs425 2 ++ (hs425 3 ++ (hs425 4 ++ (hs425 5 ++ (hs425 6 ++ (hs425 7 ++ (hs425 8 ++ (hs425 9 ++ (hs425 10 ++ (hs425 11 ++ (hs425 12 ++ (hs425 13 ++ (hs425 14 ++ (hs425 15 ++ (hs425 16 ++ (hs425 17 ++ (hs425 18 ++ (hs425 19 ++ (hs425 20 ++ (hs425 21 ++ (hs425 22 ++ (hs425 23 ++ (hs425 24 ++ (hs425 25 ++ (hs425 26 ++ (hs425 27 ++ (hs425 28 ++ (hs425 29 ++ (hs425 30 ++ (hs425 31 ++ (hs425 32 ++ (hs425 33 ++ (hs425 34 ++ (hs425 35 ++ (hs425 36 ++ (hs425 37 ++ (hs425 38 ++ (hs425 39 ++ (hs425 40 ++ []))))))))))))))))))))))))))))))))))))))))) = _; rw [eh0_, eh1_, eh2_, eh3_, eh4_, eh5_, eh6_, eh7_, eh8_, eh9_, eh10_, eh11_, eh12_, eh13_, eh14_, eh15_, eh16_, eh17_, eh18_, eh19_, hC_ 20 (by decide) (by decide), hC_ 21 (by decide) (by decide), hC_ 22 (by decide) (by decide), hC_ 23 (by decide) (by decide), hC_ 24 (by decide) (by decide), hC_ 25 (by decide) (by decide), hC_ 26 (by decide) (by decide), hC_ 27 (by decide) (by decide), hC_ 28 (by decide) (by decide), hC_ 29 (by decide) (by decide), hC_ 30 (by decide) (by decide), hC_ 31 (by decide) (by decide), hC_ 32 (by decide) (by decide), hC_ 33 (by decide) (by decide), hC_ 34 (by decide) (by decide), hC_ 35 (by decide) (by decide), hC_ 36 (by decide) (by decide), hC_ 37 (by decide) (by decide), hC_ 38 (by decide) (by decide), hC_ 39 (by decide) (by decide), hC_ 40 (by decide) (by decide)]; rfl)
                              generalize hr431 : puts vs424 _ 0 _ = r430
                              have e432_0 : r430 0 = (.int .i64 a) := by rw [← hr431]; exact e420_0
                              have e432_1 : r430 1 = (.int .i64 b) := by rw [← hr431]; exact e420_1
                              have e432_2 : r430 2 = v := by rw [← hr431]; exact e420_2
                              have e432_7 : r430 7 = (.pointer (some ⟨b213, 0, none⟩)) := by rw [← hr431]; exact e420_7
                              have e432_8 : r430 8 = (.pointer (some ⟨db219, 0, none⟩)) := by rw [← hr431]; exact e420_8
                              have e432_9 : r430 9 = (.pointer (some ⟨db226, 0, none⟩)) := by rw [← hr431]; exact e420_9
                              have e432_10 : r430 10 = (.pointer (some ⟨qm241, 0, none⟩)) := by rw [← hr431]; exact e420_10
                              have e432_11 : r430 11 = (.pointer (some ⟨qm251, 0, none⟩)) := by rw [← hr431]; exact e420_11
                              have e432_12 : r430 12 = (.pointer (some ⟨b262, 0, none⟩)) := by rw [← hr431]; exact e420_12
                              have e432_13 : r430 13 = (.int .i64 (i : Int)) := by rw [← hr431]; exact e420_13
                              have e432_14 : r430 14 = (.pointer (some ⟨db219, 0, none⟩)) := by rw [← hr431]; exact e420_14
                              have e432_15 : r430 15 = (.pointer (some ⟨qm241, 0, none⟩)) := by rw [← hr431]; exact e420_15
                              have e432_37 : r430 37 = (.bool false) := by rw [← hr431]; exact e420_37
                              have e432_66 : r430 66 = (.bool (!(false == (decide (4096 < b))))) := by rw [← hr431]; exact e420_66
                              have e432_72 : r430 72 = (.bool false) := by rw [← hr431]; exact e420_72
                              have e432_82 : r430 82 = (.bool (decide ((i : Int) < ((l.length : Nat) : Int)))) := by rw [← hr431]; exact e420_82
                              have e432_91 : r430 91 = (.bool x284.other) := by rw [← hr431]; exact e420_91
                              have e432_110 : r430 110 = (.bool false) := by rw [← hr431]; exact e16_
                              have e432_111 : r430 111 = (.pointer (some ⟨db226, 0, none⟩)) := by rw [← hr431]; exact e17_
                              have e432_112 : r430 112 = (.pointer (some ⟨qm251, 0, none⟩)) := by rw [← hr431]; exact e18_
                              have e432_113 : r430 113 = (.pointer (some ⟨b262, 0, none⟩)) := by rw [← hr431]; exact e19_
                              refine r_on 20 rfl (by kernel_rfl) 110 rfl e432_110 (o_callf (vs := #[(.pointer (some ⟨db226, 0, none⟩)), (.pointer (some ⟨qm251, 0, none⟩)), (.pointer (some ⟨b262, 0, none⟩))]) ca56 rfl (args3 e432_111 e432_112 e432_113) (same5_c (((((((hH429.front 6 rfl).front 11 rfl).front 11 rfl).front 11 rfl).front 11 rfl).front 6 rfl).front 11 rfl).all7 hdb ho1b ho2b ho3b hsimb hpr405 (by omega) (by omega)) ?_)
                              rintro _ w435 ⟨rfl, hX433⟩
                              refine ⟨_, rfl, ?_⟩
                              have hH434 : Has E w435 [sgb, [Hp.one b213 (.cells #[(.bool p392.off), (.bool p392.armed), (.int .i64 p392.left), (.int .i64 p392.uses)] 101 (0, 0))], h1b, h2b, h3b, [Hp.one qm251 (.cells #[v1b, v2b, v3b] 189 (0, 0))], [Hp.one b262 (.cells #[(.bool q393.off), (.bool q393.armed), (.int .i64 q393.left), (.int .i64 q393.uses)] 112 (0, 0))], sg389, s397, s399, s401, [Hp.one qm241 (.cells #[v396, v398, v400] 189 (0, 0))], R] := hX433.of_all7
                              refine r_on 21 rfl (by kernel_rfl) 110 rfl e432_110 (o_not rfl ?_)
                              refine r_op 22 rfl (by kernel_rfl) (o_pick_f (u := (.bool false)) e432_110 rfl ?_)
                              refine r_op 23 rfl (by kernel_rfl) (o_move (v := (.bool false)) rfl ?_)
                              refine Rest.phase [sgb, [Hp.one b213 (.cells #[(.bool p392.off), (.bool p392.armed), (.int .i64 p392.left), (.int .i64 p392.uses)] 101 (0, 0))], h1b, h2b, h3b, [Hp.one qm251 (.cells #[v1b, v2b, v3b] 189 (0, 0))], [Hp.one b262 (.cells #[(.bool q393.off), (.bool q393.armed), (.int .i64 q393.left), (.int .i64 q393.uses)] 112 (0, 0))], sg389, s397, s399, s401, [Hp.one qm241 (.cells #[v396, v398, v400] 189 (0, 0))], R] (fun i_ => match i_ with | _ => []) (fun i_ v_ h_ m_ => match i_ with | 0 => h_ = [] | 1 => h_ = [] | 2 => h_ = [] | 3 => h_ = [] | 4 => h_ = [] | 5 => h_ = [] | 6 => h_ = [] | 7 => h_ = [] | 8 => h_ = [] | 9 => h_ = [] | 10 => h_ = [] | 11 => h_ = [] | 12 => h_ = [] | 13 => h_ = [] | 14 => h_ = [] | 15 => h_ = [] | 16 => v_ = (.bool false) ∧ h_ = [] | 17 => v_ = (.pointer (some ⟨db226, 0, none⟩)) ∧ h_ = [] | 18 => v_ = (.pointer (some ⟨qm251, 0, none⟩)) ∧ h_ = [] | 19 => v_ = (.pointer (some ⟨b262, 0, none⟩)) ∧ h_ = [] | 20 => v_ = (.bool true) ∧ h_ = [] | 21 => v_ = (.bool false) ∧ h_ = [] | 22 => v_ = (.bool false) ∧ h_ = [] | 23 => v_ = (.bool false) ∧ h_ = [] | 24 => v_ = (.pointer (some ⟨b213, 0, none⟩)) ∧ h_ = [] | 25 => v_ = (.bool (!p392.off)) ∧ h_ = [] | 26 => v_ = (.pointer (some ⟨b262, 0, none⟩)) ∧ h_ = [] | 27 => v_ = (.pointer (some ⟨b262, 0, none⟩)) ∧ h_ = [] | 28 => v_ = (.pointer (some ⟨b262, 0, none⟩)) ∧ h_ = [] | 29 => v_ = (.bool q393.off) ∧ h_ = [] | _ => True) 24 30 (by decide) (by decide) (by kernel_rfl) (flow_has (cs := []) hH434 rfl) ?_ ?_ ?_
                              · intro i_ o_ hi_ ho_
                                match i_, ho_, hi_ with
                                | 0, ho_, _ => obtain rfl := Option.some.inj ho_; exact rfl
                                | 1, ho_, _ => obtain rfl := Option.some.inj ho_; exact rfl
                                | 2, ho_, _ => obtain rfl := Option.some.inj ho_; exact rfl
                                | 3, ho_, _ => obtain rfl := Option.some.inj ho_; exact rfl
                                | 4, ho_, _ => obtain rfl := Option.some.inj ho_; exact rfl
                                | 5, ho_, _ => obtain rfl := Option.some.inj ho_; exact rfl
                                | 6, ho_, _ => obtain rfl := Option.some.inj ho_; exact rfl
                                | 7, ho_, _ => obtain rfl := Option.some.inj ho_; exact rfl
                                | 8, ho_, _ => obtain rfl := Option.some.inj ho_; exact rfl
                                | 9, ho_, _ => obtain rfl := Option.some.inj ho_; exact rfl
                                | 10, ho_, _ => obtain rfl := Option.some.inj ho_; exact rfl
                                | 11, ho_, _ => obtain rfl := Option.some.inj ho_; exact rfl
                                | 12, ho_, _ => obtain rfl := Option.some.inj ho_; exact rfl
                                | 13, ho_, _ => obtain rfl := Option.some.inj ho_; exact rfl
                                | 14, ho_, _ => obtain rfl := Option.some.inj ho_; exact rfl
                                | 15, ho_, _ => obtain rfl := Option.some.inj ho_; exact rfl
                                | 16, ho_, _ => obtain rfl := Option.some.inj ho_; exact ⟨e432_110, rfl⟩
                                | 17, ho_, _ => obtain rfl := Option.some.inj ho_; exact ⟨e432_111, rfl⟩
                                | 18, ho_, _ => obtain rfl := Option.some.inj ho_; exact ⟨e432_112, rfl⟩
                                | 19, ho_, _ => obtain rfl := Option.some.inj ho_; exact ⟨e432_113, rfl⟩
                                | 20, ho_, _ => obtain rfl := Option.some.inj ho_; exact ⟨rfl, rfl⟩
                                | 21, ho_, _ => obtain rfl := Option.some.inj ho_; exact ⟨rfl, rfl⟩
                                | 22, ho_, _ => obtain rfl := Option.some.inj ho_; exact ⟨rfl, rfl⟩
                                | 23, ho_, _ => obtain rfl := Option.some.inj ho_; exact ⟨rfl, rfl⟩
                                | i_ + 24, _, hi_ => exact absurd hi_ (by omega)
                              · intro i_ o_ hlo_ him_ ho_ r' w' G hs_ ht
                                match i_, ho_, him_, hlo_ with
                                | 0, ho_, him_, hlo_ => exact absurd hlo_ (by decide)
                                | 1, ho_, him_, hlo_ => exact absurd hlo_ (by decide)
                                | 2, ho_, him_, hlo_ => exact absurd hlo_ (by decide)
                                | 3, ho_, him_, hlo_ => exact absurd hlo_ (by decide)
                                | 4, ho_, him_, hlo_ => exact absurd hlo_ (by decide)
                                | 5, ho_, him_, hlo_ => exact absurd hlo_ (by decide)
                                | 6, ho_, him_, hlo_ => exact absurd hlo_ (by decide)
                                | 7, ho_, him_, hlo_ => exact absurd hlo_ (by decide)
                                | 8, ho_, him_, hlo_ => exact absurd hlo_ (by decide)
                                | 9, ho_, him_, hlo_ => exact absurd hlo_ (by decide)
                                | 10, ho_, him_, hlo_ => exact absurd hlo_ (by decide)
                                | 11, ho_, him_, hlo_ => exact absurd hlo_ (by decide)
                                | 12, ho_, him_, hlo_ => exact absurd hlo_ (by decide)
                                | 13, ho_, him_, hlo_ => exact absurd hlo_ (by decide)
                                | 14, ho_, him_, hlo_ => exact absurd hlo_ (by decide)
                                | 15, ho_, him_, hlo_ => exact absurd hlo_ (by decide)
                                | 16, ho_, him_, hlo_ => exact absurd hlo_ (by decide)
                                | 17, ho_, him_, hlo_ => exact absurd hlo_ (by decide)
                                | 18, ho_, him_, hlo_ => exact absurd hlo_ (by decide)
                                | 19, ho_, him_, hlo_ => exact absurd hlo_ (by decide)
                                | 20, ho_, him_, hlo_ => exact absurd hlo_ (by decide)
                                | 21, ho_, him_, hlo_ => exact absurd hlo_ (by decide)
                                | 22, ho_, him_, hlo_ => exact absurd hlo_ (by decide)
                                | 23, ho_, him_, hlo_ => exact absurd hlo_ (by decide)
                                | 24, ho_, him_, hlo_ =>
                                  obtain rfl := Option.some.inj ho_
                                  obtain ⟨e117, eh23⟩ := (ht.done 23 _ rfl rfl).1
                                  have e7 : r' 7 = (.pointer (some ⟨b213, 0, none⟩)) := (ht.was 7 (by kernel_rfl)).trans e432_7
                                  have hG := ht.has.drop
                                  refine GOK.on rfl rfl e117 ?_
                                  refine o_move (v := (.pointer (some ⟨b213, 0, none⟩))) e7 ?_
                                  exact ⟨_, ⟨rfl, rfl⟩, hG⟩
                                | 25, ho_, him_, hlo_ =>
                                  obtain rfl := Option.some.inj ho_
                                  obtain ⟨e117, eh23⟩ := (ht.done 23 _ rfl rfl).1
                                  obtain ⟨e118, eh24⟩ := (ht.done 24 _ rfl rfl).1
                                  have hG := ht.has.drop
                                  refine GOK.on rfl rfl e117 ?_
                                  refine o_callf (vs := #[(.pointer (some ⟨b213, 0, none⟩))]) ca57 rfl (args1 e118) (pon_r (p := p392) hG.all (ht.fr [Hp.one b213 (.cells #[(.bool p392.off), (.bool p392.armed), (.int .i64 p392.left), (.int .i64 p392.uses)] 101 (0, 0))] (by simp))) ?_
                                  rintro _ w438 ⟨rfl, hX436⟩
                                  refine ⟨_, rfl, ?_⟩
                                  have hH437 := hX436.of_all
                                  exact ⟨_, ⟨rfl, rfl⟩, hH437⟩
                                | 26, ho_, him_, hlo_ =>
                                  obtain rfl := Option.some.inj ho_
                                  obtain ⟨e117, eh23⟩ := (ht.done 23 _ rfl rfl).1
                                  have e12 : r' 12 = (.pointer (some ⟨b262, 0, none⟩)) := (ht.was 12 (by kernel_rfl)).trans e432_12
                                  have hG := ht.has.drop
                                  refine GOK.on rfl rfl e117 ?_
                                  refine o_move (v := (.pointer (some ⟨b262, 0, none⟩))) e12 ?_
                                  exact ⟨_, ⟨rfl, rfl⟩, hG⟩
                                | 27, ho_, him_, hlo_ =>
                                  obtain rfl := Option.some.inj ho_
                                  obtain ⟨e117, eh23⟩ := (ht.done 23 _ rfl rfl).1
                                  obtain ⟨e120, eh26⟩ := (ht.done 26 _ rfl rfl).1
                                  have hG := ht.has.drop
                                  refine GOK.on rfl rfl e117 ?_
                                  refine o_nilCheck e120 ?_
                                  exact ⟨_, ⟨rfl, rfl⟩, hG⟩
                                | 28, ho_, him_, hlo_ =>
                                  obtain rfl := Option.some.inj ho_
                                  obtain ⟨e117, eh23⟩ := (ht.done 23 _ rfl rfl).1
                                  obtain ⟨e121, eh27⟩ := (ht.done 27 _ rfl rfl).1
                                  have hG := ht.has.drop
                                  refine GOK.on rfl rfl e117 ?_
                                  refine o_fieldAddr (k := 0) (fun _ => by kernel_rfl) e121 ?_
                                  exact ⟨_, ⟨rfl, rfl⟩, hG⟩
                                | 29, ho_, him_, hlo_ =>
                                  obtain rfl := Option.some.inj ho_
                                  obtain ⟨e117, eh23⟩ := (ht.done 23 _ rfl rfl).1
                                  obtain ⟨e122, eh28⟩ := (ht.done 28 _ rfl rfl).1
                                  have hG := ht.has.drop
                                  refine GOK.on rfl rfl e117 ?_
                                  refine o_load1 (v := (.bool q393.off)) Try.underlying4 rfl e122 hG (ht.fr [Hp.one b262 (.cells #[(.bool q393.off), (.bool q393.armed), (.int .i64 q393.left), (.int .i64 q393.uses)] 112 (0, 0))] (by simp)) (CellsAt.one rfl) ?_
                                  exact ⟨_, ⟨rfl, rfl⟩, hG⟩
                                | i_ + 30, ho_, him_, hlo_ => exact absurd him_ (by omega)
                              · intro vs439 hs440 w441 hT442 hC_ hH443
                                have eh0_ := hT442 0 _ (by decide) rfl
                                have eh1_ := hT442 1 _ (by decide) rfl
                                have eh2_ := hT442 2 _ (by decide) rfl
                                have eh3_ := hT442 3 _ (by decide) rfl
                                have eh4_ := hT442 4 _ (by decide) rfl
                                have eh5_ := hT442 5 _ (by decide) rfl
                                have eh6_ := hT442 6 _ (by decide) rfl
                                have eh7_ := hT442 7 _ (by decide) rfl
                                have eh8_ := hT442 8 _ (by decide) rfl
                                have eh9_ := hT442 9 _ (by decide) rfl
                                have eh10_ := hT442 10 _ (by decide) rfl
                                have eh11_ := hT442 11 _ (by decide) rfl
                                have eh12_ := hT442 12 _ (by decide) rfl
                                have eh13_ := hT442 13 _ (by decide) rfl
                                have eh14_ := hT442 14 _ (by decide) rfl
                                have eh15_ := hT442 15 _ (by decide) rfl
                                obtain ⟨e16_, eh16_⟩ := hT442 16 _ (by decide) rfl
                                obtain ⟨e17_, eh17_⟩ := hT442 17 _ (by decide) rfl
                                obtain ⟨e18_, eh18_⟩ := hT442 18 _ (by decide) rfl
                                obtain ⟨e19_, eh19_⟩ := hT442 19 _ (by decide) rfl
                                obtain ⟨e20_, eh20_⟩ := hT442 20 _ (by decide) rfl
                                obtain ⟨e21_, eh21_⟩ := hT442 21 _ (by decide) rfl
                                obtain ⟨e22_, eh22_⟩ := hT442 22 _ (by decide) rfl
                                obtain ⟨e23_, eh23_⟩ := hT442 23 _ (by decide) rfl
                                obtain ⟨e24_, eh24_⟩ := hT442 24 _ (by decide) rfl
                                obtain ⟨e25_, eh25_⟩ := hT442 25 _ (by decide) rfl
                                obtain ⟨e26_, eh26_⟩ := hT442 26 _ (by decide) rfl
                                obtain ⟨e27_, eh27_⟩ := hT442 27 _ (by decide) rfl
                                obtain ⟨e28_, eh28_⟩ := hT442 28 _ (by decide) rfl
                                obtain ⟨e29_, eh29_⟩ := hT442 29 _ (by decide) rfl
                                have hH444 : Has E w441 ([sgb, [Hp.one b213 (.cells #[(.bool p392.off), (.bool p392.armed), (.int .i64 p392.left), (.int .i64 p392.uses)] 101 (0, 0))], h1b, h2b, h3b, [Hp.one qm251 (.cells #[v1b, v2b, v3b] 189 (0, 0))], [Hp.one b262 (.cells #[(.bool q393.off), (.bool q393.armed), (.int .i64 q393.left), (.int .i64 q393.uses)] 112 (0, 0))], sg389, s397, s399, s401, [Hp.one qm241 (.cells #[v396, v398, v400] 189 (0, 0))], R] ++ []) := flow_back (cs := []) hH443 (by show (hs440 0 ++ (hs440 1 ++ (hs440 2 ++ (hs440 3 ++ (hs440 4 ++ (hs440 5 ++ (hs440 6 ++ (hs440 7 ++ (hs440 8 ++ (hs440 9 ++ (hs440 10 ++ (hs440 11 ++ (hs440 12 ++ (hs440 13 ++ (hs440 14 ++ (hs440 15 ++ (hs440 16 ++ (hs440 17 ++ (hs440 18 ++ (hs440 19 ++ (hs440 20 ++ (hs440 21 ++ (hs440 22 ++ (hs440 23 ++ (hs440 24 ++ (hs440 25 ++ (hs440 26 ++ (hs440 27 ++ (hs440 28 ++ (hs440 29 ++ (hs440 30 ++ (hs440 31 ++ (hs440 32 ++ (hs440 33 ++ (hs440 34 ++ (hs440 35 ++ (hs440 36 ++ (hs440 37 ++ (hs440 38 ++ (hs440 39 ++ (hs440 40 ++ []))))))))))))))))))))))))))))))))))))))))) = _; rw [eh0_, eh1_, eh2_, eh3_, eh4_, eh5_, eh6_, eh7_, eh8_, eh9_, eh10_, eh11_, eh12_, eh13_, eh14_, eh15_, eh16_, eh17_, eh18_, eh19_, eh20_, eh21_, eh22_, eh23_, eh24_, eh25_, eh26_, eh27_, eh28_, eh29_, hC_ 30 (by decide) (by decide), hC_ 31 (by decide) (by decide), hC_ 32 (by decide) (by decide), hC_ 33 (by decide) (by decide), hC_ 34 (by decide) (by decide), hC_ 35 (by decide) (by decide), hC_ 36 (by decide) (by decide), hC_ 37 (by decide) (by decide), hC_ 38 (by decide) (by decide), hC_ 39 (by decide) (by decide), hC_ 40 (by decide) (by decide)]; rfl)
                                generalize hr446 : puts vs439 _ 0 _ = r445
                                have e447_0 : r445 0 = (.int .i64 a) := by rw [← hr446]; exact e432_0
                                have e447_1 : r445 1 = (.int .i64 b) := by rw [← hr446]; exact e432_1
                                have e447_2 : r445 2 = v := by rw [← hr446]; exact e432_2
                                have e447_7 : r445 7 = (.pointer (some ⟨b213, 0, none⟩)) := by rw [← hr446]; exact e432_7
                                have e447_8 : r445 8 = (.pointer (some ⟨db219, 0, none⟩)) := by rw [← hr446]; exact e432_8
                                have e447_9 : r445 9 = (.pointer (some ⟨db226, 0, none⟩)) := by rw [← hr446]; exact e432_9
                                have e447_10 : r445 10 = (.pointer (some ⟨qm241, 0, none⟩)) := by rw [← hr446]; exact e432_10
                                have e447_11 : r445 11 = (.pointer (some ⟨qm251, 0, none⟩)) := by rw [← hr446]; exact e432_11
                                have e447_12 : r445 12 = (.pointer (some ⟨b262, 0, none⟩)) := by rw [← hr446]; exact e432_12
                                have e447_13 : r445 13 = (.int .i64 (i : Int)) := by rw [← hr446]; exact e432_13
                                have e447_14 : r445 14 = (.pointer (some ⟨db219, 0, none⟩)) := by rw [← hr446]; exact e432_14
                                have e447_15 : r445 15 = (.pointer (some ⟨qm241, 0, none⟩)) := by rw [← hr446]; exact e432_15
                                have e447_37 : r445 37 = (.bool false) := by rw [← hr446]; exact e432_37
                                have e447_66 : r445 66 = (.bool (!(false == (decide (4096 < b))))) := by rw [← hr446]; exact e432_66
                                have e447_72 : r445 72 = (.bool false) := by rw [← hr446]; exact e432_72
                                have e447_82 : r445 82 = (.bool (decide ((i : Int) < ((l.length : Nat) : Int)))) := by rw [← hr446]; exact e432_82
                                have e447_91 : r445 91 = (.bool x284.other) := by rw [← hr446]; exact e432_91
                                have e447_117 : r445 117 = (.bool false) := by rw [← hr446]; exact e23_
                                have e447_119 : r445 119 = (.bool (!p392.off)) := by rw [← hr446]; exact e25_
                                have e447_123 : r445 123 = (.bool q393.off) := by rw [← hr446]; exact e29_
                                refine r_on 30 rfl (by kernel_rfl) 117 rfl e447_117 (o_eqlb Try.underlying4 e447_119 e447_123 ?_)
                                refine r_op 31 rfl (by kernel_rfl) (o_pick_f (u := (.bool ((!p392.off) == q393.off))) e447_117 rfl ?_)
                                refine r_op 32 rfl (by kernel_rfl) (o_move (v := (.bool ((!p392.off) == q393.off))) rfl ?_)
                                rcases Bool.eq_false_or_eq_true ((!p392.off) == q393.off) with h448 | h448
                                · -- (!p392.off) == q393.off
                                  exact absurd h448 (by rw [hpr405.off]; cases Pw.off _ <;> decide)
                                · -- not: (!p392.off) == q393.off
                                  refine Rest.phase [sgb, [Hp.one b213 (.cells #[(.bool p392.off), (.bool p392.armed), (.int .i64 p392.left), (.int .i64 p392.uses)] 101 (0, 0))], h1b, h2b, h3b, [Hp.one qm251 (.cells #[v1b, v2b, v3b] 189 (0, 0))], [Hp.one b262 (.cells #[(.bool q393.off), (.bool q393.armed), (.int .i64 q393.left), (.int .i64 q393.uses)] 112 (0, 0))], sg389, s397, s399, s401, [Hp.one qm241 (.cells #[v396, v398, v400] 189 (0, 0))], R] (fun i_ => match i_ with | _ => []) (fun i_ v_ h_ m_ => match i_ with | 0 => h_ = [] | 1 => h_ = [] | 2 => h_ = [] | 3 => h_ = [] | 4 => h_ = [] | 5 => h_ = [] | 6 => h_ = [] | 7 => h_ = [] | 8 => h_ = [] | 9 => h_ = [] | 10 => h_ = [] | 11 => h_ = [] | 12 => h_ = [] | 13 => h_ = [] | 14 => h_ = [] | 15 => h_ = [] | 16 => h_ = [] | 17 => h_ = [] | 18 => h_ = [] | 19 => h_ = [] | 20 => h_ = [] | 21 => h_ = [] | 22 => h_ = [] | 23 => v_ = (.bool false) ∧ h_ = [] | 24 => h_ = [] | 25 => v_ = (.bool (!p392.off)) ∧ h_ = [] | 26 => h_ = [] | 27 => h_ = [] | 28 => h_ = [] | 29 => v_ = (.bool q393.off) ∧ h_ = [] | 30 => v_ = (.bool ((!p392.off) == q393.off)) ∧ h_ = [] | 31 => v_ = (.bool ((!p392.off) == q393.off)) ∧ h_ = [] | 32 => v_ = (.bool ((!p392.off) == q393.off)) ∧ h_ = [] | 33 => v_ = (.pointer (some ⟨b213, 0, none⟩)) ∧ h_ = [] | 34 => v_ = (.int .i64 p392.uses) ∧ h_ = [] | 35 => v_ = (.pointer (some ⟨b262, 0, none⟩)) ∧ h_ = [] | 36 => v_ = (.pointer (some ⟨b262, 0, none⟩)) ∧ h_ = [] | 37 => v_ = (.pointer (some ⟨b262, 3, none⟩)) ∧ h_ = [] | 38 => v_ = (.int .i64 q393.uses) ∧ h_ = [] | _ => True) 33 39 (by decide) (by decide) (by kernel_rfl) (flow_has (cs := []) hH444 rfl) ?_ ?_ ?_
                                  · intro i_ o_ hi_ ho_
                                    match i_, ho_, hi_ with
                                    | 0, ho_, _ => obtain rfl := Option.some.inj ho_; exact rfl
                                    | 1, ho_, _ => obtain rfl := Option.some.inj ho_; exact rfl
                                    | 2, ho_, _ => obtain rfl := Option.some.inj ho_; exact rfl
                                    | 3, ho_, _ => obtain rfl := Option.some.inj ho_; exact rfl
                                    | 4, ho_, _ => obtain rfl := Option.some.inj ho_; exact rfl
                                    | 5, ho_, _ => obtain rfl := Option.some.inj ho_; exact rfl
                                    | 6, ho_, _ => obtain rfl := Option.some.inj ho_; exact rfl
                                    | 7, ho_, _ => obtain rfl := Option.some.inj ho_; exact rfl
                                    | 8, ho_, _ => obtain rfl := Option.some.inj ho_; exact rfl
                                    | 9, ho_, _ => obtain rfl := Option.some.inj ho_; exact rfl
                                    | 10, ho_, _ => obtain rfl := Option.some.inj ho_; exact rfl
                                    | 11, ho_, _ => obtain rfl := Option.some.inj ho_; exact rfl
                                    | 12, ho_, _ => obtain rfl := Option.some.inj ho_; exact rfl
                                    | 13, ho_, _ => obtain rfl := Option.some.inj ho_; exact rfl
                                    | 14, ho_, _ => obtain rfl := Option.some.inj ho_; exact rfl
                                    | 15, ho_, _ => obtain rfl := Option.some.inj ho_; exact rfl
                                    | 16, ho_, _ => obtain rfl := Option.some.inj ho_; exact rfl
                                    | 17, ho_, _ => obtain rfl := Option.some.inj ho_; exact rfl
                                    | 18, ho_, _ => obtain rfl := Option.some.inj ho_; exact rfl
                                    | 19, ho_, _ => obtain rfl := Option.some.inj ho_; exact rfl
                                    | 20, ho_, _ => obtain rfl := Option.some.inj ho_; exact rfl
                                    | 21, ho_, _ => obtain rfl := Option.some.inj ho_; exact rfl
                                    | 22, ho_, _ => obtain rfl := Option.some.inj ho_; exact rfl
                                    | 23, ho_, _ => obtain rfl := Option.some.inj ho_; exact ⟨e447_117, rfl⟩
                                    | 24, ho_, _ => obtain rfl := Option.some.inj ho_; exact rfl
                                    | 25, ho_, _ => obtain rfl := Option.some.inj ho_; exact ⟨e447_119, rfl⟩
                                    | 26, ho_, _ => obtain rfl := Option.some.inj ho_; exact rfl
                                    | 27, ho_, _ => obtain rfl := Option.some.inj ho_; exact rfl
                                    | 28, ho_, _ => obtain rfl := Option.some.inj ho_; exact rfl
                                    | 29, ho_, _ => obtain rfl := Option.some.inj ho_; exact ⟨e447_123, rfl⟩
                                    | 30, ho_, _ => obtain rfl := Option.some.inj ho_; exact ⟨rfl, rfl⟩
                                    | 31, ho_, _ => obtain rfl := Option.some.inj ho_; exact ⟨rfl, rfl⟩
                                    | 32, ho_, _ => obtain rfl := Option.some.inj ho_; exact ⟨rfl, rfl⟩
                                    | i_ + 33, _, hi_ => exact absurd hi_ (by omega)
                                  · intro i_ o_ hlo_ him_ ho_ r' w' G hs_ ht
                                    match i_, ho_, him_, hlo_ with
                                    | 0, ho_, him_, hlo_ => exact absurd hlo_ (by decide)
                                    | 1, ho_, him_, hlo_ => exact absurd hlo_ (by decide)
                                    | 2, ho_, him_, hlo_ => exact absurd hlo_ (by decide)
                                    | 3, ho_, him_, hlo_ => exact absurd hlo_ (by decide)
                                    | 4, ho_, him_, hlo_ => exact absurd hlo_ (by decide)
                                    | 5, ho_, him_, hlo_ => exact absurd hlo_ (by decide)
                                    | 6, ho_, him_, hlo_ => exact absurd hlo_ (by decide)
                                    | 7, ho_, him_, hlo_ => exact absurd hlo_ (by decide)
                                    | 8, ho_, him_, hlo_ => exact absurd hlo_ (by decide)
                                    | 9, ho_, him_, hlo_ => exact absurd hlo_ (by decide)
                                    | 10, ho_, him_, hlo_ => exact absurd hlo_ (by decide)
                                    | 11, ho_, him_, hlo_ => exact absurd hlo_ (by decide)
                                    | 12, ho_, him_, hlo_ => exact absurd hlo_ (by decide)
                                    | 13, ho_, him_, hlo_ => exact absurd hlo_ (by decide)
                                    | 14, ho_, him_, hlo_ => exact absurd hlo_ (by decide)
                                    | 15, ho_, him_, hlo_ => exact absurd hlo_ (by decide)
                                    | 16, ho_, him_, hlo_ => exact absurd hlo_ (by decide)
                                    | 17, ho_, him_, hlo_ => exact absurd hlo_ (by decide)
                                    | 18, ho_, him_, hlo_ => exact absurd hlo_ (by decide)
                                    | 19, ho_, him_, hlo_ => exact absurd hlo_ (by decide)
                                    | 20, ho_, him_, hlo_ => exact absurd hlo_ (by decide)
                                    | 21, ho_, him_, hlo_ => exact absurd hlo_ (by decide)
                                    | 22, ho_, him_, hlo_ => exact absurd hlo_ (by decide)
                                    | 23, ho_, him_, hlo_ => exact absurd hlo_ (by decide)
                                    | 24, ho_, him_, hlo_ => exact absurd hlo_ (by decide)
                                    | 25, ho_, him_, hlo_ => exact absurd hlo_ (by decide)
                                    | 26, ho_, him_, hlo_ => exact absurd hlo_ (by decide)
                                    | 27, ho_, him_, hlo_ => exact absurd hlo_ (by decide)
                                    | 28, ho_, him_, hlo_ => exact absurd hlo_ (by decide)
                                    | 29, ho_, him_, hlo_ => exact absurd hlo_ (by decide)
                                    | 30, ho_, him_, hlo_ => exact absurd hlo_ (by decide)
                                    | 31, ho_, him_, hlo_ => exact absurd hlo_ (by decide)
                                    | 32, ho_, him_, hlo_ => exact absurd hlo_ (by decide)
                                    | 33, ho_, him_, hlo_ =>
                                      obtain rfl := Option.some.inj ho_
                                      obtain ⟨e126, eh32⟩ := (ht.done 32 _ rfl rfl).1
                                      have e7 : r' 7 = (.pointer (some ⟨b213, 0, none⟩)) := (ht.was 7 (by kernel_rfl)).trans e447_7
                                      have hG := ht.has.drop
                                      refine GOK.on rfl rfl (Eq.trans e126 (congrArg Value.bool h448)) ?_
                                      refine o_move (v := (.pointer (some ⟨b213, 0, none⟩))) e7 ?_
                                      exact ⟨_, ⟨rfl, rfl⟩, hG⟩
                                    | 34, ho_, him_, hlo_ =>
                                      obtain rfl := Option.some.inj ho_
                                      obtain ⟨e126, eh32⟩ := (ht.done 32 _ rfl rfl).1
                                      obtain ⟨e127, eh33⟩ := (ht.done 33 _ rfl rfl).1
                                      have hG := ht.has.drop
                                      refine GOK.on rfl rfl (Eq.trans e126 (congrArg Value.bool h448)) ?_
                                      refine o_callf (vs := #[(.pointer (some ⟨b213, 0, none⟩))]) ca58 rfl (args1 e127) (puses_r (p := p392) hG.all (ht.fr [Hp.one b213 (.cells #[(.bool p392.off), (.bool p392.armed), (.int .i64 p392.left), (.int .i64 p392.uses)] 101 (0, 0))] (by simp))) ?_
                                      rintro _ w451 ⟨rfl, hX449⟩
                                      refine ⟨_, rfl, ?_⟩
                                      have hH450 := hX449.of_all
                                      exact ⟨_, ⟨rfl, rfl⟩, hH450⟩
                                    | 35, ho_, him_, hlo_ =>
                                      obtain rfl := Option.some.inj ho_
                                      obtain ⟨e126, eh32⟩ := (ht.done 32 _ rfl rfl).1
                                      have e12 : r' 12 = (.pointer (some ⟨b262, 0, none⟩)) := (ht.was 12 (by kernel_rfl)).trans e447_12
                                      have hG := ht.has.drop
                                      refine GOK.on rfl rfl (Eq.trans e126 (congrArg Value.bool h448)) ?_
                                      refine o_move (v := (.pointer (some ⟨b262, 0, none⟩))) e12 ?_
                                      exact ⟨_, ⟨rfl, rfl⟩, hG⟩
                                    | 36, ho_, him_, hlo_ =>
                                      obtain rfl := Option.some.inj ho_
                                      obtain ⟨e126, eh32⟩ := (ht.done 32 _ rfl rfl).1
                                      obtain ⟨e129, eh35⟩ := (ht.done 35 _ rfl rfl).1
                                      have hG := ht.has.drop
                                      refine GOK.on rfl rfl (Eq.trans e126 (congrArg Value.bool h448)) ?_
                                      refine o_nilCheck e129 ?_
                                      exact ⟨_, ⟨rfl, rfl⟩, hG⟩
                                    | 37, ho_, him_, hlo_ =>
                                      obtain rfl := Option.some.inj ho_
                                      obtain ⟨e126, eh32⟩ := (ht.done 32 _ rfl rfl).1
                                      obtain ⟨e130, eh36⟩ := (ht.done 36 _ rfl rfl).1
                                      have hG := ht.has.drop
                                      refine GOK.on rfl rfl (Eq.trans e126 (congrArg Value.bool h448)) ?_
                                      refine o_fieldAddr (k := 3) (fun _ => by kernel_rfl) e130 ?_
                                      exact ⟨_, ⟨rfl, rfl⟩, hG⟩
                                    | 38, ho_, him_, hlo_ =>
                                      obtain rfl := Option.some.inj ho_
                                      obtain ⟨e126, eh32⟩ := (ht.done 32 _ rfl rfl).1
                                      obtain ⟨e131, eh37⟩ := (ht.done 37 _ rfl rfl).1
                                      have hG := ht.has.drop
                                      refine GOK.on rfl rfl (Eq.trans e126 (congrArg Value.bool h448)) ?_
                                      refine o_load1 (v := (.int .i64 q393.uses)) Try.underlying3 rfl e131 hG (ht.fr [Hp.one b262 (.cells #[(.bool q393.off), (.bool q393.armed), (.int .i64 q393.left), (.int .i64 q393.uses)] 112 (0, 0))] (by simp)) (CellsAt.one rfl) ?_
                                      exact ⟨_, ⟨rfl, rfl⟩, hG⟩
                                    | i_ + 39, ho_, him_, hlo_ => exact absurd him_ (by omega)
                                  · intro vs452 hs453 w454 hT455 hC_ hH456
                                    have eh0_ := hT455 0 _ (by decide) rfl
                                    have eh1_ := hT455 1 _ (by decide) rfl
                                    have eh2_ := hT455 2 _ (by decide) rfl
                                    have eh3_ := hT455 3 _ (by decide) rfl
                                    have eh4_ := hT455 4 _ (by decide) rfl
                                    have eh5_ := hT455 5 _ (by decide) rfl
                                    have eh6_ := hT455 6 _ (by decide) rfl
                                    have eh7_ := hT455 7 _ (by decide) rfl
                                    have eh8_ := hT455 8 _ (by decide) rfl
                                    have eh9_ := hT455 9 _ (by decide) rfl
                                    have eh10_ := hT455 10 _ (by decide) rfl
                                    have eh11_ := hT455 11 _ (by decide) rfl
                                    have eh12_ := hT455 12 _ (by decide) rfl
                                    have eh13_ := hT455 13 _ (by decide) rfl
                                    have eh14_ := hT455 14 _ (by decide) rfl
                                    have eh15_ := hT455 15 _ (by decide) rfl
                                    have eh16_ := hT455 16 _ (by decide) rfl
                                    have eh17_ := hT455 17 _ (by decide) rfl
                                    have eh18_ := hT455 18 _ (by decide) rfl
                                    have eh19_ := hT455 19 _ (by decide) rfl
                                    have eh20_ := hT455 20 _ (by decide) rfl
                                    have eh21_ := hT455 21 _ (by decide) rfl
                                    have eh22_ := hT455 22 _ (by decide) rfl
                                    obtain ⟨e23_, eh23_⟩ := hT455 23 _ (by decide) rfl
                                    have eh24_ := hT455 24 _ (by decide) rfl
                                    obtain ⟨e25_, eh25_⟩ := hT455 25 _ (by decide) rfl
                                    have eh26_ := hT455 26 _ (by decide) rfl
                                    have eh27_ := hT455 27 _ (by decide) rfl
                                    have eh28_ := hT455 28 _ (by decide) rfl
                                    obtain ⟨e29_, eh29_⟩ := hT455 29 _ (by decide) rfl
                                    obtain ⟨e30_, eh30_⟩ := hT455 30 _ (by decide) rfl
                                    obtain ⟨e31_, eh31_⟩ := hT455 31 _ (by decide) rfl
                                    obtain ⟨e32_, eh32_⟩ := hT455 32 _ (by decide) rfl
                                    obtain ⟨e33_, eh33_⟩ := hT455 33 _ (by decide) rfl
                                    obtain ⟨e34_, eh34_⟩ := hT455 34 _ (by decide) rfl
                                    obtain ⟨e35_, eh35_⟩ := hT455 35 _ (by decide) rfl
                                    obtain ⟨e36_, eh36_⟩ := hT455 36 _ (by decide) rfl
                                    obtain ⟨e37_, eh37_⟩ := hT455 37 _ (by decide) rfl
                                    obtain ⟨e38_, eh38_⟩ := hT455 38 _ (by decide) rfl
                                    have hH457 : Has E w454 ([sgb, [Hp.one b213 (.cells #[(.bool p392.off), (.bool p392.armed), (.int .i64 p392.left), (.int .i64 p392.uses)] 101 (0, 0))], h1b, h2b, h3b, [Hp.one qm251 (.cells #[v1b, v2b, v3b] 189 (0, 0))], [Hp.one b262 (.cells #[(.bool q393.off), (.bool q393.armed), (.int .i64 q393.left), (.int .i64 q393.uses)] 112 (0, 0))], sg389, s397, s399, s401, [Hp.one qm241 (.cells #[v396, v398, v400] 189 (0, 0))], R] ++ []) := flow_back (cs := []) hH456 (by show (hs453 0 ++ (hs453 1 ++ (hs453 2 ++ (hs453 3 ++ (hs453 4 ++ (hs453 5 ++ (hs453 6 ++ (hs453 7 ++ (hs453 8 ++ (hs453 9 ++ (hs453 10 ++ (hs453 11 ++ (hs453 12 ++ (hs453 13 ++ (hs453 14 ++ (hs453 15 ++ (hs453 16 ++ (hs453 17 ++ (hs453 18 ++ (hs453 19 ++ (hs453 20 ++ (hs453 21 ++ (hs453 22 ++ (hs453 23 ++ (hs453 24 ++ (hs453 25 ++ (hs453 26 ++ (hs453 27 ++ (hs453 28 ++ (hs453 29 ++ (hs453 30 ++ (hs453 31 ++ (hs453 32 ++ (hs453 33 ++ (hs453 34 ++ (hs453 35 ++ (hs453 36 ++ (hs453 37 ++ (hs453 38 ++ (hs453 39 ++ (hs453 40 ++ []))))))))))))))))))))))))))))))))))))))))) = _; rw [eh0_, eh1_, eh2_, eh3_, eh4_, eh5_, eh6_, eh7_, eh8_, eh9_, eh10_, eh11_, eh12_, eh13_, eh14_, eh15_, eh16_, eh17_, eh18_, eh19_, eh20_, eh21_, eh22_, eh23_, eh24_, eh25_, eh26_, eh27_, eh28_, eh29_, eh30_, eh31_, eh32_, eh33_, eh34_, eh35_, eh36_, eh37_, eh38_, hC_ 39 (by decide) (by decide), hC_ 40 (by decide) (by decide)]; rfl)
                                    generalize hr459 : puts vs452 _ 0 _ = r458
                                    have e460_0 : r458 0 = (.int .i64 a) := by rw [← hr459]; exact e447_0
                                    have e460_1 : r458 1 = (.int .i64 b) := by rw [← hr459]; exact e447_1
                                    have e460_2 : r458 2 = v := by rw [← hr459]; exact e447_2
                                    have e460_7 : r458 7 = (.pointer (some ⟨b213, 0, none⟩)) := by rw [← hr459]; exact e447_7
                                    have e460_8 : r458 8 = (.pointer (some ⟨db219, 0, none⟩)) := by rw [← hr459]; exact e447_8
                                    have e460_9 : r458 9 = (.pointer (some ⟨db226, 0, none⟩)) := by rw [← hr459]; exact e447_9
                                    have e460_10 : r458 10 = (.pointer (some ⟨qm241, 0, none⟩)) := by rw [← hr459]; exact e447_10
                                    have e460_11 : r458 11 = (.pointer (some ⟨qm251, 0, none⟩)) := by rw [← hr459]; exact e447_11
                                    have e460_12 : r458 12 = (.pointer (some ⟨b262, 0, none⟩)) := by rw [← hr459]; exact e447_12
                                    have e460_13 : r458 13 = (.int .i64 (i : Int)) := by rw [← hr459]; exact e447_13
                                    have e460_14 : r458 14 = (.pointer (some ⟨db219, 0, none⟩)) := by rw [← hr459]; exact e447_14
                                    have e460_15 : r458 15 = (.pointer (some ⟨qm241, 0, none⟩)) := by rw [← hr459]; exact e447_15
                                    have e460_37 : r458 37 = (.bool false) := by rw [← hr459]; exact e447_37
                                    have e460_66 : r458 66 = (.bool (!(false == (decide (4096 < b))))) := by rw [← hr459]; exact e447_66
                                    have e460_72 : r458 72 = (.bool false) := by rw [← hr459]; exact e447_72
                                    have e460_82 : r458 82 = (.bool (decide ((i : Int) < ((l.length : Nat) : Int)))) := by rw [← hr459]; exact e447_82
                                    have e460_91 : r458 91 = (.bool x284.other) := by rw [← hr459]; exact e447_91
                                    have e460_126 : r458 126 = (.bool ((!p392.off) == q393.off)) := by rw [← hr459]; exact e32_
                                    have e460_128 : r458 128 = (.int .i64 p392.uses) := by rw [← hr459]; exact e34_
                                    have e460_132 : r458 132 = (.int .i64 q393.uses) := by rw [← hr459]; exact e38_
                                    refine r_on 39 rfl (by kernel_rfl) 126 rfl (Eq.trans e460_126 (congrArg Value.bool h448)) (o_neq (a := p392.uses) (b := q393.uses) e460_128 e460_132 ?_)
                                    refine r_op 40 rfl (by kernel_rfl) (o_pick_f (u := (.bool (decide (p392.uses ≠ q393.uses)))) ((e460_126 : _ = _).trans (congrArg Value.bool h448)) rfl ?_)
                                    refine Rest.done (by kernel_rfl) ?_
                                    refine t_norm (hK375 _ _ ?_)
                                    refine c_cond rfl (fun h461 => ?_) (fun h461 => ?_)
                                    · -- p392.uses ≠ q393.uses
                                      exact absurd hpr405.uses h461
                                    · -- not: p392.uses ≠ q393.uses
                                      refine wp_skip ?_
                                      refine b_norm ?_
                                      refine t_norm (hK277 _ _ ?_)
                                      refine c_region ?_
                                      refine s_op (o_move (v := (.int .i64 (i : Int))) e460_13 ?_)
                                      refine s_op (o_add (a := (i : Int)) (b := 1) rfl rfl (w64 (by omega) (by omega)) ?_)
                                      refine s_op (o_assign (v := (.int .i64 ((i : Int) + 1))) rfl ?_)
                                      refine s_nil ?_
                                      have hH462 : Has E w454 [[Hp.one b213 (.cells #[(.bool p392.off), (.bool p392.armed), (.int .i64 p392.left), (.int .i64 p392.uses)] 101 (0, 0))], [Hp.one b262 (.cells #[(.bool q393.off), (.bool q393.armed), (.int .i64 q393.left), (.int .i64 q393.uses)] 112 (0, 0))], sg389, s397, s399, s401, [Hp.one qm241 (.cells #[v396, v398, v400] 189 (0, 0))], sgb, h1b, h2b, h3b, [Hp.one qm251 (.cells #[v1b, v2b, v3b] 189 (0, 0))], R] := Has.pick hH457 [1, 5, 5, 5, 5, 5, 5, 0, 0, 0, 0, 0, 0] (by kernel_rfl)
                                      refine t_norm ⟨l.length - (i + 1), _, rfl, ?_, ?_⟩
                                      · omega
                                      · exact ⟨(i + 1), p392, q393, sg389, la390, lo391, nw394, ls395, v396, s397, v398, s399, v400, s401, sgb, lab, lob, nwb, lsb, v1b, h1b, v2b, h2b, v3b, h3b, rfl, hH462, (by omega), (hd402), ((hl403.trans hla)), (hsim404), (ho406), (ho407), (ho408), (hdb), (hlb), (hsimb), (ho1b), (ho2b), (ho3b), (hpr405), e460_0, e460_1, e460_2, e460_7, e460_8, e460_9, e460_10, e460_11, e460_12, rfl, e460_37, e460_66, e460_72⟩
                    · -- not: (i : Int) < ((l.length : Nat) : Int)
                      refine wp_exit ?_
                      refine t_exit (t_exit (x_in (?_)))
                      refine t_norm (hK265 _ _ ?_)
                      refine wp_seq_k fun K463 hK463 => ?_
                      refine c_region ?_
                      refine s_op (o_assign (v := (.bool true)) rfl ?_)
                      refine s_nil ?_
                      refine t_norm (hK463 _ _ ?_)
                      refine wp_ret ?_
                      refine c_ret1 Try.results12  (v := (.bool true)) rfl ?_
                      have hH464 : Has E w271 [R] := (hH272.front 12 rfl).first 1 rfl
                      exact ⟨rfl, hH464⟩
          · -- none
            refine s_op (o_callf (vs := #[(.pointer (some ⟨b213, 0, none⟩)), (.int .i64 b)]) ca23 rfl (args2 rfl rfl) (new_bad hH223.all (by omega)) ?_)
            rintro _ w467 ⟨rfl, hX465⟩
            refine ⟨_, rfl, ?_⟩
            have hH466 := hX465.of_all
            refine s_op (o_assign (v := (.pointer (some ⟨db219, 0, none⟩))) rfl ?_)
            refine s_op (o_assign (v := (.pointer none)) rfl ?_)
            refine s_nil ?_
            refine t_norm (hK216 _ _ ?_)
            refine wp_seq_k fun K468 hK468 => ?_
            refine wp_seq_k fun K469 hK469 => ?_
            refine c_region ?_
            refine s_op (o_move (v := (.pointer (some ⟨db219, 0, none⟩))) rfl ?_)
            refine s_op (o_pnil (p := some _) Try.underlying46 rfl rfl ?_)
            refine s_op (o_move (v := (.int .i64 a)) rfl ?_)
            refine s_op (o_lss (a := a) (b := 1) rfl rfl ?_)
            refine s_op (o_move (v := (.bool (decide (a < 1)))) rfl ?_)
            by_cases h470 : a < 1
            · -- a < 1
              exfalso; omega
            · -- not: a < 1
              refine s_on 51 rfl (congrArg Value.bool (decide_eq_false h470)) (o_move (v := (.int .i64 a)) rfl ?_)
              refine s_on 51 rfl (congrArg Value.bool (decide_eq_false h470)) (o_gtr (a := a) (b := 4096) rfl rfl ?_)
              refine s_op (o_pick_f (u := (.bool (decide (4096 < a)))) ((rfl : _ = _).trans (congrArg Value.bool (decide_eq_false h470))) rfl ?_)
              refine s_op (o_neqb Try.underlying4 rfl rfl ?_)
              refine s_op (o_move (v := (.bool (!(false == (decide (4096 < a)))))) rfl ?_)
              rcases Bool.eq_false_or_eq_true (!(false == (decide (4096 < a)))) with h471 | h471
              · -- !(false == (decide (4096 < a)))
                exfalso; first | (simp at h471; done) | (simp at h471; omega)
              · -- not: !(false == (decide (4096 < a)))
                refine s_on 56 rfl (congrArg Value.bool h471) (o_move (v := (.pointer none)) rfl ?_)
                refine s_on 56 rfl (congrArg Value.bool h471) (o_pnil (p := none) Try.underlying46 rfl rfl ?_)
                refine s_on 56 rfl (congrArg Value.bool h471) (o_move (v := (.int .i64 b)) rfl ?_)
                refine s_on 56 rfl (congrArg Value.bool h471) (o_lss (a := b) (b := 1) rfl rfl ?_)
                refine s_on 56 rfl (congrArg Value.bool h471) (o_move (v := (.bool (decide (b < 1)))) rfl ?_)
                by_cases h472 : b < 1
                · -- b < 1
                  refine s_off (b' := true) 61 rfl (congrArg Value.bool (decide_eq_true h472)) rfl ?_
                  refine s_off (b' := true) 61 rfl (congrArg Value.bool (decide_eq_true h472)) rfl ?_
                  refine s_on 56 rfl (congrArg Value.bool h471) (o_pick_t (u := (.bool true)) ((rfl : _ = _).trans (congrArg Value.bool (decide_eq_true h472))) rfl ?_)
                  refine s_on 56 rfl (congrArg Value.bool h471) (o_neqb Try.underlying4 rfl rfl ?_)
                  refine s_op (o_pick_f (u := (.bool (!(true == true)))) ((rfl : _ = _).trans (congrArg Value.bool h471)) rfl ?_)
                  refine s_nil ?_
                  refine t_norm (hK469 _ _ ?_)
                  refine c_condb rfl (fun h473 => ?_) (fun h473 => ?_)
                  · -- !(true == true)
                    exfalso; first | (simp at h473; done) | (simp at h473; omega)
                  · -- not: !(true == true)
                    refine wp_skip ?_
                    refine t_norm (hK468 _ _ ?_)
                    refine wp_seq_k fun K474 hK474 => ?_
                    refine wp_seq_k fun K475 hK475 => ?_
                    refine c_region ?_
                    refine s_op (o_move (v := (.pointer (some ⟨db219, 0, none⟩))) rfl ?_)
                    refine s_op (o_pnil (p := some _) Try.underlying46 rfl rfl ?_)
                    refine s_op (o_move (v := (.bool false)) rfl ?_)
                    refine s_on 69 rfl rfl (o_move (v := (.pointer none)) rfl ?_)
                    refine s_on 69 rfl rfl (o_pnil (p := none) Try.underlying46 rfl rfl ?_)
                    refine s_op (o_pick_f (u := (.bool true)) rfl rfl ?_)
                    refine s_nil ?_
                    refine t_norm (hK475 _ _ ?_)
                    refine c_true rfl rfl ?_
                    refine wp_seq_k fun K476 hK476 => ?_
                    refine c_region ?_
                    refine s_op (o_assign (v := (.bool true)) rfl ?_)
                    refine s_nil ?_
                    refine t_norm (hK476 _ _ ?_)
                    refine wp_ret ?_
                    refine t_ret (c_ret1 Try.results12  (v := (.bool true)) rfl ?_)
                    have hH477 : Has E w467 [R] := (hH466.front 2 rfl).first 1 rfl
                    exact ⟨rfl, hH477⟩
                · -- not: b < 1
                  refine s_on 61 rfl (congrArg Value.bool (decide_eq_false h472)) (o_move (v := (.int .i64 b)) rfl ?_)
                  refine s_on 61 rfl (congrArg Value.bool (decide_eq_false h472)) (o_gtr (a := b) (b := 4096) rfl rfl ?_)
                  refine s_on 56 rfl (congrArg Value.bool h471) (o_pick_f (u := (.bool (decide (4096 < b)))) ((rfl : _ = _).trans (congrArg Value.bool (decide_eq_false h472))) rfl ?_)
                  refine s_on 56 rfl (congrArg Value.bool h471) (o_neqb Try.underlying4 rfl rfl ?_)
                  refine s_op (o_pick_f (u := (.bool (!(true == (decide (4096 < b)))))) ((rfl : _ = _).trans (congrArg Value.bool h471)) rfl ?_)
                  refine s_nil ?_
                  refine t_norm (hK469 _ _ ?_)
                  refine c_condb rfl (fun h478 => ?_) (fun h478 => ?_)
                  · -- !(true == (decide (4096 < b)))
                    exfalso; first | (simp at h478; done) | (simp at h478; omega)
                  · -- not: !(true == (decide (4096 < b)))
                    refine wp_skip ?_
                    refine t_norm (hK468 _ _ ?_)
                    refine wp_seq_k fun K479 hK479 => ?_
                    refine wp_seq_k fun K480 hK480 => ?_
                    refine c_region ?_
                    refine s_op (o_move (v := (.pointer (some ⟨db219, 0, none⟩))) rfl ?_)
                    refine s_op (o_pnil (p := some _) Try.underlying46 rfl rfl ?_)
                    refine s_op (o_move (v := (.bool false)) rfl ?_)
                    refine s_on 69 rfl rfl (o_move (v := (.pointer none)) rfl ?_)
                    refine s_on 69 rfl rfl (o_pnil (p := none) Try.underlying46 rfl rfl ?_)
                    refine s_op (o_pick_f (u := (.bool true)) rfl rfl ?_)
                    refine s_nil ?_
                    refine t_norm (hK480 _ _ ?_)
                    refine c_true rfl rfl ?_
                    refine wp_seq_k fun K481 hK481 => ?_
                    refine c_region ?_
                    refine s_op (o_assign (v := (.bool true)) rfl ?_)
                    refine s_nil ?_
                    refine t_norm (hK481 _ _ ?_)
                    refine wp_ret ?_
                    refine t_ret (c_ret1 Try.results12  (v := (.bool true)) rfl ?_)
                    have hH482 : Has E w467 [R] := (hH466.front 2 rfl).first 1 rfl
                    exact ⟨rfl, hH482⟩
        · -- none
          refine s_op (o_callf (vs := #[(.pointer (some ⟨b213, 0, none⟩)), (.int .i64 a)]) ca23 rfl (args2 rfl rfl) (new_bad hH217.all (by omega)) ?_)
          rintro _ w485 ⟨rfl, hX483⟩
          refine ⟨_, rfl, ?_⟩
          have hH484 := hX483.of_all
          refine s_op (o_move (v := (.pointer (some ⟨b213, 0, none⟩))) rfl ?_)
          refine s_op (o_move (v := (.int .i64 b)) rfl ?_)
          by_cases hab486 : 1 ≤ b ∧ b ≤ 4096
          · -- a device
            refine s_op (o_callf (vs := #[(.pointer (some ⟨b213, 0, none⟩)), (.int .i64 b)]) ca23 rfl (args2 rfl rfl) (new_wI hH484.all (pb := b213) hab486) ?_)
            rintro _ w492 ⟨db487, sg488, rfl, hd489, hX490⟩
            refine ⟨_, rfl, ?_⟩
            have hH491 : Has E w492 [sg488, [Hp.one b213 (.cells #[(.bool (Pw.mk false false 0 0).off), (.bool (Pw.mk false false 0 0).armed), (.int .i64 (Pw.mk false false 0 0).left), (.int .i64 (Pw.mk false false 0 0).uses)] 101 (0, 0))], R] := hX490.of_all1
            refine s_op (o_assign (v := (.pointer none)) rfl ?_)
            refine s_op (o_assign (v := (.pointer (some ⟨db487, 0, none⟩))) rfl ?_)
            refine s_nil ?_
            refine t_norm (hK216 _ _ ?_)
            refine wp_seq_k fun K493 hK493 => ?_
            refine wp_seq_k fun K494 hK494 => ?_
            refine c_region ?_
            refine s_op (o_move (v := (.pointer none)) rfl ?_)
            refine s_op (o_pnil (p := none) Try.underlying46 rfl rfl ?_)
            refine s_op (o_move (v := (.int .i64 a)) rfl ?_)
            refine s_op (o_lss (a := a) (b := 1) rfl rfl ?_)
            refine s_op (o_move (v := (.bool (decide (a < 1)))) rfl ?_)
            by_cases h495 : a < 1
            · -- a < 1
              refine s_off (b' := true) 51 rfl (congrArg Value.bool (decide_eq_true h495)) rfl ?_
              refine s_off (b' := true) 51 rfl (congrArg Value.bool (decide_eq_true h495)) rfl ?_
              refine s_op (o_pick_t (u := (.bool true)) ((rfl : _ = _).trans (congrArg Value.bool (decide_eq_true h495))) rfl ?_)
              refine s_op (o_neqb Try.underlying4 rfl rfl ?_)
              refine s_op (o_move (v := (.bool (!(true == true)))) rfl ?_)
              rcases Bool.eq_false_or_eq_true (!(true == true)) with h496 | h496
              · -- !(true == true)
                exfalso; first | (simp at h496; done) | (simp at h496; omega)
              · -- not: !(true == true)
                refine s_on 56 rfl (congrArg Value.bool h496) (o_move (v := (.pointer (some ⟨db487, 0, none⟩))) rfl ?_)
                refine s_on 56 rfl (congrArg Value.bool h496) (o_pnil (p := some _) Try.underlying46 rfl rfl ?_)
                refine s_on 56 rfl (congrArg Value.bool h496) (o_move (v := (.int .i64 b)) rfl ?_)
                refine s_on 56 rfl (congrArg Value.bool h496) (o_lss (a := b) (b := 1) rfl rfl ?_)
                refine s_on 56 rfl (congrArg Value.bool h496) (o_move (v := (.bool (decide (b < 1)))) rfl ?_)
                by_cases h497 : b < 1
                · -- b < 1
                  exfalso; omega
                · -- not: b < 1
                  refine s_on 61 rfl (congrArg Value.bool (decide_eq_false h497)) (o_move (v := (.int .i64 b)) rfl ?_)
                  refine s_on 61 rfl (congrArg Value.bool (decide_eq_false h497)) (o_gtr (a := b) (b := 4096) rfl rfl ?_)
                  refine s_on 56 rfl (congrArg Value.bool h496) (o_pick_f (u := (.bool (decide (4096 < b)))) ((rfl : _ = _).trans (congrArg Value.bool (decide_eq_false h497))) rfl ?_)
                  refine s_on 56 rfl (congrArg Value.bool h496) (o_neqb Try.underlying4 rfl rfl ?_)
                  refine s_op (o_pick_f (u := (.bool (!(false == (decide (4096 < b)))))) ((rfl : _ = _).trans (congrArg Value.bool h496)) rfl ?_)
                  refine s_nil ?_
                  refine t_norm (hK494 _ _ ?_)
                  refine c_condb rfl (fun h498 => ?_) (fun h498 => ?_)
                  · -- !(false == (decide (4096 < b)))
                    exfalso; first | (simp at h498; done) | (simp at h498; omega)
                  · -- not: !(false == (decide (4096 < b)))
                    refine wp_skip ?_
                    refine t_norm (hK493 _ _ ?_)
                    refine wp_seq_k fun K499 hK499 => ?_
                    refine wp_seq_k fun K500 hK500 => ?_
                    refine c_region ?_
                    refine s_op (o_move (v := (.pointer none)) rfl ?_)
                    refine s_op (o_pnil (p := none) Try.underlying46 rfl rfl ?_)
                    refine s_op (o_move (v := (.bool true)) rfl ?_)
                    refine s_off (b' := true) 69 rfl rfl rfl ?_
                    refine s_off (b' := true) 69 rfl rfl rfl ?_
                    refine s_op (o_pick_t (u := (.bool true)) rfl rfl ?_)
                    refine s_nil ?_
                    refine t_norm (hK500 _ _ ?_)
                    refine c_true rfl rfl ?_
                    refine wp_seq_k fun K501 hK501 => ?_
                    refine c_region ?_
                    refine s_op (o_assign (v := (.bool true)) rfl ?_)
                    refine s_nil ?_
                    refine t_norm (hK501 _ _ ?_)
                    refine wp_ret ?_
                    refine t_ret (c_ret1 Try.results12  (v := (.bool true)) rfl ?_)
                    have hH502 : Has E w492 [R] := (hH491.front 2 rfl).first 1 rfl
                    exact ⟨rfl, hH502⟩
            · -- not: a < 1
              refine s_on 51 rfl (congrArg Value.bool (decide_eq_false h495)) (o_move (v := (.int .i64 a)) rfl ?_)
              refine s_on 51 rfl (congrArg Value.bool (decide_eq_false h495)) (o_gtr (a := a) (b := 4096) rfl rfl ?_)
              refine s_op (o_pick_f (u := (.bool (decide (4096 < a)))) ((rfl : _ = _).trans (congrArg Value.bool (decide_eq_false h495))) rfl ?_)
              refine s_op (o_neqb Try.underlying4 rfl rfl ?_)
              refine s_op (o_move (v := (.bool (!(true == (decide (4096 < a)))))) rfl ?_)
              rcases Bool.eq_false_or_eq_true (!(true == (decide (4096 < a)))) with h503 | h503
              · -- !(true == (decide (4096 < a)))
                exfalso; first | (simp at h503; done) | (simp at h503; omega)
              · -- not: !(true == (decide (4096 < a)))
                refine s_on 56 rfl (congrArg Value.bool h503) (o_move (v := (.pointer (some ⟨db487, 0, none⟩))) rfl ?_)
                refine s_on 56 rfl (congrArg Value.bool h503) (o_pnil (p := some _) Try.underlying46 rfl rfl ?_)
                refine s_on 56 rfl (congrArg Value.bool h503) (o_move (v := (.int .i64 b)) rfl ?_)
                refine s_on 56 rfl (congrArg Value.bool h503) (o_lss (a := b) (b := 1) rfl rfl ?_)
                refine s_on 56 rfl (congrArg Value.bool h503) (o_move (v := (.bool (decide (b < 1)))) rfl ?_)
                by_cases h504 : b < 1
                · -- b < 1
                  exfalso; omega
                · -- not: b < 1
                  refine s_on 61 rfl (congrArg Value.bool (decide_eq_false h504)) (o_move (v := (.int .i64 b)) rfl ?_)
                  refine s_on 61 rfl (congrArg Value.bool (decide_eq_false h504)) (o_gtr (a := b) (b := 4096) rfl rfl ?_)
                  refine s_on 56 rfl (congrArg Value.bool h503) (o_pick_f (u := (.bool (decide (4096 < b)))) ((rfl : _ = _).trans (congrArg Value.bool (decide_eq_false h504))) rfl ?_)
                  refine s_on 56 rfl (congrArg Value.bool h503) (o_neqb Try.underlying4 rfl rfl ?_)
                  refine s_op (o_pick_f (u := (.bool (!(false == (decide (4096 < b)))))) ((rfl : _ = _).trans (congrArg Value.bool h503)) rfl ?_)
                  refine s_nil ?_
                  refine t_norm (hK494 _ _ ?_)
                  refine c_condb rfl (fun h505 => ?_) (fun h505 => ?_)
                  · -- !(false == (decide (4096 < b)))
                    exfalso; first | (simp at h505; done) | (simp at h505; omega)
                  · -- not: !(false == (decide (4096 < b)))
                    refine wp_skip ?_
                    refine t_norm (hK493 _ _ ?_)
                    refine wp_seq_k fun K506 hK506 => ?_
                    refine wp_seq_k fun K507 hK507 => ?_
                    refine c_region ?_
                    refine s_op (o_move (v := (.pointer none)) rfl ?_)
                    refine s_op (o_pnil (p := none) Try.underlying46 rfl rfl ?_)
                    refine s_op (o_move (v := (.bool true)) rfl ?_)
                    refine s_off (b' := true) 69 rfl rfl rfl ?_
                    refine s_off (b' := true) 69 rfl rfl rfl ?_
                    refine s_op (o_pick_t (u := (.bool true)) rfl rfl ?_)
                    refine s_nil ?_
                    refine t_norm (hK507 _ _ ?_)
                    refine c_true rfl rfl ?_
                    refine wp_seq_k fun K508 hK508 => ?_
                    refine c_region ?_
                    refine s_op (o_assign (v := (.bool true)) rfl ?_)
                    refine s_nil ?_
                    refine t_norm (hK508 _ _ ?_)
                    refine wp_ret ?_
                    refine t_ret (c_ret1 Try.results12  (v := (.bool true)) rfl ?_)
                    have hH509 : Has E w492 [R] := (hH491.front 2 rfl).first 1 rfl
                    exact ⟨rfl, hH509⟩
          · -- none
            refine s_op (o_callf (vs := #[(.pointer (some ⟨b213, 0, none⟩)), (.int .i64 b)]) ca23 rfl (args2 rfl rfl) (new_bad hH484.all (by omega)) ?_)
            rintro _ w512 ⟨rfl, hX510⟩
            refine ⟨_, rfl, ?_⟩
            have hH511 := hX510.of_all
            refine s_op (o_assign (v := (.pointer none)) rfl ?_)
            refine s_op (o_assign (v := (.pointer none)) rfl ?_)
            refine s_nil ?_
            refine t_norm (hK216 _ _ ?_)
            refine wp_seq_k fun K513 hK513 => ?_
            refine wp_seq_k fun K514 hK514 => ?_
            refine c_region ?_
            refine s_op (o_move (v := (.pointer none)) rfl ?_)
            refine s_op (o_pnil (p := none) Try.underlying46 rfl rfl ?_)
            refine s_op (o_move (v := (.int .i64 a)) rfl ?_)
            refine s_op (o_lss (a := a) (b := 1) rfl rfl ?_)
            refine s_op (o_move (v := (.bool (decide (a < 1)))) rfl ?_)
            by_cases h515 : a < 1
            · -- a < 1
              refine s_off (b' := true) 51 rfl (congrArg Value.bool (decide_eq_true h515)) rfl ?_
              refine s_off (b' := true) 51 rfl (congrArg Value.bool (decide_eq_true h515)) rfl ?_
              refine s_op (o_pick_t (u := (.bool true)) ((rfl : _ = _).trans (congrArg Value.bool (decide_eq_true h515))) rfl ?_)
              refine s_op (o_neqb Try.underlying4 rfl rfl ?_)
              refine s_op (o_move (v := (.bool (!(true == true)))) rfl ?_)
              rcases Bool.eq_false_or_eq_true (!(true == true)) with h516 | h516
              · -- !(true == true)
                exfalso; first | (simp at h516; done) | (simp at h516; omega)
              · -- not: !(true == true)
                refine s_on 56 rfl (congrArg Value.bool h516) (o_move (v := (.pointer none)) rfl ?_)
                refine s_on 56 rfl (congrArg Value.bool h516) (o_pnil (p := none) Try.underlying46 rfl rfl ?_)
                refine s_on 56 rfl (congrArg Value.bool h516) (o_move (v := (.int .i64 b)) rfl ?_)
                refine s_on 56 rfl (congrArg Value.bool h516) (o_lss (a := b) (b := 1) rfl rfl ?_)
                refine s_on 56 rfl (congrArg Value.bool h516) (o_move (v := (.bool (decide (b < 1)))) rfl ?_)
                by_cases h517 : b < 1
                · -- b < 1
                  refine s_off (b' := true) 61 rfl (congrArg Value.bool (decide_eq_true h517)) rfl ?_
                  refine s_off (b' := true) 61 rfl (congrArg Value.bool (decide_eq_true h517)) rfl ?_
                  refine s_on 56 rfl (congrArg Value.bool h516) (o_pick_t (u := (.bool true)) ((rfl : _ = _).trans (congrArg Value.bool (decide_eq_true h517))) rfl ?_)
                  refine s_on 56 rfl (congrArg Value.bool h516) (o_neqb Try.underlying4 rfl rfl ?_)
                  refine s_op (o_pick_f (u := (.bool (!(true == true)))) ((rfl : _ = _).trans (congrArg Value.bool h516)) rfl ?_)
                  refine s_nil ?_
                  refine t_norm (hK514 _ _ ?_)
                  refine c_false rfl h516 ?_
                  refine wp_skip ?_
                  refine t_norm (hK513 _ _ ?_)
                  refine wp_seq_k fun K518 hK518 => ?_
                  refine wp_seq_k fun K519 hK519 => ?_
                  refine c_region ?_
                  refine s_op (o_move (v := (.pointer none)) rfl ?_)
                  refine s_op (o_pnil (p := none) Try.underlying46 rfl rfl ?_)
                  refine s_op (o_move (v := (.bool true)) rfl ?_)
                  refine s_off (b' := true) 69 rfl rfl rfl ?_
                  refine s_off (b' := true) 69 rfl rfl rfl ?_
                  refine s_op (o_pick_t (u := (.bool true)) rfl rfl ?_)
                  refine s_nil ?_
                  refine t_norm (hK519 _ _ ?_)
                  refine c_true rfl rfl ?_
                  refine wp_seq_k fun K520 hK520 => ?_
                  refine c_region ?_
                  refine s_op (o_assign (v := (.bool true)) rfl ?_)
                  refine s_nil ?_
                  refine t_norm (hK520 _ _ ?_)
                  refine wp_ret ?_
                  refine t_ret (c_ret1 Try.results12  (v := (.bool true)) rfl ?_)
                  have hH521 : Has E w512 [R] := (hH511.front 1 rfl).first 1 rfl
                  exact ⟨rfl, hH521⟩
                · -- not: b < 1
                  refine s_on 61 rfl (congrArg Value.bool (decide_eq_false h517)) (o_move (v := (.int .i64 b)) rfl ?_)
                  refine s_on 61 rfl (congrArg Value.bool (decide_eq_false h517)) (o_gtr (a := b) (b := 4096) rfl rfl ?_)
                  refine s_on 56 rfl (congrArg Value.bool h516) (o_pick_f (u := (.bool (decide (4096 < b)))) ((rfl : _ = _).trans (congrArg Value.bool (decide_eq_false h517))) rfl ?_)
                  refine s_on 56 rfl (congrArg Value.bool h516) (o_neqb Try.underlying4 rfl rfl ?_)
                  refine s_op (o_pick_f (u := (.bool (!(true == (decide (4096 < b)))))) ((rfl : _ = _).trans (congrArg Value.bool h516)) rfl ?_)
                  refine s_nil ?_
                  refine t_norm (hK514 _ _ ?_)
                  refine c_condb rfl (fun h522 => ?_) (fun h522 => ?_)
                  · -- !(true == (decide (4096 < b)))
                    exfalso; first | (simp at h522; done) | (simp at h522; omega)
                  · -- not: !(true == (decide (4096 < b)))
                    refine wp_skip ?_
                    refine t_norm (hK513 _ _ ?_)
                    refine wp_seq_k fun K523 hK523 => ?_
                    refine wp_seq_k fun K524 hK524 => ?_
                    refine c_region ?_
                    refine s_op (o_move (v := (.pointer none)) rfl ?_)
                    refine s_op (o_pnil (p := none) Try.underlying46 rfl rfl ?_)
                    refine s_op (o_move (v := (.bool true)) rfl ?_)
                    refine s_off (b' := true) 69 rfl rfl rfl ?_
                    refine s_off (b' := true) 69 rfl rfl rfl ?_
                    refine s_op (o_pick_t (u := (.bool true)) rfl rfl ?_)
                    refine s_nil ?_
                    refine t_norm (hK524 _ _ ?_)
                    refine c_true rfl rfl ?_
                    refine wp_seq_k fun K525 hK525 => ?_
                    refine c_region ?_
                    refine s_op (o_assign (v := (.bool true)) rfl ?_)
                    refine s_nil ?_
                    refine t_norm (hK525 _ _ ?_)
                    refine wp_ret ?_
                    refine t_ret (c_ret1 Try.results12  (v := (.bool true)) rfl ?_)
                    have hH526 : Has E w512 [R] := (hH511.front 1 rfl).first 1 rfl
                    exact ⟨rfl, hH526⟩
            · -- not: a < 1
              refine s_on 51 rfl (congrArg Value.bool (decide_eq_false h515)) (o_move (v := (.int .i64 a)) rfl ?_)
              refine s_on 51 rfl (congrArg Value.bool (decide_eq_false h515)) (o_gtr (a := a) (b := 4096) rfl rfl ?_)
              refine s_op (o_pick_f (u := (.bool (decide (4096 < a)))) ((rfl : _ = _).trans (congrArg Value.bool (decide_eq_false h515))) rfl ?_)
              refine s_op (o_neqb Try.underlying4 rfl rfl ?_)
              refine s_op (o_move (v := (.bool (!(true == (decide (4096 < a)))))) rfl ?_)
              rcases Bool.eq_false_or_eq_true (!(true == (decide (4096 < a)))) with h527 | h527
              · -- !(true == (decide (4096 < a)))
                exfalso; first | (simp at h527; done) | (simp at h527; omega)
              · -- not: !(true == (decide (4096 < a)))
                refine s_on 56 rfl (congrArg Value.bool h527) (o_move (v := (.pointer none)) rfl ?_)
                refine s_on 56 rfl (congrArg Value.bool h527) (o_pnil (p := none) Try.underlying46 rfl rfl ?_)
                refine s_on 56 rfl (congrArg Value.bool h527) (o_move (v := (.int .i64 b)) rfl ?_)
                refine s_on 56 rfl (congrArg Value.bool h527) (o_lss (a := b) (b := 1) rfl rfl ?_)
                refine s_on 56 rfl (congrArg Value.bool h527) (o_move (v := (.bool (decide (b < 1)))) rfl ?_)
                by_cases h528 : b < 1
                · -- b < 1
                  refine s_off (b' := true) 61 rfl (congrArg Value.bool (decide_eq_true h528)) rfl ?_
                  refine s_off (b' := true) 61 rfl (congrArg Value.bool (decide_eq_true h528)) rfl ?_
                  refine s_on 56 rfl (congrArg Value.bool h527) (o_pick_t (u := (.bool true)) ((rfl : _ = _).trans (congrArg Value.bool (decide_eq_true h528))) rfl ?_)
                  refine s_on 56 rfl (congrArg Value.bool h527) (o_neqb Try.underlying4 rfl rfl ?_)
                  refine s_op (o_pick_f (u := (.bool (!(true == true)))) ((rfl : _ = _).trans (congrArg Value.bool h527)) rfl ?_)
                  refine s_nil ?_
                  refine t_norm (hK514 _ _ ?_)
                  refine c_condb rfl (fun h529 => ?_) (fun h529 => ?_)
                  · -- !(true == true)
                    exfalso; first | (simp at h529; done) | (simp at h529; omega)
                  · -- not: !(true == true)
                    refine wp_skip ?_
                    refine t_norm (hK513 _ _ ?_)
                    refine wp_seq_k fun K530 hK530 => ?_
                    refine wp_seq_k fun K531 hK531 => ?_
                    refine c_region ?_
                    refine s_op (o_move (v := (.pointer none)) rfl ?_)
                    refine s_op (o_pnil (p := none) Try.underlying46 rfl rfl ?_)
                    refine s_op (o_move (v := (.bool true)) rfl ?_)
                    refine s_off (b' := true) 69 rfl rfl rfl ?_
                    refine s_off (b' := true) 69 rfl rfl rfl ?_
                    refine s_op (o_pick_t (u := (.bool true)) rfl rfl ?_)
                    refine s_nil ?_
                    refine t_norm (hK531 _ _ ?_)
                    refine c_true rfl rfl ?_
                    refine wp_seq_k fun K532 hK532 => ?_
                    refine c_region ?_
                    refine s_op (o_assign (v := (.bool true)) rfl ?_)
                    refine s_nil ?_
                    refine t_norm (hK532 _ _ ?_)
                    refine wp_ret ?_
                    refine t_ret (c_ret1 Try.results12  (v := (.bool true)) rfl ?_)
                    have hH533 : Has E w512 [R] := (hH511.front 1 rfl).first 1 rfl
                    exact ⟨rfl, hH533⟩
                · -- not: b < 1
                  refine s_on 61 rfl (congrArg Value.bool (decide_eq_false h528)) (o_move (v := (.int .i64 b)) rfl ?_)
                  refine s_on 61 rfl (congrArg Value.bool (decide_eq_false h528)) (o_gtr (a := b) (b := 4096) rfl rfl ?_)
                  refine s_on 56 rfl (congrArg Value.bool h527) (o_pick_f (u := (.bool (decide (4096 < b)))) ((rfl : _ = _).trans (congrArg Value.bool (decide_eq_false h528))) rfl ?_)
                  refine s_on 56 rfl (congrArg Value.bool h527) (o_neqb Try.underlying4 rfl rfl ?_)
                  refine s_op (o_pick_f (u := (.bool (!(true == (decide (4096 < b)))))) ((rfl : _ = _).trans (congrArg Value.bool h527)) rfl ?_)
                  refine s_nil ?_
                  refine t_norm (hK514 _ _ ?_)
                  refine c_condb rfl (fun h534 => ?_) (fun h534 => ?_)
                  · -- !(true == (decide (4096 < b)))
                    exfalso; first | (simp at h534; done) | (simp at h534; omega)
                  · -- not: !(true == (decide (4096 < b)))
                    refine wp_skip ?_
                    refine t_norm (hK513 _ _ ?_)
                    refine wp_seq_k fun K535 hK535 => ?_
                    refine wp_seq_k fun K536 hK536 => ?_
                    refine c_region ?_
                    refine s_op (o_move (v := (.pointer none)) rfl ?_)
                    refine s_op (o_pnil (p := none) Try.underlying46 rfl rfl ?_)
                    refine s_op (o_move (v := (.bool true)) rfl ?_)
                    refine s_off (b' := true) 69 rfl rfl rfl ?_
                    refine s_off (b' := true) 69 rfl rfl rfl ?_
                    refine s_op (o_pick_t (u := (.bool true)) rfl rfl ?_)
                    refine s_nil ?_
                    refine t_norm (hK536 _ _ ?_)
                    refine c_true rfl rfl ?_
                    refine wp_seq_k fun K537 hK537 => ?_
                    refine c_region ?_
                    refine s_op (o_assign (v := (.bool true)) rfl ?_)
                    refine s_nil ?_
                    refine t_norm (hK537 _ _ ?_)
                    refine wp_ret ?_
                    refine t_ret (c_ret1 Try.results12  (v := (.bool true)) rfl ?_)
                    have hH538 : Has E w512 [R] := (hH511.front 1 rfl).first 1 rfl
                    exact ⟨rfl, hH538⟩
end Go.Q
