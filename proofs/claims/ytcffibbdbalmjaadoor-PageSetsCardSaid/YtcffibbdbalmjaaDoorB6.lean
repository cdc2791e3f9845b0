/-
  Parts of a walk: what functions of the program compute, each told by a theorem (QDL3).
-/
import Derived.Test.YtcffibbdbalmjaaDoorB5
set_option linter.unusedVariables false
set_option linter.unusedSimpArgs false
set_option linter.unnecessarySimpa false
namespace Go.Q
open Go.Proofs
set_option linter.unusedVariables false
set_option maxRecDepth 100000
attribute [local irreducible] wpList OK Code.wp
set_option maxHeartbeats 4000000 in
theorem PageSets_c {E w : World} {R : List Hp} {no : Int} {gsn : Int} {v_l : Value} {l : List Cel} {v_keys : Value} {keys : List (List UInt8)} {v_vals : Value} {vals : List (Bool × Bs)} {step : Int}  (hH : Has E w [R]) (h_l : Sl R 2 v_l l.length (l.flatMap ceC)) (h_keys : Sl R 1 v_keys keys.length (keys.map sV)) (h_vals : Sl R 2 v_vals vals.length (vals.flatMap vlC)) (hg : CellsAt R 0 0 nibV) :
    Calls Tryd.prog 4 #[(.agg #[(.int .i64 no), (.int .i64 gsn), v_l]), v_keys, v_vals, (.int .i64 step)] w fun e w' => e = .returned (.bool true) ∧ Has E w' [R] := by
  have hnk_ := h_keys.le
  have hnv_ := h_vals.le
  refine c_enter (args := [(.agg #[(.int .i64 no), (.int .i64 gsn), v_l]), v_keys, v_vals, (.int .i64 step)]) Tryd.func4 rfl Tryd.ntmps4 (by simp) ?_
  refine wp_seq_k fun K1 hK1 => ?_
  refine c_region ?_
  refine s_op (o_box (cs := #[(.int .i64 no), (.int .i64 gsn), v_l]) rfl rfl hH fun b2 w3 hH4 => ?_)
  refine s_op (o_assign (v := (.bool false)) rfl ?_)
  refine s_nil ?_
  refine t_norm (hK1 _ _ ?_)
  refine wp_seq_k fun K5 hK5 => ?_
  refine wp_seq_k fun K6 hK6 => ?_
  refine c_region ?_
  refine s_op (o_loadN (cs := [(.int .i64 no), (.int .i64 gsn), v_l]) Tryd.underlying24 rfl ti24 rfl hH4 (seg_sub 0 rfl) (CellsAt.one rfl) ?_)
  refine s_op (o_callf (vs := #[(.agg #[(.int .i64 no), (.int .i64 gsn), v_l])]) ca8 rfl (args1 rfl) (r11great_c (no := no) (gsn := gsn) (l := l) hH4.all (h_l.mono (seg_sub 1 rfl))) ?_)
  rintro _ w11 ⟨gb_7, rfl, hg_8, hX9⟩
  refine ⟨_, rfl, ?_⟩
  have hH10 : Has E w11 [[Hp.one b2 (.cells #[(.int .i64 no), (.int .i64 gsn), v_l] 24 (0, 0))], R] := hX9.of_all
  refine s_op (o_move (v := (.bool gb_7)) rfl ?_)
  rcases Bool.eq_false_or_eq_true gb_7 with h12 | h12
  · -- gb_7
    refine s_off (b' := true) 17 rfl (congrArg Value.bool h12) rfl ?_
    refine s_off (b' := true) 17 rfl (congrArg Value.bool h12) rfl ?_
    refine s_off (b' := true) 17 rfl (congrArg Value.bool h12) rfl ?_
    refine s_op (o_pick_t (u := (.bool true)) ((rfl : _ = _).trans (congrArg Value.bool h12)) rfl ?_)
    refine s_op (o_move (v := (.bool true)) rfl ?_)
    refine s_off (b' := true) 22 rfl rfl rfl ?_
    refine s_off (b' := true) 22 rfl rfl rfl ?_
    refine s_off (b' := true) 22 rfl rfl rfl ?_
    refine s_op (o_pick_t (u := (.bool true)) rfl rfl ?_)
    refine s_op (o_move (v := (.bool true)) rfl ?_)
    refine s_off (b' := true) 27 rfl rfl rfl ?_
    refine s_off (b' := true) 27 rfl rfl rfl ?_
    refine s_op (o_pick_t (u := (.bool true)) rfl rfl ?_)
    refine s_op (o_move (v := (.bool true)) rfl ?_)
    refine s_off (b' := true) 31 rfl rfl rfl ?_
    refine s_off (b' := true) 31 rfl rfl rfl ?_
    refine s_op (o_pick_t (u := (.bool true)) rfl rfl ?_)
    refine s_op (o_move (v := (.bool true)) rfl ?_)
    refine s_off (b' := true) 35 rfl rfl rfl ?_
    refine s_off (b' := true) 35 rfl rfl rfl ?_
    refine s_op (o_pick_t (u := (.bool true)) rfl rfl ?_)
    refine s_nil ?_
    refine t_norm (hK6 _ _ ?_)
    refine c_true rfl rfl ?_
    refine wp_seq_k fun K13 hK13 => ?_
    refine c_region ?_
    refine s_op (o_callf (vs := #[]) ca9 rfl (args0) (awake11_c hH10.all (hg.mono (seg_sub 1 rfl))) ?_)
    rintro _ w16 ⟨rfl, hX14⟩
    refine ⟨_, rfl, ?_⟩
    have hH15 := hX14.of_all
    refine s_op (o_assign (v := (.bool true)) rfl ?_)
    refine s_nil ?_
    refine t_norm (hK13 _ _ ?_)
    refine wp_ret ?_
    refine t_ret (c_ret1 Tryd.results4  (v := (.bool true)) rfl ?_)
    have hH17 : Has E w16 [R] := (hH15.front 1 rfl).first 1 rfl
    exact ⟨by rw [show true = true by first | rfl | assumption | (simp; done)], hH17⟩
  · -- not: gb_7
    have hgr_ := hg_8 h12
    refine s_on 17 rfl (congrArg Value.bool h12) (o_move (v := v_keys) rfl ?_)
    refine s_on 17 rfl (congrArg Value.bool h12) (o_lenS Tryd.underlying32 rfl h_keys ?_)
    refine s_on 17 rfl (congrArg Value.bool h12) (o_gtr (a := ((keys.length : Nat) : Int)) (b := 20) rfl rfl ?_)
    refine s_op (o_pick_f (u := (.bool (decide (20 < ((keys.length : Nat) : Int))))) ((rfl : _ = _).trans (congrArg Value.bool h12)) rfl ?_)
    refine s_op (o_move (v := (.bool (decide (20 < ((keys.length : Nat) : Int))))) rfl ?_)
    by_cases h18 : 20 < ((keys.length : Nat) : Int)
    · -- 20 < ((keys.length : Nat) : Int)
      refine s_off (b' := true) 22 rfl (congrArg Value.bool (decide_eq_true h18)) rfl ?_
      refine s_off (b' := true) 22 rfl (congrArg Value.bool (decide_eq_true h18)) rfl ?_
      refine s_off (b' := true) 22 rfl (congrArg Value.bool (decide_eq_true h18)) rfl ?_
      refine s_op (o_pick_t (u := (.bool true)) ((rfl : _ = _).trans (congrArg Value.bool (decide_eq_true h18))) rfl ?_)
      refine s_op (o_move (v := (.bool true)) rfl ?_)
      refine s_off (b' := true) 27 rfl rfl rfl ?_
      refine s_off (b' := true) 27 rfl rfl rfl ?_
      refine s_op (o_pick_t (u := (.bool true)) rfl rfl ?_)
      refine s_op (o_move (v := (.bool true)) rfl ?_)
      refine s_off (b' := true) 31 rfl rfl rfl ?_
      refine s_off (b' := true) 31 rfl rfl rfl ?_
      refine s_op (o_pick_t (u := (.bool true)) rfl rfl ?_)
      refine s_op (o_move (v := (.bool true)) rfl ?_)
      refine s_off (b' := true) 35 rfl rfl rfl ?_
      refine s_off (b' := true) 35 rfl rfl rfl ?_
      refine s_op (o_pick_t (u := (.bool true)) rfl rfl ?_)
      refine s_nil ?_
      refine t_norm (hK6 _ _ ?_)
      refine c_true rfl rfl ?_
      refine wp_seq_k fun K19 hK19 => ?_
      refine c_region ?_
      refine s_op (o_callf (vs := #[]) ca9 rfl (args0) (awake11_c hH10.all (hg.mono (seg_sub 1 rfl))) ?_)
      rintro _ w22 ⟨rfl, hX20⟩
      refine ⟨_, rfl, ?_⟩
      have hH21 := hX20.of_all
      refine s_op (o_assign (v := (.bool true)) rfl ?_)
      refine s_nil ?_
      refine t_norm (hK19 _ _ ?_)
      refine wp_ret ?_
      refine t_ret (c_ret1 Tryd.results4  (v := (.bool true)) rfl ?_)
      have hH23 : Has E w22 [R] := (hH21.front 1 rfl).first 1 rfl
      exact ⟨by rw [show true = true by first | rfl | assumption | (simp; done)], hH23⟩
    · -- not: 20 < ((keys.length : Nat) : Int)
      refine s_on 22 rfl (congrArg Value.bool (decide_eq_false h18)) (o_move (v := v_vals) rfl ?_)
      refine s_on 22 rfl (congrArg Value.bool (decide_eq_false h18)) (o_lenS Tryd.underlying33 rfl h_vals ?_)
      refine s_on 22 rfl (congrArg Value.bool (decide_eq_false h18)) (o_gtr (a := ((vals.length : Nat) : Int)) (b := 20) rfl rfl ?_)
      refine s_op (o_pick_f (u := (.bool (decide (20 < ((vals.length : Nat) : Int))))) ((rfl : _ = _).trans (congrArg Value.bool (decide_eq_false h18))) rfl ?_)
      refine s_op (o_move (v := (.bool (decide (20 < ((vals.length : Nat) : Int))))) rfl ?_)
      by_cases h24 : 20 < ((vals.length : Nat) : Int)
      · -- 20 < ((vals.length : Nat) : Int)
        refine s_off (b' := true) 27 rfl (congrArg Value.bool (decide_eq_true h24)) rfl ?_
        refine s_off (b' := true) 27 rfl (congrArg Value.bool (decide_eq_true h24)) rfl ?_
        refine s_op (o_pick_t (u := (.bool true)) ((rfl : _ = _).trans (congrArg Value.bool (decide_eq_true h24))) rfl ?_)
        refine s_op (o_move (v := (.bool true)) rfl ?_)
        refine s_off (b' := true) 31 rfl rfl rfl ?_
        refine s_off (b' := true) 31 rfl rfl rfl ?_
        refine s_op (o_pick_t (u := (.bool true)) rfl rfl ?_)
        refine s_op (o_move (v := (.bool true)) rfl ?_)
        refine s_off (b' := true) 35 rfl rfl rfl ?_
        refine s_off (b' := true) 35 rfl rfl rfl ?_
        refine s_op (o_pick_t (u := (.bool true)) rfl rfl ?_)
        refine s_nil ?_
        refine t_norm (hK6 _ _ ?_)
        refine c_true rfl rfl ?_
        refine wp_seq_k fun K25 hK25 => ?_
        refine c_region ?_
        refine s_op (o_callf (vs := #[]) ca9 rfl (args0) (awake11_c hH10.all (hg.mono (seg_sub 1 rfl))) ?_)
        rintro _ w28 ⟨rfl, hX26⟩
        refine ⟨_, rfl, ?_⟩
        have hH27 := hX26.of_all
        refine s_op (o_assign (v := (.bool true)) rfl ?_)
        refine s_nil ?_
        refine t_norm (hK25 _ _ ?_)
        refine wp_ret ?_
        refine t_ret (c_ret1 Tryd.results4  (v := (.bool true)) rfl ?_)
        have hH29 : Has E w28 [R] := (hH27.front 1 rfl).first 1 rfl
        exact ⟨by rw [show true = true by first | rfl | assumption | (simp; done)], hH29⟩
      · -- not: 20 < ((vals.length : Nat) : Int)
        refine s_on 27 rfl (congrArg Value.bool (decide_eq_false h24)) (o_move (v := (.int .i64 step)) rfl ?_)
        refine s_on 27 rfl (congrArg Value.bool (decide_eq_false h24)) (o_gtr (a := step) (b := 1000000) rfl rfl ?_)
        refine s_op (o_pick_f (u := (.bool (decide (1000000 < step)))) ((rfl : _ = _).trans (congrArg Value.bool (decide_eq_false h24))) rfl ?_)
        refine s_op (o_move (v := (.bool (decide (1000000 < step)))) rfl ?_)
        by_cases h30 : 1000000 < step
        · -- 1000000 < step
          refine s_off (b' := true) 31 rfl (congrArg Value.bool (decide_eq_true h30)) rfl ?_
          refine s_off (b' := true) 31 rfl (congrArg Value.bool (decide_eq_true h30)) rfl ?_
          refine s_op (o_pick_t (u := (.bool true)) ((rfl : _ = _).trans (congrArg Value.bool (decide_eq_true h30))) rfl ?_)
          refine s_op (o_move (v := (.bool true)) rfl ?_)
          refine s_off (b' := true) 35 rfl rfl rfl ?_
          refine s_off (b' := true) 35 rfl rfl rfl ?_
          refine s_op (o_pick_t (u := (.bool true)) rfl rfl ?_)
          refine s_nil ?_
          refine t_norm (hK6 _ _ ?_)
          refine c_true rfl rfl ?_
          refine wp_seq_k fun K31 hK31 => ?_
          refine c_region ?_
          refine s_op (o_callf (vs := #[]) ca9 rfl (args0) (awake11_c hH10.all (hg.mono (seg_sub 1 rfl))) ?_)
          rintro _ w34 ⟨rfl, hX32⟩
          refine ⟨_, rfl, ?_⟩
          have hH33 := hX32.of_all
          refine s_op (o_assign (v := (.bool true)) rfl ?_)
          refine s_nil ?_
          refine t_norm (hK31 _ _ ?_)
          refine wp_ret ?_
          refine t_ret (c_ret1 Tryd.results4  (v := (.bool true)) rfl ?_)
          have hH35 : Has E w34 [R] := (hH33.front 1 rfl).first 1 rfl
          exact ⟨by rw [show true = true by first | rfl | assumption | (simp; done)], hH35⟩
        · -- not: 1000000 < step
          refine s_on 31 rfl (congrArg Value.bool (decide_eq_false h30)) (o_move (v := (.int .i64 step)) rfl ?_)
          refine s_on 31 rfl (congrArg Value.bool (decide_eq_false h30)) (o_lss (a := step) (b := -1000000) rfl rfl ?_)
          refine s_op (o_pick_f (u := (.bool (decide (step < -1000000)))) ((rfl : _ = _).trans (congrArg Value.bool (decide_eq_false h30))) rfl ?_)
          refine s_op (o_move (v := (.bool (decide (step < -1000000)))) rfl ?_)
          by_cases h36 : step < -1000000
          · -- step < -1000000
            refine s_off (b' := true) 35 rfl (congrArg Value.bool (decide_eq_true h36)) rfl ?_
            refine s_off (b' := true) 35 rfl (congrArg Value.bool (decide_eq_true h36)) rfl ?_
            refine s_op (o_pick_t (u := (.bool true)) ((rfl : _ = _).trans (congrArg Value.bool (decide_eq_true h36))) rfl ?_)
            refine s_nil ?_
            refine t_norm (hK6 _ _ ?_)
            refine c_true rfl rfl ?_
            refine wp_seq_k fun K37 hK37 => ?_
            refine c_region ?_
            refine s_op (o_callf (vs := #[]) ca9 rfl (args0) (awake11_c hH10.all (hg.mono (seg_sub 1 rfl))) ?_)
            rintro _ w40 ⟨rfl, hX38⟩
            refine ⟨_, rfl, ?_⟩
            have hH39 := hX38.of_all
            refine s_op (o_assign (v := (.bool true)) rfl ?_)
            refine s_nil ?_
            refine t_norm (hK37 _ _ ?_)
            refine wp_ret ?_
            refine t_ret (c_ret1 Tryd.results4  (v := (.bool true)) rfl ?_)
            have hH41 : Has E w40 [R] := (hH39.front 1 rfl).first 1 rfl
            exact ⟨by rw [show true = true by first | rfl | assumption | (simp; done)], hH41⟩
          · -- not: step < -1000000
            refine s_on 35 rfl (congrArg Value.bool (decide_eq_false h36)) (o_callf (vs := #[]) ca9 rfl (args0) (awake11_c hH10.all (hg.mono (seg_sub 1 rfl))) ?_)
            rintro _ w44 ⟨rfl, hX42⟩
            refine ⟨_, rfl, ?_⟩
            have hH43 := hX42.of_all
            refine s_on 35 rfl (congrArg Value.bool (decide_eq_false h36)) (o_not rfl ?_)
            refine s_op (o_pick_f (u := (.bool false)) ((rfl : _ = _).trans (congrArg Value.bool (decide_eq_false h36))) rfl ?_)
            refine s_nil ?_
            refine t_norm (hK6 _ _ ?_)
            refine c_false rfl rfl ?_
            refine wp_skip ?_
            refine t_norm (hK5 _ _ ?_)
            refine wp_seq_k fun K45 hK45 => ?_
            refine wp_seq_k fun K46 hK46 => ?_
            refine c_region ?_
            refine s_op (o_assign (v := (.int .i64 0)) rfl ?_)
            refine s_nil ?_
            refine t_norm (hK46 _ _ ?_)
            refine wp_block ?_
            let I48 : Nat → (Nat → Value) → World → Prop := fun n__ r__ w__ => ∃ (i : Nat) (noP : Int) (gsnP : Int) (vp : Value) (sp : List Hp) (lp : List Cel), n__ = 20 - i ∧ Has E w__ [sp, [Hp.one b2 (.cells #[(.int .i64 noP), (.int .i64 gsnP), vp] 24 (0, 0))], R] ∧ (Sl (sp ++ R) 2 vp lp.length (lp.flatMap ceC)) ∧ (i ≤ 20) ∧ (lp.length ≤ 20 + i) ∧ r__ 0 = (.agg #[(.int .i64 no), (.int .i64 gsn), v_l]) ∧ r__ 1 = v_keys ∧ r__ 2 = v_vals ∧ r__ 3 = (.int .i64 step) ∧ r__ 4 = (.pointer (some ⟨b2, 0, none⟩)) ∧ r__ 9 = (.int .i64 (i : Int)) ∧ r__ 38 = (.bool false)
            have hH49 : Has E w44 [[], [Hp.one b2 (.cells #[(.int .i64 no), (.int .i64 gsn), v_l] 24 (0, 0))], R] := (Has.nil ((hH43.front 1 rfl).front 1 rfl)).first 3 rfl
            refine c_loop I48 _ ⟨0, no, gsn, v_l, [], l, rfl, hH49, h_l, (by omega), (by omega), rfl, rfl, rfl, rfl, rfl, rfl, rfl⟩ ?_
            rintro n_ r52 w50 ⟨i, noP, gsnP, vp, sp, lp, rfl, hH51, hp, hi, hpl, e47_0, e47_1, e47_2, e47_3, e47_4, e47_9, e47_38⟩
            refine wp_seq_k fun K53 hK53 => ?_
            refine wp_seq_k fun K54 hK54 => ?_
            refine c_region ?_
            refine s_op (o_move (v := (.int .i64 (i : Int))) e47_9 ?_)
            refine s_op (o_move (v := v_keys) e47_1 ?_)
            refine s_op (o_lenS Tryd.underlying32 rfl h_keys ?_)
            refine s_op (o_lss (a := (i : Int)) (b := ((keys.length : Nat) : Int)) rfl rfl ?_)
            refine s_op (o_move (v := (.bool (decide ((i : Int) < ((keys.length : Nat) : Int))))) rfl ?_)
            by_cases h55 : (i : Int) < ((keys.length : Nat) : Int)
            · -- (i : Int) < ((keys.length : Nat) : Int)
              refine s_on 44 rfl (congrArg Value.bool (decide_eq_true h55)) (o_move (v := (.int .i64 (i : Int))) e47_9 ?_)
              refine s_on 44 rfl (congrArg Value.bool (decide_eq_true h55)) (o_move (v := v_vals) e47_2 ?_)
              refine s_on 44 rfl (congrArg Value.bool (decide_eq_true h55)) (o_lenS Tryd.underlying33 rfl h_vals ?_)
              refine s_on 44 rfl (congrArg Value.bool (decide_eq_true h55)) (o_lss (a := (i : Int)) (b := ((vals.length : Nat) : Int)) rfl rfl ?_)
              refine s_op (o_pick_t (u := (.bool (decide ((i : Int) < ((vals.length : Nat) : Int))))) ((rfl : _ = _).trans (congrArg Value.bool (decide_eq_true h55))) rfl ?_)
              refine s_nil ?_
              refine t_norm (hK54 _ _ ?_)
              refine c_cond rfl (fun h56 => ?_) (fun h56 => ?_)
              · -- (i : Int) < ((vals.length : Nat) : Int)
                refine wp_skip ?_
                refine t_norm (hK53 _ _ ?_)
                refine wp_seq_k fun K57 hK57 => ?_
                refine wp_block ?_
                refine wp_seq_k fun K58 hK58 => ?_
                refine wp_seq_k fun K59 hK59 => ?_
                refine c_region ?_
                refine s_op (o_move (v := v_keys) e47_1 ?_)
                refine s_op (o_move (v := (.int .i64 (i : Int))) e47_9 ?_)
                obtain ⟨x63, hx64⟩ : ∃ x_, keys[((i : Int)).toNat]? = some x_ := get_some (by omega)
                refine s_op (o_index1 Tryd.underlying32 ti9 rfl h_keys rfl (by omega) hx64 fun b60 o61 hc62 => ?_)
                refine s_op (o_load1 (v := (S x63)) Tryd.underlying9 rfl rfl hH51 (seg_sub 2 rfl) hc62 ?_)
                refine s_op (o_slen Tryd.underlying9 rfl ?_)
                refine s_op (o_gtr (a := (x63.length : Int)) (b := 100) rfl rfl ?_)
                refine s_op (o_move (v := (.bool (decide (100 < (x63.length : Int))))) rfl ?_)
                by_cases h65 : 100 < (x63.length : Int)
                · -- 100 < (x63.length : Int)
                  refine s_off (b' := true) 58 rfl (congrArg Value.bool (decide_eq_true h65)) rfl ?_
                  refine s_off (b' := true) 58 rfl (congrArg Value.bool (decide_eq_true h65)) rfl ?_
                  refine s_off (b' := true) 58 rfl (congrArg Value.bool (decide_eq_true h65)) rfl ?_
                  refine s_off (b' := true) 58 rfl (congrArg Value.bool (decide_eq_true h65)) rfl ?_
                  refine s_off (b' := true) 58 rfl (congrArg Value.bool (decide_eq_true h65)) rfl ?_
                  refine s_off (b' := true) 58 rfl (congrArg Value.bool (decide_eq_true h65)) rfl ?_
                  refine s_off (b' := true) 58 rfl (congrArg Value.bool (decide_eq_true h65)) rfl ?_
                  refine s_op (o_pick_t (u := (.bool true)) ((rfl : _ = _).trans (congrArg Value.bool (decide_eq_true h65))) rfl ?_)
                  refine s_op (o_move (v := (.bool true)) rfl ?_)
                  refine s_off (b' := true) 67 rfl rfl rfl ?_
                  refine s_off (b' := true) 67 rfl rfl rfl ?_
                  refine s_off (b' := true) 67 rfl rfl rfl ?_
                  refine s_op (o_pick_t (u := (.bool true)) rfl rfl ?_)
                  refine s_op (o_move (v := (.bool true)) rfl ?_)
                  refine s_off (b' := true) 72 rfl rfl rfl ?_
                  refine s_off (b' := true) 72 rfl rfl rfl ?_
                  refine s_off (b' := true) 72 rfl rfl rfl ?_
                  refine s_op (o_pick_t (u := (.bool true)) rfl rfl ?_)
                  refine s_nil ?_
                  refine t_norm (hK59 _ _ ?_)
                  refine c_true rfl rfl ?_
                  refine wp_seq_k fun K66 hK66 => ?_
                  refine c_region ?_
                  refine s_op (o_assign (v := (.bool true)) rfl ?_)
                  refine s_nil ?_
                  refine t_norm (hK66 _ _ ?_)
                  refine wp_ret ?_
                  refine t_ret (b_ret (t_ret (t_ret (b_ret (t_ret (c_ret1 Tryd.results4  (v := (.bool true)) rfl ?_))))))
                  have hH67 : Has E w50 [R] := (hH51.front 2 rfl).first 1 rfl
                  exact ⟨by rw [show true = true by first | rfl | assumption | (simp; done)], hH67⟩
                · -- not: 100 < (x63.length : Int)
                  refine s_on 58 rfl (congrArg Value.bool (decide_eq_false h65)) (o_move (v := v_vals) e47_2 ?_)
                  refine s_on 58 rfl (congrArg Value.bool (decide_eq_false h65)) (o_move (v := (.int .i64 (i : Int))) e47_9 ?_)
                  obtain ⟨x71, hx72⟩ : ∃ x_, vals[((i : Int)).toNat]? = some x_ := get_some (by omega)
                  refine s_on 58 rfl (congrArg Value.bool (decide_eq_false h65)) (o_indexF vlC_len Tryd.underlying33 ti29 rfl h_vals rfl rfl (by omega) hx72 fun b68 o69 hc70 => ?_)
                  refine s_on 58 rfl (congrArg Value.bool (decide_eq_false h65)) (o_fieldAddr (k := o69 + 1) (fun _ => by kernel_rfl) rfl ?_)
                  refine s_on 58 rfl (congrArg Value.bool (decide_eq_false h65)) (o_load1 (v := (S x71.2)) Tryd.underlying9 rfl rfl hH51 (seg_sub 2 rfl) (CellsAt.field (k := 1) (ds := [(S x71.2)]) hc70 rfl) ?_)
                  refine s_on 58 rfl (congrArg Value.bool (decide_eq_false h65)) (o_slen Tryd.underlying9 rfl ?_)
                  refine s_on 58 rfl (congrArg Value.bool (decide_eq_false h65)) (o_gtr (a := (x71.2.length : Int)) (b := 100) rfl rfl ?_)
                  refine s_op (o_pick_f (u := (.bool (decide (100 < (x71.2.length : Int))))) ((rfl : _ = _).trans (congrArg Value.bool (decide_eq_false h65))) rfl ?_)
                  refine s_op (o_move (v := (.bool (decide (100 < (x71.2.length : Int))))) rfl ?_)
                  by_cases h73 : 100 < (x71.2.length : Int)
                  · -- 100 < (x71.2.length : Int)
                    refine s_off (b' := true) 67 rfl (congrArg Value.bool (decide_eq_true h73)) rfl ?_
                    refine s_off (b' := true) 67 rfl (congrArg Value.bool (decide_eq_true h73)) rfl ?_
                    refine s_off (b' := true) 67 rfl (congrArg Value.bool (decide_eq_true h73)) rfl ?_
                    refine s_op (o_pick_t (u := (.bool true)) ((rfl : _ = _).trans (congrArg Value.bool (decide_eq_true h73))) rfl ?_)
                    refine s_op (o_move (v := (.bool true)) rfl ?_)
                    refine s_off (b' := true) 72 rfl rfl rfl ?_
                    refine s_off (b' := true) 72 rfl rfl rfl ?_
                    refine s_off (b' := true) 72 rfl rfl rfl ?_
                    refine s_op (o_pick_t (u := (.bool true)) rfl rfl ?_)
                    refine s_nil ?_
                    refine t_norm (hK59 _ _ ?_)
                    refine c_true rfl rfl ?_
                    refine wp_seq_k fun K74 hK74 => ?_
                    refine c_region ?_
                    refine s_op (o_assign (v := (.bool true)) rfl ?_)
                    refine s_nil ?_
                    refine t_norm (hK74 _ _ ?_)
                    refine wp_ret ?_
                    refine t_ret (b_ret (t_ret (t_ret (b_ret (t_ret (c_ret1 Tryd.results4  (v := (.bool true)) rfl ?_))))))
                    have hH75 : Has E w50 [R] := (hH51.front 2 rfl).first 1 rfl
                    exact ⟨by rw [show true = true by first | rfl | assumption | (simp; done)], hH75⟩
                  · -- not: 100 < (x71.2.length : Int)
                    refine s_on 67 rfl (congrArg Value.bool (decide_eq_false h73)) (o_fieldAddr (k := 1) (fun _ => by kernel_rfl) e47_4 ?_)
                    refine s_on 67 rfl (congrArg Value.bool (decide_eq_false h73)) (o_load1 (v := (.int .i64 gsnP)) Tryd.underlying3 rfl rfl hH51 (seg_sub 1 rfl) (CellsAt.one rfl) ?_)
                    refine s_on 67 rfl (congrArg Value.bool (decide_eq_false h73)) (o_gtr (a := gsnP) (b := 2305843009213693952) rfl rfl ?_)
                    refine s_op (o_pick_f (u := (.bool (decide (2305843009213693952 < gsnP)))) ((rfl : _ = _).trans (congrArg Value.bool (decide_eq_false h73))) rfl ?_)
                    refine s_op (o_move (v := (.bool (decide (2305843009213693952 < gsnP)))) rfl ?_)
                    by_cases h76 : 2305843009213693952 < gsnP
                    · -- 2305843009213693952 < gsnP
                      refine s_off (b' := true) 72 rfl (congrArg Value.bool (decide_eq_true h76)) rfl ?_
                      refine s_off (b' := true) 72 rfl (congrArg Value.bool (decide_eq_true h76)) rfl ?_
                      refine s_off (b' := true) 72 rfl (congrArg Value.bool (decide_eq_true h76)) rfl ?_
                      refine s_op (o_pick_t (u := (.bool true)) ((rfl : _ = _).trans (congrArg Value.bool (decide_eq_true h76))) rfl ?_)
                      refine s_nil ?_
                      refine t_norm (hK59 _ _ ?_)
                      refine c_true rfl rfl ?_
                      refine wp_seq_k fun K77 hK77 => ?_
                      refine c_region ?_
                      refine s_op (o_assign (v := (.bool true)) rfl ?_)
                      refine s_nil ?_
                      refine t_norm (hK77 _ _ ?_)
                      refine wp_ret ?_
                      refine t_ret (b_ret (t_ret (t_ret (b_ret (t_ret (c_ret1 Tryd.results4  (v := (.bool true)) rfl ?_))))))
                      have hH78 : Has E w50 [R] := (hH51.front 2 rfl).first 1 rfl
                      exact ⟨by rw [show true = true by first | rfl | assumption | (simp; done)], hH78⟩
                    · -- not: 2305843009213693952 < gsnP
                      refine s_on 72 rfl (congrArg Value.bool (decide_eq_false h76)) (o_fieldAddr (k := 1) (fun _ => by kernel_rfl) e47_4 ?_)
                      refine s_on 72 rfl (congrArg Value.bool (decide_eq_false h76)) (o_load1 (v := (.int .i64 gsnP)) Tryd.underlying3 rfl rfl hH51 (seg_sub 1 rfl) (CellsAt.one rfl) ?_)
                      refine s_on 72 rfl (congrArg Value.bool (decide_eq_false h76)) (o_lss (a := gsnP) (b := -2305843009213693952) rfl rfl ?_)
                      refine s_op (o_pick_f (u := (.bool (decide (gsnP < -2305843009213693952)))) ((rfl : _ = _).trans (congrArg Value.bool (decide_eq_false h76))) rfl ?_)
                      refine s_nil ?_
                      refine t_norm (hK59 _ _ ?_)
                      refine c_cond rfl (fun h79 => ?_) (fun h79 => ?_)
                      · -- gsnP < -2305843009213693952
                        refine wp_seq_k fun K80 hK80 => ?_
                        refine c_region ?_
                        refine s_op (o_assign (v := (.bool true)) rfl ?_)
                        refine s_nil ?_
                        refine t_norm (hK80 _ _ ?_)
                        refine wp_ret ?_
                        refine t_ret (b_ret (t_ret (t_ret (b_ret (t_ret (c_ret1 Tryd.results4  (v := (.bool true)) rfl ?_))))))
                        have hH81 : Has E w50 [R] := (hH51.front 2 rfl).first 1 rfl
                        exact ⟨by rw [show true = true by first | rfl | assumption | (simp; done)], hH81⟩
                      · -- not: gsnP < -2305843009213693952
                        refine wp_skip ?_
                        refine t_norm (hK58 _ _ ?_)
                        refine wp_seq_k fun K82 hK82 => ?_
                        refine Rest.region mixed (by kernel_rfl) ?_
                        have hH83 : Has E { w50 with drawn := w50.drawn + 1 } [sp, [Hp.one b2 (.cells #[(.int .i64 noP), (.int .i64 gsnP), vp] 24 (0, 0))], R] := Has0.drew hH51 _
                        refine Rest.phaseA (fun w_ => Has E w_ [[Hp.one b2 (.cells #[(.int .i64 noP), (.int .i64 gsnP), vp] 24 (0, 0))]]) 0 10 10 rfl (by decide) (by kernel_rfl) ?_
                        refine a_op 0 rfl (by kernel_rfl) (fun w_ h_ => o_fieldAddr (k := 0) (fun _ => by kernel_rfl) e47_4 ⟨rfl, rfl⟩) ?_
                        refine a_op 1 rfl (by kernel_rfl) (fun w_ h_ => o_load1 (v := (.int .i64 noP)) Tryd.underlying3 rfl rfl h_ (seg_sub 0 rfl) (CellsAt.one rfl) ⟨rfl, rfl⟩) ?_
                        refine a_op 2 rfl (by kernel_rfl) (fun w_ h_ => o_fieldAddr (k := 1) (fun _ => by kernel_rfl) e47_4 ⟨rfl, rfl⟩) ?_
                        refine a_op 3 rfl (by kernel_rfl) (fun w_ h_ => o_load1 (v := (.int .i64 gsnP)) Tryd.underlying3 rfl rfl h_ (seg_sub 0 rfl) (CellsAt.one rfl) ⟨rfl, rfl⟩) ?_
                        refine a_op 5 rfl (by kernel_rfl) (fun w_ h_ => o_fieldAddr (k := 2) (fun _ => by kernel_rfl) e47_4 ⟨rfl, rfl⟩) ?_
                        refine a_op 6 rfl (by kernel_rfl) (fun w_ h_ => o_load1 (v := vp) Tryd.underlying22 rfl rfl h_ (seg_sub 0 rfl) (CellsAt.one rfl) ⟨rfl, rfl⟩) ?_
                        have hH84 : Has E { w50 with drawn := w50.drawn + 1 } [[Hp.one b2 (.cells #[(.int .i64 noP), (.int .i64 gsnP), vp] 24 (0, 0))]] := (hH83.front 1 rfl).first 1 rfl
                        refine a_two 4 9 (by kernel_rfl) hH84 ?_ ?_
                        · -- first operation 4
                          have hH85 : Has E { w50 with drawn := w50.drawn + 1 } [[Hp.one b2 (.cells #[(.int .i64 noP), (.int .i64 gsnP), vp] 24 (0, 0))]] := (hH83.front 1 rfl).first 1 rfl
                          refine ok_w 4 rfl (o_buildSlice (ps := #[]) (cells := #[]) Tryd.underlying22 ti45 (by decide) (parts0) (by kernel_rfl) hH83 fun b86 w87 hH88 => ?_)
                          have hH89 : Has E w87 [[Hp.one b2 (.cells #[(.int .i64 noP), (.int .i64 gsnP), vp] 24 (0, 0))]] := (hH88.front 2 rfl).first 1 rfl
                          refine a_two 7 9 (by kernel_rfl) hH89 ?_ ?_
                          · -- first operation 7
                            have hH90 : Has E w87 [[Hp.one b2 (.cells #[(.int .i64 noP), (.int .i64 gsnP), vp] 24 (0, 0))]] := (hH88.front 2 rfl).first 1 rfl
                            refine ok_w 7 rfl (o_append Tryd.underlying22 ti45 rfl (by decide) rfl (Own.lit (e := 45) (sz := 2) (n := 0) (b := b86) (cur := #[]) rfl (by decide)) rfl hp (hH88.front 0 rfl) (app_sub (seg_sub 0 rfl) (seg_sub 2 rfl)) (one_ceC _) (by simp; omega) (by simp; omega) fun v91 s92 w94 ho93 hH95 => ?_)
                            have ho93 : Own 45 2 v91 lp.length (lp.flatMap ceC) s92 := Own.appF (a := []) ho93
                            obtain ⟨p96, c97, rfl⟩ := Sl.form (Own.sl ho93)
                            refine a_op 8 rfl (by kernel_rfl) (fun w_ h_ => o_sight (v := (.agg #[(.int .i64 noP), (.int .i64 gsnP), (.slice p96 lp.length c97)])) (fun _ => by kernel_rfl) ⟨rfl, rfl⟩) ?_
                            have hH98 : Has E w94 [[Hp.one b2 (.cells #[(.int .i64 noP), (.int .i64 gsnP), vp] 24 (0, 0))]] := (hH95.front 2 rfl).first 1 rfl
                            refine a_w 9 rfl (by kernel_rfl) hH98 (o_alloc (cs := #[(.int .i64 0), (.int .i64 0), (.slice none 0 0)]) ti24 rfl hH95 fun b99 w100 hH101 => ?_)
                            have hH102 : Has E w100 [[Hp.one b2 (.cells #[(.int .i64 noP), (.int .i64 gsnP), vp] 24 (0, 0))]] := (hH101.front 3 rfl).first 1 rfl
                            refine a_done (by kernel_rfl) hH102 ?_
                            refine r_eff 10 rfl (by kernel_rfl) (o_storeN (vs := [(.int .i64 noP), (.int .i64 gsnP), (.slice p96 lp.length c97)]) (c' := #[(.int .i64 noP), (.int .i64 gsnP), (.slice p96 lp.length c97)]) ti24 rfl rfl rfl rfl (by intro u hu; simp only [List.mem_cons, List.not_mem_nil, or_false] at hu; rcases hu with rfl | rfl | rfl <;> first | rfl | exact ho93.one) (by simp) (by kernel_rfl) (hH101.front 0 rfl) fun w103 hH104 => ?_)
                            refine Rest.done (by kernel_rfl) ?_
                            refine t_norm (hK82 _ _ ?_)
                            refine wp_seq_k fun K105 hK105 => ?_
                            refine Rest.region mixed (by kernel_rfl) ?_
                            have hH106 : Has E { w103 with drawn := w103.drawn + 1 } [[Hp.one b99 (.cells #[(.int .i64 noP), (.int .i64 gsnP), (.slice p96 lp.length c97)] 24 (0, 0))], s92, sp, [Hp.one b2 (.cells #[(.int .i64 noP), (.int .i64 gsnP), vp] 24 (0, 0))], R] := Has0.drew hH104 _
                            refine Rest.phaseA (fun w_ => Has E w_ [[Hp.one b2 (.cells #[(.int .i64 noP), (.int .i64 gsnP), vp] 24 (0, 0))], R]) 0 19 19 rfl (by decide) (by kernel_rfl) ?_
                            refine a_op 0 rfl (by kernel_rfl) (fun w_ h_ => o_loadN (cs := [(.int .i64 noP), (.int .i64 gsnP), vp]) Tryd.underlying24 rfl ti24 e47_4 h_ (seg_sub 0 rfl) (CellsAt.one rfl) ⟨rfl, rfl⟩) ?_
                            refine a_op 1 rfl (by kernel_rfl) (fun w_ h_ => o_move (v := v_keys) e47_1 ⟨rfl, rfl⟩) ?_
                            refine a_op 2 rfl (by kernel_rfl) (fun w_ h_ => o_move (v := (.int .i64 (i : Int))) e47_9 ⟨rfl, rfl⟩) ?_
                            obtain ⟨b107, o108, hc109, ho110⟩ := ix_ex1 Tryd.underlying32 ti9 h_keys (by omega) hx64
                            refine a_op 3 rfl (by kernel_rfl) (fun w_ h_ => ho110 rfl rfl ⟨rfl, rfl⟩) ?_
                            refine a_op 4 rfl (by kernel_rfl) (fun w_ h_ => o_load1 (v := (S x63)) Tryd.underlying9 rfl rfl h_ (seg_sub 1 rfl) hc109 ⟨rfl, rfl⟩) ?_
                            refine a_op 5 rfl (by kernel_rfl) (fun w_ h_ => o_move (v := v_vals) e47_2 ⟨rfl, rfl⟩) ?_
                            refine a_op 6 rfl (by kernel_rfl) (fun w_ h_ => o_move (v := (.int .i64 (i : Int))) e47_9 ⟨rfl, rfl⟩) ?_
                            obtain ⟨b111, o112, hc113, ho114⟩ := ix_exF vlC_len Tryd.underlying33 ti29 h_vals (by omega) hx72
                            refine a_op 7 rfl (by kernel_rfl) (fun w_ h_ => ho114 rfl rfl ⟨rfl, rfl⟩) ?_
                            refine a_op 8 rfl (by kernel_rfl) (fun w_ h_ => o_loadN (cs := [(.bool x71.1), (S x71.2)]) Tryd.underlying29 rfl ti29 rfl h_ (seg_sub 1 rfl) hc113 ⟨rfl, rfl⟩) ?_
                            refine a_op 9 rfl (by kernel_rfl) (fun w_ h_ => o_fieldAddr (k := 1) (fun _ => by kernel_rfl) e47_4 ⟨rfl, rfl⟩) ?_
                            refine a_op 10 rfl (by kernel_rfl) (fun w_ h_ => o_load1 (v := (.int .i64 gsnP)) Tryd.underlying3 rfl rfl h_ (seg_sub 0 rfl) (CellsAt.one rfl) ⟨rfl, rfl⟩) ?_
                            refine a_op 11 rfl (by kernel_rfl) (fun w_ h_ => o_move (v := (.int .i64 step)) e47_3 ⟨rfl, rfl⟩) ?_
                            refine a_op 12 rfl (by kernel_rfl) (fun w_ h_ => o_add (a := gsnP) (b := step) rfl rfl (w64 (by omega) (by omega)) ⟨rfl, rfl⟩) ?_
                            have hH115 : Has E { w103 with drawn := w103.drawn + 1 } [[Hp.one b2 (.cells #[(.int .i64 noP), (.int .i64 gsnP), vp] 24 (0, 0))], R] := ((hH106.front 4 rfl).front 4 rfl).first 2 rfl
                            refine a_two 13 17 (by kernel_rfl) hH115 ?_ ?_
                            · -- first operation 13
                              have hH116 : Has E { w103 with drawn := w103.drawn + 1 } [[Hp.one b2 (.cells #[(.int .i64 noP), (.int .i64 gsnP), vp] 24 (0, 0))], R] := ((hH106.front 4 rfl).front 4 rfl).first 2 rfl
                              refine ok_w 13 rfl (o_callf (vs := #[(.agg #[(.int .i64 noP), (.int .i64 gsnP), vp]), (S x63), (.agg #[(.bool x71.1), (S x71.2)]), (.int .i64 (gsnP + step))]) ca16 rfl (args4 rfl rfl rfl rfl) (pset_c (no := noP) (gsn := gsnP) (l := lp) (key := x63) (v := x71) (g := gsnP + step) hH106.all (hp.mono (app_sub (seg_sub 2 rfl) (seg_sub 4 rfl))) (by first | omega | (simp only []; omega) | (simp; done) | (simp; omega))) ?_)
                              rintro _ w122 ⟨v117, s118, rfl, ho119, hX120⟩
                              refine ⟨_, rfl, ?_⟩
                              have hH121 : Has E w122 [s118, [Hp.one b99 (.cells #[(.int .i64 noP), (.int .i64 gsnP), (.slice p96 lp.length c97)] 24 (0, 0))], s92, sp, [Hp.one b2 (.cells #[(.int .i64 noP), (.int .i64 gsnP), vp] 24 (0, 0))], R] := hX120.of_all1
                              refine a_op 14 rfl (by kernel_rfl) (fun w_ h_ => o_move (v := (.tuple #[(.agg #[(.int .i64 (setNo noP gsnP lp x63 x71 (gsnP + step))), (.int .i64 (setG noP gsnP lp x63 x71 (gsnP + step))), v117]), (.int .i64 (setE noP gsnP lp x63 x71 (gsnP + step)))])) rfl ⟨rfl, rfl⟩) ?_
                              refine a_op 15 rfl (by kernel_rfl) (fun w_ h_ => o_extract (v := (.agg #[(.int .i64 (setNo noP gsnP lp x63 x71 (gsnP + step))), (.int .i64 (setG noP gsnP lp x63 x71 (gsnP + step))), v117])) rfl rfl ⟨rfl, rfl⟩) ?_
                              refine a_op 16 rfl (by kernel_rfl) (fun w_ h_ => o_extract (v := (.int .i64 (setE noP gsnP lp x63 x71 (gsnP + step)))) rfl rfl ⟨rfl, rfl⟩) ?_
                              have hH123 : Has E w122 [[Hp.one b2 (.cells #[(.int .i64 noP), (.int .i64 gsnP), vp] 24 (0, 0))], R] := ((hH121.front 5 rfl).front 5 rfl).first 2 rfl
                              refine a_w 17 rfl (by kernel_rfl) hH123 (o_alloc (cs := #[(.int .i64 0), (.int .i64 0), (.slice none 0 0)]) ti24 rfl hH121 fun b124 w125 hH126 => ?_)
                              have hH127 : Has E w125 [[Hp.one b2 (.cells #[(.int .i64 noP), (.int .i64 gsnP), vp] 24 (0, 0))], R] := ((hH126.front 6 rfl).front 6 rfl).first 2 rfl
                              refine a_we 18 rfl (by kernel_rfl) hH127 (o_storeN (vs := [(.int .i64 (setNo noP gsnP lp x63 x71 (gsnP + step))), (.int .i64 (setG noP gsnP lp x63 x71 (gsnP + step))), v117]) (c' := #[(.int .i64 (setNo noP gsnP lp x63 x71 (gsnP + step))), (.int .i64 (setG noP gsnP lp x63 x71 (gsnP + step))), v117]) ti24 rfl rfl rfl rfl (by intro u hu; simp only [List.mem_cons, List.not_mem_nil, or_false] at hu; rcases hu with rfl | rfl | rfl <;> first | rfl | exact ho119.one) (by simp) (by kernel_rfl) (hH126.front 0 rfl) fun w128 hH129 => ?_)
                              have hH130 : Has E w128 [[Hp.one b2 (.cells #[(.int .i64 noP), (.int .i64 gsnP), vp] 24 (0, 0))], R] := ((hH129.front 6 rfl).front 6 rfl).first 2 rfl
                              refine a_done (by kernel_rfl) hH130 ?_
                              refine r_op 19 rfl (by kernel_rfl) (o_assign (v := (.int .i64 (setE noP gsnP lp x63 x71 (gsnP + step)))) rfl ?_)
                              refine Rest.done (by kernel_rfl) ?_
                              refine t_norm (hK105 _ _ ?_)
                              refine wp_seq_k fun K131 hK131 => ?_
                              refine Rest.region mixed (by kernel_rfl) ?_
                              have hH132 : Has E { w128 with drawn := w128.drawn + 1 } [[Hp.one b124 (.cells #[(.int .i64 (setNo noP gsnP lp x63 x71 (gsnP + step))), (.int .i64 (setG noP gsnP lp x63 x71 (gsnP + step))), v117] 24 (0, 0))], s118, [Hp.one b99 (.cells #[(.int .i64 noP), (.int .i64 gsnP), (.slice p96 lp.length c97)] 24 (0, 0))], s92, sp, [Hp.one b2 (.cells #[(.int .i64 noP), (.int .i64 gsnP), vp] 24 (0, 0))], R] := Has0.drew hH129 _
                              refine Rest.phaseA (fun w_ => Has E w_ [[Hp.one b99 (.cells #[(.int .i64 noP), (.int .i64 gsnP), (.slice p96 lp.length c97)] 24 (0, 0))], [Hp.one b2 (.cells #[(.int .i64 noP), (.int .i64 gsnP), vp] 24 (0, 0))], R]) 0 19 19 rfl (by decide) (by kernel_rfl) ?_
                              refine a_op 0 rfl (by kernel_rfl) (fun w_ h_ => o_loadN (cs := [(.int .i64 noP), (.int .i64 gsnP), (.slice p96 lp.length c97)]) Tryd.underlying24 rfl ti24 rfl h_ (seg_sub 0 rfl) (CellsAt.one rfl) ⟨rfl, rfl⟩) ?_
                              refine a_op 1 rfl (by kernel_rfl) (fun w_ h_ => o_move (v := v_keys) e47_1 ⟨rfl, rfl⟩) ?_
                              refine a_op 2 rfl (by kernel_rfl) (fun w_ h_ => o_move (v := (.int .i64 (i : Int))) e47_9 ⟨rfl, rfl⟩) ?_
                              obtain ⟨b133, o134, hc135, ho136⟩ := ix_ex1 Tryd.underlying32 ti9 h_keys (by omega) hx64
                              refine a_op 3 rfl (by kernel_rfl) (fun w_ h_ => ho136 rfl rfl ⟨rfl, rfl⟩) ?_
                              refine a_op 4 rfl (by kernel_rfl) (fun w_ h_ => o_load1 (v := (S x63)) Tryd.underlying9 rfl rfl h_ (seg_sub 2 rfl) hc135 ⟨rfl, rfl⟩) ?_
                              refine a_op 5 rfl (by kernel_rfl) (fun w_ h_ => o_move (v := v_vals) e47_2 ⟨rfl, rfl⟩) ?_
                              refine a_op 6 rfl (by kernel_rfl) (fun w_ h_ => o_move (v := (.int .i64 (i : Int))) e47_9 ⟨rfl, rfl⟩) ?_
                              obtain ⟨b137, o138, hc139, ho140⟩ := ix_exF vlC_len Tryd.underlying33 ti29 h_vals (by omega) hx72
                              refine a_op 7 rfl (by kernel_rfl) (fun w_ h_ => ho140 rfl rfl ⟨rfl, rfl⟩) ?_
                              refine a_op 8 rfl (by kernel_rfl) (fun w_ h_ => o_loadN (cs := [(.bool x71.1), (S x71.2)]) Tryd.underlying29 rfl ti29 rfl h_ (seg_sub 2 rfl) hc139 ⟨rfl, rfl⟩) ?_
                              refine a_op 9 rfl (by kernel_rfl) (fun w_ h_ => o_fieldAddr (k := 1) (fun _ => by kernel_rfl) e47_4 ⟨rfl, rfl⟩) ?_
                              refine a_op 10 rfl (by kernel_rfl) (fun w_ h_ => o_load1 (v := (.int .i64 gsnP)) Tryd.underlying3 rfl rfl h_ (seg_sub 1 rfl) (CellsAt.one rfl) ⟨rfl, rfl⟩) ?_
                              refine a_op 11 rfl (by kernel_rfl) (fun w_ h_ => o_move (v := (.int .i64 step)) e47_3 ⟨rfl, rfl⟩) ?_
                              refine a_op 12 rfl (by kernel_rfl) (fun w_ h_ => o_add (a := gsnP) (b := step) rfl rfl (w64 (by omega) (by omega)) ⟨rfl, rfl⟩) ?_
                              have hH141 : Has E { w128 with drawn := w128.drawn + 1 } [[Hp.one b99 (.cells #[(.int .i64 noP), (.int .i64 gsnP), (.slice p96 lp.length c97)] 24 (0, 0))], [Hp.one b2 (.cells #[(.int .i64 noP), (.int .i64 gsnP), vp] 24 (0, 0))], R] := (((hH132.front 6 rfl).front 6 rfl).front 4 rfl).first 3 rfl
                              refine a_two 13 17 (by kernel_rfl) hH141 ?_ ?_
                              · -- first operation 13
                                have hH142 : Has E { w128 with drawn := w128.drawn + 1 } [[Hp.one b99 (.cells #[(.int .i64 noP), (.int .i64 gsnP), (.slice p96 lp.length c97)] 24 (0, 0))], [Hp.one b2 (.cells #[(.int .i64 noP), (.int .i64 gsnP), vp] 24 (0, 0))], R] := (((hH132.front 6 rfl).front 6 rfl).front 4 rfl).first 3 rfl
                                refine ok_w 13 rfl (o_callf (vs := #[(.agg #[(.int .i64 noP), (.int .i64 gsnP), (.slice p96 lp.length c97)]), (S x63), (.agg #[(.bool x71.1), (S x71.2)]), (.int .i64 (gsnP + step))]) ca17 rfl (args4 rfl rfl rfl rfl) (r11set_c (no := noP) (gsn := gsnP) (l := lp) (key := x63) (v := x71) (g := gsnP + step) hH132.all (ho93.sl.mono (seg_sub 3 rfl)) (by first | omega | (simp only []; omega) | (simp; done) | (simp; omega))) ?_)
                                rintro _ w148 ⟨v143, s144, rfl, ho145, hX146⟩
                                refine ⟨_, rfl, ?_⟩
                                have hH147 : Has E w148 [s144, [Hp.one b124 (.cells #[(.int .i64 (setNo noP gsnP lp x63 x71 (gsnP + step))), (.int .i64 (setG noP gsnP lp x63 x71 (gsnP + step))), v117] 24 (0, 0))], s118, [Hp.one b99 (.cells #[(.int .i64 noP), (.int .i64 gsnP), (.slice p96 lp.length c97)] 24 (0, 0))], s92, sp, [Hp.one b2 (.cells #[(.int .i64 noP), (.int .i64 gsnP), vp] 24 (0, 0))], R] := hX146.of_all1
                                refine a_op 14 rfl (by kernel_rfl) (fun w_ h_ => o_move (v := (.tuple #[(.agg #[(.int .i64 (setNo noP gsnP lp x63 x71 (gsnP + step))), (.int .i64 (setG noP gsnP lp x63 x71 (gsnP + step))), v143]), (.int .i64 (setE noP gsnP lp x63 x71 (gsnP + step)))])) rfl ⟨rfl, rfl⟩) ?_
                                refine a_op 15 rfl (by kernel_rfl) (fun w_ h_ => o_extract (v := (.agg #[(.int .i64 (setNo noP gsnP lp x63 x71 (gsnP + step))), (.int .i64 (setG noP gsnP lp x63 x71 (gsnP + step))), v143])) rfl rfl ⟨rfl, rfl⟩) ?_
                                refine a_op 16 rfl (by kernel_rfl) (fun w_ h_ => o_extract (v := (.int .i64 (setE noP gsnP lp x63 x71 (gsnP + step)))) rfl rfl ⟨rfl, rfl⟩) ?_
                                have hH149 : Has E w148 [[Hp.one b99 (.cells #[(.int .i64 noP), (.int .i64 gsnP), (.slice p96 lp.length c97)] 24 (0, 0))], [Hp.one b2 (.cells #[(.int .i64 noP), (.int .i64 gsnP), vp] 24 (0, 0))], R] := (((hH147.front 7 rfl).front 7 rfl).front 5 rfl).first 3 rfl
                                refine a_w 17 rfl (by kernel_rfl) hH149 (o_alloc (cs := #[(.int .i64 0), (.int .i64 0), (.slice none 0 0)]) ti24 rfl hH147 fun b150 w151 hH152 => ?_)
                                have hH153 : Has E w151 [[Hp.one b99 (.cells #[(.int .i64 noP), (.int .i64 gsnP), (.slice p96 lp.length c97)] 24 (0, 0))], [Hp.one b2 (.cells #[(.int .i64 noP), (.int .i64 gsnP), vp] 24 (0, 0))], R] := (((hH152.front 8 rfl).front 8 rfl).front 6 rfl).first 3 rfl
                                refine a_we 18 rfl (by kernel_rfl) hH153 (o_storeN (vs := [(.int .i64 (setNo noP gsnP lp x63 x71 (gsnP + step))), (.int .i64 (setG noP gsnP lp x63 x71 (gsnP + step))), v143]) (c' := #[(.int .i64 (setNo noP gsnP lp x63 x71 (gsnP + step))), (.int .i64 (setG noP gsnP lp x63 x71 (gsnP + step))), v143]) ti24 rfl rfl rfl rfl (by intro u hu; simp only [List.mem_cons, List.not_mem_nil, or_false] at hu; rcases hu with rfl | rfl | rfl <;> first | rfl | exact ho145.one) (by simp) (by kernel_rfl) (hH152.front 0 rfl) fun w154 hH155 => ?_)
                                have hH156 : Has E w154 [[Hp.one b99 (.cells #[(.int .i64 noP), (.int .i64 gsnP), (.slice p96 lp.length c97)] 24 (0, 0))], [Hp.one b2 (.cells #[(.int .i64 noP), (.int .i64 gsnP), vp] 24 (0, 0))], R] := (((hH155.front 8 rfl).front 8 rfl).front 6 rfl).first 3 rfl
                                refine a_done (by kernel_rfl) hH156 ?_
                                refine r_op 19 rfl (by kernel_rfl) (o_assign (v := (.int .i64 (setE noP gsnP lp x63 x71 (gsnP + step)))) rfl ?_)
                                refine Rest.done (by kernel_rfl) ?_
                                refine t_norm (hK131 _ _ ?_)
                                refine wp_seq_k fun K157 hK157 => ?_
                                refine wp_seq_k fun K158 hK158 => ?_
                                refine c_region ?_
                                refine s_op (o_loadN (cs := [(.int .i64 (setNo noP gsnP lp x63 x71 (gsnP + step))), (.int .i64 (setG noP gsnP lp x63 x71 (gsnP + step))), v117]) Tryd.underlying24 rfl ti24 rfl hH155 (seg_sub 2 rfl) (CellsAt.one rfl) ?_)
                                refine s_op (o_loadN (cs := [(.int .i64 (setNo noP gsnP lp x63 x71 (gsnP + step))), (.int .i64 (setG noP gsnP lp x63 x71 (gsnP + step))), v143]) Tryd.underlying24 rfl ti24 rfl hH155 (seg_sub 0 rfl) (CellsAt.one rfl) ?_)
                                refine s_op (o_callf (vs := #[(.agg #[(.int .i64 (setNo noP gsnP lp x63 x71 (gsnP + step))), (.int .i64 (setG noP gsnP lp x63 x71 (gsnP + step))), v117]), (.agg #[(.int .i64 (setNo noP gsnP lp x63 x71 (gsnP + step))), (.int .i64 (setG noP gsnP lp x63 x71 (gsnP + step))), v143])]) ca13 rfl (args2 rfl rfl) (r11same_c (noa := (setNo noP gsnP lp x63 x71 (gsnP + step))) (gsna := (setG noP gsnP lp x63 x71 (gsnP + step))) (la := (setL noP gsnP lp x63 x71 (gsnP + step))) (nob := (setNo noP gsnP lp x63 x71 (gsnP + step))) (gsnb := (setG noP gsnP lp x63 x71 (gsnP + step))) (lb := (setL noP gsnP lp x63 x71 (gsnP + step))) hH155.all (ho119.sl.mono (seg_sub 3 rfl)) (ho145.sl.mono (seg_sub 1 rfl))) ?_)
                                rintro _ w161 ⟨rfl, hX159⟩
                                refine ⟨_, rfl, ?_⟩
                                have hH160 := hX159.of_all
                                refine s_op (o_not rfl ?_)
                                refine s_op (o_move (v := (.bool (!(decide ((setNo noP gsnP lp x63 x71 (gsnP + step)) = (setNo noP gsnP lp x63 x71 (gsnP + step)) ∧ (setG noP gsnP lp x63 x71 (gsnP + step)) = (setG noP gsnP lp x63 x71 (gsnP + step)) ∧ (setL noP gsnP lp x63 x71 (gsnP + step)) = (setL noP gsnP lp x63 x71 (gsnP + step))))))) rfl ?_)
                                rcases Bool.eq_false_or_eq_true (!(decide ((setNo noP gsnP lp x63 x71 (gsnP + step)) = (setNo noP gsnP lp x63 x71 (gsnP + step)) ∧ (setG noP gsnP lp x63 x71 (gsnP + step)) = (setG noP gsnP lp x63 x71 (gsnP + step)) ∧ (setL noP gsnP lp x63 x71 (gsnP + step)) = (setL noP gsnP lp x63 x71 (gsnP + step))))) with h162 | h162
                                · -- !(decide ((setNo noP gsnP lp x63 x71 (gsnP + step)) = (setNo noP gsnP lp x63 x71 (gsnP + step)) ∧ (setG noP gsnP lp x63 x71 (gsnP + step)) = (setG noP gsnP lp x63 x71 (gsnP + step)) ∧ (setL noP gsnP lp x63 x71 (gsnP + step)) = (setL noP gsnP lp x63 x71 (gsnP + step))))
                                  exact absurd h162 (by simp)
                                · -- not: !(decide ((setNo noP gsnP lp x63 x71 (gsnP + step)) = (setNo noP gsnP lp x63 x71 (gsnP + step)) ∧ (setG noP gsnP lp x63 x71 (gsnP + step)) = (setG noP gsnP lp x63 x71 (gsnP + step)) ∧ (setL noP gsnP lp x63 x71 (gsnP + step)) = (setL noP gsnP lp x63 x71 (gsnP + step))))
                                  refine s_on 124 rfl (congrArg Value.bool h162) (o_move (v := (.int .i64 (setE noP gsnP lp x63 x71 (gsnP + step)))) rfl ?_)
                                  refine s_on 124 rfl (congrArg Value.bool h162) (o_move (v := (.int .i64 (setE noP gsnP lp x63 x71 (gsnP + step)))) rfl ?_)
                                  refine s_on 124 rfl (congrArg Value.bool h162) (o_neq (a := (setE noP gsnP lp x63 x71 (gsnP + step))) (b := (setE noP gsnP lp x63 x71 (gsnP + step))) rfl rfl ?_)
                                  refine s_op (o_pick_f (u := (.bool (decide ((setE noP gsnP lp x63 x71 (gsnP + step)) ≠ (setE noP gsnP lp x63 x71 (gsnP + step)))))) ((rfl : _ = _).trans (congrArg Value.bool h162)) rfl ?_)
                                  refine s_op (o_move (v := (.bool (decide ((setE noP gsnP lp x63 x71 (gsnP + step)) ≠ (setE noP gsnP lp x63 x71 (gsnP + step)))))) rfl ?_)
                                  by_cases h163 : (setE noP gsnP lp x63 x71 (gsnP + step)) ≠ (setE noP gsnP lp x63 x71 (gsnP + step))
                                  · -- (setE noP gsnP lp x63 x71 (gsnP + step)) ≠ (setE noP gsnP lp x63 x71 (gsnP + step))
                                    exact absurd rfl h163
                                  · -- not: (setE noP gsnP lp x63 x71 (gsnP + step)) ≠ (setE noP gsnP lp x63 x71 (gsnP + step))
                                    refine s_on 129 rfl (congrArg Value.bool (decide_eq_false h163)) (o_loadN (cs := [(.int .i64 noP), (.int .i64 gsnP), vp]) Tryd.underlying24 rfl ti24 e47_4 hH160 (seg_sub 7 rfl) (CellsAt.one rfl) ?_)
                                    refine s_on 129 rfl (congrArg Value.bool (decide_eq_false h163)) (o_loadN (cs := [(.int .i64 noP), (.int .i64 gsnP), (.slice p96 lp.length c97)]) Tryd.underlying24 rfl ti24 rfl hH160 (seg_sub 4 rfl) (CellsAt.one rfl) ?_)
                                    refine s_on 129 rfl (congrArg Value.bool (decide_eq_false h163)) (o_callf (vs := #[(.agg #[(.int .i64 noP), (.int .i64 gsnP), vp]), (.agg #[(.int .i64 noP), (.int .i64 gsnP), (.slice p96 lp.length c97)])]) ca13 rfl (args2 rfl rfl) (r11same_c (noa := noP) (gsna := gsnP) (la := lp) (nob := noP) (gsnb := gsnP) (lb := lp) hH160.all (hp.mono (app_sub (seg_sub 6 rfl) (seg_sub 8 rfl))) (ho93.sl.mono (seg_sub 5 rfl))) ?_)
                                    rintro _ w166 ⟨rfl, hX164⟩
                                    refine ⟨_, rfl, ?_⟩
                                    have hH165 := hX164.of_all
                                    refine s_on 129 rfl (congrArg Value.bool (decide_eq_false h163)) (o_not rfl ?_)
                                    refine s_op (o_pick_f (u := (.bool (!(decide (noP = noP ∧ gsnP = gsnP ∧ lp = lp))))) ((rfl : _ = _).trans (congrArg Value.bool (decide_eq_false h163))) rfl ?_)
                                    refine s_nil ?_
                                    refine t_norm (hK158 _ _ ?_)
                                    refine c_condb rfl (fun h167 => ?_) (fun h167 => ?_)
                                    · -- !(decide (noP = noP ∧ gsnP = gsnP ∧ lp = lp))
                                      have h167_n : (decide (noP = noP ∧ gsnP = gsnP ∧ lp = lp)) = false := by simpa using h167
                                      exact absurd h167 (by simp)
                                    · -- not: !(decide (noP = noP ∧ gsnP = gsnP ∧ lp = lp))
                                      have h167_n : (decide (noP = noP ∧ gsnP = gsnP ∧ lp = lp)) = true := by simpa using h167
                                      refine wp_skip ?_
                                      refine t_norm (hK157 _ _ ?_)
                                      refine wp_seq_k fun K168 hK168 => ?_
                                      refine c_region ?_
                                      refine s_op (o_move (v := (.int .i64 (setE noP gsnP lp x63 x71 (gsnP + step)))) rfl ?_)
                                      refine s_op (o_eql (a := (setE noP gsnP lp x63 x71 (gsnP + step))) (b := 0) rfl rfl ?_)
                                      refine s_nil ?_
                                      refine t_norm (hK168 _ _ ?_)
                                      refine c_cond rfl (fun h169 => ?_) (fun h169 => ?_)
                                      · -- (setE noP gsnP lp x63 x71 (gsnP + step)) = 0
                                        refine c_region ?_
                                        refine s_op (o_loadN (cs := [(.int .i64 (setNo noP gsnP lp x63 x71 (gsnP + step))), (.int .i64 (setG noP gsnP lp x63 x71 (gsnP + step))), v117]) Tryd.underlying24 rfl ti24 rfl hH165 (seg_sub 2 rfl) (CellsAt.one rfl) ?_)
                                        refine s_eff (o_storeN (vs := [(.int .i64 (setNo noP gsnP lp x63 x71 (gsnP + step))), (.int .i64 (setG noP gsnP lp x63 x71 (gsnP + step))), v117]) (c' := #[(.int .i64 (setNo noP gsnP lp x63 x71 (gsnP + step))), (.int .i64 (setG noP gsnP lp x63 x71 (gsnP + step))), v117]) ti24 e47_4 rfl rfl rfl (by intro u hu; simp only [List.mem_cons, List.not_mem_nil, or_false] at hu; rcases hu with rfl | rfl | rfl <;> first | rfl | exact ho119.one) (by simp) (by kernel_rfl) (hH165.front 7 rfl) fun w170 hH171 => ?_)
                                        refine s_nil ?_
                                        refine b_norm ?_
                                        refine t_norm (hK57 _ _ ?_)
                                        refine c_region ?_
                                        refine s_op (o_move (v := (.int .i64 (i : Int))) e47_9 ?_)
                                        refine s_op (o_add (a := (i : Int)) (b := 1) rfl rfl (w64 (by omega) (by omega)) ?_)
                                        refine s_op (o_assign (v := (.int .i64 ((i : Int) + 1))) rfl ?_)
                                        refine s_nil ?_
                                        have hH172 : Has E w170 [s118, [Hp.one b2 (.cells #[(.int .i64 (setNo noP gsnP lp x63 x71 (gsnP + step))), (.int .i64 (setG noP gsnP lp x63 x71 (gsnP + step))), v117] 24 (0, 0))], R] := (((hH171.front 8 rfl).front 1 rfl).front 5 rfl).first 3 rfl
                                        refine t_norm ⟨20 - (i + 1), _, rfl, ?_, ?_⟩
                                        · omega
                                        · exact ⟨(i + 1), (setNo noP gsnP lp x63 x71 (gsnP + step)), (setG noP gsnP lp x63 x71 (gsnP + step)), v117, s118, (setL noP gsnP lp x63 x71 (gsnP + step)), rfl, hH172, ((ho119.sl.mono (fun _ h_ => List.mem_append_left _ h_))), (by omega), (by first | omega | (have h_ := setL_le noP gsnP lp; exact Nat.le_trans (h_ _ _ _) (by omega))), e47_0, e47_1, e47_2, e47_3, e47_4, rfl, e47_38⟩
                                      · -- not: (setE noP gsnP lp x63 x71 (gsnP + step)) = 0
                                        refine wp_skip ?_
                                        refine b_norm ?_
                                        refine t_norm (hK57 _ _ ?_)
                                        refine c_region ?_
                                        refine s_op (o_move (v := (.int .i64 (i : Int))) e47_9 ?_)
                                        refine s_op (o_add (a := (i : Int)) (b := 1) rfl rfl (w64 (by omega) (by omega)) ?_)
                                        refine s_op (o_assign (v := (.int .i64 ((i : Int) + 1))) rfl ?_)
                                        refine s_nil ?_
                                        have hH173 : Has E w166 [sp, [Hp.one b2 (.cells #[(.int .i64 noP), (.int .i64 gsnP), vp] 24 (0, 0))], R] := (((hH165.front 8 rfl).front 8 rfl).front 8 rfl).first 3 rfl
                                        refine t_norm ⟨20 - (i + 1), _, rfl, ?_, ?_⟩
                                        · omega
                                        · exact ⟨(i + 1), noP, gsnP, vp, sp, lp, rfl, hH173, (hp), (by omega), (by first | omega | (have h_ := setL_le noP gsnP lp; exact Nat.le_trans (h_ _ _ _) (by omega))), e47_0, e47_1, e47_2, e47_3, e47_4, rfl, e47_38⟩
                              · -- first operation 17
                                have hH174 : Has E { w128 with drawn := w128.drawn + 1 } [[Hp.one b99 (.cells #[(.int .i64 noP), (.int .i64 gsnP), (.slice p96 lp.length c97)] 24 (0, 0))], [Hp.one b2 (.cells #[(.int .i64 noP), (.int .i64 gsnP), vp] 24 (0, 0))], R] := (((hH132.front 6 rfl).front 6 rfl).front 4 rfl).first 3 rfl
                                refine ok_w 17 rfl (o_alloc (cs := #[(.int .i64 0), (.int .i64 0), (.slice none 0 0)]) ti24 rfl hH132 fun b175 w176 hH177 => ?_)
                                have hH178 : Has E w176 [[Hp.one b99 (.cells #[(.int .i64 noP), (.int .i64 gsnP), (.slice p96 lp.length c97)] 24 (0, 0))], [Hp.one b2 (.cells #[(.int .i64 noP), (.int .i64 gsnP), vp] 24 (0, 0))], R] := (((hH177.front 7 rfl).front 7 rfl).front 5 rfl).first 3 rfl
                                refine a_w 13 rfl (by kernel_rfl) hH178 (o_callf (vs := #[(.agg #[(.int .i64 noP), (.int .i64 gsnP), (.slice p96 lp.length c97)]), (S x63), (.agg #[(.bool x71.1), (S x71.2)]), (.int .i64 (gsnP + step))]) ca17 rfl (args4 rfl rfl rfl rfl) (r11set_c (no := noP) (gsn := gsnP) (l := lp) (key := x63) (v := x71) (g := gsnP + step) hH177.all (ho93.sl.mono (seg_sub 4 rfl)) (by first | omega | (simp only []; omega) | (simp; done) | (simp; omega))) ?_)
                                rintro _ w184 ⟨v179, s180, rfl, ho181, hX182⟩
                                refine ⟨_, rfl, ?_⟩
                                have hH183 : Has E w184 [s180, [Hp.one b175 (.cells #[(.int .i64 0), (.int .i64 0), (.slice none 0 0)] 24 (0, 0))], [Hp.one b124 (.cells #[(.int .i64 (setNo noP gsnP lp x63 x71 (gsnP + step))), (.int .i64 (setG noP gsnP lp x63 x71 (gsnP + step))), v117] 24 (0, 0))], s118, [Hp.one b99 (.cells #[(.int .i64 noP), (.int .i64 gsnP), (.slice p96 lp.length c97)] 24 (0, 0))], s92, sp, [Hp.one b2 (.cells #[(.int .i64 noP), (.int .i64 gsnP), vp] 24 (0, 0))], R] := hX182.of_all1
                                refine a_op 14 rfl (by kernel_rfl) (fun w_ h_ => o_move (v := (.tuple #[(.agg #[(.int .i64 (setNo noP gsnP lp x63 x71 (gsnP + step))), (.int .i64 (setG noP gsnP lp x63 x71 (gsnP + step))), v179]), (.int .i64 (setE noP gsnP lp x63 x71 (gsnP + step)))])) rfl ⟨rfl, rfl⟩) ?_
                                refine a_op 15 rfl (by kernel_rfl) (fun w_ h_ => o_extract (v := (.agg #[(.int .i64 (setNo noP gsnP lp x63 x71 (gsnP + step))), (.int .i64 (setG noP gsnP lp x63 x71 (gsnP + step))), v179])) rfl rfl ⟨rfl, rfl⟩) ?_
                                refine a_op 16 rfl (by kernel_rfl) (fun w_ h_ => o_extract (v := (.int .i64 (setE noP gsnP lp x63 x71 (gsnP + step)))) rfl rfl ⟨rfl, rfl⟩) ?_
                                have hH185 : Has E w184 [[Hp.one b99 (.cells #[(.int .i64 noP), (.int .i64 gsnP), (.slice p96 lp.length c97)] 24 (0, 0))], [Hp.one b2 (.cells #[(.int .i64 noP), (.int .i64 gsnP), vp] 24 (0, 0))], R] := (((hH183.front 8 rfl).front 8 rfl).front 6 rfl).first 3 rfl
                                refine a_we 18 rfl (by kernel_rfl) hH185 (o_storeN (vs := [(.int .i64 (setNo noP gsnP lp x63 x71 (gsnP + step))), (.int .i64 (setG noP gsnP lp x63 x71 (gsnP + step))), v179]) (c' := #[(.int .i64 (setNo noP gsnP lp x63 x71 (gsnP + step))), (.int .i64 (setG noP gsnP lp x63 x71 (gsnP + step))), v179]) ti24 rfl rfl rfl rfl (by intro u hu; simp only [List.mem_cons, List.not_mem_nil, or_false] at hu; rcases hu with rfl | rfl | rfl <;> first | rfl | exact ho181.one) (by simp) (by kernel_rfl) (hH183.front 1 rfl) fun w186 hH187 => ?_)
                                have hH188 : Has E w186 [[Hp.one b99 (.cells #[(.int .i64 noP), (.int .i64 gsnP), (.slice p96 lp.length c97)] 24 (0, 0))], [Hp.one b2 (.cells #[(.int .i64 noP), (.int .i64 gsnP), vp] 24 (0, 0))], R] := (((hH187.front 8 rfl).front 8 rfl).front 6 rfl).first 3 rfl
                                refine a_done (by kernel_rfl) hH188 ?_
                                refine r_op 19 rfl (by kernel_rfl) (o_assign (v := (.int .i64 (setE noP gsnP lp x63 x71 (gsnP + step)))) rfl ?_)
                                refine Rest.done (by kernel_rfl) ?_
                                refine t_norm (hK131 _ _ ?_)
                                refine wp_seq_k fun K189 hK189 => ?_
                                refine wp_seq_k fun K190 hK190 => ?_
                                refine c_region ?_
                                refine s_op (o_loadN (cs := [(.int .i64 (setNo noP gsnP lp x63 x71 (gsnP + step))), (.int .i64 (setG noP gsnP lp x63 x71 (gsnP + step))), v117]) Tryd.underlying24 rfl ti24 rfl hH187 (seg_sub 2 rfl) (CellsAt.one rfl) ?_)
                                refine s_op (o_loadN (cs := [(.int .i64 (setNo noP gsnP lp x63 x71 (gsnP + step))), (.int .i64 (setG noP gsnP lp x63 x71 (gsnP + step))), v179]) Tryd.underlying24 rfl ti24 rfl hH187 (seg_sub 0 rfl) (CellsAt.one rfl) ?_)
                                refine s_op (o_callf (vs := #[(.agg #[(.int .i64 (setNo noP gsnP lp x63 x71 (gsnP + step))), (.int .i64 (setG noP gsnP lp x63 x71 (gsnP + step))), v117]), (.agg #[(.int .i64 (setNo noP gsnP lp x63 x71 (gsnP + step))), (.int .i64 (setG noP gsnP lp x63 x71 (gsnP + step))), v179])]) ca13 rfl (args2 rfl rfl) (r11same_c (noa := (setNo noP gsnP lp x63 x71 (gsnP + step))) (gsna := (setG noP gsnP lp x63 x71 (gsnP + step))) (la := (setL noP gsnP lp x63 x71 (gsnP + step))) (nob := (setNo noP gsnP lp x63 x71 (gsnP + step))) (gsnb := (setG noP gsnP lp x63 x71 (gsnP + step))) (lb := (setL noP gsnP lp x63 x71 (gsnP + step))) hH187.all (ho119.sl.mono (seg_sub 3 rfl)) (ho181.sl.mono (seg_sub 1 rfl))) ?_)
                                rintro _ w193 ⟨rfl, hX191⟩
                                refine ⟨_, rfl, ?_⟩
                                have hH192 := hX191.of_all
                                refine s_op (o_not rfl ?_)
                                refine s_op (o_move (v := (.bool (!(decide ((setNo noP gsnP lp x63 x71 (gsnP + step)) = (setNo noP gsnP lp x63 x71 (gsnP + step)) ∧ (setG noP gsnP lp x63 x71 (gsnP + step)) = (setG noP gsnP lp x63 x71 (gsnP + step)) ∧ (setL noP gsnP lp x63 x71 (gsnP + step)) = (setL noP gsnP lp x63 x71 (gsnP + step))))))) rfl ?_)
                                rcases Bool.eq_false_or_eq_true (!(decide ((setNo noP gsnP lp x63 x71 (gsnP + step)) = (setNo noP gsnP lp x63 x71 (gsnP + step)) ∧ (setG noP gsnP lp x63 x71 (gsnP + step)) = (setG noP gsnP lp x63 x71 (gsnP + step)) ∧ (setL noP gsnP lp x63 x71 (gsnP + step)) = (setL noP gsnP lp x63 x71 (gsnP + step))))) with h194 | h194
                                · -- !(decide ((setNo noP gsnP lp x63 x71 (gsnP + step)) = (setNo noP gsnP lp x63 x71 (gsnP + step)) ∧ (setG noP gsnP lp x63 x71 (gsnP + step)) = (setG noP gsnP lp x63 x71 (gsnP + step)) ∧ (setL noP gsnP lp x63 x71 (gsnP + step)) = (setL noP gsnP lp x63 x71 (gsnP + step))))
                                  exact absurd h194 (by simp)
                                · -- not: !(decide ((setNo noP gsnP lp x63 x71 (gsnP + step)) = (setNo noP gsnP lp x63 x71 (gsnP + step)) ∧ (setG noP gsnP lp x63 x71 (gsnP + step)) = (setG noP gsnP lp x63 x71 (gsnP + step)) ∧ (setL noP gsnP lp x63 x71 (gsnP + step)) = (setL noP gsnP lp x63 x71 (gsnP + step))))
                                  refine s_on 124 rfl (congrArg Value.bool h194) (o_move (v := (.int .i64 (setE noP gsnP lp x63 x71 (gsnP + step)))) rfl ?_)
                                  refine s_on 124 rfl (congrArg Value.bool h194) (o_move (v := (.int .i64 (setE noP gsnP lp x63 x71 (gsnP + step)))) rfl ?_)
                                  refine s_on 124 rfl (congrArg Value.bool h194) (o_neq (a := (setE noP gsnP lp x63 x71 (gsnP + step))) (b := (setE noP gsnP lp x63 x71 (gsnP + step))) rfl rfl ?_)
                                  refine s_op (o_pick_f (u := (.bool (decide ((setE noP gsnP lp x63 x71 (gsnP + step)) ≠ (setE noP gsnP lp x63 x71 (gsnP + step)))))) ((rfl : _ = _).trans (congrArg Value.bool h194)) rfl ?_)
                                  refine s_op (o_move (v := (.bool (decide ((setE noP gsnP lp x63 x71 (gsnP + step)) ≠ (setE noP gsnP lp x63 x71 (gsnP + step)))))) rfl ?_)
                                  by_cases h195 : (setE noP gsnP lp x63 x71 (gsnP + step)) ≠ (setE noP gsnP lp x63 x71 (gsnP + step))
                                  · -- (setE noP gsnP lp x63 x71 (gsnP + step)) ≠ (setE noP gsnP lp x63 x71 (gsnP + step))
                                    exact absurd rfl h195
                                  · -- not: (setE noP gsnP lp x63 x71 (gsnP + step)) ≠ (setE noP gsnP lp x63 x71 (gsnP + step))
                                    refine s_on 129 rfl (congrArg Value.bool (decide_eq_false h195)) (o_loadN (cs := [(.int .i64 noP), (.int .i64 gsnP), vp]) Tryd.underlying24 rfl ti24 e47_4 hH192 (seg_sub 7 rfl) (CellsAt.one rfl) ?_)
                                    refine s_on 129 rfl (congrArg Value.bool (decide_eq_false h195)) (o_loadN (cs := [(.int .i64 noP), (.int .i64 gsnP), (.slice p96 lp.length c97)]) Tryd.underlying24 rfl ti24 rfl hH192 (seg_sub 4 rfl) (CellsAt.one rfl) ?_)
                                    refine s_on 129 rfl (congrArg Value.bool (decide_eq_false h195)) (o_callf (vs := #[(.agg #[(.int .i64 noP), (.int .i64 gsnP), vp]), (.agg #[(.int .i64 noP), (.int .i64 gsnP), (.slice p96 lp.length c97)])]) ca13 rfl (args2 rfl rfl) (r11same_c (noa := noP) (gsna := gsnP) (la := lp) (nob := noP) (gsnb := gsnP) (lb := lp) hH192.all (hp.mono (app_sub (seg_sub 6 rfl) (seg_sub 8 rfl))) (ho93.sl.mono (seg_sub 5 rfl))) ?_)
                                    rintro _ w198 ⟨rfl, hX196⟩
                                    refine ⟨_, rfl, ?_⟩
                                    have hH197 := hX196.of_all
                                    refine s_on 129 rfl (congrArg Value.bool (decide_eq_false h195)) (o_not rfl ?_)
                                    refine s_op (o_pick_f (u := (.bool (!(decide (noP = noP ∧ gsnP = gsnP ∧ lp = lp))))) ((rfl : _ = _).trans (congrArg Value.bool (decide_eq_false h195))) rfl ?_)
                                    refine s_nil ?_
                                    refine t_norm (hK190 _ _ ?_)
                                    refine c_condb rfl (fun h199 => ?_) (fun h199 => ?_)
                                    · -- !(decide (noP = noP ∧ gsnP = gsnP ∧ lp = lp))
                                      have h199_n : (decide (noP = noP ∧ gsnP = gsnP ∧ lp = lp)) = false := by simpa using h199
                                      exact absurd h199 (by simp)
                                    · -- not: !(decide (noP = noP ∧ gsnP = gsnP ∧ lp = lp))
                                      have h199_n : (decide (noP = noP ∧ gsnP = gsnP ∧ lp = lp)) = true := by simpa using h199
                                      refine wp_skip ?_
                                      refine t_norm (hK189 _ _ ?_)
                                      refine wp_seq_k fun K200 hK200 => ?_
                                      refine c_region ?_
                                      refine s_op (o_move (v := (.int .i64 (setE noP gsnP lp x63 x71 (gsnP + step)))) rfl ?_)
                                      refine s_op (o_eql (a := (setE noP gsnP lp x63 x71 (gsnP + step))) (b := 0) rfl rfl ?_)
                                      refine s_nil ?_
                                      refine t_norm (hK200 _ _ ?_)
                                      refine c_cond rfl (fun h201 => ?_) (fun h201 => ?_)
                                      · -- (setE noP gsnP lp x63 x71 (gsnP + step)) = 0
                                        refine c_region ?_
                                        refine s_op (o_loadN (cs := [(.int .i64 (setNo noP gsnP lp x63 x71 (gsnP + step))), (.int .i64 (setG noP gsnP lp x63 x71 (gsnP + step))), v117]) Tryd.underlying24 rfl ti24 rfl hH197 (seg_sub 2 rfl) (CellsAt.one rfl) ?_)
                                        refine s_eff (o_storeN (vs := [(.int .i64 (setNo noP gsnP lp x63 x71 (gsnP + step))), (.int .i64 (setG noP gsnP lp x63 x71 (gsnP + step))), v117]) (c' := #[(.int .i64 (setNo noP gsnP lp x63 x71 (gsnP + step))), (.int .i64 (setG noP gsnP lp x63 x71 (gsnP + step))), v117]) ti24 e47_4 rfl rfl rfl (by intro u hu; simp only [List.mem_cons, List.not_mem_nil, or_false] at hu; rcases hu with rfl | rfl | rfl <;> first | rfl | exact ho119.one) (by simp) (by kernel_rfl) (hH197.front 7 rfl) fun w202 hH203 => ?_)
                                        refine s_nil ?_
                                        refine b_norm ?_
                                        refine t_norm (hK57 _ _ ?_)
                                        refine c_region ?_
                                        refine s_op (o_move (v := (.int .i64 (i : Int))) e47_9 ?_)
                                        refine s_op (o_add (a := (i : Int)) (b := 1) rfl rfl (w64 (by omega) (by omega)) ?_)
                                        refine s_op (o_assign (v := (.int .i64 ((i : Int) + 1))) rfl ?_)
                                        refine s_nil ?_
                                        have hH204 : Has E w202 [s118, [Hp.one b2 (.cells #[(.int .i64 (setNo noP gsnP lp x63 x71 (gsnP + step))), (.int .i64 (setG noP gsnP lp x63 x71 (gsnP + step))), v117] 24 (0, 0))], R] := (((hH203.front 8 rfl).front 1 rfl).front 5 rfl).first 3 rfl
                                        refine t_norm ⟨20 - (i + 1), _, rfl, ?_, ?_⟩
                                        · omega
                                        · exact ⟨(i + 1), (setNo noP gsnP lp x63 x71 (gsnP + step)), (setG noP gsnP lp x63 x71 (gsnP + step)), v117, s118, (setL noP gsnP lp x63 x71 (gsnP + step)), rfl, hH204, ((ho119.sl.mono (fun _ h_ => List.mem_append_left _ h_))), (by omega), (by first | omega | (have h_ := setL_le noP gsnP lp; exact Nat.le_trans (h_ _ _ _) (by omega))), e47_0, e47_1, e47_2, e47_3, e47_4, rfl, e47_38⟩
                                      · -- not: (setE noP gsnP lp x63 x71 (gsnP + step)) = 0
                                        refine wp_skip ?_
                                        refine b_norm ?_
                                        refine t_norm (hK57 _ _ ?_)
                                        refine c_region ?_
                                        refine s_op (o_move (v := (.int .i64 (i : Int))) e47_9 ?_)
                                        refine s_op (o_add (a := (i : Int)) (b := 1) rfl rfl (w64 (by omega) (by omega)) ?_)
                                        refine s_op (o_assign (v := (.int .i64 ((i : Int) + 1))) rfl ?_)
                                        refine s_nil ?_
                                        have hH205 : Has E w198 [sp, [Hp.one b2 (.cells #[(.int .i64 noP), (.int .i64 gsnP), vp] 24 (0, 0))], R] := (((hH197.front 8 rfl).front 8 rfl).front 8 rfl).first 3 rfl
                                        refine t_norm ⟨20 - (i + 1), _, rfl, ?_, ?_⟩
                                        · omega
                                        · exact ⟨(i + 1), noP, gsnP, vp, sp, lp, rfl, hH205, (hp), (by omega), (by first | omega | (have h_ := setL_le noP gsnP lp; exact Nat.le_trans (h_ _ _ _) (by omega))), e47_0, e47_1, e47_2, e47_3, e47_4, rfl, e47_38⟩
                            · -- first operation 17
                              have hH206 : Has E { w103 with drawn := w103.drawn + 1 } [[Hp.one b2 (.cells #[(.int .i64 noP), (.int .i64 gsnP), vp] 24 (0, 0))], R] := ((hH106.front 4 rfl).front 4 rfl).first 2 rfl
                              refine ok_w 17 rfl (o_alloc (cs := #[(.int .i64 0), (.int .i64 0), (.slice none 0 0)]) ti24 rfl hH106 fun b207 w208 hH209 => ?_)
                              have hH210 : Has E w208 [[Hp.one b2 (.cells #[(.int .i64 noP), (.int .i64 gsnP), vp] 24 (0, 0))], R] := ((hH209.front 5 rfl).front 5 rfl).first 2 rfl
                              refine a_w 13 rfl (by kernel_rfl) hH210 (o_callf (vs := #[(.agg #[(.int .i64 noP), (.int .i64 gsnP), vp]), (S x63), (.agg #[(.bool x71.1), (S x71.2)]), (.int .i64 (gsnP + step))]) ca16 rfl (args4 rfl rfl rfl rfl) (pset_c (no := noP) (gsn := gsnP) (l := lp) (key := x63) (v := x71) (g := gsnP + step) hH209.all (hp.mono (app_sub (seg_sub 3 rfl) (seg_sub 5 rfl))) (by first | omega | (simp only []; omega) | (simp; done) | (simp; omega))) ?_)
                              rintro _ w216 ⟨v211, s212, rfl, ho213, hX214⟩
                              refine ⟨_, rfl, ?_⟩
                              have hH215 : Has E w216 [s212, [Hp.one b207 (.cells #[(.int .i64 0), (.int .i64 0), (.slice none 0 0)] 24 (0, 0))], [Hp.one b99 (.cells #[(.int .i64 noP), (.int .i64 gsnP), (.slice p96 lp.length c97)] 24 (0, 0))], s92, sp, [Hp.one b2 (.cells #[(.int .i64 noP), (.int .i64 gsnP), vp] 24 (0, 0))], R] := hX214.of_all1
                              refine a_op 14 rfl (by kernel_rfl) (fun w_ h_ => o_move (v := (.tuple #[(.agg #[(.int .i64 (setNo noP gsnP lp x63 x71 (gsnP + step))), (.int .i64 (setG noP gsnP lp x63 x71 (gsnP + step))), v211]), (.int .i64 (setE noP gsnP lp x63 x71 (gsnP + step)))])) rfl ⟨rfl, rfl⟩) ?_
                              refine a_op 15 rfl (by kernel_rfl) (fun w_ h_ => o_extract (v := (.agg #[(.int .i64 (setNo noP gsnP lp x63 x71 (gsnP + step))), (.int .i64 (setG noP gsnP lp x63 x71 (gsnP + step))), v211])) rfl rfl ⟨rfl, rfl⟩) ?_
                              refine a_op 16 rfl (by kernel_rfl) (fun w_ h_ => o_extract (v := (.int .i64 (setE noP gsnP lp x63 x71 (gsnP + step)))) rfl rfl ⟨rfl, rfl⟩) ?_
                              have hH217 : Has E w216 [[Hp.one b2 (.cells #[(.int .i64 noP), (.int .i64 gsnP), vp] 24 (0, 0))], R] := ((hH215.front 6 rfl).front 6 rfl).first 2 rfl
                              refine a_we 18 rfl (by kernel_rfl) hH217 (o_storeN (vs := [(.int .i64 (setNo noP gsnP lp x63 x71 (gsnP + step))), (.int .i64 (setG noP gsnP lp x63 x71 (gsnP + step))), v211]) (c' := #[(.int .i64 (setNo noP gsnP lp x63 x71 (gsnP + step))), (.int .i64 (setG noP gsnP lp x63 x71 (gsnP + step))), v211]) ti24 rfl rfl rfl rfl (by intro u hu; simp only [List.mem_cons, List.not_mem_nil, or_false] at hu; rcases hu with rfl | rfl | rfl <;> first | rfl | exact ho213.one) (by simp) (by kernel_rfl) (hH215.front 1 rfl) fun w218 hH219 => ?_)
                              have hH220 : Has E w218 [[Hp.one b2 (.cells #[(.int .i64 noP), (.int .i64 gsnP), vp] 24 (0, 0))], R] := ((hH219.front 6 rfl).front 6 rfl).first 2 rfl
                              refine a_done (by kernel_rfl) hH220 ?_
                              refine r_op 19 rfl (by kernel_rfl) (o_assign (v := (.int .i64 (setE noP gsnP lp x63 x71 (gsnP + step)))) rfl ?_)
                              refine Rest.done (by kernel_rfl) ?_
                              refine t_norm (hK105 _ _ ?_)
                              refine wp_seq_k fun K221 hK221 => ?_
                              refine Rest.region mixed (by kernel_rfl) ?_
                              have hH222 : Has E { w218 with drawn := w218.drawn + 1 } [[Hp.one b207 (.cells #[(.int .i64 (setNo noP gsnP lp x63 x71 (gsnP + step))), (.int .i64 (setG noP gsnP lp x63 x71 (gsnP + step))), v211] 24 (0, 0))], s212, [Hp.one b99 (.cells #[(.int .i64 noP), (.int .i64 gsnP), (.slice p96 lp.length c97)] 24 (0, 0))], s92, sp, [Hp.one b2 (.cells #[(.int .i64 noP), (.int .i64 gsnP), vp] 24 (0, 0))], R] := Has0.drew hH219 _
                              refine Rest.phaseA (fun w_ => Has E w_ [[Hp.one b99 (.cells #[(.int .i64 noP), (.int .i64 gsnP), (.slice p96 lp.length c97)] 24 (0, 0))], [Hp.one b2 (.cells #[(.int .i64 noP), (.int .i64 gsnP), vp] 24 (0, 0))], R]) 0 19 19 rfl (by decide) (by kernel_rfl) ?_
                              refine a_op 0 rfl (by kernel_rfl) (fun w_ h_ => o_loadN (cs := [(.int .i64 noP), (.int .i64 gsnP), (.slice p96 lp.length c97)]) Tryd.underlying24 rfl ti24 rfl h_ (seg_sub 0 rfl) (CellsAt.one rfl) ⟨rfl, rfl⟩) ?_
                              refine a_op 1 rfl (by kernel_rfl) (fun w_ h_ => o_move (v := v_keys) e47_1 ⟨rfl, rfl⟩) ?_
                              refine a_op 2 rfl (by kernel_rfl) (fun w_ h_ => o_move (v := (.int .i64 (i : Int))) e47_9 ⟨rfl, rfl⟩) ?_
                              obtain ⟨b223, o224, hc225, ho226⟩ := ix_ex1 Tryd.underlying32 ti9 h_keys (by omega) hx64
                              refine a_op 3 rfl (by kernel_rfl) (fun w_ h_ => ho226 rfl rfl ⟨rfl, rfl⟩) ?_
                              refine a_op 4 rfl (by kernel_rfl) (fun w_ h_ => o_load1 (v := (S x63)) Tryd.underlying9 rfl rfl h_ (seg_sub 2 rfl) hc225 ⟨rfl, rfl⟩) ?_
                              refine a_op 5 rfl (by kernel_rfl) (fun w_ h_ => o_move (v := v_vals) e47_2 ⟨rfl, rfl⟩) ?_
                              refine a_op 6 rfl (by kernel_rfl) (fun w_ h_ => o_move (v := (.int .i64 (i : Int))) e47_9 ⟨rfl, rfl⟩) ?_
                              obtain ⟨b227, o228, hc229, ho230⟩ := ix_exF vlC_len Tryd.underlying33 ti29 h_vals (by omega) hx72
                              refine a_op 7 rfl (by kernel_rfl) (fun w_ h_ => ho230 rfl rfl ⟨rfl, rfl⟩) ?_
                              refine a_op 8 rfl (by kernel_rfl) (fun w_ h_ => o_loadN (cs := [(.bool x71.1), (S x71.2)]) Tryd.underlying29 rfl ti29 rfl h_ (seg_sub 2 rfl) hc229 ⟨rfl, rfl⟩) ?_
                              refine a_op 9 rfl (by kernel_rfl) (fun w_ h_ => o_fieldAddr (k := 1) (fun _ => by kernel_rfl) e47_4 ⟨rfl, rfl⟩) ?_
                              refine a_op 10 rfl (by kernel_rfl) (fun w_ h_ => o_load1 (v := (.int .i64 gsnP)) Tryd.underlying3 rfl rfl h_ (seg_sub 1 rfl) (CellsAt.one rfl) ⟨rfl, rfl⟩) ?_
                              refine a_op 11 rfl (by kernel_rfl) (fun w_ h_ => o_move (v := (.int .i64 step)) e47_3 ⟨rfl, rfl⟩) ?_
                              refine a_op 12 rfl (by kernel_rfl) (fun w_ h_ => o_add (a := gsnP) (b := step) rfl rfl (w64 (by omega) (by omega)) ⟨rfl, rfl⟩) ?_
                              have hH231 : Has E { w218 with drawn := w218.drawn + 1 } [[Hp.one b99 (.cells #[(.int .i64 noP), (.int .i64 gsnP), (.slice p96 lp.length c97)] 24 (0, 0))], [Hp.one b2 (.cells #[(.int .i64 noP), (.int .i64 gsnP), vp] 24 (0, 0))], R] := (((hH222.front 6 rfl).front 6 rfl).front 4 rfl).first 3 rfl
                              refine a_two 13 17 (by kernel_rfl) hH231 ?_ ?_
                              · -- first operation 13
                                have hH232 : Has E { w218 with drawn := w218.drawn + 1 } [[Hp.one b99 (.cells #[(.int .i64 noP), (.int .i64 gsnP), (.slice p96 lp.length c97)] 24 (0, 0))], [Hp.one b2 (.cells #[(.int .i64 noP), (.int .i64 gsnP), vp] 24 (0, 0))], R] := (((hH222.front 6 rfl).front 6 rfl).front 4 rfl).first 3 rfl
                                refine ok_w 13 rfl (o_callf (vs := #[(.agg #[(.int .i64 noP), (.int .i64 gsnP), (.slice p96 lp.length c97)]), (S x63), (.agg #[(.bool x71.1), (S x71.2)]), (.int .i64 (gsnP + step))]) ca17 rfl (args4 rfl rfl rfl rfl) (r11set_c (no := noP) (gsn := gsnP) (l := lp) (key := x63) (v := x71) (g := gsnP + step) hH222.all (ho93.sl.mono (seg_sub 3 rfl)) (by first | omega | (simp only []; omega) | (simp; done) | (simp; omega))) ?_)
                                rintro _ w238 ⟨v233, s234, rfl, ho235, hX236⟩
                                refine ⟨_, rfl, ?_⟩
                                have hH237 : Has E w238 [s234, [Hp.one b207 (.cells #[(.int .i64 (setNo noP gsnP lp x63 x71 (gsnP + step))), (.int .i64 (setG noP gsnP lp x63 x71 (gsnP + step))), v211] 24 (0, 0))], s212, [Hp.one b99 (.cells #[(.int .i64 noP), (.int .i64 gsnP), (.slice p96 lp.length c97)] 24 (0, 0))], s92, sp, [Hp.one b2 (.cells #[(.int .i64 noP), (.int .i64 gsnP), vp] 24 (0, 0))], R] := hX236.of_all1
                                refine a_op 14 rfl (by kernel_rfl) (fun w_ h_ => o_move (v := (.tuple #[(.agg #[(.int .i64 (setNo noP gsnP lp x63 x71 (gsnP + step))), (.int .i64 (setG noP gsnP lp x63 x71 (gsnP + step))), v233]), (.int .i64 (setE noP gsnP lp x63 x71 (gsnP + step)))])) rfl ⟨rfl, rfl⟩) ?_
                                refine a_op 15 rfl (by kernel_rfl) (fun w_ h_ => o_extract (v := (.agg #[(.int .i64 (setNo noP gsnP lp x63 x71 (gsnP + step))), (.int .i64 (setG noP gsnP lp x63 x71 (gsnP + step))), v233])) rfl rfl ⟨rfl, rfl⟩) ?_
                                refine a_op 16 rfl (by kernel_rfl) (fun w_ h_ => o_extract (v := (.int .i64 (setE noP gsnP lp x63 x71 (gsnP + step)))) rfl rfl ⟨rfl, rfl⟩) ?_
                                have hH239 : Has E w238 [[Hp.one b99 (.cells #[(.int .i64 noP), (.int .i64 gsnP), (.slice p96 lp.length c97)] 24 (0, 0))], [Hp.one b2 (.cells #[(.int .i64 noP), (.int .i64 gsnP), vp] 24 (0, 0))], R] := (((hH237.front 7 rfl).front 7 rfl).front 5 rfl).first 3 rfl
                                refine a_w 17 rfl (by kernel_rfl) hH239 (o_alloc (cs := #[(.int .i64 0), (.int .i64 0), (.slice none 0 0)]) ti24 rfl hH237 fun b240 w241 hH242 => ?_)
                                have hH243 : Has E w241 [[Hp.one b99 (.cells #[(.int .i64 noP), (.int .i64 gsnP), (.slice p96 lp.length c97)] 24 (0, 0))], [Hp.one b2 (.cells #[(.int .i64 noP), (.int .i64 gsnP), vp] 24 (0, 0))], R] := (((hH242.front 8 rfl).front 8 rfl).front 6 rfl).first 3 rfl
                                refine a_we 18 rfl (by kernel_rfl) hH243 (o_storeN (vs := [(.int .i64 (setNo noP gsnP lp x63 x71 (gsnP + step))), (.int .i64 (setG noP gsnP lp x63 x71 (gsnP + step))), v233]) (c' := #[(.int .i64 (setNo noP gsnP lp x63 x71 (gsnP + step))), (.int .i64 (setG noP gsnP lp x63 x71 (gsnP + step))), v233]) ti24 rfl rfl rfl rfl (by intro u hu; simp only [List.mem_cons, List.not_mem_nil, or_false] at hu; rcases hu with rfl | rfl | rfl <;> first | rfl | exact ho235.one) (by simp) (by kernel_rfl) (hH242.front 0 rfl) fun w244 hH245 => ?_)
                                have hH246 : Has E w244 [[Hp.one b99 (.cells #[(.int .i64 noP), (.int .i64 gsnP), (.slice p96 lp.length c97)] 24 (0, 0))], [Hp.one b2 (.cells #[(.int .i64 noP), (.int .i64 gsnP), vp] 24 (0, 0))], R] := (((hH245.front 8 rfl).front 8 rfl).front 6 rfl).first 3 rfl
                                refine a_done (by kernel_rfl) hH246 ?_
                                refine r_op 19 rfl (by kernel_rfl) (o_assign (v := (.int .i64 (setE noP gsnP lp x63 x71 (gsnP + step)))) rfl ?_)
                                refine Rest.done (by kernel_rfl) ?_
                                refine t_norm (hK221 _ _ ?_)
                                refine wp_seq_k fun K247 hK247 => ?_
                                refine wp_seq_k fun K248 hK248 => ?_
                                refine c_region ?_
                                refine s_op (o_loadN (cs := [(.int .i64 (setNo noP gsnP lp x63 x71 (gsnP + step))), (.int .i64 (setG noP gsnP lp x63 x71 (gsnP + step))), v211]) Tryd.underlying24 rfl ti24 rfl hH245 (seg_sub 2 rfl) (CellsAt.one rfl) ?_)
                                refine s_op (o_loadN (cs := [(.int .i64 (setNo noP gsnP lp x63 x71 (gsnP + step))), (.int .i64 (setG noP gsnP lp x63 x71 (gsnP + step))), v233]) Tryd.underlying24 rfl ti24 rfl hH245 (seg_sub 0 rfl) (CellsAt.one rfl) ?_)
                                refine s_op (o_callf (vs := #[(.agg #[(.int .i64 (setNo noP gsnP lp x63 x71 (gsnP + step))), (.int .i64 (setG noP gsnP lp x63 x71 (gsnP + step))), v211]), (.agg #[(.int .i64 (setNo noP gsnP lp x63 x71 (gsnP + step))), (.int .i64 (setG noP gsnP lp x63 x71 (gsnP + step))), v233])]) ca13 rfl (args2 rfl rfl) (r11same_c (noa := (setNo noP gsnP lp x63 x71 (gsnP + step))) (gsna := (setG noP gsnP lp x63 x71 (gsnP + step))) (la := (setL noP gsnP lp x63 x71 (gsnP + step))) (nob := (setNo noP gsnP lp x63 x71 (gsnP + step))) (gsnb := (setG noP gsnP lp x63 x71 (gsnP + step))) (lb := (setL noP gsnP lp x63 x71 (gsnP + step))) hH245.all (ho213.sl.mono (seg_sub 3 rfl)) (ho235.sl.mono (seg_sub 1 rfl))) ?_)
                                rintro _ w251 ⟨rfl, hX249⟩
                                refine ⟨_, rfl, ?_⟩
                                have hH250 := hX249.of_all
                                refine s_op (o_not rfl ?_)
                                refine s_op (o_move (v := (.bool (!(decide ((setNo noP gsnP lp x63 x71 (gsnP + step)) = (setNo noP gsnP lp x63 x71 (gsnP + step)) ∧ (setG noP gsnP lp x63 x71 (gsnP + step)) = (setG noP gsnP lp x63 x71 (gsnP + step)) ∧ (setL noP gsnP lp x63 x71 (gsnP + step)) = (setL noP gsnP lp x63 x71 (gsnP + step))))))) rfl ?_)
                                rcases Bool.eq_false_or_eq_true (!(decide ((setNo noP gsnP lp x63 x71 (gsnP + step)) = (setNo noP gsnP lp x63 x71 (gsnP + step)) ∧ (setG noP gsnP lp x63 x71 (gsnP + step)) = (setG noP gsnP lp x63 x71 (gsnP + step)) ∧ (setL noP gsnP lp x63 x71 (gsnP + step)) = (setL noP gsnP lp x63 x71 (gsnP + step))))) with h252 | h252
                                · -- !(decide ((setNo noP gsnP lp x63 x71 (gsnP + step)) = (setNo noP gsnP lp x63 x71 (gsnP + step)) ∧ (setG noP gsnP lp x63 x71 (gsnP + step)) = (setG noP gsnP lp x63 x71 (gsnP + step)) ∧ (setL noP gsnP lp x63 x71 (gsnP + step)) = (setL noP gsnP lp x63 x71 (gsnP + step))))
                                  exact absurd h252 (by simp)
                                · -- not: !(decide ((setNo noP gsnP lp x63 x71 (gsnP + step)) = (setNo noP gsnP lp x63 x71 (gsnP + step)) ∧ (setG noP gsnP lp x63 x71 (gsnP + step)) = (setG noP gsnP lp x63 x71 (gsnP + step)) ∧ (setL noP gsnP lp x63 x71 (gsnP + step)) = (setL noP gsnP lp x63 x71 (gsnP + step))))
                                  refine s_on 124 rfl (congrArg Value.bool h252) (o_move (v := (.int .i64 (setE noP gsnP lp x63 x71 (gsnP + step)))) rfl ?_)
                                  refine s_on 124 rfl (congrArg Value.bool h252) (o_move (v := (.int .i64 (setE noP gsnP lp x63 x71 (gsnP + step)))) rfl ?_)
                                  refine s_on 124 rfl (congrArg Value.bool h252) (o_neq (a := (setE noP gsnP lp x63 x71 (gsnP + step))) (b := (setE noP gsnP lp x63 x71 (gsnP + step))) rfl rfl ?_)
                                  refine s_op (o_pick_f (u := (.bool (decide ((setE noP gsnP lp x63 x71 (gsnP + step)) ≠ (setE noP gsnP lp x63 x71 (gsnP + step)))))) ((rfl : _ = _).trans (congrArg Value.bool h252)) rfl ?_)
                                  refine s_op (o_move (v := (.bool (decide ((setE noP gsnP lp x63 x71 (gsnP + step)) ≠ (setE noP gsnP lp x63 x71 (gsnP + step)))))) rfl ?_)
                                  by_cases h253 : (setE noP gsnP lp x63 x71 (gsnP + step)) ≠ (setE noP gsnP lp x63 x71 (gsnP + step))
                                  · -- (setE noP gsnP lp x63 x71 (gsnP + step)) ≠ (setE noP gsnP lp x63 x71 (gsnP + step))
                                    exact absurd rfl h253
                                  · -- not: (setE noP gsnP lp x63 x71 (gsnP + step)) ≠ (setE noP gsnP lp x63 x71 (gsnP + step))
                                    refine s_on 129 rfl (congrArg Value.bool (decide_eq_false h253)) (o_loadN (cs := [(.int .i64 noP), (.int .i64 gsnP), vp]) Tryd.underlying24 rfl ti24 e47_4 hH250 (seg_sub 7 rfl) (CellsAt.one rfl) ?_)
                                    refine s_on 129 rfl (congrArg Value.bool (decide_eq_false h253)) (o_loadN (cs := [(.int .i64 noP), (.int .i64 gsnP), (.slice p96 lp.length c97)]) Tryd.underlying24 rfl ti24 rfl hH250 (seg_sub 4 rfl) (CellsAt.one rfl) ?_)
                                    refine s_on 129 rfl (congrArg Value.bool (decide_eq_false h253)) (o_callf (vs := #[(.agg #[(.int .i64 noP), (.int .i64 gsnP), vp]), (.agg #[(.int .i64 noP), (.int .i64 gsnP), (.slice p96 lp.length c97)])]) ca13 rfl (args2 rfl rfl) (r11same_c (noa := noP) (gsna := gsnP) (la := lp) (nob := noP) (gsnb := gsnP) (lb := lp) hH250.all (hp.mono (app_sub (seg_sub 6 rfl) (seg_sub 8 rfl))) (ho93.sl.mono (seg_sub 5 rfl))) ?_)
                                    rintro _ w256 ⟨rfl, hX254⟩
                                    refine ⟨_, rfl, ?_⟩
                                    have hH255 := hX254.of_all
                                    refine s_on 129 rfl (congrArg Value.bool (decide_eq_false h253)) (o_not rfl ?_)
                                    refine s_op (o_pick_f (u := (.bool (!(decide (noP = noP ∧ gsnP = gsnP ∧ lp = lp))))) ((rfl : _ = _).trans (congrArg Value.bool (decide_eq_false h253))) rfl ?_)
                                    refine s_nil ?_
                                    refine t_norm (hK248 _ _ ?_)
                                    refine c_condb rfl (fun h257 => ?_) (fun h257 => ?_)
                                    · -- !(decide (noP = noP ∧ gsnP = gsnP ∧ lp = lp))
                                      have h257_n : (decide (noP = noP ∧ gsnP = gsnP ∧ lp = lp)) = false := by simpa using h257
                                      exact absurd h257 (by simp)
                                    · -- not: !(decide (noP = noP ∧ gsnP = gsnP ∧ lp = lp))
                                      have h257_n : (decide (noP = noP ∧ gsnP = gsnP ∧ lp = lp)) = true := by simpa using h257
                                      refine wp_skip ?_
                                      refine t_norm (hK247 _ _ ?_)
                                      refine wp_seq_k fun K258 hK258 => ?_
                                      refine c_region ?_
                                      refine s_op (o_move (v := (.int .i64 (setE noP gsnP lp x63 x71 (gsnP + step)))) rfl ?_)
                                      refine s_op (o_eql (a := (setE noP gsnP lp x63 x71 (gsnP + step))) (b := 0) rfl rfl ?_)
                                      refine s_nil ?_
                                      refine t_norm (hK258 _ _ ?_)
                                      refine c_cond rfl (fun h259 => ?_) (fun h259 => ?_)
                                      · -- (setE noP gsnP lp x63 x71 (gsnP + step)) = 0
                                        refine c_region ?_
                                        refine s_op (o_loadN (cs := [(.int .i64 (setNo noP gsnP lp x63 x71 (gsnP + step))), (.int .i64 (setG noP gsnP lp x63 x71 (gsnP + step))), v211]) Tryd.underlying24 rfl ti24 rfl hH255 (seg_sub 2 rfl) (CellsAt.one rfl) ?_)
                                        refine s_eff (o_storeN (vs := [(.int .i64 (setNo noP gsnP lp x63 x71 (gsnP + step))), (.int .i64 (setG noP gsnP lp x63 x71 (gsnP + step))), v211]) (c' := #[(.int .i64 (setNo noP gsnP lp x63 x71 (gsnP + step))), (.int .i64 (setG noP gsnP lp x63 x71 (gsnP + step))), v211]) ti24 e47_4 rfl rfl rfl (by intro u hu; simp only [List.mem_cons, List.not_mem_nil, or_false] at hu; rcases hu with rfl | rfl | rfl <;> first | rfl | exact ho213.one) (by simp) (by kernel_rfl) (hH255.front 7 rfl) fun w260 hH261 => ?_)
                                        refine s_nil ?_
                                        refine b_norm ?_
                                        refine t_norm (hK57 _ _ ?_)
                                        refine c_region ?_
                                        refine s_op (o_move (v := (.int .i64 (i : Int))) e47_9 ?_)
                                        refine s_op (o_add (a := (i : Int)) (b := 1) rfl rfl (w64 (by omega) (by omega)) ?_)
                                        refine s_op (o_assign (v := (.int .i64 ((i : Int) + 1))) rfl ?_)
                                        refine s_nil ?_
                                        have hH262 : Has E w260 [s212, [Hp.one b2 (.cells #[(.int .i64 (setNo noP gsnP lp x63 x71 (gsnP + step))), (.int .i64 (setG noP gsnP lp x63 x71 (gsnP + step))), v211] 24 (0, 0))], R] := (((hH261.front 8 rfl).front 1 rfl).front 5 rfl).first 3 rfl
                                        refine t_norm ⟨20 - (i + 1), _, rfl, ?_, ?_⟩
                                        · omega
                                        · exact ⟨(i + 1), (setNo noP gsnP lp x63 x71 (gsnP + step)), (setG noP gsnP lp x63 x71 (gsnP + step)), v211, s212, (setL noP gsnP lp x63 x71 (gsnP + step)), rfl, hH262, ((ho213.sl.mono (fun _ h_ => List.mem_append_left _ h_))), (by omega), (by first | omega | (have h_ := setL_le noP gsnP lp; exact Nat.le_trans (h_ _ _ _) (by omega))), e47_0, e47_1, e47_2, e47_3, e47_4, rfl, e47_38⟩
                                      · -- not: (setE noP gsnP lp x63 x71 (gsnP + step)) = 0
                                        refine wp_skip ?_
                                        refine b_norm ?_
                                        refine t_norm (hK57 _ _ ?_)
                                        refine c_region ?_
                                        refine s_op (o_move (v := (.int .i64 (i : Int))) e47_9 ?_)
                                        refine s_op (o_add (a := (i : Int)) (b := 1) rfl rfl (w64 (by omega) (by omega)) ?_)
                                        refine s_op (o_assign (v := (.int .i64 ((i : Int) + 1))) rfl ?_)
                                        refine s_nil ?_
                                        have hH263 : Has E w256 [sp, [Hp.one b2 (.cells #[(.int .i64 noP), (.int .i64 gsnP), vp] 24 (0, 0))], R] := (((hH255.front 8 rfl).front 8 rfl).front 8 rfl).first 3 rfl
                                        refine t_norm ⟨20 - (i + 1), _, rfl, ?_, ?_⟩
                                        · omega
                                        · exact ⟨(i + 1), noP, gsnP, vp, sp, lp, rfl, hH263, (hp), (by omega), (by first | omega | (have h_ := setL_le noP gsnP lp; exact Nat.le_trans (h_ _ _ _) (by omega))), e47_0, e47_1, e47_2, e47_3, e47_4, rfl, e47_38⟩
                              · -- first operation 17
                                have hH264 : Has E { w218 with drawn := w218.drawn + 1 } [[Hp.one b99 (.cells #[(.int .i64 noP), (.int .i64 gsnP), (.slice p96 lp.length c97)] 24 (0, 0))], [Hp.one b2 (.cells #[(.int .i64 noP), (.int .i64 gsnP), vp] 24 (0, 0))], R] := (((hH222.front 6 rfl).front 6 rfl).front 4 rfl).first 3 rfl
                                refine ok_w 17 rfl (o_alloc (cs := #[(.int .i64 0), (.int .i64 0), (.slice none 0 0)]) ti24 rfl hH222 fun b265 w266 hH267 => ?_)
                                have hH268 : Has E w266 [[Hp.one b99 (.cells #[(.int .i64 noP), (.int .i64 gsnP), (.slice p96 lp.length c97)] 24 (0, 0))], [Hp.one b2 (.cells #[(.int .i64 noP), (.int .i64 gsnP), vp] 24 (0, 0))], R] := (((hH267.front 7 rfl).front 7 rfl).front 5 rfl).first 3 rfl
                                refine a_w 13 rfl (by kernel_rfl) hH268 (o_callf (vs := #[(.agg #[(.int .i64 noP), (.int .i64 gsnP), (.slice p96 lp.length c97)]), (S x63), (.agg #[(.bool x71.1), (S x71.2)]), (.int .i64 (gsnP + step))]) ca17 rfl (args4 rfl rfl rfl rfl) (r11set_c (no := noP) (gsn := gsnP) (l := lp) (key := x63) (v := x71) (g := gsnP + step) hH267.all (ho93.sl.mono (seg_sub 4 rfl)) (by first | omega | (simp only []; omega) | (simp; done) | (simp; omega))) ?_)
                                rintro _ w274 ⟨v269, s270, rfl, ho271, hX272⟩
                                refine ⟨_, rfl, ?_⟩
                                have hH273 : Has E w274 [s270, [Hp.one b265 (.cells #[(.int .i64 0), (.int .i64 0), (.slice none 0 0)] 24 (0, 0))], [Hp.one b207 (.cells #[(.int .i64 (setNo noP gsnP lp x63 x71 (gsnP + step))), (.int .i64 (setG noP gsnP lp x63 x71 (gsnP + step))), v211] 24 (0, 0))], s212, [Hp.one b99 (.cells #[(.int .i64 noP), (.int .i64 gsnP), (.slice p96 lp.length c97)] 24 (0, 0))], s92, sp, [Hp.one b2 (.cells #[(.int .i64 noP), (.int .i64 gsnP), vp] 24 (0, 0))], R] := hX272.of_all1
                                refine a_op 14 rfl (by kernel_rfl) (fun w_ h_ => o_move (v := (.tuple #[(.agg #[(.int .i64 (setNo noP gsnP lp x63 x71 (gsnP + step))), (.int .i64 (setG noP gsnP lp x63 x71 (gsnP + step))), v269]), (.int .i64 (setE noP gsnP lp x63 x71 (gsnP + step)))])) rfl ⟨rfl, rfl⟩) ?_
                                refine a_op 15 rfl (by kernel_rfl) (fun w_ h_ => o_extract (v := (.agg #[(.int .i64 (setNo noP gsnP lp x63 x71 (gsnP + step))), (.int .i64 (setG noP gsnP lp x63 x71 (gsnP + step))), v269])) rfl rfl ⟨rfl, rfl⟩) ?_
                                refine a_op 16 rfl (by kernel_rfl) (fun w_ h_ => o_extract (v := (.int .i64 (setE noP gsnP lp x63 x71 (gsnP + step)))) rfl rfl ⟨rfl, rfl⟩) ?_
                                have hH275 : Has E w274 [[Hp.one b99 (.cells #[(.int .i64 noP), (.int .i64 gsnP), (.slice p96 lp.length c97)] 24 (0, 0))], [Hp.one b2 (.cells #[(.int .i64 noP), (.int .i64 gsnP), vp] 24 (0, 0))], R] := (((hH273.front 8 rfl).front 8 rfl).front 6 rfl).first 3 rfl
                                refine a_we 18 rfl (by kernel_rfl) hH275 (o_storeN (vs := [(.int .i64 (setNo noP gsnP lp x63 x71 (gsnP + step))), (.int .i64 (setG noP gsnP lp x63 x71 (gsnP + step))), v269]) (c' := #[(.int .i64 (setNo noP gsnP lp x63 x71 (gsnP + step))), (.int .i64 (setG noP gsnP lp x63 x71 (gsnP + step))), v269]) ti24 rfl rfl rfl rfl (by intro u hu; simp only [List.mem_cons, List.not_mem_nil, or_false] at hu; rcases hu with rfl | rfl | rfl <;> first | rfl | exact ho271.one) (by simp) (by kernel_rfl) (hH273.front 1 rfl) fun w276 hH277 => ?_)
                                have hH278 : Has E w276 [[Hp.one b99 (.cells #[(.int .i64 noP), (.int .i64 gsnP), (.slice p96 lp.length c97)] 24 (0, 0))], [Hp.one b2 (.cells #[(.int .i64 noP), (.int .i64 gsnP), vp] 24 (0, 0))], R] := (((hH277.front 8 rfl).front 8 rfl).front 6 rfl).first 3 rfl
                                refine a_done (by kernel_rfl) hH278 ?_
                                refine r_op 19 rfl (by kernel_rfl) (o_assign (v := (.int .i64 (setE noP gsnP lp x63 x71 (gsnP + step)))) rfl ?_)
                                refine Rest.done (by kernel_rfl) ?_
                                refine t_norm (hK221 _ _ ?_)
                                refine wp_seq_k fun K279 hK279 => ?_
                                refine wp_seq_k fun K280 hK280 => ?_
                                refine c_region ?_
                                refine s_op (o_loadN (cs := [(.int .i64 (setNo noP gsnP lp x63 x71 (gsnP + step))), (.int .i64 (setG noP gsnP lp x63 x71 (gsnP + step))), v211]) Tryd.underlying24 rfl ti24 rfl hH277 (seg_sub 2 rfl) (CellsAt.one rfl) ?_)
                                refine s_op (o_loadN (cs := [(.int .i64 (setNo noP gsnP lp x63 x71 (gsnP + step))), (.int .i64 (setG noP gsnP lp x63 x71 (gsnP + step))), v269]) Tryd.underlying24 rfl ti24 rfl hH277 (seg_sub 0 rfl) (CellsAt.one rfl) ?_)
                                refine s_op (o_callf (vs := #[(.agg #[(.int .i64 (setNo noP gsnP lp x63 x71 (gsnP + step))), (.int .i64 (setG noP gsnP lp x63 x71 (gsnP + step))), v211]), (.agg #[(.int .i64 (setNo noP gsnP lp x63 x71 (gsnP + step))), (.int .i64 (setG noP gsnP lp x63 x71 (gsnP + step))), v269])]) ca13 rfl (args2 rfl rfl) (r11same_c (noa := (setNo noP gsnP lp x63 x71 (gsnP + step))) (gsna := (setG noP gsnP lp x63 x71 (gsnP + step))) (la := (setL noP gsnP lp x63 x71 (gsnP + step))) (nob := (setNo noP gsnP lp x63 x71 (gsnP + step))) (gsnb := (setG noP gsnP lp x63 x71 (gsnP + step))) (lb := (setL noP gsnP lp x63 x71 (gsnP + step))) hH277.all (ho213.sl.mono (seg_sub 3 rfl)) (ho271.sl.mono (seg_sub 1 rfl))) ?_)
                                rintro _ w283 ⟨rfl, hX281⟩
                                refine ⟨_, rfl, ?_⟩
                                have hH282 := hX281.of_all
                                refine s_op (o_not rfl ?_)
                                refine s_op (o_move (v := (.bool (!(decide ((setNo noP gsnP lp x63 x71 (gsnP + step)) = (setNo noP gsnP lp x63 x71 (gsnP + step)) ∧ (setG noP gsnP lp x63 x71 (gsnP + step)) = (setG noP gsnP lp x63 x71 (gsnP + step)) ∧ (setL noP gsnP lp x63 x71 (gsnP + step)) = (setL noP gsnP lp x63 x71 (gsnP + step))))))) rfl ?_)
                                rcases Bool.eq_false_or_eq_true (!(decide ((setNo noP gsnP lp x63 x71 (gsnP + step)) = (setNo noP gsnP lp x63 x71 (gsnP + step)) ∧ (setG noP gsnP lp x63 x71 (gsnP + step)) = (setG noP gsnP lp x63 x71 (gsnP + step)) ∧ (setL noP gsnP lp x63 x71 (gsnP + step)) = (setL noP gsnP lp x63 x71 (gsnP + step))))) with h284 | h284
                                · -- !(decide ((setNo noP gsnP lp x63 x71 (gsnP + step)) = (setNo noP gsnP lp x63 x71 (gsnP + step)) ∧ (setG noP gsnP lp x63 x71 (gsnP + step)) = (setG noP gsnP lp x63 x71 (gsnP + step)) ∧ (setL noP gsnP lp x63 x71 (gsnP + step)) = (setL noP gsnP lp x63 x71 (gsnP + step))))
                                  exact absurd h284 (by simp)
                                · -- not: !(decide ((setNo noP gsnP lp x63 x71 (gsnP + step)) = (setNo noP gsnP lp x63 x71 (gsnP + step)) ∧ (setG noP gsnP lp x63 x71 (gsnP + step)) = (setG noP gsnP lp x63 x71 (gsnP + step)) ∧ (setL noP gsnP lp x63 x71 (gsnP + step)) = (setL noP gsnP lp x63 x71 (gsnP + step))))
                                  refine s_on 124 rfl (congrArg Value.bool h284) (o_move (v := (.int .i64 (setE noP gsnP lp x63 x71 (gsnP + step)))) rfl ?_)
                                  refine s_on 124 rfl (congrArg Value.bool h284) (o_move (v := (.int .i64 (setE noP gsnP lp x63 x71 (gsnP + step)))) rfl ?_)
                                  refine s_on 124 rfl (congrArg Value.bool h284) (o_neq (a := (setE noP gsnP lp x63 x71 (gsnP + step))) (b := (setE noP gsnP lp x63 x71 (gsnP + step))) rfl rfl ?_)
                                  refine s_op (o_pick_f (u := (.bool (decide ((setE noP gsnP lp x63 x71 (gsnP + step)) ≠ (setE noP gsnP lp x63 x71 (gsnP + step)))))) ((rfl : _ = _).trans (congrArg Value.bool h284)) rfl ?_)
                                  refine s_op (o_move (v := (.bool (decide ((setE noP gsnP lp x63 x71 (gsnP + step)) ≠ (setE noP gsnP lp x63 x71 (gsnP + step)))))) rfl ?_)
                                  by_cases h285 : (setE noP gsnP lp x63 x71 (gsnP + step)) ≠ (setE noP gsnP lp x63 x71 (gsnP + step))
                                  · -- (setE noP gsnP lp x63 x71 (gsnP + step)) ≠ (setE noP gsnP lp x63 x71 (gsnP + step))
                                    exact absurd rfl h285
                                  · -- not: (setE noP gsnP lp x63 x71 (gsnP + step)) ≠ (setE noP gsnP lp x63 x71 (gsnP + step))
                                    refine s_on 129 rfl (congrArg Value.bool (decide_eq_false h285)) (o_loadN (cs := [(.int .i64 noP), (.int .i64 gsnP), vp]) Tryd.underlying24 rfl ti24 e47_4 hH282 (seg_sub 7 rfl) (CellsAt.one rfl) ?_)
                                    refine s_on 129 rfl (congrArg Value.bool (decide_eq_false h285)) (o_loadN (cs := [(.int .i64 noP), (.int .i64 gsnP), (.slice p96 lp.length c97)]) Tryd.underlying24 rfl ti24 rfl hH282 (seg_sub 4 rfl) (CellsAt.one rfl) ?_)
                                    refine s_on 129 rfl (congrArg Value.bool (decide_eq_false h285)) (o_callf (vs := #[(.agg #[(.int .i64 noP), (.int .i64 gsnP), vp]), (.agg #[(.int .i64 noP), (.int .i64 gsnP), (.slice p96 lp.length c97)])]) ca13 rfl (args2 rfl rfl) (r11same_c (noa := noP) (gsna := gsnP) (la := lp) (nob := noP) (gsnb := gsnP) (lb := lp) hH282.all (hp.mono (app_sub (seg_sub 6 rfl) (seg_sub 8 rfl))) (ho93.sl.mono (seg_sub 5 rfl))) ?_)
                                    rintro _ w288 ⟨rfl, hX286⟩
                                    refine ⟨_, rfl, ?_⟩
                                    have hH287 := hX286.of_all
                                    refine s_on 129 rfl (congrArg Value.bool (decide_eq_false h285)) (o_not rfl ?_)
                                    refine s_op (o_pick_f (u := (.bool (!(decide (noP = noP ∧ gsnP = gsnP ∧ lp = lp))))) ((rfl : _ = _).trans (congrArg Value.bool (decide_eq_false h285))) rfl ?_)
                                    refine s_nil ?_
                                    refine t_norm (hK280 _ _ ?_)
                                    refine c_condb rfl (fun h289 => ?_) (fun h289 => ?_)
                                    · -- !(decide (noP = noP ∧ gsnP = gsnP ∧ lp = lp))
                                      have h289_n : (decide (noP = noP ∧ gsnP = gsnP ∧ lp = lp)) = false := by simpa using h289
                                      exact absurd h289 (by simp)
                                    · -- not: !(decide (noP = noP ∧ gsnP = gsnP ∧ lp = lp))
                                      have h289_n : (decide (noP = noP ∧ gsnP = gsnP ∧ lp = lp)) = true := by simpa using h289
                                      refine wp_skip ?_
                                      refine t_norm (hK279 _ _ ?_)
                                      refine wp_seq_k fun K290 hK290 => ?_
                                      refine c_region ?_
                                      refine s_op (o_move (v := (.int .i64 (setE noP gsnP lp x63 x71 (gsnP + step)))) rfl ?_)
                                      refine s_op (o_eql (a := (setE noP gsnP lp x63 x71 (gsnP + step))) (b := 0) rfl rfl ?_)
                                      refine s_nil ?_
                                      refine t_norm (hK290 _ _ ?_)
                                      refine c_cond rfl (fun h291 => ?_) (fun h291 => ?_)
                                      · -- (setE noP gsnP lp x63 x71 (gsnP + step)) = 0
                                        refine c_region ?_
                                        refine s_op (o_loadN (cs := [(.int .i64 (setNo noP gsnP lp x63 x71 (gsnP + step))), (.int .i64 (setG noP gsnP lp x63 x71 (gsnP + step))), v211]) Tryd.underlying24 rfl ti24 rfl hH287 (seg_sub 2 rfl) (CellsAt.one rfl) ?_)
                                        refine s_eff (o_storeN (vs := [(.int .i64 (setNo noP gsnP lp x63 x71 (gsnP + step))), (.int .i64 (setG noP gsnP lp x63 x71 (gsnP + step))), v211]) (c' := #[(.int .i64 (setNo noP gsnP lp x63 x71 (gsnP + step))), (.int .i64 (setG noP gsnP lp x63 x71 (gsnP + step))), v211]) ti24 e47_4 rfl rfl rfl (by intro u hu; simp only [List.mem_cons, List.not_mem_nil, or_false] at hu; rcases hu with rfl | rfl | rfl <;> first | rfl | exact ho213.one) (by simp) (by kernel_rfl) (hH287.front 7 rfl) fun w292 hH293 => ?_)
                                        refine s_nil ?_
                                        refine b_norm ?_
                                        refine t_norm (hK57 _ _ ?_)
                                        refine c_region ?_
                                        refine s_op (o_move (v := (.int .i64 (i : Int))) e47_9 ?_)
                                        refine s_op (o_add (a := (i : Int)) (b := 1) rfl rfl (w64 (by omega) (by omega)) ?_)
                                        refine s_op (o_assign (v := (.int .i64 ((i : Int) + 1))) rfl ?_)
                                        refine s_nil ?_
                                        have hH294 : Has E w292 [s212, [Hp.one b2 (.cells #[(.int .i64 (setNo noP gsnP lp x63 x71 (gsnP + step))), (.int .i64 (setG noP gsnP lp x63 x71 (gsnP + step))), v211] 24 (0, 0))], R] := (((hH293.front 8 rfl).front 1 rfl).front 5 rfl).first 3 rfl
                                        refine t_norm ⟨20 - (i + 1), _, rfl, ?_, ?_⟩
                                        · omega
                                        · exact ⟨(i + 1), (setNo noP gsnP lp x63 x71 (gsnP + step)), (setG noP gsnP lp x63 x71 (gsnP + step)), v211, s212, (setL noP gsnP lp x63 x71 (gsnP + step)), rfl, hH294, ((ho213.sl.mono (fun _ h_ => List.mem_append_left _ h_))), (by omega), (by first | omega | (have h_ := setL_le noP gsnP lp; exact Nat.le_trans (h_ _ _ _) (by omega))), e47_0, e47_1, e47_2, e47_3, e47_4, rfl, e47_38⟩
                                      · -- not: (setE noP gsnP lp x63 x71 (gsnP + step)) = 0
                                        refine wp_skip ?_
                                        refine b_norm ?_
                                        refine t_norm (hK57 _ _ ?_)
                                        refine c_region ?_
                                        refine s_op (o_move (v := (.int .i64 (i : Int))) e47_9 ?_)
                                        refine s_op (o_add (a := (i : Int)) (b := 1) rfl rfl (w64 (by omega) (by omega)) ?_)
                                        refine s_op (o_assign (v := (.int .i64 ((i : Int) + 1))) rfl ?_)
                                        refine s_nil ?_
                                        have hH295 : Has E w288 [sp, [Hp.one b2 (.cells #[(.int .i64 noP), (.int .i64 gsnP), vp] 24 (0, 0))], R] := (((hH287.front 8 rfl).front 8 rfl).front 8 rfl).first 3 rfl
                                        refine t_norm ⟨20 - (i + 1), _, rfl, ?_, ?_⟩
                                        · omega
                                        · exact ⟨(i + 1), noP, gsnP, vp, sp, lp, rfl, hH295, (hp), (by omega), (by first | omega | (have h_ := setL_le noP gsnP lp; exact Nat.le_trans (h_ _ _ _) (by omega))), e47_0, e47_1, e47_2, e47_3, e47_4, rfl, e47_38⟩
                          · -- first operation 9
                            have hH296 : Has E w87 [[Hp.one b2 (.cells #[(.int .i64 noP), (.int .i64 gsnP), vp] 24 (0, 0))]] := (hH88.front 2 rfl).first 1 rfl
                            refine ok_w 9 rfl (o_alloc (cs := #[(.int .i64 0), (.int .i64 0), (.slice none 0 0)]) ti24 rfl hH88 fun b297 w298 hH299 => ?_)
                            have hH300 : Has E w298 [[Hp.one b2 (.cells #[(.int .i64 noP), (.int .i64 gsnP), vp] 24 (0, 0))]] := (hH299.front 3 rfl).first 1 rfl
                            refine a_w 7 rfl (by kernel_rfl) hH300 (o_append Tryd.underlying22 ti45 rfl (by decide) rfl (Own.lit (e := 45) (sz := 2) (n := 0) (b := b86) (cur := #[]) rfl (by decide)) rfl hp (hH299.front 1 rfl) (app_sub (seg_sub 1 rfl) (seg_sub 3 rfl)) (one_ceC _) (by simp; omega) (by simp; omega) fun v301 s302 w304 ho303 hH305 => ?_)
                            have ho303 : Own 45 2 v301 lp.length (lp.flatMap ceC) s302 := Own.appF (a := []) ho303
                            obtain ⟨p306, c307, rfl⟩ := Sl.form (Own.sl ho303)
                            refine a_op 8 rfl (by kernel_rfl) (fun w_ h_ => o_sight (v := (.agg #[(.int .i64 noP), (.int .i64 gsnP), (.slice p306 lp.length c307)])) (fun _ => by kernel_rfl) ⟨rfl, rfl⟩) ?_
                            have hH308 : Has E w304 [[Hp.one b2 (.cells #[(.int .i64 noP), (.int .i64 gsnP), vp] 24 (0, 0))]] := (hH305.front 3 rfl).first 1 rfl
                            refine a_done (by kernel_rfl) hH308 ?_
                            refine r_eff 10 rfl (by kernel_rfl) (o_storeN (vs := [(.int .i64 noP), (.int .i64 gsnP), (.slice p306 lp.length c307)]) (c' := #[(.int .i64 noP), (.int .i64 gsnP), (.slice p306 lp.length c307)]) ti24 rfl rfl rfl rfl (by intro u hu; simp only [List.mem_cons, List.not_mem_nil, or_false] at hu; rcases hu with rfl | rfl | rfl <;> first | rfl | exact ho303.one) (by simp) (by kernel_rfl) (hH305.front 1 rfl) fun w309 hH310 => ?_)
                            refine Rest.done (by kernel_rfl) ?_
                            refine t_norm (hK82 _ _ ?_)
                            refine wp_seq_k fun K311 hK311 => ?_
                            refine Rest.region mixed (by kernel_rfl) ?_
                            have hH312 : Has E { w309 with drawn := w309.drawn + 1 } [[Hp.one b297 (.cells #[(.int .i64 noP), (.int .i64 gsnP), (.slice p306 lp.length c307)] 24 (0, 0))], s302, sp, [Hp.one b2 (.cells #[(.int .i64 noP), (.int .i64 gsnP), vp] 24 (0, 0))], R] := Has0.drew hH310 _
                            refine Rest.phaseA (fun w_ => Has E w_ [[Hp.one b2 (.cells #[(.int .i64 noP), (.int .i64 gsnP), vp] 24 (0, 0))], R]) 0 19 19 rfl (by decide) (by kernel_rfl) ?_
                            refine a_op 0 rfl (by kernel_rfl) (fun w_ h_ => o_loadN (cs := [(.int .i64 noP), (.int .i64 gsnP), vp]) Tryd.underlying24 rfl ti24 e47_4 h_ (seg_sub 0 rfl) (CellsAt.one rfl) ⟨rfl, rfl⟩) ?_
                            refine a_op 1 rfl (by kernel_rfl) (fun w_ h_ => o_move (v := v_keys) e47_1 ⟨rfl, rfl⟩) ?_
                            refine a_op 2 rfl (by kernel_rfl) (fun w_ h_ => o_move (v := (.int .i64 (i : Int))) e47_9 ⟨rfl, rfl⟩) ?_
                            obtain ⟨b313, o314, hc315, ho316⟩ := ix_ex1 Tryd.underlying32 ti9 h_keys (by omega) hx64
                            refine a_op 3 rfl (by kernel_rfl) (fun w_ h_ => ho316 rfl rfl ⟨rfl, rfl⟩) ?_
                            refine a_op 4 rfl (by kernel_rfl) (fun w_ h_ => o_load1 (v := (S x63)) Tryd.underlying9 rfl rfl h_ (seg_sub 1 rfl) hc315 ⟨rfl, rfl⟩) ?_
                            refine a_op 5 rfl (by kernel_rfl) (fun w_ h_ => o_move (v := v_vals) e47_2 ⟨rfl, rfl⟩) ?_
                            refine a_op 6 rfl (by kernel_rfl) (fun w_ h_ => o_move (v := (.int .i64 (i : Int))) e47_9 ⟨rfl, rfl⟩) ?_
                            obtain ⟨b317, o318, hc319, ho320⟩ := ix_exF vlC_len Tryd.underlying33 ti29 h_vals (by omega) hx72
                            refine a_op 7 rfl (by kernel_rfl) (fun w_ h_ => ho320 rfl rfl ⟨rfl, rfl⟩) ?_
                            refine a_op 8 rfl (by kernel_rfl) (fun w_ h_ => o_loadN (cs := [(.bool x71.1), (S x71.2)]) Tryd.underlying29 rfl ti29 rfl h_ (seg_sub 1 rfl) hc319 ⟨rfl, rfl⟩) ?_
                            refine a_op 9 rfl (by kernel_rfl) (fun w_ h_ => o_fieldAddr (k := 1) (fun _ => by kernel_rfl) e47_4 ⟨rfl, rfl⟩) ?_
                            refine a_op 10 rfl (by kernel_rfl) (fun w_ h_ => o_load1 (v := (.int .i64 gsnP)) Tryd.underlying3 rfl rfl h_ (seg_sub 0 rfl) (CellsAt.one rfl) ⟨rfl, rfl⟩) ?_
                            refine a_op 11 rfl (by kernel_rfl) (fun w_ h_ => o_move (v := (.int .i64 step)) e47_3 ⟨rfl, rfl⟩) ?_
                            refine a_op 12 rfl (by kernel_rfl) (fun w_ h_ => o_add (a := gsnP) (b := step) rfl rfl (w64 (by omega) (by omega)) ⟨rfl, rfl⟩) ?_
                            have hH321 : Has E { w309 with drawn := w309.drawn + 1 } [[Hp.one b2 (.cells #[(.int .i64 noP), (.int .i64 gsnP), vp] 24 (0, 0))], R] := ((hH312.front 4 rfl).front 4 rfl).first 2 rfl
                            refine a_two 13 17 (by kernel_rfl) hH321 ?_ ?_
                            · -- first operation 13
                              have hH322 : Has E { w309 with drawn := w309.drawn + 1 } [[Hp.one b2 (.cells #[(.int .i64 noP), (.int .i64 gsnP), vp] 24 (0, 0))], R] := ((hH312.front 4 rfl).front 4 rfl).first 2 rfl
                              refine ok_w 13 rfl (o_callf (vs := #[(.agg #[(.int .i64 noP), (.int .i64 gsnP), vp]), (S x63), (.agg #[(.bool x71.1), (S x71.2)]), (.int .i64 (gsnP + step))]) ca16 rfl (args4 rfl rfl rfl rfl) (pset_c (no := noP) (gsn := gsnP) (l := lp) (key := x63) (v := x71) (g := gsnP + step) hH312.all (hp.mono (app_sub (seg_sub 2 rfl) (seg_sub 4 rfl))) (by first | omega | (simp only []; omega) | (simp; done) | (simp; omega))) ?_)
                              rintro _ w328 ⟨v323, s324, rfl, ho325, hX326⟩
                              refine ⟨_, rfl, ?_⟩
                              have hH327 : Has E w328 [s324, [Hp.one b297 (.cells #[(.int .i64 noP), (.int .i64 gsnP), (.slice p306 lp.length c307)] 24 (0, 0))], s302, sp, [Hp.one b2 (.cells #[(.int .i64 noP), (.int .i64 gsnP), vp] 24 (0, 0))], R] := hX326.of_all1
                              refine a_op 14 rfl (by kernel_rfl) (fun w_ h_ => o_move (v := (.tuple #[(.agg #[(.int .i64 (setNo noP gsnP lp x63 x71 (gsnP + step))), (.int .i64 (setG noP gsnP lp x63 x71 (gsnP + step))), v323]), (.int .i64 (setE noP gsnP lp x63 x71 (gsnP + step)))])) rfl ⟨rfl, rfl⟩) ?_
                              refine a_op 15 rfl (by kernel_rfl) (fun w_ h_ => o_extract (v := (.agg #[(.int .i64 (setNo noP gsnP lp x63 x71 (gsnP + step))), (.int .i64 (setG noP gsnP lp x63 x71 (gsnP + step))), v323])) rfl rfl ⟨rfl, rfl⟩) ?_
                              refine a_op 16 rfl (by kernel_rfl) (fun w_ h_ => o_extract (v := (.int .i64 (setE noP gsnP lp x63 x71 (gsnP + step)))) rfl rfl ⟨rfl, rfl⟩) ?_
                              have hH329 : Has E w328 [[Hp.one b2 (.cells #[(.int .i64 noP), (.int .i64 gsnP), vp] 24 (0, 0))], R] := ((hH327.front 5 rfl).front 5 rfl).first 2 rfl
                              refine a_w 17 rfl (by kernel_rfl) hH329 (o_alloc (cs := #[(.int .i64 0), (.int .i64 0), (.slice none 0 0)]) ti24 rfl hH327 fun b330 w331 hH332 => ?_)
                              have hH333 : Has E w331 [[Hp.one b2 (.cells #[(.int .i64 noP), (.int .i64 gsnP), vp] 24 (0, 0))], R] := ((hH332.front 6 rfl).front 6 rfl).first 2 rfl
                              refine a_we 18 rfl (by kernel_rfl) hH333 (o_storeN (vs := [(.int .i64 (setNo noP gsnP lp x63 x71 (gsnP + step))), (.int .i64 (setG noP gsnP lp x63 x71 (gsnP + step))), v323]) (c' := #[(.int .i64 (setNo noP gsnP lp x63 x71 (gsnP + step))), (.int .i64 (setG noP gsnP lp x63 x71 (gsnP + step))), v323]) ti24 rfl rfl rfl rfl (by intro u hu; simp only [List.mem_cons, List.not_mem_nil, or_false] at hu; rcases hu with rfl | rfl | rfl <;> first | rfl | exact ho325.one) (by simp) (by kernel_rfl) (hH332.front 0 rfl) fun w334 hH335 => ?_)
                              have hH336 : Has E w334 [[Hp.one b2 (.cells #[(.int .i64 noP), (.int .i64 gsnP), vp] 24 (0, 0))], R] := ((hH335.front 6 rfl).front 6 rfl).first 2 rfl
                              refine a_done (by kernel_rfl) hH336 ?_
                              refine r_op 19 rfl (by kernel_rfl) (o_assign (v := (.int .i64 (setE noP gsnP lp x63 x71 (gsnP + step)))) rfl ?_)
                              refine Rest.done (by kernel_rfl) ?_
                              refine t_norm (hK311 _ _ ?_)
                              refine wp_seq_k fun K337 hK337 => ?_
                              refine Rest.region mixed (by kernel_rfl) ?_
                              have hH338 : Has E { w334 with drawn := w334.drawn + 1 } [[Hp.one b330 (.cells #[(.int .i64 (setNo noP gsnP lp x63 x71 (gsnP + step))), (.int .i64 (setG noP gsnP lp x63 x71 (gsnP + step))), v323] 24 (0, 0))], s324, [Hp.one b297 (.cells #[(.int .i64 noP), (.int .i64 gsnP), (.slice p306 lp.length c307)] 24 (0, 0))], s302, sp, [Hp.one b2 (.cells #[(.int .i64 noP), (.int .i64 gsnP), vp] 24 (0, 0))], R] := Has0.drew hH335 _
                              refine Rest.phaseA (fun w_ => Has E w_ [[Hp.one b297 (.cells #[(.int .i64 noP), (.int .i64 gsnP), (.slice p306 lp.length c307)] 24 (0, 0))], [Hp.one b2 (.cells #[(.int .i64 noP), (.int .i64 gsnP), vp] 24 (0, 0))], R]) 0 19 19 rfl (by decide) (by kernel_rfl) ?_
                              refine a_op 0 rfl (by kernel_rfl) (fun w_ h_ => o_loadN (cs := [(.int .i64 noP), (.int .i64 gsnP), (.slice p306 lp.length c307)]) Tryd.underlying24 rfl ti24 rfl h_ (seg_sub 0 rfl) (CellsAt.one rfl) ⟨rfl, rfl⟩) ?_
                              refine a_op 1 rfl (by kernel_rfl) (fun w_ h_ => o_move (v := v_keys) e47_1 ⟨rfl, rfl⟩) ?_
                              refine a_op 2 rfl (by kernel_rfl) (fun w_ h_ => o_move (v := (.int .i64 (i : Int))) e47_9 ⟨rfl, rfl⟩) ?_
                              obtain ⟨b339, o340, hc341, ho342⟩ := ix_ex1 Tryd.underlying32 ti9 h_keys (by omega) hx64
                              refine a_op 3 rfl (by kernel_rfl) (fun w_ h_ => ho342 rfl rfl ⟨rfl, rfl⟩) ?_
                              refine a_op 4 rfl (by kernel_rfl) (fun w_ h_ => o_load1 (v := (S x63)) Tryd.underlying9 rfl rfl h_ (seg_sub 2 rfl) hc341 ⟨rfl, rfl⟩) ?_
                              refine a_op 5 rfl (by kernel_rfl) (fun w_ h_ => o_move (v := v_vals) e47_2 ⟨rfl, rfl⟩) ?_
                              refine a_op 6 rfl (by kernel_rfl) (fun w_ h_ => o_move (v := (.int .i64 (i : Int))) e47_9 ⟨rfl, rfl⟩) ?_
                              obtain ⟨b343, o344, hc345, ho346⟩ := ix_exF vlC_len Tryd.underlying33 ti29 h_vals (by omega) hx72
                              refine a_op 7 rfl (by kernel_rfl) (fun w_ h_ => ho346 rfl rfl ⟨rfl, rfl⟩) ?_
                              refine a_op 8 rfl (by kernel_rfl) (fun w_ h_ => o_loadN (cs := [(.bool x71.1), (S x71.2)]) Tryd.underlying29 rfl ti29 rfl h_ (seg_sub 2 rfl) hc345 ⟨rfl, rfl⟩) ?_
                              refine a_op 9 rfl (by kernel_rfl) (fun w_ h_ => o_fieldAddr (k := 1) (fun _ => by kernel_rfl) e47_4 ⟨rfl, rfl⟩) ?_
                              refine a_op 10 rfl (by kernel_rfl) (fun w_ h_ => o_load1 (v := (.int .i64 gsnP)) Tryd.underlying3 rfl rfl h_ (seg_sub 1 rfl) (CellsAt.one rfl) ⟨rfl, rfl⟩) ?_
                              refine a_op 11 rfl (by kernel_rfl) (fun w_ h_ => o_move (v := (.int .i64 step)) e47_3 ⟨rfl, rfl⟩) ?_
                              refine a_op 12 rfl (by kernel_rfl) (fun w_ h_ => o_add (a := gsnP) (b := step) rfl rfl (w64 (by omega) (by omega)) ⟨rfl, rfl⟩) ?_
                              have hH347 : Has E { w334 with drawn := w334.drawn + 1 } [[Hp.one b297 (.cells #[(.int .i64 noP), (.int .i64 gsnP), (.slice p306 lp.length c307)] 24 (0, 0))], [Hp.one b2 (.cells #[(.int .i64 noP), (.int .i64 gsnP), vp] 24 (0, 0))], R] := (((hH338.front 6 rfl).front 6 rfl).front 4 rfl).first 3 rfl
                              refine a_two 13 17 (by kernel_rfl) hH347 ?_ ?_
                              · -- first operation 13
                                have hH348 : Has E { w334 with drawn := w334.drawn + 1 } [[Hp.one b297 (.cells #[(.int .i64 noP), (.int .i64 gsnP), (.slice p306 lp.length c307)] 24 (0, 0))], [Hp.one b2 (.cells #[(.int .i64 noP), (.int .i64 gsnP), vp] 24 (0, 0))], R] := (((hH338.front 6 rfl).front 6 rfl).front 4 rfl).first 3 rfl
                                refine ok_w 13 rfl (o_callf (vs := #[(.agg #[(.int .i64 noP), (.int .i64 gsnP), (.slice p306 lp.length c307)]), (S x63), (.agg #[(.bool x71.1), (S x71.2)]), (.int .i64 (gsnP + step))]) ca17 rfl (args4 rfl rfl rfl rfl) (r11set_c (no := noP) (gsn := gsnP) (l := lp) (key := x63) (v := x71) (g := gsnP + step) hH338.all (ho303.sl.mono (seg_sub 3 rfl)) (by first | omega | (simp only []; omega) | (simp; done) | (simp; omega))) ?_)
                                rintro _ w354 ⟨v349, s350, rfl, ho351, hX352⟩
                                refine ⟨_, rfl, ?_⟩
                                have hH353 : Has E w354 [s350, [Hp.one b330 (.cells #[(.int .i64 (setNo noP gsnP lp x63 x71 (gsnP + step))), (.int .i64 (setG noP gsnP lp x63 x71 (gsnP + step))), v323] 24 (0, 0))], s324, [Hp.one b297 (.cells #[(.int .i64 noP), (.int .i64 gsnP), (.slice p306 lp.length c307)] 24 (0, 0))], s302, sp, [Hp.one b2 (.cells #[(.int .i64 noP), (.int .i64 gsnP), vp] 24 (0, 0))], R] := hX352.of_all1
                                refine a_op 14 rfl (by kernel_rfl) (fun w_ h_ => o_move (v := (.tuple #[(.agg #[(.int .i64 (setNo noP gsnP lp x63 x71 (gsnP + step))), (.int .i64 (setG noP gsnP lp x63 x71 (gsnP + step))), v349]), (.int .i64 (setE noP gsnP lp x63 x71 (gsnP + step)))])) rfl ⟨rfl, rfl⟩) ?_
                                refine a_op 15 rfl (by kernel_rfl) (fun w_ h_ => o_extract (v := (.agg #[(.int .i64 (setNo noP gsnP lp x63 x71 (gsnP + step))), (.int .i64 (setG noP gsnP lp x63 x71 (gsnP + step))), v349])) rfl rfl ⟨rfl, rfl⟩) ?_
                                refine a_op 16 rfl (by kernel_rfl) (fun w_ h_ => o_extract (v := (.int .i64 (setE noP gsnP lp x63 x71 (gsnP + step)))) rfl rfl ⟨rfl, rfl⟩) ?_
                                have hH355 : Has E w354 [[Hp.one b297 (.cells #[(.int .i64 noP), (.int .i64 gsnP), (.slice p306 lp.length c307)] 24 (0, 0))], [Hp.one b2 (.cells #[(.int .i64 noP), (.int .i64 gsnP), vp] 24 (0, 0))], R] := (((hH353.front 7 rfl).front 7 rfl).front 5 rfl).first 3 rfl
                                refine a_w 17 rfl (by kernel_rfl) hH355 (o_alloc (cs := #[(.int .i64 0), (.int .i64 0), (.slice none 0 0)]) ti24 rfl hH353 fun b356 w357 hH358 => ?_)
                                have hH359 : Has E w357 [[Hp.one b297 (.cells #[(.int .i64 noP), (.int .i64 gsnP), (.slice p306 lp.length c307)] 24 (0, 0))], [Hp.one b2 (.cells #[(.int .i64 noP), (.int .i64 gsnP), vp] 24 (0, 0))], R] := (((hH358.front 8 rfl).front 8 rfl).front 6 rfl).first 3 rfl
                                refine a_we 18 rfl (by kernel_rfl) hH359 (o_storeN (vs := [(.int .i64 (setNo noP gsnP lp x63 x71 (gsnP + step))), (.int .i64 (setG noP gsnP lp x63 x71 (gsnP + step))), v349]) (c' := #[(.int .i64 (setNo noP gsnP lp x63 x71 (gsnP + step))), (.int .i64 (setG noP gsnP lp x63 x71 (gsnP + step))), v349]) ti24 rfl rfl rfl rfl (by intro u hu; simp only [List.mem_cons, List.not_mem_nil, or_false] at hu; rcases hu with rfl | rfl | rfl <;> first | rfl | exact ho351.one) (by simp) (by kernel_rfl) (hH358.front 0 rfl) fun w360 hH361 => ?_)
                                have hH362 : Has E w360 [[Hp.one b297 (.cells #[(.int .i64 noP), (.int .i64 gsnP), (.slice p306 lp.length c307)] 24 (0, 0))], [Hp.one b2 (.cells #[(.int .i64 noP), (.int .i64 gsnP), vp] 24 (0, 0))], R] := (((hH361.front 8 rfl).front 8 rfl).front 6 rfl).first 3 rfl
                                refine a_done (by kernel_rfl) hH362 ?_
                                refine r_op 19 rfl (by kernel_rfl) (o_assign (v := (.int .i64 (setE noP gsnP lp x63 x71 (gsnP + step)))) rfl ?_)
                                refine Rest.done (by kernel_rfl) ?_
                                refine t_norm (hK337 _ _ ?_)
                                refine wp_seq_k fun K363 hK363 => ?_
                                refine wp_seq_k fun K364 hK364 => ?_
                                refine c_region ?_
                                refine s_op (o_loadN (cs := [(.int .i64 (setNo noP gsnP lp x63 x71 (gsnP + step))), (.int .i64 (setG noP gsnP lp x63 x71 (gsnP + step))), v323]) Tryd.underlying24 rfl ti24 rfl hH361 (seg_sub 2 rfl) (CellsAt.one rfl) ?_)
                                refine s_op (o_loadN (cs := [(.int .i64 (setNo noP gsnP lp x63 x71 (gsnP + step))), (.int .i64 (setG noP gsnP lp x63 x71 (gsnP + step))), v349]) Tryd.underlying24 rfl ti24 rfl hH361 (seg_sub 0 rfl) (CellsAt.one rfl) ?_)
                                refine s_op (o_callf (vs := #[(.agg #[(.int .i64 (setNo noP gsnP lp x63 x71 (gsnP + step))), (.int .i64 (setG noP gsnP lp x63 x71 (gsnP + step))), v323]), (.agg #[(.int .i64 (setNo noP gsnP lp x63 x71 (gsnP + step))), (.int .i64 (setG noP gsnP lp x63 x71 (gsnP + step))), v349])]) ca13 rfl (args2 rfl rfl) (r11same_c (noa := (setNo noP gsnP lp x63 x71 (gsnP + step))) (gsna := (setG noP gsnP lp x63 x71 (gsnP + step))) (la := (setL noP gsnP lp x63 x71 (gsnP + step))) (nob := (setNo noP gsnP lp x63 x71 (gsnP + step))) (gsnb := (setG noP gsnP lp x63 x71 (gsnP + step))) (lb := (setL noP gsnP lp x63 x71 (gsnP + step))) hH361.all (ho325.sl.mono (seg_sub 3 rfl)) (ho351.sl.mono (seg_sub 1 rfl))) ?_)
                                rintro _ w367 ⟨rfl, hX365⟩
                                refine ⟨_, rfl, ?_⟩
                                have hH366 := hX365.of_all
                                refine s_op (o_not rfl ?_)
                                refine s_op (o_move (v := (.bool (!(decide ((setNo noP gsnP lp x63 x71 (gsnP + step)) = (setNo noP gsnP lp x63 x71 (gsnP + step)) ∧ (setG noP gsnP lp x63 x71 (gsnP + step)) = (setG noP gsnP lp x63 x71 (gsnP + step)) ∧ (setL noP gsnP lp x63 x71 (gsnP + step)) = (setL noP gsnP lp x63 x71 (gsnP + step))))))) rfl ?_)
                                rcases Bool.eq_false_or_eq_true (!(decide ((setNo noP gsnP lp x63 x71 (gsnP + step)) = (setNo noP gsnP lp x63 x71 (gsnP + step)) ∧ (setG noP gsnP lp x63 x71 (gsnP + step)) = (setG noP gsnP lp x63 x71 (gsnP + step)) ∧ (setL noP gsnP lp x63 x71 (gsnP + step)) = (setL noP gsnP lp x63 x71 (gsnP + step))))) with h368 | h368
                                · -- !(decide ((setNo noP gsnP lp x63 x71 (gsnP + step)) = (setNo noP gsnP lp x63 x71 (gsnP + step)) ∧ (setG noP gsnP lp x63 x71 (gsnP + step)) = (setG noP gsnP lp x63 x71 (gsnP + step)) ∧ (setL noP gsnP lp x63 x71 (gsnP + step)) = (setL noP gsnP lp x63 x71 (gsnP + step))))
                                  exact absurd h368 (by simp)
                                · -- not: !(decide ((setNo noP gsnP lp x63 x71 (gsnP + step)) = (setNo noP gsnP lp x63 x71 (gsnP + step)) ∧ (setG noP gsnP lp x63 x71 (gsnP + step)) = (setG noP gsnP lp x63 x71 (gsnP + step)) ∧ (setL noP gsnP lp x63 x71 (gsnP + step)) = (setL noP gsnP lp x63 x71 (gsnP + step))))
                                  refine s_on 124 rfl (congrArg Value.bool h368) (o_move (v := (.int .i64 (setE noP gsnP lp x63 x71 (gsnP + step)))) rfl ?_)
                                  refine s_on 124 rfl (congrArg Value.bool h368) (o_move (v := (.int .i64 (setE noP gsnP lp x63 x71 (gsnP + step)))) rfl ?_)
                                  refine s_on 124 rfl (congrArg Value.bool h368) (o_neq (a := (setE noP gsnP lp x63 x71 (gsnP + step))) (b := (setE noP gsnP lp x63 x71 (gsnP + step))) rfl rfl ?_)
                                  refine s_op (o_pick_f (u := (.bool (decide ((setE noP gsnP lp x63 x71 (gsnP + step)) ≠ (setE noP gsnP lp x63 x71 (gsnP + step)))))) ((rfl : _ = _).trans (congrArg Value.bool h368)) rfl ?_)
                                  refine s_op (o_move (v := (.bool (decide ((setE noP gsnP lp x63 x71 (gsnP + step)) ≠ (setE noP gsnP lp x63 x71 (gsnP + step)))))) rfl ?_)
                                  by_cases h369 : (setE noP gsnP lp x63 x71 (gsnP + step)) ≠ (setE noP gsnP lp x63 x71 (gsnP + step))
                                  · -- (setE noP gsnP lp x63 x71 (gsnP + step)) ≠ (setE noP gsnP lp x63 x71 (gsnP + step))
                                    exact absurd rfl h369
                                  · -- not: (setE noP gsnP lp x63 x71 (gsnP + step)) ≠ (setE noP gsnP lp x63 x71 (gsnP + step))
                                    refine s_on 129 rfl (congrArg Value.bool (decide_eq_false h369)) (o_loadN (cs := [(.int .i64 noP), (.int .i64 gsnP), vp]) Tryd.underlying24 rfl ti24 e47_4 hH366 (seg_sub 7 rfl) (CellsAt.one rfl) ?_)
                                    refine s_on 129 rfl (congrArg Value.bool (decide_eq_false h369)) (o_loadN (cs := [(.int .i64 noP), (.int .i64 gsnP), (.slice p306 lp.length c307)]) Tryd.underlying24 rfl ti24 rfl hH366 (seg_sub 4 rfl) (CellsAt.one rfl) ?_)
                                    refine s_on 129 rfl (congrArg Value.bool (decide_eq_false h369)) (o_callf (vs := #[(.agg #[(.int .i64 noP), (.int .i64 gsnP), vp]), (.agg #[(.int .i64 noP), (.int .i64 gsnP), (.slice p306 lp.length c307)])]) ca13 rfl (args2 rfl rfl) (r11same_c (noa := noP) (gsna := gsnP) (la := lp) (nob := noP) (gsnb := gsnP) (lb := lp) hH366.all (hp.mono (app_sub (seg_sub 6 rfl) (seg_sub 8 rfl))) (ho303.sl.mono (seg_sub 5 rfl))) ?_)
                                    rintro _ w372 ⟨rfl, hX370⟩
                                    refine ⟨_, rfl, ?_⟩
                                    have hH371 := hX370.of_all
                                    refine s_on 129 rfl (congrArg Value.bool (decide_eq_false h369)) (o_not rfl ?_)
                                    refine s_op (o_pick_f (u := (.bool (!(decide (noP = noP ∧ gsnP = gsnP ∧ lp = lp))))) ((rfl : _ = _).trans (congrArg Value.bool (decide_eq_false h369))) rfl ?_)
                                    refine s_nil ?_
                                    refine t_norm (hK364 _ _ ?_)
                                    refine c_condb rfl (fun h373 => ?_) (fun h373 => ?_)
                                    · -- !(decide (noP = noP ∧ gsnP = gsnP ∧ lp = lp))
                                      have h373_n : (decide (noP = noP ∧ gsnP = gsnP ∧ lp = lp)) = false := by simpa using h373
                                      exact absurd h373 (by simp)
                                    · -- not: !(decide (noP = noP ∧ gsnP = gsnP ∧ lp = lp))
                                      have h373_n : (decide (noP = noP ∧ gsnP = gsnP ∧ lp = lp)) = true := by simpa using h373
                                      refine wp_skip ?_
                                      refine t_norm (hK363 _ _ ?_)
                                      refine wp_seq_k fun K374 hK374 => ?_
                                      refine c_region ?_
                                      refine s_op (o_move (v := (.int .i64 (setE noP gsnP lp x63 x71 (gsnP + step)))) rfl ?_)
                                      refine s_op (o_eql (a := (setE noP gsnP lp x63 x71 (gsnP + step))) (b := 0) rfl rfl ?_)
                                      refine s_nil ?_
                                      refine t_norm (hK374 _ _ ?_)
                                      refine c_cond rfl (fun h375 => ?_) (fun h375 => ?_)
                                      · -- (setE noP gsnP lp x63 x71 (gsnP + step)) = 0
                                        refine c_region ?_
                                        refine s_op (o_loadN (cs := [(.int .i64 (setNo noP gsnP lp x63 x71 (gsnP + step))), (.int .i64 (setG noP gsnP lp x63 x71 (gsnP + step))), v323]) Tryd.underlying24 rfl ti24 rfl hH371 (seg_sub 2 rfl) (CellsAt.one rfl) ?_)
                                        refine s_eff (o_storeN (vs := [(.int .i64 (setNo noP gsnP lp x63 x71 (gsnP + step))), (.int .i64 (setG noP gsnP lp x63 x71 (gsnP + step))), v323]) (c' := #[(.int .i64 (setNo noP gsnP lp x63 x71 (gsnP + step))), (.int .i64 (setG noP gsnP lp x63 x71 (gsnP + step))), v323]) ti24 e47_4 rfl rfl rfl (by intro u hu; simp only [List.mem_cons, List.not_mem_nil, or_false] at hu; rcases hu with rfl | rfl | rfl <;> first | rfl | exact ho325.one) (by simp) (by kernel_rfl) (hH371.front 7 rfl) fun w376 hH377 => ?_)
                                        refine s_nil ?_
                                        refine b_norm ?_
                                        refine t_norm (hK57 _ _ ?_)
                                        refine c_region ?_
                                        refine s_op (o_move (v := (.int .i64 (i : Int))) e47_9 ?_)
                                        refine s_op (o_add (a := (i : Int)) (b := 1) rfl rfl (w64 (by omega) (by omega)) ?_)
                                        refine s_op (o_assign (v := (.int .i64 ((i : Int) + 1))) rfl ?_)
                                        refine s_nil ?_
                                        have hH378 : Has E w376 [s324, [Hp.one b2 (.cells #[(.int .i64 (setNo noP gsnP lp x63 x71 (gsnP + step))), (.int .i64 (setG noP gsnP lp x63 x71 (gsnP + step))), v323] 24 (0, 0))], R] := (((hH377.front 8 rfl).front 1 rfl).front 5 rfl).first 3 rfl
                                        refine t_norm ⟨20 - (i + 1), _, rfl, ?_, ?_⟩
                                        · omega
                                        · exact ⟨(i + 1), (setNo noP gsnP lp x63 x71 (gsnP + step)), (setG noP gsnP lp x63 x71 (gsnP + step)), v323, s324, (setL noP gsnP lp x63 x71 (gsnP + step)), rfl, hH378, ((ho325.sl.mono (fun _ h_ => List.mem_append_left _ h_))), (by omega), (by first | omega | (have h_ := setL_le noP gsnP lp; exact Nat.le_trans (h_ _ _ _) (by omega))), e47_0, e47_1, e47_2, e47_3, e47_4, rfl, e47_38⟩
                                      · -- not: (setE noP gsnP lp x63 x71 (gsnP + step)) = 0
                                        refine wp_skip ?_
                                        refine b_norm ?_
                                        refine t_norm (hK57 _ _ ?_)
                                        refine c_region ?_
                                        refine s_op (o_move (v := (.int .i64 (i : Int))) e47_9 ?_)
                                        refine s_op (o_add (a := (i : Int)) (b := 1) rfl rfl (w64 (by omega) (by omega)) ?_)
                                        refine s_op (o_assign (v := (.int .i64 ((i : Int) + 1))) rfl ?_)
                                        refine s_nil ?_
                                        have hH379 : Has E w372 [sp, [Hp.one b2 (.cells #[(.int .i64 noP), (.int .i64 gsnP), vp] 24 (0, 0))], R] := (((hH371.front 8 rfl).front 8 rfl).front 8 rfl).first 3 rfl
                                        refine t_norm ⟨20 - (i + 1), _, rfl, ?_, ?_⟩
                                        · omega
                                        · exact ⟨(i + 1), noP, gsnP, vp, sp, lp, rfl, hH379, (hp), (by omega), (by first | omega | (have h_ := setL_le noP gsnP lp; exact Nat.le_trans (h_ _ _ _) (by omega))), e47_0, e47_1, e47_2, e47_3, e47_4, rfl, e47_38⟩
                              · -- first operation 17
                                have hH380 : Has E { w334 with drawn := w334.drawn + 1 } [[Hp.one b297 (.cells #[(.int .i64 noP), (.int .i64 gsnP), (.slice p306 lp.length c307)] 24 (0, 0))], [Hp.one b2 (.cells #[(.int .i64 noP), (.int .i64 gsnP), vp] 24 (0, 0))], R] := (((hH338.front 6 rfl).front 6 rfl).front 4 rfl).first 3 rfl
                                refine ok_w 17 rfl (o_alloc (cs := #[(.int .i64 0), (.int .i64 0), (.slice none 0 0)]) ti24 rfl hH338 fun b381 w382 hH383 => ?_)
                                have hH384 : Has E w382 [[Hp.one b297 (.cells #[(.int .i64 noP), (.int .i64 gsnP), (.slice p306 lp.length c307)] 24 (0, 0))], [Hp.one b2 (.cells #[(.int .i64 noP), (.int .i64 gsnP), vp] 24 (0, 0))], R] := (((hH383.front 7 rfl).front 7 rfl).front 5 rfl).first 3 rfl
                                refine a_w 13 rfl (by kernel_rfl) hH384 (o_callf (vs := #[(.agg #[(.int .i64 noP), (.int .i64 gsnP), (.slice p306 lp.length c307)]), (S x63), (.agg #[(.bool x71.1), (S x71.2)]), (.int .i64 (gsnP + step))]) ca17 rfl (args4 rfl rfl rfl rfl) (r11set_c (no := noP) (gsn := gsnP) (l := lp) (key := x63) (v := x71) (g := gsnP + step) hH383.all (ho303.sl.mono (seg_sub 4 rfl)) (by first | omega | (simp only []; omega) | (simp; done) | (simp; omega))) ?_)
                                rintro _ w390 ⟨v385, s386, rfl, ho387, hX388⟩
                                refine ⟨_, rfl, ?_⟩
                                have hH389 : Has E w390 [s386, [Hp.one b381 (.cells #[(.int .i64 0), (.int .i64 0), (.slice none 0 0)] 24 (0, 0))], [Hp.one b330 (.cells #[(.int .i64 (setNo noP gsnP lp x63 x71 (gsnP + step))), (.int .i64 (setG noP gsnP lp x63 x71 (gsnP + step))), v323] 24 (0, 0))], s324, [Hp.one b297 (.cells #[(.int .i64 noP), (.int .i64 gsnP), (.slice p306 lp.length c307)] 24 (0, 0))], s302, sp, [Hp.one b2 (.cells #[(.int .i64 noP), (.int .i64 gsnP), vp] 24 (0, 0))], R] := hX388.of_all1
                                refine a_op 14 rfl (by kernel_rfl) (fun w_ h_ => o_move (v := (.tuple #[(.agg #[(.int .i64 (setNo noP gsnP lp x63 x71 (gsnP + step))), (.int .i64 (setG noP gsnP lp x63 x71 (gsnP + step))), v385]), (.int .i64 (setE noP gsnP lp x63 x71 (gsnP + step)))])) rfl ⟨rfl, rfl⟩) ?_
                                refine a_op 15 rfl (by kernel_rfl) (fun w_ h_ => o_extract (v := (.agg #[(.int .i64 (setNo noP gsnP lp x63 x71 (gsnP + step))), (.int .i64 (setG noP gsnP lp x63 x71 (gsnP + step))), v385])) rfl rfl ⟨rfl, rfl⟩) ?_
                                refine a_op 16 rfl (by kernel_rfl) (fun w_ h_ => o_extract (v := (.int .i64 (setE noP gsnP lp x63 x71 (gsnP + step)))) rfl rfl ⟨rfl, rfl⟩) ?_
                                have hH391 : Has E w390 [[Hp.one b297 (.cells #[(.int .i64 noP), (.int .i64 gsnP), (.slice p306 lp.length c307)] 24 (0, 0))], [Hp.one b2 (.cells #[(.int .i64 noP), (.int .i64 gsnP), vp] 24 (0, 0))], R] := (((hH389.front 8 rfl).front 8 rfl).front 6 rfl).first 3 rfl
                                refine a_we 18 rfl (by kernel_rfl) hH391 (o_storeN (vs := [(.int .i64 (setNo noP gsnP lp x63 x71 (gsnP + step))), (.int .i64 (setG noP gsnP lp x63 x71 (gsnP + step))), v385]) (c' := #[(.int .i64 (setNo noP gsnP lp x63 x71 (gsnP + step))), (.int .i64 (setG noP gsnP lp x63 x71 (gsnP + step))), v385]) ti24 rfl rfl rfl rfl (by intro u hu; simp only [List.mem_cons, List.not_mem_nil, or_false] at hu; rcases hu with rfl | rfl | rfl <;> first | rfl | exact ho387.one) (by simp) (by kernel_rfl) (hH389.front 1 rfl) fun w392 hH393 => ?_)
                                have hH394 : Has E w392 [[Hp.one b297 (.cells #[(.int .i64 noP), (.int .i64 gsnP), (.slice p306 lp.length c307)] 24 (0, 0))], [Hp.one b2 (.cells #[(.int .i64 noP), (.int .i64 gsnP), vp] 24 (0, 0))], R] := (((hH393.front 8 rfl).front 8 rfl).front 6 rfl).first 3 rfl
                                refine a_done (by kernel_rfl) hH394 ?_
                                refine r_op 19 rfl (by kernel_rfl) (o_assign (v := (.int .i64 (setE noP gsnP lp x63 x71 (gsnP + step)))) rfl ?_)
                                refine Rest.done (by kernel_rfl) ?_
                                refine t_norm (hK337 _ _ ?_)
                                refine wp_seq_k fun K395 hK395 => ?_
                                refine wp_seq_k fun K396 hK396 => ?_
                                refine c_region ?_
                                refine s_op (o_loadN (cs := [(.int .i64 (setNo noP gsnP lp x63 x71 (gsnP + step))), (.int .i64 (setG noP gsnP lp x63 x71 (gsnP + step))), v323]) Tryd.underlying24 rfl ti24 rfl hH393 (seg_sub 2 rfl) (CellsAt.one rfl) ?_)
                                refine s_op (o_loadN (cs := [(.int .i64 (setNo noP gsnP lp x63 x71 (gsnP + step))), (.int .i64 (setG noP gsnP lp x63 x71 (gsnP + step))), v385]) Tryd.underlying24 rfl ti24 rfl hH393 (seg_sub 0 rfl) (CellsAt.one rfl) ?_)
                                refine s_op (o_callf (vs := #[(.agg #[(.int .i64 (setNo noP gsnP lp x63 x71 (gsnP + step))), (.int .i64 (setG noP gsnP lp x63 x71 (gsnP + step))), v323]), (.agg #[(.int .i64 (setNo noP gsnP lp x63 x71 (gsnP + step))), (.int .i64 (setG noP gsnP lp x63 x71 (gsnP + step))), v385])]) ca13 rfl (args2 rfl rfl) (r11same_c (noa := (setNo noP gsnP lp x63 x71 (gsnP + step))) (gsna := (setG noP gsnP lp x63 x71 (gsnP + step))) (la := (setL noP gsnP lp x63 x71 (gsnP + step))) (nob := (setNo noP gsnP lp x63 x71 (gsnP + step))) (gsnb := (setG noP gsnP lp x63 x71 (gsnP + step))) (lb := (setL noP gsnP lp x63 x71 (gsnP + step))) hH393.all (ho325.sl.mono (seg_sub 3 rfl)) (ho387.sl.mono (seg_sub 1 rfl))) ?_)
                                rintro _ w399 ⟨rfl, hX397⟩
                                refine ⟨_, rfl, ?_⟩
                                have hH398 := hX397.of_all
                                refine s_op (o_not rfl ?_)
                                refine s_op (o_move (v := (.bool (!(decide ((setNo noP gsnP lp x63 x71 (gsnP + step)) = (setNo noP gsnP lp x63 x71 (gsnP + step)) ∧ (setG noP gsnP lp x63 x71 (gsnP + step)) = (setG noP gsnP lp x63 x71 (gsnP + step)) ∧ (setL noP gsnP lp x63 x71 (gsnP + step)) = (setL noP gsnP lp x63 x71 (gsnP + step))))))) rfl ?_)
                                rcases Bool.eq_false_or_eq_true (!(decide ((setNo noP gsnP lp x63 x71 (gsnP + step)) = (setNo noP gsnP lp x63 x71 (gsnP + step)) ∧ (setG noP gsnP lp x63 x71 (gsnP + step)) = (setG noP gsnP lp x63 x71 (gsnP + step)) ∧ (setL noP gsnP lp x63 x71 (gsnP + step)) = (setL noP gsnP lp x63 x71 (gsnP + step))))) with h400 | h400
                                · -- !(decide ((setNo noP gsnP lp x63 x71 (gsnP + step)) = (setNo noP gsnP lp x63 x71 (gsnP + step)) ∧ (setG noP gsnP lp x63 x71 (gsnP + step)) = (setG noP gsnP lp x63 x71 (gsnP + step)) ∧ (setL noP gsnP lp x63 x71 (gsnP + step)) = (setL noP gsnP lp x63 x71 (gsnP + step))))
                                  exact absurd h400 (by simp)
                                · -- not: !(decide ((setNo noP gsnP lp x63 x71 (gsnP + step)) = (setNo noP gsnP lp x63 x71 (gsnP + step)) ∧ (setG noP gsnP lp x63 x71 (gsnP + step)) = (setG noP gsnP lp x63 x71 (gsnP + step)) ∧ (setL noP gsnP lp x63 x71 (gsnP + step)) = (setL noP gsnP lp x63 x71 (gsnP + step))))
                                  refine s_on 124 rfl (congrArg Value.bool h400) (o_move (v := (.int .i64 (setE noP gsnP lp x63 x71 (gsnP + step)))) rfl ?_)
                                  refine s_on 124 rfl (congrArg Value.bool h400) (o_move (v := (.int .i64 (setE noP gsnP lp x63 x71 (gsnP + step)))) rfl ?_)
                                  refine s_on 124 rfl (congrArg Value.bool h400) (o_neq (a := (setE noP gsnP lp x63 x71 (gsnP + step))) (b := (setE noP gsnP lp x63 x71 (gsnP + step))) rfl rfl ?_)
                                  refine s_op (o_pick_f (u := (.bool (decide ((setE noP gsnP lp x63 x71 (gsnP + step)) ≠ (setE noP gsnP lp x63 x71 (gsnP + step)))))) ((rfl : _ = _).trans (congrArg Value.bool h400)) rfl ?_)
                                  refine s_op (o_move (v := (.bool (decide ((setE noP gsnP lp x63 x71 (gsnP + step)) ≠ (setE noP gsnP lp x63 x71 (gsnP + step)))))) rfl ?_)
                                  by_cases h401 : (setE noP gsnP lp x63 x71 (gsnP + step)) ≠ (setE noP gsnP lp x63 x71 (gsnP + step))
                                  · -- (setE noP gsnP lp x63 x71 (gsnP + step)) ≠ (setE noP gsnP lp x63 x71 (gsnP + step))
                                    exact absurd rfl h401
                                  · -- not: (setE noP gsnP lp x63 x71 (gsnP + step)) ≠ (setE noP gsnP lp x63 x71 (gsnP + step))
                                    refine s_on 129 rfl (congrArg Value.bool (decide_eq_false h401)) (o_loadN (cs := [(.int .i64 noP), (.int .i64 gsnP), vp]) Tryd.underlying24 rfl ti24 e47_4 hH398 (seg_sub 7 rfl) (CellsAt.one rfl) ?_)
                                    refine s_on 129 rfl (congrArg Value.bool (decide_eq_false h401)) (o_loadN (cs := [(.int .i64 noP), (.int .i64 gsnP), (.slice p306 lp.length c307)]) Tryd.underlying24 rfl ti24 rfl hH398 (seg_sub 4 rfl) (CellsAt.one rfl) ?_)
                                    refine s_on 129 rfl (congrArg Value.bool (decide_eq_false h401)) (o_callf (vs := #[(.agg #[(.int .i64 noP), (.int .i64 gsnP), vp]), (.agg #[(.int .i64 noP), (.int .i64 gsnP), (.slice p306 lp.length c307)])]) ca13 rfl (args2 rfl rfl) (r11same_c (noa := noP) (gsna := gsnP) (la := lp) (nob := noP) (gsnb := gsnP) (lb := lp) hH398.all (hp.mono (app_sub (seg_sub 6 rfl) (seg_sub 8 rfl))) (ho303.sl.mono (seg_sub 5 rfl))) ?_)
                                    rintro _ w404 ⟨rfl, hX402⟩
                                    refine ⟨_, rfl, ?_⟩
                                    have hH403 := hX402.of_all
                                    refine s_on 129 rfl (congrArg Value.bool (decide_eq_false h401)) (o_not rfl ?_)
                                    refine s_op (o_pick_f (u := (.bool (!(decide (noP = noP ∧ gsnP = gsnP ∧ lp = lp))))) ((rfl : _ = _).trans (congrArg Value.bool (decide_eq_false h401))) rfl ?_)
                                    refine s_nil ?_
                                    refine t_norm (hK396 _ _ ?_)
                                    refine c_condb rfl (fun h405 => ?_) (fun h405 => ?_)
                                    · -- !(decide (noP = noP ∧ gsnP = gsnP ∧ lp = lp))
                                      have h405_n : (decide (noP = noP ∧ gsnP = gsnP ∧ lp = lp)) = false := by simpa using h405
                                      exact absurd h405 (by simp)
                                    · -- not: !(decide (noP = noP ∧ gsnP = gsnP ∧ lp = lp))
                                      have h405_n : (decide (noP = noP ∧ gsnP = gsnP ∧ lp = lp)) = true := by simpa using h405
                                      refine wp_skip ?_
                                      refine t_norm (hK395 _ _ ?_)
                                      refine wp_seq_k fun K406 hK406 => ?_
                                      refine c_region ?_
                                      refine s_op (o_move (v := (.int .i64 (setE noP gsnP lp x63 x71 (gsnP + step)))) rfl ?_)
                                      refine s_op (o_eql (a := (setE noP gsnP lp x63 x71 (gsnP + step))) (b := 0) rfl rfl ?_)
                                      refine s_nil ?_
                                      refine t_norm (hK406 _ _ ?_)
                                      refine c_cond rfl (fun h407 => ?_) (fun h407 => ?_)
                                      · -- (setE noP gsnP lp x63 x71 (gsnP + step)) = 0
                                        refine c_region ?_
                                        refine s_op (o_loadN (cs := [(.int .i64 (setNo noP gsnP lp x63 x71 (gsnP + step))), (.int .i64 (setG noP gsnP lp x63 x71 (gsnP + step))), v323]) Tryd.underlying24 rfl ti24 rfl hH403 (seg_sub 2 rfl) (CellsAt.one rfl) ?_)
                                        refine s_eff (o_storeN (vs := [(.int .i64 (setNo noP gsnP lp x63 x71 (gsnP + step))), (.int .i64 (setG noP gsnP lp x63 x71 (gsnP + step))), v323]) (c' := #[(.int .i64 (setNo noP gsnP lp x63 x71 (gsnP + step))), (.int .i64 (setG noP gsnP lp x63 x71 (gsnP + step))), v323]) ti24 e47_4 rfl rfl rfl (by intro u hu; simp only [List.mem_cons, List.not_mem_nil, or_false] at hu; rcases hu with rfl | rfl | rfl <;> first | rfl | exact ho325.one) (by simp) (by kernel_rfl) (hH403.front 7 rfl) fun w408 hH409 => ?_)
                                        refine s_nil ?_
                                        refine b_norm ?_
                                        refine t_norm (hK57 _ _ ?_)
                                        refine c_region ?_
                                        refine s_op (o_move (v := (.int .i64 (i : Int))) e47_9 ?_)
                                        refine s_op (o_add (a := (i : Int)) (b := 1) rfl rfl (w64 (by omega) (by omega)) ?_)
                                        refine s_op (o_assign (v := (.int .i64 ((i : Int) + 1))) rfl ?_)
                                        refine s_nil ?_
                                        have hH410 : Has E w408 [s324, [Hp.one b2 (.cells #[(.int .i64 (setNo noP gsnP lp x63 x71 (gsnP + step))), (.int .i64 (setG noP gsnP lp x63 x71 (gsnP + step))), v323] 24 (0, 0))], R] := (((hH409.front 8 rfl).front 1 rfl).front 5 rfl).first 3 rfl
                                        refine t_norm ⟨20 - (i + 1), _, rfl, ?_, ?_⟩
                                        · omega
                                        · exact ⟨(i + 1), (setNo noP gsnP lp x63 x71 (gsnP + step)), (setG noP gsnP lp x63 x71 (gsnP + step)), v323, s324, (setL noP gsnP lp x63 x71 (gsnP + step)), rfl, hH410, ((ho325.sl.mono (fun _ h_ => List.mem_append_left _ h_))), (by omega), (by first | omega | (have h_ := setL_le noP gsnP lp; exact Nat.le_trans (h_ _ _ _) (by omega))), e47_0, e47_1, e47_2, e47_3, e47_4, rfl, e47_38⟩
                                      · -- not: (setE noP gsnP lp x63 x71 (gsnP + step)) = 0
                                        refine wp_skip ?_
                                        refine b_norm ?_
                                        refine t_norm (hK57 _ _ ?_)
                                        refine c_region ?_
                                        refine s_op (o_move (v := (.int .i64 (i : Int))) e47_9 ?_)
                                        refine s_op (o_add (a := (i : Int)) (b := 1) rfl rfl (w64 (by omega) (by omega)) ?_)
                                        refine s_op (o_assign (v := (.int .i64 ((i : Int) + 1))) rfl ?_)
                                        refine s_nil ?_
                                        have hH411 : Has E w404 [sp, [Hp.one b2 (.cells #[(.int .i64 noP), (.int .i64 gsnP), vp] 24 (0, 0))], R] := (((hH403.front 8 rfl).front 8 rfl).front 8 rfl).first 3 rfl
                                        refine t_norm ⟨20 - (i + 1), _, rfl, ?_, ?_⟩
                                        · omega
                                        · exact ⟨(i + 1), noP, gsnP, vp, sp, lp, rfl, hH411, (hp), (by omega), (by first | omega | (have h_ := setL_le noP gsnP lp; exact Nat.le_trans (h_ _ _ _) (by omega))), e47_0, e47_1, e47_2, e47_3, e47_4, rfl, e47_38⟩
                            · -- first operation 17
                              have hH412 : Has E { w309 with drawn := w309.drawn + 1 } [[Hp.one b2 (.cells #[(.int .i64 noP), (.int .i64 gsnP), vp] 24 (0, 0))], R] := ((hH312.front 4 rfl).front 4 rfl).first 2 rfl
                              refine ok_w 17 rfl (o_alloc (cs := #[(.int .i64 0), (.int .i64 0), (.slice none 0 0)]) ti24 rfl hH312 fun b413 w414 hH415 => ?_)
                              have hH416 : Has E w414 [[Hp.one b2 (.cells #[(.int .i64 noP), (.int .i64 gsnP), vp] 24 (0, 0))], R] := ((hH415.front 5 rfl).front 5 rfl).first 2 rfl
                              refine a_w 13 rfl (by kernel_rfl) hH416 (o_callf (vs := #[(.agg #[(.int .i64 noP), (.int .i64 gsnP), vp]), (S x63), (.agg #[(.bool x71.1), (S x71.2)]), (.int .i64 (gsnP + step))]) ca16 rfl (args4 rfl rfl rfl rfl) (pset_c (no := noP) (gsn := gsnP) (l := lp) (key := x63) (v := x71) (g := gsnP + step) hH415.all (hp.mono (app_sub (seg_sub 3 rfl) (seg_sub 5 rfl))) (by first | omega | (simp only []; omega) | (simp; done) | (simp; omega))) ?_)
                              rintro _ w422 ⟨v417, s418, rfl, ho419, hX420⟩
                              refine ⟨_, rfl, ?_⟩
                              have hH421 : Has E w422 [s418, [Hp.one b413 (.cells #[(.int .i64 0), (.int .i64 0), (.slice none 0 0)] 24 (0, 0))], [Hp.one b297 (.cells #[(.int .i64 noP), (.int .i64 gsnP), (.slice p306 lp.length c307)] 24 (0, 0))], s302, sp, [Hp.one b2 (.cells #[(.int .i64 noP), (.int .i64 gsnP), vp] 24 (0, 0))], R] := hX420.of_all1
                              refine a_op 14 rfl (by kernel_rfl) (fun w_ h_ => o_move (v := (.tuple #[(.agg #[(.int .i64 (setNo noP gsnP lp x63 x71 (gsnP + step))), (.int .i64 (setG noP gsnP lp x63 x71 (gsnP + step))), v417]), (.int .i64 (setE noP gsnP lp x63 x71 (gsnP + step)))])) rfl ⟨rfl, rfl⟩) ?_
                              refine a_op 15 rfl (by kernel_rfl) (fun w_ h_ => o_extract (v := (.agg #[(.int .i64 (setNo noP gsnP lp x63 x71 (gsnP + step))), (.int .i64 (setG noP gsnP lp x63 x71 (gsnP + step))), v417])) rfl rfl ⟨rfl, rfl⟩) ?_
                              refine a_op 16 rfl (by kernel_rfl) (fun w_ h_ => o_extract (v := (.int .i64 (setE noP gsnP lp x63 x71 (gsnP + step)))) rfl rfl ⟨rfl, rfl⟩) ?_
                              have hH423 : Has E w422 [[Hp.one b2 (.cells #[(.int .i64 noP), (.int .i64 gsnP), vp] 24 (0, 0))], R] := ((hH421.front 6 rfl).front 6 rfl).first 2 rfl
                              refine a_we 18 rfl (by kernel_rfl) hH423 (o_storeN (vs := [(.int .i64 (setNo noP gsnP lp x63 x71 (gsnP + step))), (.int .i64 (setG noP gsnP lp x63 x71 (gsnP + step))), v417]) (c' := #[(.int .i64 (setNo noP gsnP lp x63 x71 (gsnP + step))), (.int .i64 (setG noP gsnP lp x63 x71 (gsnP + step))), v417]) ti24 rfl rfl rfl rfl (by intro u hu; simp only [List.mem_cons, List.not_mem_nil, or_false] at hu; rcases hu with rfl | rfl | rfl <;> first | rfl | exact ho419.one) (by simp) (by kernel_rfl) (hH421.front 1 rfl) fun w424 hH425 => ?_)
                              have hH426 : Has E w424 [[Hp.one b2 (.cells #[(.int .i64 noP), (.int .i64 gsnP), vp] 24 (0, 0))], R] := ((hH425.front 6 rfl).front 6 rfl).first 2 rfl
                              refine a_done (by kernel_rfl) hH426 ?_
                              refine r_op 19 rfl (by kernel_rfl) (o_assign (v := (.int .i64 (setE noP gsnP lp x63 x71 (gsnP + step)))) rfl ?_)
                              refine Rest.done (by kernel_rfl) ?_
                              refine t_norm (hK311 _ _ ?_)
                              refine wp_seq_k fun K427 hK427 => ?_
                              refine Rest.region mixed (by kernel_rfl) ?_
                              have hH428 : Has E { w424 with drawn := w424.drawn + 1 } [[Hp.one b413 (.cells #[(.int .i64 (setNo noP gsnP lp x63 x71 (gsnP + step))), (.int .i64 (setG noP gsnP lp x63 x71 (gsnP + step))), v417] 24 (0, 0))], s418, [Hp.one b297 (.cells #[(.int .i64 noP), (.int .i64 gsnP), (.slice p306 lp.length c307)] 24 (0, 0))], s302, sp, [Hp.one b2 (.cells #[(.int .i64 noP), (.int .i64 gsnP), vp] 24 (0, 0))], R] := Has0.drew hH425 _
                              refine Rest.phaseA (fun w_ => Has E w_ [[Hp.one b297 (.cells #[(.int .i64 noP), (.int .i64 gsnP), (.slice p306 lp.length c307)] 24 (0, 0))], [Hp.one b2 (.cells #[(.int .i64 noP), (.int .i64 gsnP), vp] 24 (0, 0))], R]) 0 19 19 rfl (by decide) (by kernel_rfl) ?_
                              refine a_op 0 rfl (by kernel_rfl) (fun w_ h_ => o_loadN (cs := [(.int .i64 noP), (.int .i64 gsnP), (.slice p306 lp.length c307)]) Tryd.underlying24 rfl ti24 rfl h_ (seg_sub 0 rfl) (CellsAt.one rfl) ⟨rfl, rfl⟩) ?_
                              refine a_op 1 rfl (by kernel_rfl) (fun w_ h_ => o_move (v := v_keys) e47_1 ⟨rfl, rfl⟩) ?_
                              refine a_op 2 rfl (by kernel_rfl) (fun w_ h_ => o_move (v := (.int .i64 (i : Int))) e47_9 ⟨rfl, rfl⟩) ?_
                              obtain ⟨b429, o430, hc431, ho432⟩ := ix_ex1 Tryd.underlying32 ti9 h_keys (by omega) hx64
                              refine a_op 3 rfl (by kernel_rfl) (fun w_ h_ => ho432 rfl rfl ⟨rfl, rfl⟩) ?_
                              refine a_op 4 rfl (by kernel_rfl) (fun w_ h_ => o_load1 (v := (S x63)) Tryd.underlying9 rfl rfl h_ (seg_sub 2 rfl) hc431 ⟨rfl, rfl⟩) ?_
                              refine a_op 5 rfl (by kernel_rfl) (fun w_ h_ => o_move (v := v_vals) e47_2 ⟨rfl, rfl⟩) ?_
                              refine a_op 6 rfl (by kernel_rfl) (fun w_ h_ => o_move (v := (.int .i64 (i : Int))) e47_9 ⟨rfl, rfl⟩) ?_
                              obtain ⟨b433, o434, hc435, ho436⟩ := ix_exF vlC_len Tryd.underlying33 ti29 h_vals (by omega) hx72
                              refine a_op 7 rfl (by kernel_rfl) (fun w_ h_ => ho436 rfl rfl ⟨rfl, rfl⟩) ?_
                              refine a_op 8 rfl (by kernel_rfl) (fun w_ h_ => o_loadN (cs := [(.bool x71.1), (S x71.2)]) Tryd.underlying29 rfl ti29 rfl h_ (seg_sub 2 rfl) hc435 ⟨rfl, rfl⟩) ?_
                              refine a_op 9 rfl (by kernel_rfl) (fun w_ h_ => o_fieldAddr (k := 1) (fun _ => by kernel_rfl) e47_4 ⟨rfl, rfl⟩) ?_
                              refine a_op 10 rfl (by kernel_rfl) (fun w_ h_ => o_load1 (v := (.int .i64 gsnP)) Tryd.underlying3 rfl rfl h_ (seg_sub 1 rfl) (CellsAt.one rfl) ⟨rfl, rfl⟩) ?_
                              refine a_op 11 rfl (by kernel_rfl) (fun w_ h_ => o_move (v := (.int .i64 step)) e47_3 ⟨rfl, rfl⟩) ?_
                              refine a_op 12 rfl (by kernel_rfl) (fun w_ h_ => o_add (a := gsnP) (b := step) rfl rfl (w64 (by omega) (by omega)) ⟨rfl, rfl⟩) ?_
                              have hH437 : Has E { w424 with drawn := w424.drawn + 1 } [[Hp.one b297 (.cells #[(.int .i64 noP), (.int .i64 gsnP), (.slice p306 lp.length c307)] 24 (0, 0))], [Hp.one b2 (.cells #[(.int .i64 noP), (.int .i64 gsnP), vp] 24 (0, 0))], R] := (((hH428.front 6 rfl).front 6 rfl).front 4 rfl).first 3 rfl
                              refine a_two 13 17 (by kernel_rfl) hH437 ?_ ?_
                              · -- first operation 13
                                have hH438 : Has E { w424 with drawn := w424.drawn + 1 } [[Hp.one b297 (.cells #[(.int .i64 noP), (.int .i64 gsnP), (.slice p306 lp.length c307)] 24 (0, 0))], [Hp.one b2 (.cells #[(.int .i64 noP), (.int .i64 gsnP), vp] 24 (0, 0))], R] := (((hH428.front 6 rfl).front 6 rfl).front 4 rfl).first 3 rfl
                                refine ok_w 13 rfl (o_callf (vs := #[(.agg #[(.int .i64 noP), (.int .i64 gsnP), (.slice p306 lp.length c307)]), (S x63), (.agg #[(.bool x71.1), (S x71.2)]), (.int .i64 (gsnP + step))]) ca17 rfl (args4 rfl rfl rfl rfl) (r11set_c (no := noP) (gsn := gsnP) (l := lp) (key := x63) (v := x71) (g := gsnP + step) hH428.all (ho303.sl.mono (seg_sub 3 rfl)) (by first | omega | (simp only []; omega) | (simp; done) | (simp; omega))) ?_)
                                rintro _ w444 ⟨v439, s440, rfl, ho441, hX442⟩
                                refine ⟨_, rfl, ?_⟩
                                have hH443 : Has E w444 [s440, [Hp.one b413 (.cells #[(.int .i64 (setNo noP gsnP lp x63 x71 (gsnP + step))), (.int .i64 (setG noP gsnP lp x63 x71 (gsnP + step))), v417] 24 (0, 0))], s418, [Hp.one b297 (.cells #[(.int .i64 noP), (.int .i64 gsnP), (.slice p306 lp.length c307)] 24 (0, 0))], s302, sp, [Hp.one b2 (.cells #[(.int .i64 noP), (.int .i64 gsnP), vp] 24 (0, 0))], R] := hX442.of_all1
                                refine a_op 14 rfl (by kernel_rfl) (fun w_ h_ => o_move (v := (.tuple #[(.agg #[(.int .i64 (setNo noP gsnP lp x63 x71 (gsnP + step))), (.int .i64 (setG noP gsnP lp x63 x71 (gsnP + step))), v439]), (.int .i64 (setE noP gsnP lp x63 x71 (gsnP + step)))])) rfl ⟨rfl, rfl⟩) ?_
                                refine a_op 15 rfl (by kernel_rfl) (fun w_ h_ => o_extract (v := (.agg #[(.int .i64 (setNo noP gsnP lp x63 x71 (gsnP + step))), (.int .i64 (setG noP gsnP lp x63 x71 (gsnP + step))), v439])) rfl rfl ⟨rfl, rfl⟩) ?_
                                refine a_op 16 rfl (by kernel_rfl) (fun w_ h_ => o_extract (v := (.int .i64 (setE noP gsnP lp x63 x71 (gsnP + step)))) rfl rfl ⟨rfl, rfl⟩) ?_
                                have hH445 : Has E w444 [[Hp.one b297 (.cells #[(.int .i64 noP), (.int .i64 gsnP), (.slice p306 lp.length c307)] 24 (0, 0))], [Hp.one b2 (.cells #[(.int .i64 noP), (.int .i64 gsnP), vp] 24 (0, 0))], R] := (((hH443.front 7 rfl).front 7 rfl).front 5 rfl).first 3 rfl
                                refine a_w 17 rfl (by kernel_rfl) hH445 (o_alloc (cs := #[(.int .i64 0), (.int .i64 0), (.slice none 0 0)]) ti24 rfl hH443 fun b446 w447 hH448 => ?_)
                                have hH449 : Has E w447 [[Hp.one b297 (.cells #[(.int .i64 noP), (.int .i64 gsnP), (.slice p306 lp.length c307)] 24 (0, 0))], [Hp.one b2 (.cells #[(.int .i64 noP), (.int .i64 gsnP), vp] 24 (0, 0))], R] := (((hH448.front 8 rfl).front 8 rfl).front 6 rfl).first 3 rfl
                                refine a_we 18 rfl (by kernel_rfl) hH449 (o_storeN (vs := [(.int .i64 (setNo noP gsnP lp x63 x71 (gsnP + step))), (.int .i64 (setG noP gsnP lp x63 x71 (gsnP + step))), v439]) (c' := #[(.int .i64 (setNo noP gsnP lp x63 x71 (gsnP + step))), (.int .i64 (setG noP gsnP lp x63 x71 (gsnP + step))), v439]) ti24 rfl rfl rfl rfl (by intro u hu; simp only [List.mem_cons, List.not_mem_nil, or_false] at hu; rcases hu with rfl | rfl | rfl <;> first | rfl | exact ho441.one) (by simp) (by kernel_rfl) (hH448.front 0 rfl) fun w450 hH451 => ?_)
                                have hH452 : Has E w450 [[Hp.one b297 (.cells #[(.int .i64 noP), (.int .i64 gsnP), (.slice p306 lp.length c307)] 24 (0, 0))], [Hp.one b2 (.cells #[(.int .i64 noP), (.int .i64 gsnP), vp] 24 (0, 0))], R] := (((hH451.front 8 rfl).front 8 rfl).front 6 rfl).first 3 rfl
                                refine a_done (by kernel_rfl) hH452 ?_
                                refine r_op 19 rfl (by kernel_rfl) (o_assign (v := (.int .i64 (setE noP gsnP lp x63 x71 (gsnP + step)))) rfl ?_)
                                refine Rest.done (by kernel_rfl) ?_
                                refine t_norm (hK427 _ _ ?_)
                                refine wp_seq_k fun K453 hK453 => ?_
                                refine wp_seq_k fun K454 hK454 => ?_
                                refine c_region ?_
                                refine s_op (o_loadN (cs := [(.int .i64 (setNo noP gsnP lp x63 x71 (gsnP + step))), (.int .i64 (setG noP gsnP lp x63 x71 (gsnP + step))), v417]) Tryd.underlying24 rfl ti24 rfl hH451 (seg_sub 2 rfl) (CellsAt.one rfl) ?_)
                                refine s_op (o_loadN (cs := [(.int .i64 (setNo noP gsnP lp x63 x71 (gsnP + step))), (.int .i64 (setG noP gsnP lp x63 x71 (gsnP + step))), v439]) Tryd.underlying24 rfl ti24 rfl hH451 (seg_sub 0 rfl) (CellsAt.one rfl) ?_)
                                refine s_op (o_callf (vs := #[(.agg #[(.int .i64 (setNo noP gsnP lp x63 x71 (gsnP + step))), (.int .i64 (setG noP gsnP lp x63 x71 (gsnP + step))), v417]), (.agg #[(.int .i64 (setNo noP gsnP lp x63 x71 (gsnP + step))), (.int .i64 (setG noP gsnP lp x63 x71 (gsnP + step))), v439])]) ca13 rfl (args2 rfl rfl) (r11same_c (noa := (setNo noP gsnP lp x63 x71 (gsnP + step))) (gsna := (setG noP gsnP lp x63 x71 (gsnP + step))) (la := (setL noP gsnP lp x63 x71 (gsnP + step))) (nob := (setNo noP gsnP lp x63 x71 (gsnP + step))) (gsnb := (setG noP gsnP lp x63 x71 (gsnP + step))) (lb := (setL noP gsnP lp x63 x71 (gsnP + step))) hH451.all (ho419.sl.mono (seg_sub 3 rfl)) (ho441.sl.mono (seg_sub 1 rfl))) ?_)
                                rintro _ w457 ⟨rfl, hX455⟩
                                refine ⟨_, rfl, ?_⟩
                                have hH456 := hX455.of_all
                                refine s_op (o_not rfl ?_)
                                refine s_op (o_move (v := (.bool (!(decide ((setNo noP gsnP lp x63 x71 (gsnP + step)) = (setNo noP gsnP lp x63 x71 (gsnP + step)) ∧ (setG noP gsnP lp x63 x71 (gsnP + step)) = (setG noP gsnP lp x63 x71 (gsnP + step)) ∧ (setL noP gsnP lp x63 x71 (gsnP + step)) = (setL noP gsnP lp x63 x71 (gsnP + step))))))) rfl ?_)
                                rcases Bool.eq_false_or_eq_true (!(decide ((setNo noP gsnP lp x63 x71 (gsnP + step)) = (setNo noP gsnP lp x63 x71 (gsnP + step)) ∧ (setG noP gsnP lp x63 x71 (gsnP + step)) = (setG noP gsnP lp x63 x71 (gsnP + step)) ∧ (setL noP gsnP lp x63 x71 (gsnP + step)) = (setL noP gsnP lp x63 x71 (gsnP + step))))) with h458 | h458
                                · -- !(decide ((setNo noP gsnP lp x63 x71 (gsnP + step)) = (setNo noP gsnP lp x63 x71 (gsnP + step)) ∧ (setG noP gsnP lp x63 x71 (gsnP + step)) = (setG noP gsnP lp x63 x71 (gsnP + step)) ∧ (setL noP gsnP lp x63 x71 (gsnP + step)) = (setL noP gsnP lp x63 x71 (gsnP + step))))
                                  exact absurd h458 (by simp)
                                · -- not: !(decide ((setNo noP gsnP lp x63 x71 (gsnP + step)) = (setNo noP gsnP lp x63 x71 (gsnP + step)) ∧ (setG noP gsnP lp x63 x71 (gsnP + step)) = (setG noP gsnP lp x63 x71 (gsnP + step)) ∧ (setL noP gsnP lp x63 x71 (gsnP + step)) = (setL noP gsnP lp x63 x71 (gsnP + step))))
                                  refine s_on 124 rfl (congrArg Value.bool h458) (o_move (v := (.int .i64 (setE noP gsnP lp x63 x71 (gsnP + step)))) rfl ?_)
                                  refine s_on 124 rfl (congrArg Value.bool h458) (o_move (v := (.int .i64 (setE noP gsnP lp x63 x71 (gsnP + step)))) rfl ?_)
                                  refine s_on 124 rfl (congrArg Value.bool h458) (o_neq (a := (setE noP gsnP lp x63 x71 (gsnP + step))) (b := (setE noP gsnP lp x63 x71 (gsnP + step))) rfl rfl ?_)
                                  refine s_op (o_pick_f (u := (.bool (decide ((setE noP gsnP lp x63 x71 (gsnP + step)) ≠ (setE noP gsnP lp x63 x71 (gsnP + step)))))) ((rfl : _ = _).trans (congrArg Value.bool h458)) rfl ?_)
                                  refine s_op (o_move (v := (.bool (decide ((setE noP gsnP lp x63 x71 (gsnP + step)) ≠ (setE noP gsnP lp x63 x71 (gsnP + step)))))) rfl ?_)
                                  by_cases h459 : (setE noP gsnP lp x63 x71 (gsnP + step)) ≠ (setE noP gsnP lp x63 x71 (gsnP + step))
                                  · -- (setE noP gsnP lp x63 x71 (gsnP + step)) ≠ (setE noP gsnP lp x63 x71 (gsnP + step))
                                    exact absurd rfl h459
                                  · -- not: (setE noP gsnP lp x63 x71 (gsnP + step)) ≠ (setE noP gsnP lp x63 x71 (gsnP + step))
                                    refine s_on 129 rfl (congrArg Value.bool (decide_eq_false h459)) (o_loadN (cs := [(.int .i64 noP), (.int .i64 gsnP), vp]) Tryd.underlying24 rfl ti24 e47_4 hH456 (seg_sub 7 rfl) (CellsAt.one rfl) ?_)
                                    refine s_on 129 rfl (congrArg Value.bool (decide_eq_false h459)) (o_loadN (cs := [(.int .i64 noP), (.int .i64 gsnP), (.slice p306 lp.length c307)]) Tryd.underlying24 rfl ti24 rfl hH456 (seg_sub 4 rfl) (CellsAt.one rfl) ?_)
                                    refine s_on 129 rfl (congrArg Value.bool (decide_eq_false h459)) (o_callf (vs := #[(.agg #[(.int .i64 noP), (.int .i64 gsnP), vp]), (.agg #[(.int .i64 noP), (.int .i64 gsnP), (.slice p306 lp.length c307)])]) ca13 rfl (args2 rfl rfl) (r11same_c (noa := noP) (gsna := gsnP) (la := lp) (nob := noP) (gsnb := gsnP) (lb := lp) hH456.all (hp.mono (app_sub (seg_sub 6 rfl) (seg_sub 8 rfl))) (ho303.sl.mono (seg_sub 5 rfl))) ?_)
                                    rintro _ w462 ⟨rfl, hX460⟩
                                    refine ⟨_, rfl, ?_⟩
                                    have hH461 := hX460.of_all
                                    refine s_on 129 rfl (congrArg Value.bool (decide_eq_false h459)) (o_not rfl ?_)
                                    refine s_op (o_pick_f (u := (.bool (!(decide (noP = noP ∧ gsnP = gsnP ∧ lp = lp))))) ((rfl : _ = _).trans (congrArg Value.bool (decide_eq_false h459))) rfl ?_)
                                    refine s_nil ?_
                                    refine t_norm (hK454 _ _ ?_)
                                    refine c_condb rfl (fun h463 => ?_) (fun h463 => ?_)
                                    · -- !(decide (noP = noP ∧ gsnP = gsnP ∧ lp = lp))
                                      have h463_n : (decide (noP = noP ∧ gsnP = gsnP ∧ lp = lp)) = false := by simpa using h463
                                      exact absurd h463 (by simp)
                                    · -- not: !(decide (noP = noP ∧ gsnP = gsnP ∧ lp = lp))
                                      have h463_n : (decide (noP = noP ∧ gsnP = gsnP ∧ lp = lp)) = true := by simpa using h463
                                      refine wp_skip ?_
                                      refine t_norm (hK453 _ _ ?_)
                                      refine wp_seq_k fun K464 hK464 => ?_
                                      refine c_region ?_
                                      refine s_op (o_move (v := (.int .i64 (setE noP gsnP lp x63 x71 (gsnP + step)))) rfl ?_)
                                      refine s_op (o_eql (a := (setE noP gsnP lp x63 x71 (gsnP + step))) (b := 0) rfl rfl ?_)
                                      refine s_nil ?_
                                      refine t_norm (hK464 _ _ ?_)
                                      refine c_cond rfl (fun h465 => ?_) (fun h465 => ?_)
                                      · -- (setE noP gsnP lp x63 x71 (gsnP + step)) = 0
                                        refine c_region ?_
                                        refine s_op (o_loadN (cs := [(.int .i64 (setNo noP gsnP lp x63 x71 (gsnP + step))), (.int .i64 (setG noP gsnP lp x63 x71 (gsnP + step))), v417]) Tryd.underlying24 rfl ti24 rfl hH461 (seg_sub 2 rfl) (CellsAt.one rfl) ?_)
                                        refine s_eff (o_storeN (vs := [(.int .i64 (setNo noP gsnP lp x63 x71 (gsnP + step))), (.int .i64 (setG noP gsnP lp x63 x71 (gsnP + step))), v417]) (c' := #[(.int .i64 (setNo noP gsnP lp x63 x71 (gsnP + step))), (.int .i64 (setG noP gsnP lp x63 x71 (gsnP + step))), v417]) ti24 e47_4 rfl rfl rfl (by intro u hu; simp only [List.mem_cons, List.not_mem_nil, or_false] at hu; rcases hu with rfl | rfl | rfl <;> first | rfl | exact ho419.one) (by simp) (by kernel_rfl) (hH461.front 7 rfl) fun w466 hH467 => ?_)
                                        refine s_nil ?_
                                        refine b_norm ?_
                                        refine t_norm (hK57 _ _ ?_)
                                        refine c_region ?_
                                        refine s_op (o_move (v := (.int .i64 (i : Int))) e47_9 ?_)
                                        refine s_op (o_add (a := (i : Int)) (b := 1) rfl rfl (w64 (by omega) (by omega)) ?_)
                                        refine s_op (o_assign (v := (.int .i64 ((i : Int) + 1))) rfl ?_)
                                        refine s_nil ?_
                                        have hH468 : Has E w466 [s418, [Hp.one b2 (.cells #[(.int .i64 (setNo noP gsnP lp x63 x71 (gsnP + step))), (.int .i64 (setG noP gsnP lp x63 x71 (gsnP + step))), v417] 24 (0, 0))], R] := (((hH467.front 8 rfl).front 1 rfl).front 5 rfl).first 3 rfl
                                        refine t_norm ⟨20 - (i + 1), _, rfl, ?_, ?_⟩
                                        · omega
                                        · exact ⟨(i + 1), (setNo noP gsnP lp x63 x71 (gsnP + step)), (setG noP gsnP lp x63 x71 (gsnP + step)), v417, s418, (setL noP gsnP lp x63 x71 (gsnP + step)), rfl, hH468, ((ho419.sl.mono (fun _ h_ => List.mem_append_left _ h_))), (by omega), (by first | omega | (have h_ := setL_le noP gsnP lp; exact Nat.le_trans (h_ _ _ _) (by omega))), e47_0, e47_1, e47_2, e47_3, e47_4, rfl, e47_38⟩
                                      · -- not: (setE noP gsnP lp x63 x71 (gsnP + step)) = 0
                                        refine wp_skip ?_
                                        refine b_norm ?_
                                        refine t_norm (hK57 _ _ ?_)
                                        refine c_region ?_
                                        refine s_op (o_move (v := (.int .i64 (i : Int))) e47_9 ?_)
                                        refine s_op (o_add (a := (i : Int)) (b := 1) rfl rfl (w64 (by omega) (by omega)) ?_)
                                        refine s_op (o_assign (v := (.int .i64 ((i : Int) + 1))) rfl ?_)
                                        refine s_nil ?_
                                        have hH469 : Has E w462 [sp, [Hp.one b2 (.cells #[(.int .i64 noP), (.int .i64 gsnP), vp] 24 (0, 0))], R] := (((hH461.front 8 rfl).front 8 rfl).front 8 rfl).first 3 rfl
                                        refine t_norm ⟨20 - (i + 1), _, rfl, ?_, ?_⟩
                                        · omega
                                        · exact ⟨(i + 1), noP, gsnP, vp, sp, lp, rfl, hH469, (hp), (by omega), (by first | omega | (have h_ := setL_le noP gsnP lp; exact Nat.le_trans (h_ _ _ _) (by omega))), e47_0, e47_1, e47_2, e47_3, e47_4, rfl, e47_38⟩
                              · -- first operation 17
                                have hH470 : Has E { w424 with drawn := w424.drawn + 1 } [[Hp.one b297 (.cells #[(.int .i64 noP), (.int .i64 gsnP), (.slice p306 lp.length c307)] 24 (0, 0))], [Hp.one b2 (.cells #[(.int .i64 noP), (.int .i64 gsnP), vp] 24 (0, 0))], R] := (((hH428.front 6 rfl).front 6 rfl).front 4 rfl).first 3 rfl
                                refine ok_w 17 rfl (o_alloc (cs := #[(.int .i64 0), (.int .i64 0), (.slice none 0 0)]) ti24 rfl hH428 fun b471 w472 hH473 => ?_)
                                have hH474 : Has E w472 [[Hp.one b297 (.cells #[(.int .i64 noP), (.int .i64 gsnP), (.slice p306 lp.length c307)] 24 (0, 0))], [Hp.one b2 (.cells #[(.int .i64 noP), (.int .i64 gsnP), vp] 24 (0, 0))], R] := (((hH473.front 7 rfl).front 7 rfl).front 5 rfl).first 3 rfl
                                refine a_w 13 rfl (by kernel_rfl) hH474 (o_callf (vs := #[(.agg #[(.int .i64 noP), (.int .i64 gsnP), (.slice p306 lp.length c307)]), (S x63), (.agg #[(.bool x71.1), (S x71.2)]), (.int .i64 (gsnP + step))]) ca17 rfl (args4 rfl rfl rfl rfl) (r11set_c (no := noP) (gsn := gsnP) (l := lp) (key := x63) (v := x71) (g := gsnP + step) hH473.all (ho303.sl.mono (seg_sub 4 rfl)) (by first | omega | (simp only []; omega) | (simp; done) | (simp; omega))) ?_)
                                rintro _ w480 ⟨v475, s476, rfl, ho477, hX478⟩
                                refine ⟨_, rfl, ?_⟩
                                have hH479 : Has E w480 [s476, [Hp.one b471 (.cells #[(.int .i64 0), (.int .i64 0), (.slice none 0 0)] 24 (0, 0))], [Hp.one b413 (.cells #[(.int .i64 (setNo noP gsnP lp x63 x71 (gsnP + step))), (.int .i64 (setG noP gsnP lp x63 x71 (gsnP + step))), v417] 24 (0, 0))], s418, [Hp.one b297 (.cells #[(.int .i64 noP), (.int .i64 gsnP), (.slice p306 lp.length c307)] 24 (0, 0))], s302, sp, [Hp.one b2 (.cells #[(.int .i64 noP), (.int .i64 gsnP), vp] 24 (0, 0))], R] := hX478.of_all1
                                refine a_op 14 rfl (by kernel_rfl) (fun w_ h_ => o_move (v := (.tuple #[(.agg #[(.int .i64 (setNo noP gsnP lp x63 x71 (gsnP + step))), (.int .i64 (setG noP gsnP lp x63 x71 (gsnP + step))), v475]), (.int .i64 (setE noP gsnP lp x63 x71 (gsnP + step)))])) rfl ⟨rfl, rfl⟩) ?_
                                refine a_op 15 rfl (by kernel_rfl) (fun w_ h_ => o_extract (v := (.agg #[(.int .i64 (setNo noP gsnP lp x63 x71 (gsnP + step))), (.int .i64 (setG noP gsnP lp x63 x71 (gsnP + step))), v475])) rfl rfl ⟨rfl, rfl⟩) ?_
                                refine a_op 16 rfl (by kernel_rfl) (fun w_ h_ => o_extract (v := (.int .i64 (setE noP gsnP lp x63 x71 (gsnP + step)))) rfl rfl ⟨rfl, rfl⟩) ?_
                                have hH481 : Has E w480 [[Hp.one b297 (.cells #[(.int .i64 noP), (.int .i64 gsnP), (.slice p306 lp.length c307)] 24 (0, 0))], [Hp.one b2 (.cells #[(.int .i64 noP), (.int .i64 gsnP), vp] 24 (0, 0))], R] := (((hH479.front 8 rfl).front 8 rfl).front 6 rfl).first 3 rfl
                                refine a_we 18 rfl (by kernel_rfl) hH481 (o_storeN (vs := [(.int .i64 (setNo noP gsnP lp x63 x71 (gsnP + step))), (.int .i64 (setG noP gsnP lp x63 x71 (gsnP + step))), v475]) (c' := #[(.int .i64 (setNo noP gsnP lp x63 x71 (gsnP + step))), (.int .i64 (setG noP gsnP lp x63 x71 (gsnP + step))), v475]) ti24 rfl rfl rfl rfl (by intro u hu; simp only [List.mem_cons, List.not_mem_nil, or_false] at hu; rcases hu with rfl | rfl | rfl <;> first | rfl | exact ho477.one) (by simp) (by kernel_rfl) (hH479.front 1 rfl) fun w482 hH483 => ?_)
                                have hH484 : Has E w482 [[Hp.one b297 (.cells #[(.int .i64 noP), (.int .i64 gsnP), (.slice p306 lp.length c307)] 24 (0, 0))], [Hp.one b2 (.cells #[(.int .i64 noP), (.int .i64 gsnP), vp] 24 (0, 0))], R] := (((hH483.front 8 rfl).front 8 rfl).front 6 rfl).first 3 rfl
                                refine a_done (by kernel_rfl) hH484 ?_
                                refine r_op 19 rfl (by kernel_rfl) (o_assign (v := (.int .i64 (setE noP gsnP lp x63 x71 (gsnP + step)))) rfl ?_)
                                refine Rest.done (by kernel_rfl) ?_
                                refine t_norm (hK427 _ _ ?_)
                                refine wp_seq_k fun K485 hK485 => ?_
                                refine wp_seq_k fun K486 hK486 => ?_
                                refine c_region ?_
                                refine s_op (o_loadN (cs := [(.int .i64 (setNo noP gsnP lp x63 x71 (gsnP + step))), (.int .i64 (setG noP gsnP lp x63 x71 (gsnP + step))), v417]) Tryd.underlying24 rfl ti24 rfl hH483 (seg_sub 2 rfl) (CellsAt.one rfl) ?_)
                                refine s_op (o_loadN (cs := [(.int .i64 (setNo noP gsnP lp x63 x71 (gsnP + step))), (.int .i64 (setG noP gsnP lp x63 x71 (gsnP + step))), v475]) Tryd.underlying24 rfl ti24 rfl hH483 (seg_sub 0 rfl) (CellsAt.one rfl) ?_)
                                refine s_op (o_callf (vs := #[(.agg #[(.int .i64 (setNo noP gsnP lp x63 x71 (gsnP + step))), (.int .i64 (setG noP gsnP lp x63 x71 (gsnP + step))), v417]), (.agg #[(.int .i64 (setNo noP gsnP lp x63 x71 (gsnP + step))), (.int .i64 (setG noP gsnP lp x63 x71 (gsnP + step))), v475])]) ca13 rfl (args2 rfl rfl) (r11same_c (noa := (setNo noP gsnP lp x63 x71 (gsnP + step))) (gsna := (setG noP gsnP lp x63 x71 (gsnP + step))) (la := (setL noP gsnP lp x63 x71 (gsnP + step))) (nob := (setNo noP gsnP lp x63 x71 (gsnP + step))) (gsnb := (setG noP gsnP lp x63 x71 (gsnP + step))) (lb := (setL noP gsnP lp x63 x71 (gsnP + step))) hH483.all (ho419.sl.mono (seg_sub 3 rfl)) (ho477.sl.mono (seg_sub 1 rfl))) ?_)
                                rintro _ w489 ⟨rfl, hX487⟩
                                refine ⟨_, rfl, ?_⟩
                                have hH488 := hX487.of_all
                                refine s_op (o_not rfl ?_)
                                refine s_op (o_move (v := (.bool (!(decide ((setNo noP gsnP lp x63 x71 (gsnP + step)) = (setNo noP gsnP lp x63 x71 (gsnP + step)) ∧ (setG noP gsnP lp x63 x71 (gsnP + step)) = (setG noP gsnP lp x63 x71 (gsnP + step)) ∧ (setL noP gsnP lp x63 x71 (gsnP + step)) = (setL noP gsnP lp x63 x71 (gsnP + step))))))) rfl ?_)
                                rcases Bool.eq_false_or_eq_true (!(decide ((setNo noP gsnP lp x63 x71 (gsnP + step)) = (setNo noP gsnP lp x63 x71 (gsnP + step)) ∧ (setG noP gsnP lp x63 x71 (gsnP + step)) = (setG noP gsnP lp x63 x71 (gsnP + step)) ∧ (setL noP gsnP lp x63 x71 (gsnP + step)) = (setL noP gsnP lp x63 x71 (gsnP + step))))) with h490 | h490
                                · -- !(decide ((setNo noP gsnP lp x63 x71 (gsnP + step)) = (setNo noP gsnP lp x63 x71 (gsnP + step)) ∧ (setG noP gsnP lp x63 x71 (gsnP + step)) = (setG noP gsnP lp x63 x71 (gsnP + step)) ∧ (setL noP gsnP lp x63 x71 (gsnP + step)) = (setL noP gsnP lp x63 x71 (gsnP + step))))
                                  exact absurd h490 (by simp)
                                · -- not: !(decide ((setNo noP gsnP lp x63 x71 (gsnP + step)) = (setNo noP gsnP lp x63 x71 (gsnP + step)) ∧ (setG noP gsnP lp x63 x71 (gsnP + step)) = (setG noP gsnP lp x63 x71 (gsnP + step)) ∧ (setL noP gsnP lp x63 x71 (gsnP + step)) = (setL noP gsnP lp x63 x71 (gsnP + step))))
                                  refine s_on 124 rfl (congrArg Value.bool h490) (o_move (v := (.int .i64 (setE noP gsnP lp x63 x71 (gsnP + step)))) rfl ?_)
                                  refine s_on 124 rfl (congrArg Value.bool h490) (o_move (v := (.int .i64 (setE noP gsnP lp x63 x71 (gsnP + step)))) rfl ?_)
                                  refine s_on 124 rfl (congrArg Value.bool h490) (o_neq (a := (setE noP gsnP lp x63 x71 (gsnP + step))) (b := (setE noP gsnP lp x63 x71 (gsnP + step))) rfl rfl ?_)
                                  refine s_op (o_pick_f (u := (.bool (decide ((setE noP gsnP lp x63 x71 (gsnP + step)) ≠ (setE noP gsnP lp x63 x71 (gsnP + step)))))) ((rfl : _ = _).trans (congrArg Value.bool h490)) rfl ?_)
                                  refine s_op (o_move (v := (.bool (decide ((setE noP gsnP lp x63 x71 (gsnP + step)) ≠ (setE noP gsnP lp x63 x71 (gsnP + step)))))) rfl ?_)
                                  by_cases h491 : (setE noP gsnP lp x63 x71 (gsnP + step)) ≠ (setE noP gsnP lp x63 x71 (gsnP + step))
                                  · -- (setE noP gsnP lp x63 x71 (gsnP + step)) ≠ (setE noP gsnP lp x63 x71 (gsnP + step))
                                    exact absurd rfl h491
                                  · -- not: (setE noP gsnP lp x63 x71 (gsnP + step)) ≠ (setE noP gsnP lp x63 x71 (gsnP + step))
                                    refine s_on 129 rfl (congrArg Value.bool (decide_eq_false h491)) (o_loadN (cs := [(.int .i64 noP), (.int .i64 gsnP), vp]) Tryd.underlying24 rfl ti24 e47_4 hH488 (seg_sub 7 rfl) (CellsAt.one rfl) ?_)
                                    refine s_on 129 rfl (congrArg Value.bool (decide_eq_false h491)) (o_loadN (cs := [(.int .i64 noP), (.int .i64 gsnP), (.slice p306 lp.length c307)]) Tryd.underlying24 rfl ti24 rfl hH488 (seg_sub 4 rfl) (CellsAt.one rfl) ?_)
                                    refine s_on 129 rfl (congrArg Value.bool (decide_eq_false h491)) (o_callf (vs := #[(.agg #[(.int .i64 noP), (.int .i64 gsnP), vp]), (.agg #[(.int .i64 noP), (.int .i64 gsnP), (.slice p306 lp.length c307)])]) ca13 rfl (args2 rfl rfl) (r11same_c (noa := noP) (gsna := gsnP) (la := lp) (nob := noP) (gsnb := gsnP) (lb := lp) hH488.all (hp.mono (app_sub (seg_sub 6 rfl) (seg_sub 8 rfl))) (ho303.sl.mono (seg_sub 5 rfl))) ?_)
                                    rintro _ w494 ⟨rfl, hX492⟩
                                    refine ⟨_, rfl, ?_⟩
                                    have hH493 := hX492.of_all
                                    refine s_on 129 rfl (congrArg Value.bool (decide_eq_false h491)) (o_not rfl ?_)
                                    refine s_op (o_pick_f (u := (.bool (!(decide (noP = noP ∧ gsnP = gsnP ∧ lp = lp))))) ((rfl : _ = _).trans (congrArg Value.bool (decide_eq_false h491))) rfl ?_)
                                    refine s_nil ?_
                                    refine t_norm (hK486 _ _ ?_)
                                    refine c_condb rfl (fun h495 => ?_) (fun h495 => ?_)
                                    · -- !(decide (noP = noP ∧ gsnP = gsnP ∧ lp = lp))
                                      have h495_n : (decide (noP = noP ∧ gsnP = gsnP ∧ lp = lp)) = false := by simpa using h495
                                      exact absurd h495 (by simp)
                                    · -- not: !(decide (noP = noP ∧ gsnP = gsnP ∧ lp = lp))
                                      have h495_n : (decide (noP = noP ∧ gsnP = gsnP ∧ lp = lp)) = true := by simpa using h495
                                      refine wp_skip ?_
                                      refine t_norm (hK485 _ _ ?_)
                                      refine wp_seq_k fun K496 hK496 => ?_
                                      refine c_region ?_
                                      refine s_op (o_move (v := (.int .i64 (setE noP gsnP lp x63 x71 (gsnP + step)))) rfl ?_)
                                      refine s_op (o_eql (a := (setE noP gsnP lp x63 x71 (gsnP + step))) (b := 0) rfl rfl ?_)
                                      refine s_nil ?_
                                      refine t_norm (hK496 _ _ ?_)
                                      refine c_cond rfl (fun h497 => ?_) (fun h497 => ?_)
                                      · -- (setE noP gsnP lp x63 x71 (gsnP + step)) = 0
                                        refine c_region ?_
                                        refine s_op (o_loadN (cs := [(.int .i64 (setNo noP gsnP lp x63 x71 (gsnP + step))), (.int .i64 (setG noP gsnP lp x63 x71 (gsnP + step))), v417]) Tryd.underlying24 rfl ti24 rfl hH493 (seg_sub 2 rfl) (CellsAt.one rfl) ?_)
                                        refine s_eff (o_storeN (vs := [(.int .i64 (setNo noP gsnP lp x63 x71 (gsnP + step))), (.int .i64 (setG noP gsnP lp x63 x71 (gsnP + step))), v417]) (c' := #[(.int .i64 (setNo noP gsnP lp x63 x71 (gsnP + step))), (.int .i64 (setG noP gsnP lp x63 x71 (gsnP + step))), v417]) ti24 e47_4 rfl rfl rfl (by intro u hu; simp only [List.mem_cons, List.not_mem_nil, or_false] at hu; rcases hu with rfl | rfl | rfl <;> first | rfl | exact ho419.one) (by simp) (by kernel_rfl) (hH493.front 7 rfl) fun w498 hH499 => ?_)
                                        refine s_nil ?_
                                        refine b_norm ?_
                                        refine t_norm (hK57 _ _ ?_)
                                        refine c_region ?_
                                        refine s_op (o_move (v := (.int .i64 (i : Int))) e47_9 ?_)
                                        refine s_op (o_add (a := (i : Int)) (b := 1) rfl rfl (w64 (by omega) (by omega)) ?_)
                                        refine s_op (o_assign (v := (.int .i64 ((i : Int) + 1))) rfl ?_)
                                        refine s_nil ?_
                                        have hH500 : Has E w498 [s418, [Hp.one b2 (.cells #[(.int .i64 (setNo noP gsnP lp x63 x71 (gsnP + step))), (.int .i64 (setG noP gsnP lp x63 x71 (gsnP + step))), v417] 24 (0, 0))], R] := (((hH499.front 8 rfl).front 1 rfl).front 5 rfl).first 3 rfl
                                        refine t_norm ⟨20 - (i + 1), _, rfl, ?_, ?_⟩
                                        · omega
                                        · exact ⟨(i + 1), (setNo noP gsnP lp x63 x71 (gsnP + step)), (setG noP gsnP lp x63 x71 (gsnP + step)), v417, s418, (setL noP gsnP lp x63 x71 (gsnP + step)), rfl, hH500, ((ho419.sl.mono (fun _ h_ => List.mem_append_left _ h_))), (by omega), (by first | omega | (have h_ := setL_le noP gsnP lp; exact Nat.le_trans (h_ _ _ _) (by omega))), e47_0, e47_1, e47_2, e47_3, e47_4, rfl, e47_38⟩
                                      · -- not: (setE noP gsnP lp x63 x71 (gsnP + step)) = 0
                                        refine wp_skip ?_
                                        refine b_norm ?_
                                        refine t_norm (hK57 _ _ ?_)
                                        refine c_region ?_
                                        refine s_op (o_move (v := (.int .i64 (i : Int))) e47_9 ?_)
                                        refine s_op (o_add (a := (i : Int)) (b := 1) rfl rfl (w64 (by omega) (by omega)) ?_)
                                        refine s_op (o_assign (v := (.int .i64 ((i : Int) + 1))) rfl ?_)
                                        refine s_nil ?_
                                        have hH501 : Has E w494 [sp, [Hp.one b2 (.cells #[(.int .i64 noP), (.int .i64 gsnP), vp] 24 (0, 0))], R] := (((hH493.front 8 rfl).front 8 rfl).front 8 rfl).first 3 rfl
                                        refine t_norm ⟨20 - (i + 1), _, rfl, ?_, ?_⟩
                                        · omega
                                        · exact ⟨(i + 1), noP, gsnP, vp, sp, lp, rfl, hH501, (hp), (by omega), (by first | omega | (have h_ := setL_le noP gsnP lp; exact Nat.le_trans (h_ _ _ _) (by omega))), e47_0, e47_1, e47_2, e47_3, e47_4, rfl, e47_38⟩
                        · -- first operation 9
                          have hH502 : Has E { w50 with drawn := w50.drawn + 1 } [[Hp.one b2 (.cells #[(.int .i64 noP), (.int .i64 gsnP), vp] 24 (0, 0))]] := (hH83.front 1 rfl).first 1 rfl
                          refine ok_w 9 rfl (o_alloc (cs := #[(.int .i64 0), (.int .i64 0), (.slice none 0 0)]) ti24 rfl hH83 fun b503 w504 hH505 => ?_)
                          have hH506 : Has E w504 [[Hp.one b2 (.cells #[(.int .i64 noP), (.int .i64 gsnP), vp] 24 (0, 0))]] := (hH505.front 2 rfl).first 1 rfl
                          refine a_w 4 rfl (by kernel_rfl) hH506 (o_buildSlice (ps := #[]) (cells := #[]) Tryd.underlying22 ti45 (by decide) (parts0) (by kernel_rfl) hH505 fun b507 w508 hH509 => ?_)
                          have hH510 : Has E w508 [[Hp.one b2 (.cells #[(.int .i64 noP), (.int .i64 gsnP), vp] 24 (0, 0))]] := (hH509.front 3 rfl).first 1 rfl
                          refine a_w 7 rfl (by kernel_rfl) hH510 (o_append Tryd.underlying22 ti45 rfl (by decide) rfl (Own.lit (e := 45) (sz := 2) (n := 0) (b := b507) (cur := #[]) rfl (by decide)) rfl hp (hH509.front 0 rfl) (app_sub (seg_sub 1 rfl) (seg_sub 3 rfl)) (one_ceC _) (by simp; omega) (by simp; omega) fun v511 s512 w514 ho513 hH515 => ?_)
                          have ho513 : Own 45 2 v511 lp.length (lp.flatMap ceC) s512 := Own.appF (a := []) ho513
                          obtain ⟨p516, c517, rfl⟩ := Sl.form (Own.sl ho513)
                          refine a_op 8 rfl (by kernel_rfl) (fun w_ h_ => o_sight (v := (.agg #[(.int .i64 noP), (.int .i64 gsnP), (.slice p516 lp.length c517)])) (fun _ => by kernel_rfl) ⟨rfl, rfl⟩) ?_
                          have hH518 : Has E w514 [[Hp.one b2 (.cells #[(.int .i64 noP), (.int .i64 gsnP), vp] 24 (0, 0))]] := (hH515.front 3 rfl).first 1 rfl
                          refine a_done (by kernel_rfl) hH518 ?_
                          refine r_eff 10 rfl (by kernel_rfl) (o_storeN (vs := [(.int .i64 noP), (.int .i64 gsnP), (.slice p516 lp.length c517)]) (c' := #[(.int .i64 noP), (.int .i64 gsnP), (.slice p516 lp.length c517)]) ti24 rfl rfl rfl rfl (by intro u hu; simp only [List.mem_cons, List.not_mem_nil, or_false] at hu; rcases hu with rfl | rfl | rfl <;> first | rfl | exact ho513.one) (by simp) (by kernel_rfl) (hH515.front 1 rfl) fun w519 hH520 => ?_)
                          refine Rest.done (by kernel_rfl) ?_
                          refine t_norm (hK82 _ _ ?_)
                          refine wp_seq_k fun K521 hK521 => ?_
                          refine Rest.region mixed (by kernel_rfl) ?_
                          have hH522 : Has E { w519 with drawn := w519.drawn + 1 } [[Hp.one b503 (.cells #[(.int .i64 noP), (.int .i64 gsnP), (.slice p516 lp.length c517)] 24 (0, 0))], s512, sp, [Hp.one b2 (.cells #[(.int .i64 noP), (.int .i64 gsnP), vp] 24 (0, 0))], R] := Has0.drew hH520 _
                          refine Rest.phaseA (fun w_ => Has E w_ [[Hp.one b2 (.cells #[(.int .i64 noP), (.int .i64 gsnP), vp] 24 (0, 0))], R]) 0 19 19 rfl (by decide) (by kernel_rfl) ?_
                          refine a_op 0 rfl (by kernel_rfl) (fun w_ h_ => o_loadN (cs := [(.int .i64 noP), (.int .i64 gsnP), vp]) Tryd.underlying24 rfl ti24 e47_4 h_ (seg_sub 0 rfl) (CellsAt.one rfl) ⟨rfl, rfl⟩) ?_
                          refine a_op 1 rfl (by kernel_rfl) (fun w_ h_ => o_move (v := v_keys) e47_1 ⟨rfl, rfl⟩) ?_
                          refine a_op 2 rfl (by kernel_rfl) (fun w_ h_ => o_move (v := (.int .i64 (i : Int))) e47_9 ⟨rfl, rfl⟩) ?_
                          obtain ⟨b523, o524, hc525, ho526⟩ := ix_ex1 Tryd.underlying32 ti9 h_keys (by omega) hx64
                          refine a_op 3 rfl (by kernel_rfl) (fun w_ h_ => ho526 rfl rfl ⟨rfl, rfl⟩) ?_
                          refine a_op 4 rfl (by kernel_rfl) (fun w_ h_ => o_load1 (v := (S x63)) Tryd.underlying9 rfl rfl h_ (seg_sub 1 rfl) hc525 ⟨rfl, rfl⟩) ?_
                          refine a_op 5 rfl (by kernel_rfl) (fun w_ h_ => o_move (v := v_vals) e47_2 ⟨rfl, rfl⟩) ?_
                          refine a_op 6 rfl (by kernel_rfl) (fun w_ h_ => o_move (v := (.int .i64 (i : Int))) e47_9 ⟨rfl, rfl⟩) ?_
                          obtain ⟨b527, o528, hc529, ho530⟩ := ix_exF vlC_len Tryd.underlying33 ti29 h_vals (by omega) hx72
                          refine a_op 7 rfl (by kernel_rfl) (fun w_ h_ => ho530 rfl rfl ⟨rfl, rfl⟩) ?_
                          refine a_op 8 rfl (by kernel_rfl) (fun w_ h_ => o_loadN (cs := [(.bool x71.1), (S x71.2)]) Tryd.underlying29 rfl ti29 rfl h_ (seg_sub 1 rfl) hc529 ⟨rfl, rfl⟩) ?_
                          refine a_op 9 rfl (by kernel_rfl) (fun w_ h_ => o_fieldAddr (k := 1) (fun _ => by kernel_rfl) e47_4 ⟨rfl, rfl⟩) ?_
                          refine a_op 10 rfl (by kernel_rfl) (fun w_ h_ => o_load1 (v := (.int .i64 gsnP)) Tryd.underlying3 rfl rfl h_ (seg_sub 0 rfl) (CellsAt.one rfl) ⟨rfl, rfl⟩) ?_
                          refine a_op 11 rfl (by kernel_rfl) (fun w_ h_ => o_move (v := (.int .i64 step)) e47_3 ⟨rfl, rfl⟩) ?_
                          refine a_op 12 rfl (by kernel_rfl) (fun w_ h_ => o_add (a := gsnP) (b := step) rfl rfl (w64 (by omega) (by omega)) ⟨rfl, rfl⟩) ?_
                          have hH531 : Has E { w519 with drawn := w519.drawn + 1 } [[Hp.one b2 (.cells #[(.int .i64 noP), (.int .i64 gsnP), vp] 24 (0, 0))], R] := ((hH522.front 4 rfl).front 4 rfl).first 2 rfl
                          refine a_two 13 17 (by kernel_rfl) hH531 ?_ ?_
                          · -- first operation 13
                            have hH532 : Has E { w519 with drawn := w519.drawn + 1 } [[Hp.one b2 (.cells #[(.int .i64 noP), (.int .i64 gsnP), vp] 24 (0, 0))], R] := ((hH522.front 4 rfl).front 4 rfl).first 2 rfl
                            refine ok_w 13 rfl (o_callf (vs := #[(.agg #[(.int .i64 noP), (.int .i64 gsnP), vp]), (S x63), (.agg #[(.bool x71.1), (S x71.2)]), (.int .i64 (gsnP + step))]) ca16 rfl (args4 rfl rfl rfl rfl) (pset_c (no := noP) (gsn := gsnP) (l := lp) (key := x63) (v := x71) (g := gsnP + step) hH522.all (hp.mono (app_sub (seg_sub 2 rfl) (seg_sub 4 rfl))) (by first | omega | (simp only []; omega) | (simp; done) | (simp; omega))) ?_)
                            rintro _ w538 ⟨v533, s534, rfl, ho535, hX536⟩
                            refine ⟨_, rfl, ?_⟩
                            have hH537 : Has E w538 [s534, [Hp.one b503 (.cells #[(.int .i64 noP), (.int .i64 gsnP), (.slice p516 lp.length c517)] 24 (0, 0))], s512, sp, [Hp.one b2 (.cells #[(.int .i64 noP), (.int .i64 gsnP), vp] 24 (0, 0))], R] := hX536.of_all1
                            refine a_op 14 rfl (by kernel_rfl) (fun w_ h_ => o_move (v := (.tuple #[(.agg #[(.int .i64 (setNo noP gsnP lp x63 x71 (gsnP + step))), (.int .i64 (setG noP gsnP lp x63 x71 (gsnP + step))), v533]), (.int .i64 (setE noP gsnP lp x63 x71 (gsnP + step)))])) rfl ⟨rfl, rfl⟩) ?_
                            refine a_op 15 rfl (by kernel_rfl) (fun w_ h_ => o_extract (v := (.agg #[(.int .i64 (setNo noP gsnP lp x63 x71 (gsnP + step))), (.int .i64 (setG noP gsnP lp x63 x71 (gsnP + step))), v533])) rfl rfl ⟨rfl, rfl⟩) ?_
                            refine a_op 16 rfl (by kernel_rfl) (fun w_ h_ => o_extract (v := (.int .i64 (setE noP gsnP lp x63 x71 (gsnP + step)))) rfl rfl ⟨rfl, rfl⟩) ?_
                            have hH539 : Has E w538 [[Hp.one b2 (.cells #[(.int .i64 noP), (.int .i64 gsnP), vp] 24 (0, 0))], R] := ((hH537.front 5 rfl).front 5 rfl).first 2 rfl
                            refine a_w 17 rfl (by kernel_rfl) hH539 (o_alloc (cs := #[(.int .i64 0), (.int .i64 0), (.slice none 0 0)]) ti24 rfl hH537 fun b540 w541 hH542 => ?_)
                            have hH543 : Has E w541 [[Hp.one b2 (.cells #[(.int .i64 noP), (.int .i64 gsnP), vp] 24 (0, 0))], R] := ((hH542.front 6 rfl).front 6 rfl).first 2 rfl
                            refine a_we 18 rfl (by kernel_rfl) hH543 (o_storeN (vs := [(.int .i64 (setNo noP gsnP lp x63 x71 (gsnP + step))), (.int .i64 (setG noP gsnP lp x63 x71 (gsnP + step))), v533]) (c' := #[(.int .i64 (setNo noP gsnP lp x63 x71 (gsnP + step))), (.int .i64 (setG noP gsnP lp x63 x71 (gsnP + step))), v533]) ti24 rfl rfl rfl rfl (by intro u hu; simp only [List.mem_cons, List.not_mem_nil, or_false] at hu; rcases hu with rfl | rfl | rfl <;> first | rfl | exact ho535.one) (by simp) (by kernel_rfl) (hH542.front 0 rfl) fun w544 hH545 => ?_)
                            have hH546 : Has E w544 [[Hp.one b2 (.cells #[(.int .i64 noP), (.int .i64 gsnP), vp] 24 (0, 0))], R] := ((hH545.front 6 rfl).front 6 rfl).first 2 rfl
                            refine a_done (by kernel_rfl) hH546 ?_
                            refine r_op 19 rfl (by kernel_rfl) (o_assign (v := (.int .i64 (setE noP gsnP lp x63 x71 (gsnP + step)))) rfl ?_)
                            refine Rest.done (by kernel_rfl) ?_
                            refine t_norm (hK521 _ _ ?_)
                            refine wp_seq_k fun K547 hK547 => ?_
                            refine Rest.region mixed (by kernel_rfl) ?_
                            have hH548 : Has E { w544 with drawn := w544.drawn + 1 } [[Hp.one b540 (.cells #[(.int .i64 (setNo noP gsnP lp x63 x71 (gsnP + step))), (.int .i64 (setG noP gsnP lp x63 x71 (gsnP + step))), v533] 24 (0, 0))], s534, [Hp.one b503 (.cells #[(.int .i64 noP), (.int .i64 gsnP), (.slice p516 lp.length c517)] 24 (0, 0))], s512, sp, [Hp.one b2 (.cells #[(.int .i64 noP), (.int .i64 gsnP), vp] 24 (0, 0))], R] := Has0.drew hH545 _
                            refine Rest.phaseA (fun w_ => Has E w_ [[Hp.one b503 (.cells #[(.int .i64 noP), (.int .i64 gsnP), (.slice p516 lp.length c517)] 24 (0, 0))], [Hp.one b2 (.cells #[(.int .i64 noP), (.int .i64 gsnP), vp] 24 (0, 0))], R]) 0 19 19 rfl (by decide) (by kernel_rfl) ?_
                            refine a_op 0 rfl (by kernel_rfl) (fun w_ h_ => o_loadN (cs := [(.int .i64 noP), (.int .i64 gsnP), (.slice p516 lp.length c517)]) Tryd.underlying24 rfl ti24 rfl h_ (seg_sub 0 rfl) (CellsAt.one rfl) ⟨rfl, rfl⟩) ?_
                            refine a_op 1 rfl (by kernel_rfl) (fun w_ h_ => o_move (v := v_keys) e47_1 ⟨rfl, rfl⟩) ?_
                            refine a_op 2 rfl (by kernel_rfl) (fun w_ h_ => o_move (v := (.int .i64 (i : Int))) e47_9 ⟨rfl, rfl⟩) ?_
                            obtain ⟨b549, o550, hc551, ho552⟩ := ix_ex1 Tryd.underlying32 ti9 h_keys (by omega) hx64
                            refine a_op 3 rfl (by kernel_rfl) (fun w_ h_ => ho552 rfl rfl ⟨rfl, rfl⟩) ?_
                            refine a_op 4 rfl (by kernel_rfl) (fun w_ h_ => o_load1 (v := (S x63)) Tryd.underlying9 rfl rfl h_ (seg_sub 2 rfl) hc551 ⟨rfl, rfl⟩) ?_
                            refine a_op 5 rfl (by kernel_rfl) (fun w_ h_ => o_move (v := v_vals) e47_2 ⟨rfl, rfl⟩) ?_
                            refine a_op 6 rfl (by kernel_rfl) (fun w_ h_ => o_move (v := (.int .i64 (i : Int))) e47_9 ⟨rfl, rfl⟩) ?_
                            obtain ⟨b553, o554, hc555, ho556⟩ := ix_exF vlC_len Tryd.underlying33 ti29 h_vals (by omega) hx72
                            refine a_op 7 rfl (by kernel_rfl) (fun w_ h_ => ho556 rfl rfl ⟨rfl, rfl⟩) ?_
                            refine a_op 8 rfl (by kernel_rfl) (fun w_ h_ => o_loadN (cs := [(.bool x71.1), (S x71.2)]) Tryd.underlying29 rfl ti29 rfl h_ (seg_sub 2 rfl) hc555 ⟨rfl, rfl⟩) ?_
                            refine a_op 9 rfl (by kernel_rfl) (fun w_ h_ => o_fieldAddr (k := 1) (fun _ => by kernel_rfl) e47_4 ⟨rfl, rfl⟩) ?_
                            refine a_op 10 rfl (by kernel_rfl) (fun w_ h_ => o_load1 (v := (.int .i64 gsnP)) Tryd.underlying3 rfl rfl h_ (seg_sub 1 rfl) (CellsAt.one rfl) ⟨rfl, rfl⟩) ?_
                            refine a_op 11 rfl (by kernel_rfl) (fun w_ h_ => o_move (v := (.int .i64 step)) e47_3 ⟨rfl, rfl⟩) ?_
                            refine a_op 12 rfl (by kernel_rfl) (fun w_ h_ => o_add (a := gsnP) (b := step) rfl rfl (w64 (by omega) (by omega)) ⟨rfl, rfl⟩) ?_
                            have hH557 : Has E { w544 with drawn := w544.drawn + 1 } [[Hp.one b503 (.cells #[(.int .i64 noP), (.int .i64 gsnP), (.slice p516 lp.length c517)] 24 (0, 0))], [Hp.one b2 (.cells #[(.int .i64 noP), (.int .i64 gsnP), vp] 24 (0, 0))], R] := (((hH548.front 6 rfl).front 6 rfl).front 4 rfl).first 3 rfl
                            refine a_two 13 17 (by kernel_rfl) hH557 ?_ ?_
                            · -- first operation 13
                              have hH558 : Has E { w544 with drawn := w544.drawn + 1 } [[Hp.one b503 (.cells #[(.int .i64 noP), (.int .i64 gsnP), (.slice p516 lp.length c517)] 24 (0, 0))], [Hp.one b2 (.cells #[(.int .i64 noP), (.int .i64 gsnP), vp] 24 (0, 0))], R] := (((hH548.front 6 rfl).front 6 rfl).front 4 rfl).first 3 rfl
                              refine ok_w 13 rfl (o_callf (vs := #[(.agg #[(.int .i64 noP), (.int .i64 gsnP), (.slice p516 lp.length c517)]), (S x63), (.agg #[(.bool x71.1), (S x71.2)]), (.int .i64 (gsnP + step))]) ca17 rfl (args4 rfl rfl rfl rfl) (r11set_c (no := noP) (gsn := gsnP) (l := lp) (key := x63) (v := x71) (g := gsnP + step) hH548.all (ho513.sl.mono (seg_sub 3 rfl)) (by first | omega | (simp only []; omega) | (simp; done) | (simp; omega))) ?_)
                              rintro _ w564 ⟨v559, s560, rfl, ho561, hX562⟩
                              refine ⟨_, rfl, ?_⟩
                              have hH563 : Has E w564 [s560, [Hp.one b540 (.cells #[(.int .i64 (setNo noP gsnP lp x63 x71 (gsnP + step))), (.int .i64 (setG noP gsnP lp x63 x71 (gsnP + step))), v533] 24 (0, 0))], s534, [Hp.one b503 (.cells #[(.int .i64 noP), (.int .i64 gsnP), (.slice p516 lp.length c517)] 24 (0, 0))], s512, sp, [Hp.one b2 (.cells #[(.int .i64 noP), (.int .i64 gsnP), vp] 24 (0, 0))], R] := hX562.of_all1
                              refine a_op 14 rfl (by kernel_rfl) (fun w_ h_ => o_move (v := (.tuple #[(.agg #[(.int .i64 (setNo noP gsnP lp x63 x71 (gsnP + step))), (.int .i64 (setG noP gsnP lp x63 x71 (gsnP + step))), v559]), (.int .i64 (setE noP gsnP lp x63 x71 (gsnP + step)))])) rfl ⟨rfl, rfl⟩) ?_
                              refine a_op 15 rfl (by kernel_rfl) (fun w_ h_ => o_extract (v := (.agg #[(.int .i64 (setNo noP gsnP lp x63 x71 (gsnP + step))), (.int .i64 (setG noP gsnP lp x63 x71 (gsnP + step))), v559])) rfl rfl ⟨rfl, rfl⟩) ?_
                              refine a_op 16 rfl (by kernel_rfl) (fun w_ h_ => o_extract (v := (.int .i64 (setE noP gsnP lp x63 x71 (gsnP + step)))) rfl rfl ⟨rfl, rfl⟩) ?_
                              have hH565 : Has E w564 [[Hp.one b503 (.cells #[(.int .i64 noP), (.int .i64 gsnP), (.slice p516 lp.length c517)] 24 (0, 0))], [Hp.one b2 (.cells #[(.int .i64 noP), (.int .i64 gsnP), vp] 24 (0, 0))], R] := (((hH563.front 7 rfl).front 7 rfl).front 5 rfl).first 3 rfl
                              refine a_w 17 rfl (by kernel_rfl) hH565 (o_alloc (cs := #[(.int .i64 0), (.int .i64 0), (.slice none 0 0)]) ti24 rfl hH563 fun b566 w567 hH568 => ?_)
                              have hH569 : Has E w567 [[Hp.one b503 (.cells #[(.int .i64 noP), (.int .i64 gsnP), (.slice p516 lp.length c517)] 24 (0, 0))], [Hp.one b2 (.cells #[(.int .i64 noP), (.int .i64 gsnP), vp] 24 (0, 0))], R] := (((hH568.front 8 rfl).front 8 rfl).front 6 rfl).first 3 rfl
                              refine a_we 18 rfl (by kernel_rfl) hH569 (o_storeN (vs := [(.int .i64 (setNo noP gsnP lp x63 x71 (gsnP + step))), (.int .i64 (setG noP gsnP lp x63 x71 (gsnP + step))), v559]) (c' := #[(.int .i64 (setNo noP gsnP lp x63 x71 (gsnP + step))), (.int .i64 (setG noP gsnP lp x63 x71 (gsnP + step))), v559]) ti24 rfl rfl rfl rfl (by intro u hu; simp only [List.mem_cons, List.not_mem_nil, or_false] at hu; rcases hu with rfl | rfl | rfl <;> first | rfl | exact ho561.one) (by simp) (by kernel_rfl) (hH568.front 0 rfl) fun w570 hH571 => ?_)
                              have hH572 : Has E w570 [[Hp.one b503 (.cells #[(.int .i64 noP), (.int .i64 gsnP), (.slice p516 lp.length c517)] 24 (0, 0))], [Hp.one b2 (.cells #[(.int .i64 noP), (.int .i64 gsnP), vp] 24 (0, 0))], R] := (((hH571.front 8 rfl).front 8 rfl).front 6 rfl).first 3 rfl
                              refine a_done (by kernel_rfl) hH572 ?_
                              refine r_op 19 rfl (by kernel_rfl) (o_assign (v := (.int .i64 (setE noP gsnP lp x63 x71 (gsnP + step)))) rfl ?_)
                              refine Rest.done (by kernel_rfl) ?_
                              refine t_norm (hK547 _ _ ?_)
                              refine wp_seq_k fun K573 hK573 => ?_
                              refine wp_seq_k fun K574 hK574 => ?_
                              refine c_region ?_
                              refine s_op (o_loadN (cs := [(.int .i64 (setNo noP gsnP lp x63 x71 (gsnP + step))), (.int .i64 (setG noP gsnP lp x63 x71 (gsnP + step))), v533]) Tryd.underlying24 rfl ti24 rfl hH571 (seg_sub 2 rfl) (CellsAt.one rfl) ?_)
                              refine s_op (o_loadN (cs := [(.int .i64 (setNo noP gsnP lp x63 x71 (gsnP + step))), (.int .i64 (setG noP gsnP lp x63 x71 (gsnP + step))), v559]) Tryd.underlying24 rfl ti24 rfl hH571 (seg_sub 0 rfl) (CellsAt.one rfl) ?_)
                              refine s_op (o_callf (vs := #[(.agg #[(.int .i64 (setNo noP gsnP lp x63 x71 (gsnP + step))), (.int .i64 (setG noP gsnP lp x63 x71 (gsnP + step))), v533]), (.agg #[(.int .i64 (setNo noP gsnP lp x63 x71 (gsnP + step))), (.int .i64 (setG noP gsnP lp x63 x71 (gsnP + step))), v559])]) ca13 rfl (args2 rfl rfl) (r11same_c (noa := (setNo noP gsnP lp x63 x71 (gsnP + step))) (gsna := (setG noP gsnP lp x63 x71 (gsnP + step))) (la := (setL noP gsnP lp x63 x71 (gsnP + step))) (nob := (setNo noP gsnP lp x63 x71 (gsnP + step))) (gsnb := (setG noP gsnP lp x63 x71 (gsnP + step))) (lb := (setL noP gsnP lp x63 x71 (gsnP + step))) hH571.all (ho535.sl.mono (seg_sub 3 rfl)) (ho561.sl.mono (seg_sub 1 rfl))) ?_)
                              rintro _ w577 ⟨rfl, hX575⟩
                              refine ⟨_, rfl, ?_⟩
                              have hH576 := hX575.of_all
                              refine s_op (o_not rfl ?_)
                              refine s_op (o_move (v := (.bool (!(decide ((setNo noP gsnP lp x63 x71 (gsnP + step)) = (setNo noP gsnP lp x63 x71 (gsnP + step)) ∧ (setG noP gsnP lp x63 x71 (gsnP + step)) = (setG noP gsnP lp x63 x71 (gsnP + step)) ∧ (setL noP gsnP lp x63 x71 (gsnP + step)) = (setL noP gsnP lp x63 x71 (gsnP + step))))))) rfl ?_)
                              rcases Bool.eq_false_or_eq_true (!(decide ((setNo noP gsnP lp x63 x71 (gsnP + step)) = (setNo noP gsnP lp x63 x71 (gsnP + step)) ∧ (setG noP gsnP lp x63 x71 (gsnP + step)) = (setG noP gsnP lp x63 x71 (gsnP + step)) ∧ (setL noP gsnP lp x63 x71 (gsnP + step)) = (setL noP gsnP lp x63 x71 (gsnP + step))))) with h578 | h578
                              · -- !(decide ((setNo noP gsnP lp x63 x71 (gsnP + step)) = (setNo noP gsnP lp x63 x71 (gsnP + step)) ∧ (setG noP gsnP lp x63 x71 (gsnP + step)) = (setG noP gsnP lp x63 x71 (gsnP + step)) ∧ (setL noP gsnP lp x63 x71 (gsnP + step)) = (setL noP gsnP lp x63 x71 (gsnP + step))))
                                exact absurd h578 (by simp)
                              · -- not: !(decide ((setNo noP gsnP lp x63 x71 (gsnP + step)) = (setNo noP gsnP lp x63 x71 (gsnP + step)) ∧ (setG noP gsnP lp x63 x71 (gsnP + step)) = (setG noP gsnP lp x63 x71 (gsnP + step)) ∧ (setL noP gsnP lp x63 x71 (gsnP + step)) = (setL noP gsnP lp x63 x71 (gsnP + step))))
                                refine s_on 124 rfl (congrArg Value.bool h578) (o_move (v := (.int .i64 (setE noP gsnP lp x63 x71 (gsnP + step)))) rfl ?_)
                                refine s_on 124 rfl (congrArg Value.bool h578) (o_move (v := (.int .i64 (setE noP gsnP lp x63 x71 (gsnP + step)))) rfl ?_)
                                refine s_on 124 rfl (congrArg Value.bool h578) (o_neq (a := (setE noP gsnP lp x63 x71 (gsnP + step))) (b := (setE noP gsnP lp x63 x71 (gsnP + step))) rfl rfl ?_)
                                refine s_op (o_pick_f (u := (.bool (decide ((setE noP gsnP lp x63 x71 (gsnP + step)) ≠ (setE noP gsnP lp x63 x71 (gsnP + step)))))) ((rfl : _ = _).trans (congrArg Value.bool h578)) rfl ?_)
                                refine s_op (o_move (v := (.bool (decide ((setE noP gsnP lp x63 x71 (gsnP + step)) ≠ (setE noP gsnP lp x63 x71 (gsnP + step)))))) rfl ?_)
                                by_cases h579 : (setE noP gsnP lp x63 x71 (gsnP + step)) ≠ (setE noP gsnP lp x63 x71 (gsnP + step))
                                · -- (setE noP gsnP lp x63 x71 (gsnP + step)) ≠ (setE noP gsnP lp x63 x71 (gsnP + step))
                                  exact absurd rfl h579
                                · -- not: (setE noP gsnP lp x63 x71 (gsnP + step)) ≠ (setE noP gsnP lp x63 x71 (gsnP + step))
                                  refine s_on 129 rfl (congrArg Value.bool (decide_eq_false h579)) (o_loadN (cs := [(.int .i64 noP), (.int .i64 gsnP), vp]) Tryd.underlying24 rfl ti24 e47_4 hH576 (seg_sub 7 rfl) (CellsAt.one rfl) ?_)
                                  refine s_on 129 rfl (congrArg Value.bool (decide_eq_false h579)) (o_loadN (cs := [(.int .i64 noP), (.int .i64 gsnP), (.slice p516 lp.length c517)]) Tryd.underlying24 rfl ti24 rfl hH576 (seg_sub 4 rfl) (CellsAt.one rfl) ?_)
                                  refine s_on 129 rfl (congrArg Value.bool (decide_eq_false h579)) (o_callf (vs := #[(.agg #[(.int .i64 noP), (.int .i64 gsnP), vp]), (.agg #[(.int .i64 noP), (.int .i64 gsnP), (.slice p516 lp.length c517)])]) ca13 rfl (args2 rfl rfl) (r11same_c (noa := noP) (gsna := gsnP) (la := lp) (nob := noP) (gsnb := gsnP) (lb := lp) hH576.all (hp.mono (app_sub (seg_sub 6 rfl) (seg_sub 8 rfl))) (ho513.sl.mono (seg_sub 5 rfl))) ?_)
                                  rintro _ w582 ⟨rfl, hX580⟩
                                  refine ⟨_, rfl, ?_⟩
                                  have hH581 := hX580.of_all
                                  refine s_on 129 rfl (congrArg Value.bool (decide_eq_false h579)) (o_not rfl ?_)
                                  refine s_op (o_pick_f (u := (.bool (!(decide (noP = noP ∧ gsnP = gsnP ∧ lp = lp))))) ((rfl : _ = _).trans (congrArg Value.bool (decide_eq_false h579))) rfl ?_)
                                  refine s_nil ?_
                                  refine t_norm (hK574 _ _ ?_)
                                  refine c_condb rfl (fun h583 => ?_) (fun h583 => ?_)
                                  · -- !(decide (noP = noP ∧ gsnP = gsnP ∧ lp = lp))
                                    have h583_n : (decide (noP = noP ∧ gsnP = gsnP ∧ lp = lp)) = false := by simpa using h583
                                    exact absurd h583 (by simp)
                                  · -- not: !(decide (noP = noP ∧ gsnP = gsnP ∧ lp = lp))
                                    have h583_n : (decide (noP = noP ∧ gsnP = gsnP ∧ lp = lp)) = true := by simpa using h583
                                    refine wp_skip ?_
                                    refine t_norm (hK573 _ _ ?_)
                                    refine wp_seq_k fun K584 hK584 => ?_
                                    refine c_region ?_
                                    refine s_op (o_move (v := (.int .i64 (setE noP gsnP lp x63 x71 (gsnP + step)))) rfl ?_)
                                    refine s_op (o_eql (a := (setE noP gsnP lp x63 x71 (gsnP + step))) (b := 0) rfl rfl ?_)
                                    refine s_nil ?_
                                    refine t_norm (hK584 _ _ ?_)
                                    refine c_cond rfl (fun h585 => ?_) (fun h585 => ?_)
                                    · -- (setE noP gsnP lp x63 x71 (gsnP + step)) = 0
                                      refine c_region ?_
                                      refine s_op (o_loadN (cs := [(.int .i64 (setNo noP gsnP lp x63 x71 (gsnP + step))), (.int .i64 (setG noP gsnP lp x63 x71 (gsnP + step))), v533]) Tryd.underlying24 rfl ti24 rfl hH581 (seg_sub 2 rfl) (CellsAt.one rfl) ?_)
                                      refine s_eff (o_storeN (vs := [(.int .i64 (setNo noP gsnP lp x63 x71 (gsnP + step))), (.int .i64 (setG noP gsnP lp x63 x71 (gsnP + step))), v533]) (c' := #[(.int .i64 (setNo noP gsnP lp x63 x71 (gsnP + step))), (.int .i64 (setG noP gsnP lp x63 x71 (gsnP + step))), v533]) ti24 e47_4 rfl rfl rfl (by intro u hu; simp only [List.mem_cons, List.not_mem_nil, or_false] at hu; rcases hu with rfl | rfl | rfl <;> first | rfl | exact ho535.one) (by simp) (by kernel_rfl) (hH581.front 7 rfl) fun w586 hH587 => ?_)
                                      refine s_nil ?_
                                      refine b_norm ?_
                                      refine t_norm (hK57 _ _ ?_)
                                      refine c_region ?_
                                      refine s_op (o_move (v := (.int .i64 (i : Int))) e47_9 ?_)
                                      refine s_op (o_add (a := (i : Int)) (b := 1) rfl rfl (w64 (by omega) (by omega)) ?_)
                                      refine s_op (o_assign (v := (.int .i64 ((i : Int) + 1))) rfl ?_)
                                      refine s_nil ?_
                                      have hH588 : Has E w586 [s534, [Hp.one b2 (.cells #[(.int .i64 (setNo noP gsnP lp x63 x71 (gsnP + step))), (.int .i64 (setG noP gsnP lp x63 x71 (gsnP + step))), v533] 24 (0, 0))], R] := (((hH587.front 8 rfl).front 1 rfl).front 5 rfl).first 3 rfl
                                      refine t_norm ⟨20 - (i + 1), _, rfl, ?_, ?_⟩
                                      · omega
                                      · exact ⟨(i + 1), (setNo noP gsnP lp x63 x71 (gsnP + step)), (setG noP gsnP lp x63 x71 (gsnP + step)), v533, s534, (setL noP gsnP lp x63 x71 (gsnP + step)), rfl, hH588, ((ho535.sl.mono (fun _ h_ => List.mem_append_left _ h_))), (by omega), (by first | omega | (have h_ := setL_le noP gsnP lp; exact Nat.le_trans (h_ _ _ _) (by omega))), e47_0, e47_1, e47_2, e47_3, e47_4, rfl, e47_38⟩
                                    · -- not: (setE noP gsnP lp x63 x71 (gsnP + step)) = 0
                                      refine wp_skip ?_
                                      refine b_norm ?_
                                      refine t_norm (hK57 _ _ ?_)
                                      refine c_region ?_
                                      refine s_op (o_move (v := (.int .i64 (i : Int))) e47_9 ?_)
                                      refine s_op (o_add (a := (i : Int)) (b := 1) rfl rfl (w64 (by omega) (by omega)) ?_)
                                      refine s_op (o_assign (v := (.int .i64 ((i : Int) + 1))) rfl ?_)
                                      refine s_nil ?_
                                      have hH589 : Has E w582 [sp, [Hp.one b2 (.cells #[(.int .i64 noP), (.int .i64 gsnP), vp] 24 (0, 0))], R] := (((hH581.front 8 rfl).front 8 rfl).front 8 rfl).first 3 rfl
                                      refine t_norm ⟨20 - (i + 1), _, rfl, ?_, ?_⟩
                                      · omega
                                      · exact ⟨(i + 1), noP, gsnP, vp, sp, lp, rfl, hH589, (hp), (by omega), (by first | omega | (have h_ := setL_le noP gsnP lp; exact Nat.le_trans (h_ _ _ _) (by omega))), e47_0, e47_1, e47_2, e47_3, e47_4, rfl, e47_38⟩
                            · -- first operation 17
                              have hH590 : Has E { w544 with drawn := w544.drawn + 1 } [[Hp.one b503 (.cells #[(.int .i64 noP), (.int .i64 gsnP), (.slice p516 lp.length c517)] 24 (0, 0))], [Hp.one b2 (.cells #[(.int .i64 noP), (.int .i64 gsnP), vp] 24 (0, 0))], R] := (((hH548.front 6 rfl).front 6 rfl).front 4 rfl).first 3 rfl
                              refine ok_w 17 rfl (o_alloc (cs := #[(.int .i64 0), (.int .i64 0), (.slice none 0 0)]) ti24 rfl hH548 fun b591 w592 hH593 => ?_)
                              have hH594 : Has E w592 [[Hp.one b503 (.cells #[(.int .i64 noP), (.int .i64 gsnP), (.slice p516 lp.length c517)] 24 (0, 0))], [Hp.one b2 (.cells #[(.int .i64 noP), (.int .i64 gsnP), vp] 24 (0, 0))], R] := (((hH593.front 7 rfl).front 7 rfl).front 5 rfl).first 3 rfl
                              refine a_w 13 rfl (by kernel_rfl) hH594 (o_callf (vs := #[(.agg #[(.int .i64 noP), (.int .i64 gsnP), (.slice p516 lp.length c517)]), (S x63), (.agg #[(.bool x71.1), (S x71.2)]), (.int .i64 (gsnP + step))]) ca17 rfl (args4 rfl rfl rfl rfl) (r11set_c (no := noP) (gsn := gsnP) (l := lp) (key := x63) (v := x71) (g := gsnP + step) hH593.all (ho513.sl.mono (seg_sub 4 rfl)) (by first | omega | (simp only []; omega) | (simp; done) | (simp; omega))) ?_)
                              rintro _ w600 ⟨v595, s596, rfl, ho597, hX598⟩
                              refine ⟨_, rfl, ?_⟩
                              have hH599 : Has E w600 [s596, [Hp.one b591 (.cells #[(.int .i64 0), (.int .i64 0), (.slice none 0 0)] 24 (0, 0))], [Hp.one b540 (.cells #[(.int .i64 (setNo noP gsnP lp x63 x71 (gsnP + step))), (.int .i64 (setG noP gsnP lp x63 x71 (gsnP + step))), v533] 24 (0, 0))], s534, [Hp.one b503 (.cells #[(.int .i64 noP), (.int .i64 gsnP), (.slice p516 lp.length c517)] 24 (0, 0))], s512, sp, [Hp.one b2 (.cells #[(.int .i64 noP), (.int .i64 gsnP), vp] 24 (0, 0))], R] := hX598.of_all1
                              refine a_op 14 rfl (by kernel_rfl) (fun w_ h_ => o_move (v := (.tuple #[(.agg #[(.int .i64 (setNo noP gsnP lp x63 x71 (gsnP + step))), (.int .i64 (setG noP gsnP lp x63 x71 (gsnP + step))), v595]), (.int .i64 (setE noP gsnP lp x63 x71 (gsnP + step)))])) rfl ⟨rfl, rfl⟩) ?_
                              refine a_op 15 rfl (by kernel_rfl) (fun w_ h_ => o_extract (v := (.agg #[(.int .i64 (setNo noP gsnP lp x63 x71 (gsnP + step))), (.int .i64 (setG noP gsnP lp x63 x71 (gsnP + step))), v595])) rfl rfl ⟨rfl, rfl⟩) ?_
                              refine a_op 16 rfl (by kernel_rfl) (fun w_ h_ => o_extract (v := (.int .i64 (setE noP gsnP lp x63 x71 (gsnP + step)))) rfl rfl ⟨rfl, rfl⟩) ?_
                              have hH601 : Has E w600 [[Hp.one b503 (.cells #[(.int .i64 noP), (.int .i64 gsnP), (.slice p516 lp.length c517)] 24 (0, 0))], [Hp.one b2 (.cells #[(.int .i64 noP), (.int .i64 gsnP), vp] 24 (0, 0))], R] := (((hH599.front 8 rfl).front 8 rfl).front 6 rfl).first 3 rfl
                              refine a_we 18 rfl (by kernel_rfl) hH601 (o_storeN (vs := [(.int .i64 (setNo noP gsnP lp x63 x71 (gsnP + step))), (.int .i64 (setG noP gsnP lp x63 x71 (gsnP + step))), v595]) (c' := #[(.int .i64 (setNo noP gsnP lp x63 x71 (gsnP + step))), (.int .i64 (setG noP gsnP lp x63 x71 (gsnP + step))), v595]) ti24 rfl rfl rfl rfl (by intro u hu; simp only [List.mem_cons, List.not_mem_nil, or_false] at hu; rcases hu with rfl | rfl | rfl <;> first | rfl | exact ho597.one) (by simp) (by kernel_rfl) (hH599.front 1 rfl) fun w602 hH603 => ?_)
                              have hH604 : Has E w602 [[Hp.one b503 (.cells #[(.int .i64 noP), (.int .i64 gsnP), (.slice p516 lp.length c517)] 24 (0, 0))], [Hp.one b2 (.cells #[(.int .i64 noP), (.int .i64 gsnP), vp] 24 (0, 0))], R] := (((hH603.front 8 rfl).front 8 rfl).front 6 rfl).first 3 rfl
                              refine a_done (by kernel_rfl) hH604 ?_
                              refine r_op 19 rfl (by kernel_rfl) (o_assign (v := (.int .i64 (setE noP gsnP lp x63 x71 (gsnP + step)))) rfl ?_)
                              refine Rest.done (by kernel_rfl) ?_
                              refine t_norm (hK547 _ _ ?_)
                              refine wp_seq_k fun K605 hK605 => ?_
                              refine wp_seq_k fun K606 hK606 => ?_
                              refine c_region ?_
                              refine s_op (o_loadN (cs := [(.int .i64 (setNo noP gsnP lp x63 x71 (gsnP + step))), (.int .i64 (setG noP gsnP lp x63 x71 (gsnP + step))), v533]) Tryd.underlying24 rfl ti24 rfl hH603 (seg_sub 2 rfl) (CellsAt.one rfl) ?_)
                              refine s_op (o_loadN (cs := [(.int .i64 (setNo noP gsnP lp x63 x71 (gsnP + step))), (.int .i64 (setG noP gsnP lp x63 x71 (gsnP + step))), v595]) Tryd.underlying24 rfl ti24 rfl hH603 (seg_sub 0 rfl) (CellsAt.one rfl) ?_)
                              refine s_op (o_callf (vs := #[(.agg #[(.int .i64 (setNo noP gsnP lp x63 x71 (gsnP + step))), (.int .i64 (setG noP gsnP lp x63 x71 (gsnP + step))), v533]), (.agg #[(.int .i64 (setNo noP gsnP lp x63 x71 (gsnP + step))), (.int .i64 (setG noP gsnP lp x63 x71 (gsnP + step))), v595])]) ca13 rfl (args2 rfl rfl) (r11same_c (noa := (setNo noP gsnP lp x63 x71 (gsnP + step))) (gsna := (setG noP gsnP lp x63 x71 (gsnP + step))) (la := (setL noP gsnP lp x63 x71 (gsnP + step))) (nob := (setNo noP gsnP lp x63 x71 (gsnP + step))) (gsnb := (setG noP gsnP lp x63 x71 (gsnP + step))) (lb := (setL noP gsnP lp x63 x71 (gsnP + step))) hH603.all (ho535.sl.mono (seg_sub 3 rfl)) (ho597.sl.mono (seg_sub 1 rfl))) ?_)
                              rintro _ w609 ⟨rfl, hX607⟩
                              refine ⟨_, rfl, ?_⟩
                              have hH608 := hX607.of_all
                              refine s_op (o_not rfl ?_)
                              refine s_op (o_move (v := (.bool (!(decide ((setNo noP gsnP lp x63 x71 (gsnP + step)) = (setNo noP gsnP lp x63 x71 (gsnP + step)) ∧ (setG noP gsnP lp x63 x71 (gsnP + step)) = (setG noP gsnP lp x63 x71 (gsnP + step)) ∧ (setL noP gsnP lp x63 x71 (gsnP + step)) = (setL noP gsnP lp x63 x71 (gsnP + step))))))) rfl ?_)
                              rcases Bool.eq_false_or_eq_true (!(decide ((setNo noP gsnP lp x63 x71 (gsnP + step)) = (setNo noP gsnP lp x63 x71 (gsnP + step)) ∧ (setG noP gsnP lp x63 x71 (gsnP + step)) = (setG noP gsnP lp x63 x71 (gsnP + step)) ∧ (setL noP gsnP lp x63 x71 (gsnP + step)) = (setL noP gsnP lp x63 x71 (gsnP + step))))) with h610 | h610
                              · -- !(decide ((setNo noP gsnP lp x63 x71 (gsnP + step)) = (setNo noP gsnP lp x63 x71 (gsnP + step)) ∧ (setG noP gsnP lp x63 x71 (gsnP + step)) = (setG noP gsnP lp x63 x71 (gsnP + step)) ∧ (setL noP gsnP lp x63 x71 (gsnP + step)) = (setL noP gsnP lp x63 x71 (gsnP + step))))
                                exact absurd h610 (by simp)
                              · -- not: !(decide ((setNo noP gsnP lp x63 x71 (gsnP + step)) = (setNo noP gsnP lp x63 x71 (gsnP + step)) ∧ (setG noP gsnP lp x63 x71 (gsnP + step)) = (setG noP gsnP lp x63 x71 (gsnP + step)) ∧ (setL noP gsnP lp x63 x71 (gsnP + step)) = (setL noP gsnP lp x63 x71 (gsnP + step))))
                                refine s_on 124 rfl (congrArg Value.bool h610) (o_move (v := (.int .i64 (setE noP gsnP lp x63 x71 (gsnP + step)))) rfl ?_)
                                refine s_on 124 rfl (congrArg Value.bool h610) (o_move (v := (.int .i64 (setE noP gsnP lp x63 x71 (gsnP + step)))) rfl ?_)
                                refine s_on 124 rfl (congrArg Value.bool h610) (o_neq (a := (setE noP gsnP lp x63 x71 (gsnP + step))) (b := (setE noP gsnP lp x63 x71 (gsnP + step))) rfl rfl ?_)
                                refine s_op (o_pick_f (u := (.bool (decide ((setE noP gsnP lp x63 x71 (gsnP + step)) ≠ (setE noP gsnP lp x63 x71 (gsnP + step)))))) ((rfl : _ = _).trans (congrArg Value.bool h610)) rfl ?_)
                                refine s_op (o_move (v := (.bool (decide ((setE noP gsnP lp x63 x71 (gsnP + step)) ≠ (setE noP gsnP lp x63 x71 (gsnP + step)))))) rfl ?_)
                                by_cases h611 : (setE noP gsnP lp x63 x71 (gsnP + step)) ≠ (setE noP gsnP lp x63 x71 (gsnP + step))
                                · -- (setE noP gsnP lp x63 x71 (gsnP + step)) ≠ (setE noP gsnP lp x63 x71 (gsnP + step))
                                  exact absurd rfl h611
                                · -- not: (setE noP gsnP lp x63 x71 (gsnP + step)) ≠ (setE noP gsnP lp x63 x71 (gsnP + step))
                                  refine s_on 129 rfl (congrArg Value.bool (decide_eq_false h611)) (o_loadN (cs := [(.int .i64 noP), (.int .i64 gsnP), vp]) Tryd.underlying24 rfl ti24 e47_4 hH608 (seg_sub 7 rfl) (CellsAt.one rfl) ?_)
                                  refine s_on 129 rfl (congrArg Value.bool (decide_eq_false h611)) (o_loadN (cs := [(.int .i64 noP), (.int .i64 gsnP), (.slice p516 lp.length c517)]) Tryd.underlying24 rfl ti24 rfl hH608 (seg_sub 4 rfl) (CellsAt.one rfl) ?_)
                                  refine s_on 129 rfl (congrArg Value.bool (decide_eq_false h611)) (o_callf (vs := #[(.agg #[(.int .i64 noP), (.int .i64 gsnP), vp]), (.agg #[(.int .i64 noP), (.int .i64 gsnP), (.slice p516 lp.length c517)])]) ca13 rfl (args2 rfl rfl) (r11same_c (noa := noP) (gsna := gsnP) (la := lp) (nob := noP) (gsnb := gsnP) (lb := lp) hH608.all (hp.mono (app_sub (seg_sub 6 rfl) (seg_sub 8 rfl))) (ho513.sl.mono (seg_sub 5 rfl))) ?_)
                                  rintro _ w614 ⟨rfl, hX612⟩
                                  refine ⟨_, rfl, ?_⟩
                                  have hH613 := hX612.of_all
                                  refine s_on 129 rfl (congrArg Value.bool (decide_eq_false h611)) (o_not rfl ?_)
                                  refine s_op (o_pick_f (u := (.bool (!(decide (noP = noP ∧ gsnP = gsnP ∧ lp = lp))))) ((rfl : _ = _).trans (congrArg Value.bool (decide_eq_false h611))) rfl ?_)
                                  refine s_nil ?_
                                  refine t_norm (hK606 _ _ ?_)
                                  refine c_condb rfl (fun h615 => ?_) (fun h615 => ?_)
                                  · -- !(decide (noP = noP ∧ gsnP = gsnP ∧ lp = lp))
                                    have h615_n : (decide (noP = noP ∧ gsnP = gsnP ∧ lp = lp)) = false := by simpa using h615
                                    exact absurd h615 (by simp)
                                  · -- not: !(decide (noP = noP ∧ gsnP = gsnP ∧ lp = lp))
                                    have h615_n : (decide (noP = noP ∧ gsnP = gsnP ∧ lp = lp)) = true := by simpa using h615
                                    refine wp_skip ?_
                                    refine t_norm (hK605 _ _ ?_)
                                    refine wp_seq_k fun K616 hK616 => ?_
                                    refine c_region ?_
                                    refine s_op (o_move (v := (.int .i64 (setE noP gsnP lp x63 x71 (gsnP + step)))) rfl ?_)
                                    refine s_op (o_eql (a := (setE noP gsnP lp x63 x71 (gsnP + step))) (b := 0) rfl rfl ?_)
                                    refine s_nil ?_
                                    refine t_norm (hK616 _ _ ?_)
                                    refine c_cond rfl (fun h617 => ?_) (fun h617 => ?_)
                                    · -- (setE noP gsnP lp x63 x71 (gsnP + step)) = 0
                                      refine c_region ?_
                                      refine s_op (o_loadN (cs := [(.int .i64 (setNo noP gsnP lp x63 x71 (gsnP + step))), (.int .i64 (setG noP gsnP lp x63 x71 (gsnP + step))), v533]) Tryd.underlying24 rfl ti24 rfl hH613 (seg_sub 2 rfl) (CellsAt.one rfl) ?_)
                                      refine s_eff (o_storeN (vs := [(.int .i64 (setNo noP gsnP lp x63 x71 (gsnP + step))), (.int .i64 (setG noP gsnP lp x63 x71 (gsnP + step))), v533]) (c' := #[(.int .i64 (setNo noP gsnP lp x63 x71 (gsnP + step))), (.int .i64 (setG noP gsnP lp x63 x71 (gsnP + step))), v533]) ti24 e47_4 rfl rfl rfl (by intro u hu; simp only [List.mem_cons, List.not_mem_nil, or_false] at hu; rcases hu with rfl | rfl | rfl <;> first | rfl | exact ho535.one) (by simp) (by kernel_rfl) (hH613.front 7 rfl) fun w618 hH619 => ?_)
                                      refine s_nil ?_
                                      refine b_norm ?_
                                      refine t_norm (hK57 _ _ ?_)
                                      refine c_region ?_
                                      refine s_op (o_move (v := (.int .i64 (i : Int))) e47_9 ?_)
                                      refine s_op (o_add (a := (i : Int)) (b := 1) rfl rfl (w64 (by omega) (by omega)) ?_)
                                      refine s_op (o_assign (v := (.int .i64 ((i : Int) + 1))) rfl ?_)
                                      refine s_nil ?_
                                      have hH620 : Has E w618 [s534, [Hp.one b2 (.cells #[(.int .i64 (setNo noP gsnP lp x63 x71 (gsnP + step))), (.int .i64 (setG noP gsnP lp x63 x71 (gsnP + step))), v533] 24 (0, 0))], R] := (((hH619.front 8 rfl).front 1 rfl).front 5 rfl).first 3 rfl
                                      refine t_norm ⟨20 - (i + 1), _, rfl, ?_, ?_⟩
                                      · omega
                                      · exact ⟨(i + 1), (setNo noP gsnP lp x63 x71 (gsnP + step)), (setG noP gsnP lp x63 x71 (gsnP + step)), v533, s534, (setL noP gsnP lp x63 x71 (gsnP + step)), rfl, hH620, ((ho535.sl.mono (fun _ h_ => List.mem_append_left _ h_))), (by omega), (by first | omega | (have h_ := setL_le noP gsnP lp; exact Nat.le_trans (h_ _ _ _) (by omega))), e47_0, e47_1, e47_2, e47_3, e47_4, rfl, e47_38⟩
                                    · -- not: (setE noP gsnP lp x63 x71 (gsnP + step)) = 0
                                      refine wp_skip ?_
                                      refine b_norm ?_
                                      refine t_norm (hK57 _ _ ?_)
                                      refine c_region ?_
                                      refine s_op (o_move (v := (.int .i64 (i : Int))) e47_9 ?_)
                                      refine s_op (o_add (a := (i : Int)) (b := 1) rfl rfl (w64 (by omega) (by omega)) ?_)
                                      refine s_op (o_assign (v := (.int .i64 ((i : Int) + 1))) rfl ?_)
                                      refine s_nil ?_
                                      have hH621 : Has E w614 [sp, [Hp.one b2 (.cells #[(.int .i64 noP), (.int .i64 gsnP), vp] 24 (0, 0))], R] := (((hH613.front 8 rfl).front 8 rfl).front 8 rfl).first 3 rfl
                                      refine t_norm ⟨20 - (i + 1), _, rfl, ?_, ?_⟩
                                      · omega
                                      · exact ⟨(i + 1), noP, gsnP, vp, sp, lp, rfl, hH621, (hp), (by omega), (by first | omega | (have h_ := setL_le noP gsnP lp; exact Nat.le_trans (h_ _ _ _) (by omega))), e47_0, e47_1, e47_2, e47_3, e47_4, rfl, e47_38⟩
                          · -- first operation 17
                            have hH622 : Has E { w519 with drawn := w519.drawn + 1 } [[Hp.one b2 (.cells #[(.int .i64 noP), (.int .i64 gsnP), vp] 24 (0, 0))], R] := ((hH522.front 4 rfl).front 4 rfl).first 2 rfl
                            refine ok_w 17 rfl (o_alloc (cs := #[(.int .i64 0), (.int .i64 0), (.slice none 0 0)]) ti24 rfl hH522 fun b623 w624 hH625 => ?_)
                            have hH626 : Has E w624 [[Hp.one b2 (.cells #[(.int .i64 noP), (.int .i64 gsnP), vp] 24 (0, 0))], R] := ((hH625.front 5 rfl).front 5 rfl).first 2 rfl
                            refine a_w 13 rfl (by kernel_rfl) hH626 (o_callf (vs := #[(.agg #[(.int .i64 noP), (.int .i64 gsnP), vp]), (S x63), (.agg #[(.bool x71.1), (S x71.2)]), (.int .i64 (gsnP + step))]) ca16 rfl (args4 rfl rfl rfl rfl) (pset_c (no := noP) (gsn := gsnP) (l := lp) (key := x63) (v := x71) (g := gsnP + step) hH625.all (hp.mono (app_sub (seg_sub 3 rfl) (seg_sub 5 rfl))) (by first | omega | (simp only []; omega) | (simp; done) | (simp; omega))) ?_)
                            rintro _ w632 ⟨v627, s628, rfl, ho629, hX630⟩
                            refine ⟨_, rfl, ?_⟩
                            have hH631 : Has E w632 [s628, [Hp.one b623 (.cells #[(.int .i64 0), (.int .i64 0), (.slice none 0 0)] 24 (0, 0))], [Hp.one b503 (.cells #[(.int .i64 noP), (.int .i64 gsnP), (.slice p516 lp.length c517)] 24 (0, 0))], s512, sp, [Hp.one b2 (.cells #[(.int .i64 noP), (.int .i64 gsnP), vp] 24 (0, 0))], R] := hX630.of_all1
                            refine a_op 14 rfl (by kernel_rfl) (fun w_ h_ => o_move (v := (.tuple #[(.agg #[(.int .i64 (setNo noP gsnP lp x63 x71 (gsnP + step))), (.int .i64 (setG noP gsnP lp x63 x71 (gsnP + step))), v627]), (.int .i64 (setE noP gsnP lp x63 x71 (gsnP + step)))])) rfl ⟨rfl, rfl⟩) ?_
                            refine a_op 15 rfl (by kernel_rfl) (fun w_ h_ => o_extract (v := (.agg #[(.int .i64 (setNo noP gsnP lp x63 x71 (gsnP + step))), (.int .i64 (setG noP gsnP lp x63 x71 (gsnP + step))), v627])) rfl rfl ⟨rfl, rfl⟩) ?_
                            refine a_op 16 rfl (by kernel_rfl) (fun w_ h_ => o_extract (v := (.int .i64 (setE noP gsnP lp x63 x71 (gsnP + step)))) rfl rfl ⟨rfl, rfl⟩) ?_
                            have hH633 : Has E w632 [[Hp.one b2 (.cells #[(.int .i64 noP), (.int .i64 gsnP), vp] 24 (0, 0))], R] := ((hH631.front 6 rfl).front 6 rfl).first 2 rfl
                            refine a_we 18 rfl (by kernel_rfl) hH633 (o_storeN (vs := [(.int .i64 (setNo noP gsnP lp x63 x71 (gsnP + step))), (.int .i64 (setG noP gsnP lp x63 x71 (gsnP + step))), v627]) (c' := #[(.int .i64 (setNo noP gsnP lp x63 x71 (gsnP + step))), (.int .i64 (setG noP gsnP lp x63 x71 (gsnP + step))), v627]) ti24 rfl rfl rfl rfl (by intro u hu; simp only [List.mem_cons, List.not_mem_nil, or_false] at hu; rcases hu with rfl | rfl | rfl <;> first | rfl | exact ho629.one) (by simp) (by kernel_rfl) (hH631.front 1 rfl) fun w634 hH635 => ?_)
                            have hH636 : Has E w634 [[Hp.one b2 (.cells #[(.int .i64 noP), (.int .i64 gsnP), vp] 24 (0, 0))], R] := ((hH635.front 6 rfl).front 6 rfl).first 2 rfl
                            refine a_done (by kernel_rfl) hH636 ?_
                            refine r_op 19 rfl (by kernel_rfl) (o_assign (v := (.int .i64 (setE noP gsnP lp x63 x71 (gsnP + step)))) rfl ?_)
                            refine Rest.done (by kernel_rfl) ?_
                            refine t_norm (hK521 _ _ ?_)
                            refine wp_seq_k fun K637 hK637 => ?_
                            refine Rest.region mixed (by kernel_rfl) ?_
                            have hH638 : Has E { w634 with drawn := w634.drawn + 1 } [[Hp.one b623 (.cells #[(.int .i64 (setNo noP gsnP lp x63 x71 (gsnP + step))), (.int .i64 (setG noP gsnP lp x63 x71 (gsnP + step))), v627] 24 (0, 0))], s628, [Hp.one b503 (.cells #[(.int .i64 noP), (.int .i64 gsnP), (.slice p516 lp.length c517)] 24 (0, 0))], s512, sp, [Hp.one b2 (.cells #[(.int .i64 noP), (.int .i64 gsnP), vp] 24 (0, 0))], R] := Has0.drew hH635 _
                            refine Rest.phaseA (fun w_ => Has E w_ [[Hp.one b503 (.cells #[(.int .i64 noP), (.int .i64 gsnP), (.slice p516 lp.length c517)] 24 (0, 0))], [Hp.one b2 (.cells #[(.int .i64 noP), (.int .i64 gsnP), vp] 24 (0, 0))], R]) 0 19 19 rfl (by decide) (by kernel_rfl) ?_
                            refine a_op 0 rfl (by kernel_rfl) (fun w_ h_ => o_loadN (cs := [(.int .i64 noP), (.int .i64 gsnP), (.slice p516 lp.length c517)]) Tryd.underlying24 rfl ti24 rfl h_ (seg_sub 0 rfl) (CellsAt.one rfl) ⟨rfl, rfl⟩) ?_
                            refine a_op 1 rfl (by kernel_rfl) (fun w_ h_ => o_move (v := v_keys) e47_1 ⟨rfl, rfl⟩) ?_
                            refine a_op 2 rfl (by kernel_rfl) (fun w_ h_ => o_move (v := (.int .i64 (i : Int))) e47_9 ⟨rfl, rfl⟩) ?_
                            obtain ⟨b639, o640, hc641, ho642⟩ := ix_ex1 Tryd.underlying32 ti9 h_keys (by omega) hx64
                            refine a_op 3 rfl (by kernel_rfl) (fun w_ h_ => ho642 rfl rfl ⟨rfl, rfl⟩) ?_
                            refine a_op 4 rfl (by kernel_rfl) (fun w_ h_ => o_load1 (v := (S x63)) Tryd.underlying9 rfl rfl h_ (seg_sub 2 rfl) hc641 ⟨rfl, rfl⟩) ?_
                            refine a_op 5 rfl (by kernel_rfl) (fun w_ h_ => o_move (v := v_vals) e47_2 ⟨rfl, rfl⟩) ?_
                            refine a_op 6 rfl (by kernel_rfl) (fun w_ h_ => o_move (v := (.int .i64 (i : Int))) e47_9 ⟨rfl, rfl⟩) ?_
                            obtain ⟨b643, o644, hc645, ho646⟩ := ix_exF vlC_len Tryd.underlying33 ti29 h_vals (by omega) hx72
                            refine a_op 7 rfl (by kernel_rfl) (fun w_ h_ => ho646 rfl rfl ⟨rfl, rfl⟩) ?_
                            refine a_op 8 rfl (by kernel_rfl) (fun w_ h_ => o_loadN (cs := [(.bool x71.1), (S x71.2)]) Tryd.underlying29 rfl ti29 rfl h_ (seg_sub 2 rfl) hc645 ⟨rfl, rfl⟩) ?_
                            refine a_op 9 rfl (by kernel_rfl) (fun w_ h_ => o_fieldAddr (k := 1) (fun _ => by kernel_rfl) e47_4 ⟨rfl, rfl⟩) ?_
                            refine a_op 10 rfl (by kernel_rfl) (fun w_ h_ => o_load1 (v := (.int .i64 gsnP)) Tryd.underlying3 rfl rfl h_ (seg_sub 1 rfl) (CellsAt.one rfl) ⟨rfl, rfl⟩) ?_
                            refine a_op 11 rfl (by kernel_rfl) (fun w_ h_ => o_move (v := (.int .i64 step)) e47_3 ⟨rfl, rfl⟩) ?_
                            refine a_op 12 rfl (by kernel_rfl) (fun w_ h_ => o_add (a := gsnP) (b := step) rfl rfl (w64 (by omega) (by omega)) ⟨rfl, rfl⟩) ?_
                            have hH647 : Has E { w634 with drawn := w634.drawn + 1 } [[Hp.one b503 (.cells #[(.int .i64 noP), (.int .i64 gsnP), (.slice p516 lp.length c517)] 24 (0, 0))], [Hp.one b2 (.cells #[(.int .i64 noP), (.int .i64 gsnP), vp] 24 (0, 0))], R] := (((hH638.front 6 rfl).front 6 rfl).front 4 rfl).first 3 rfl
                            refine a_two 13 17 (by kernel_rfl) hH647 ?_ ?_
                            · -- first operation 13
                              have hH648 : Has E { w634 with drawn := w634.drawn + 1 } [[Hp.one b503 (.cells #[(.int .i64 noP), (.int .i64 gsnP), (.slice p516 lp.length c517)] 24 (0, 0))], [Hp.one b2 (.cells #[(.int .i64 noP), (.int .i64 gsnP), vp] 24 (0, 0))], R] := (((hH638.front 6 rfl).front 6 rfl).front 4 rfl).first 3 rfl
                              refine ok_w 13 rfl (o_callf (vs := #[(.agg #[(.int .i64 noP), (.int .i64 gsnP), (.slice p516 lp.length c517)]), (S x63), (.agg #[(.bool x71.1), (S x71.2)]), (.int .i64 (gsnP + step))]) ca17 rfl (args4 rfl rfl rfl rfl) (r11set_c (no := noP) (gsn := gsnP) (l := lp) (key := x63) (v := x71) (g := gsnP + step) hH638.all (ho513.sl.mono (seg_sub 3 rfl)) (by first | omega | (simp only []; omega) | (simp; done) | (simp; omega))) ?_)
                              rintro _ w654 ⟨v649, s650, rfl, ho651, hX652⟩
                              refine ⟨_, rfl, ?_⟩
                              have hH653 : Has E w654 [s650, [Hp.one b623 (.cells #[(.int .i64 (setNo noP gsnP lp x63 x71 (gsnP + step))), (.int .i64 (setG noP gsnP lp x63 x71 (gsnP + step))), v627] 24 (0, 0))], s628, [Hp.one b503 (.cells #[(.int .i64 noP), (.int .i64 gsnP), (.slice p516 lp.length c517)] 24 (0, 0))], s512, sp, [Hp.one b2 (.cells #[(.int .i64 noP), (.int .i64 gsnP), vp] 24 (0, 0))], R] := hX652.of_all1
                              refine a_op 14 rfl (by kernel_rfl) (fun w_ h_ => o_move (v := (.tuple #[(.agg #[(.int .i64 (setNo noP gsnP lp x63 x71 (gsnP + step))), (.int .i64 (setG noP gsnP lp x63 x71 (gsnP + step))), v649]), (.int .i64 (setE noP gsnP lp x63 x71 (gsnP + step)))])) rfl ⟨rfl, rfl⟩) ?_
                              refine a_op 15 rfl (by kernel_rfl) (fun w_ h_ => o_extract (v := (.agg #[(.int .i64 (setNo noP gsnP lp x63 x71 (gsnP + step))), (.int .i64 (setG noP gsnP lp x63 x71 (gsnP + step))), v649])) rfl rfl ⟨rfl, rfl⟩) ?_
                              refine a_op 16 rfl (by kernel_rfl) (fun w_ h_ => o_extract (v := (.int .i64 (setE noP gsnP lp x63 x71 (gsnP + step)))) rfl rfl ⟨rfl, rfl⟩) ?_
                              have hH655 : Has E w654 [[Hp.one b503 (.cells #[(.int .i64 noP), (.int .i64 gsnP), (.slice p516 lp.length c517)] 24 (0, 0))], [Hp.one b2 (.cells #[(.int .i64 noP), (.int .i64 gsnP), vp] 24 (0, 0))], R] := (((hH653.front 7 rfl).front 7 rfl).front 5 rfl).first 3 rfl
                              refine a_w 17 rfl (by kernel_rfl) hH655 (o_alloc (cs := #[(.int .i64 0), (.int .i64 0), (.slice none 0 0)]) ti24 rfl hH653 fun b656 w657 hH658 => ?_)
                              have hH659 : Has E w657 [[Hp.one b503 (.cells #[(.int .i64 noP), (.int .i64 gsnP), (.slice p516 lp.length c517)] 24 (0, 0))], [Hp.one b2 (.cells #[(.int .i64 noP), (.int .i64 gsnP), vp] 24 (0, 0))], R] := (((hH658.front 8 rfl).front 8 rfl).front 6 rfl).first 3 rfl
                              refine a_we 18 rfl (by kernel_rfl) hH659 (o_storeN (vs := [(.int .i64 (setNo noP gsnP lp x63 x71 (gsnP + step))), (.int .i64 (setG noP gsnP lp x63 x71 (gsnP + step))), v649]) (c' := #[(.int .i64 (setNo noP gsnP lp x63 x71 (gsnP + step))), (.int .i64 (setG noP gsnP lp x63 x71 (gsnP + step))), v649]) ti24 rfl rfl rfl rfl (by intro u hu; simp only [List.mem_cons, List.not_mem_nil, or_false] at hu; rcases hu with rfl | rfl | rfl <;> first | rfl | exact ho651.one) (by simp) (by kernel_rfl) (hH658.front 0 rfl) fun w660 hH661 => ?_)
                              have hH662 : Has E w660 [[Hp.one b503 (.cells #[(.int .i64 noP), (.int .i64 gsnP), (.slice p516 lp.length c517)] 24 (0, 0))], [Hp.one b2 (.cells #[(.int .i64 noP), (.int .i64 gsnP), vp] 24 (0, 0))], R] := (((hH661.front 8 rfl).front 8 rfl).front 6 rfl).first 3 rfl
                              refine a_done (by kernel_rfl) hH662 ?_
                              refine r_op 19 rfl (by kernel_rfl) (o_assign (v := (.int .i64 (setE noP gsnP lp x63 x71 (gsnP + step)))) rfl ?_)
                              refine Rest.done (by kernel_rfl) ?_
                              refine t_norm (hK637 _ _ ?_)
                              refine wp_seq_k fun K663 hK663 => ?_
                              refine wp_seq_k fun K664 hK664 => ?_
                              refine c_region ?_
                              refine s_op (o_loadN (cs := [(.int .i64 (setNo noP gsnP lp x63 x71 (gsnP + step))), (.int .i64 (setG noP gsnP lp x63 x71 (gsnP + step))), v627]) Tryd.underlying24 rfl ti24 rfl hH661 (seg_sub 2 rfl) (CellsAt.one rfl) ?_)
                              refine s_op (o_loadN (cs := [(.int .i64 (setNo noP gsnP lp x63 x71 (gsnP + step))), (.int .i64 (setG noP gsnP lp x63 x71 (gsnP + step))), v649]) Tryd.underlying24 rfl ti24 rfl hH661 (seg_sub 0 rfl) (CellsAt.one rfl) ?_)
                              refine s_op (o_callf (vs := #[(.agg #[(.int .i64 (setNo noP gsnP lp x63 x71 (gsnP + step))), (.int .i64 (setG noP gsnP lp x63 x71 (gsnP + step))), v627]), (.agg #[(.int .i64 (setNo noP gsnP lp x63 x71 (gsnP + step))), (.int .i64 (setG noP gsnP lp x63 x71 (gsnP + step))), v649])]) ca13 rfl (args2 rfl rfl) (r11same_c (noa := (setNo noP gsnP lp x63 x71 (gsnP + step))) (gsna := (setG noP gsnP lp x63 x71 (gsnP + step))) (la := (setL noP gsnP lp x63 x71 (gsnP + step))) (nob := (setNo noP gsnP lp x63 x71 (gsnP + step))) (gsnb := (setG noP gsnP lp x63 x71 (gsnP + step))) (lb := (setL noP gsnP lp x63 x71 (gsnP + step))) hH661.all (ho629.sl.mono (seg_sub 3 rfl)) (ho651.sl.mono (seg_sub 1 rfl))) ?_)
                              rintro _ w667 ⟨rfl, hX665⟩
                              refine ⟨_, rfl, ?_⟩
                              have hH666 := hX665.of_all
                              refine s_op (o_not rfl ?_)
                              refine s_op (o_move (v := (.bool (!(decide ((setNo noP gsnP lp x63 x71 (gsnP + step)) = (setNo noP gsnP lp x63 x71 (gsnP + step)) ∧ (setG noP gsnP lp x63 x71 (gsnP + step)) = (setG noP gsnP lp x63 x71 (gsnP + step)) ∧ (setL noP gsnP lp x63 x71 (gsnP + step)) = (setL noP gsnP lp x63 x71 (gsnP + step))))))) rfl ?_)
                              rcases Bool.eq_false_or_eq_true (!(decide ((setNo noP gsnP lp x63 x71 (gsnP + step)) = (setNo noP gsnP lp x63 x71 (gsnP + step)) ∧ (setG noP gsnP lp x63 x71 (gsnP + step)) = (setG noP gsnP lp x63 x71 (gsnP + step)) ∧ (setL noP gsnP lp x63 x71 (gsnP + step)) = (setL noP gsnP lp x63 x71 (gsnP + step))))) with h668 | h668
                              · -- !(decide ((setNo noP gsnP lp x63 x71 (gsnP + step)) = (setNo noP gsnP lp x63 x71 (gsnP + step)) ∧ (setG noP gsnP lp x63 x71 (gsnP + step)) = (setG noP gsnP lp x63 x71 (gsnP + step)) ∧ (setL noP gsnP lp x63 x71 (gsnP + step)) = (setL noP gsnP lp x63 x71 (gsnP + step))))
                                exact absurd h668 (by simp)
                              · -- not: !(decide ((setNo noP gsnP lp x63 x71 (gsnP + step)) = (setNo noP gsnP lp x63 x71 (gsnP + step)) ∧ (setG noP gsnP lp x63 x71 (gsnP + step)) = (setG noP gsnP lp x63 x71 (gsnP + step)) ∧ (setL noP gsnP lp x63 x71 (gsnP + step)) = (setL noP gsnP lp x63 x71 (gsnP + step))))
                                refine s_on 124 rfl (congrArg Value.bool h668) (o_move (v := (.int .i64 (setE noP gsnP lp x63 x71 (gsnP + step)))) rfl ?_)
                                refine s_on 124 rfl (congrArg Value.bool h668) (o_move (v := (.int .i64 (setE noP gsnP lp x63 x71 (gsnP + step)))) rfl ?_)
                                refine s_on 124 rfl (congrArg Value.bool h668) (o_neq (a := (setE noP gsnP lp x63 x71 (gsnP + step))) (b := (setE noP gsnP lp x63 x71 (gsnP + step))) rfl rfl ?_)
                                refine s_op (o_pick_f (u := (.bool (decide ((setE noP gsnP lp x63 x71 (gsnP + step)) ≠ (setE noP gsnP lp x63 x71 (gsnP + step)))))) ((rfl : _ = _).trans (congrArg Value.bool h668)) rfl ?_)
                                refine s_op (o_move (v := (.bool (decide ((setE noP gsnP lp x63 x71 (gsnP + step)) ≠ (setE noP gsnP lp x63 x71 (gsnP + step)))))) rfl ?_)
                                by_cases h669 : (setE noP gsnP lp x63 x71 (gsnP + step)) ≠ (setE noP gsnP lp x63 x71 (gsnP + step))
                                · -- (setE noP gsnP lp x63 x71 (gsnP + step)) ≠ (setE noP gsnP lp x63 x71 (gsnP + step))
                                  exact absurd rfl h669
                                · -- not: (setE noP gsnP lp x63 x71 (gsnP + step)) ≠ (setE noP gsnP lp x63 x71 (gsnP + step))
                                  refine s_on 129 rfl (congrArg Value.bool (decide_eq_false h669)) (o_loadN (cs := [(.int .i64 noP), (.int .i64 gsnP), vp]) Tryd.underlying24 rfl ti24 e47_4 hH666 (seg_sub 7 rfl) (CellsAt.one rfl) ?_)
                                  refine s_on 129 rfl (congrArg Value.bool (decide_eq_false h669)) (o_loadN (cs := [(.int .i64 noP), (.int .i64 gsnP), (.slice p516 lp.length c517)]) Tryd.underlying24 rfl ti24 rfl hH666 (seg_sub 4 rfl) (CellsAt.one rfl) ?_)
                                  refine s_on 129 rfl (congrArg Value.bool (decide_eq_false h669)) (o_callf (vs := #[(.agg #[(.int .i64 noP), (.int .i64 gsnP), vp]), (.agg #[(.int .i64 noP), (.int .i64 gsnP), (.slice p516 lp.length c517)])]) ca13 rfl (args2 rfl rfl) (r11same_c (noa := noP) (gsna := gsnP) (la := lp) (nob := noP) (gsnb := gsnP) (lb := lp) hH666.all (hp.mono (app_sub (seg_sub 6 rfl) (seg_sub 8 rfl))) (ho513.sl.mono (seg_sub 5 rfl))) ?_)
                                  rintro _ w672 ⟨rfl, hX670⟩
                                  refine ⟨_, rfl, ?_⟩
                                  have hH671 := hX670.of_all
                                  refine s_on 129 rfl (congrArg Value.bool (decide_eq_false h669)) (o_not rfl ?_)
                                  refine s_op (o_pick_f (u := (.bool (!(decide (noP = noP ∧ gsnP = gsnP ∧ lp = lp))))) ((rfl : _ = _).trans (congrArg Value.bool (decide_eq_false h669))) rfl ?_)
                                  refine s_nil ?_
                                  refine t_norm (hK664 _ _ ?_)
                                  refine c_condb rfl (fun h673 => ?_) (fun h673 => ?_)
                                  · -- !(decide (noP = noP ∧ gsnP = gsnP ∧ lp = lp))
                                    have h673_n : (decide (noP = noP ∧ gsnP = gsnP ∧ lp = lp)) = false := by simpa using h673
                                    exact absurd h673 (by simp)
                                  · -- not: !(decide (noP = noP ∧ gsnP = gsnP ∧ lp = lp))
                                    have h673_n : (decide (noP = noP ∧ gsnP = gsnP ∧ lp = lp)) = true := by simpa using h673
                                    refine wp_skip ?_
                                    refine t_norm (hK663 _ _ ?_)
                                    refine wp_seq_k fun K674 hK674 => ?_
                                    refine c_region ?_
                                    refine s_op (o_move (v := (.int .i64 (setE noP gsnP lp x63 x71 (gsnP + step)))) rfl ?_)
                                    refine s_op (o_eql (a := (setE noP gsnP lp x63 x71 (gsnP + step))) (b := 0) rfl rfl ?_)
                                    refine s_nil ?_
                                    refine t_norm (hK674 _ _ ?_)
                                    refine c_cond rfl (fun h675 => ?_) (fun h675 => ?_)
                                    · -- (setE noP gsnP lp x63 x71 (gsnP + step)) = 0
                                      refine c_region ?_
                                      refine s_op (o_loadN (cs := [(.int .i64 (setNo noP gsnP lp x63 x71 (gsnP + step))), (.int .i64 (setG noP gsnP lp x63 x71 (gsnP + step))), v627]) Tryd.underlying24 rfl ti24 rfl hH671 (seg_sub 2 rfl) (CellsAt.one rfl) ?_)
                                      refine s_eff (o_storeN (vs := [(.int .i64 (setNo noP gsnP lp x63 x71 (gsnP + step))), (.int .i64 (setG noP gsnP lp x63 x71 (gsnP + step))), v627]) (c' := #[(.int .i64 (setNo noP gsnP lp x63 x71 (gsnP + step))), (.int .i64 (setG noP gsnP lp x63 x71 (gsnP + step))), v627]) ti24 e47_4 rfl rfl rfl (by intro u hu; simp only [List.mem_cons, List.not_mem_nil, or_false] at hu; rcases hu with rfl | rfl | rfl <;> first | rfl | exact ho629.one) (by simp) (by kernel_rfl) (hH671.front 7 rfl) fun w676 hH677 => ?_)
                                      refine s_nil ?_
                                      refine b_norm ?_
                                      refine t_norm (hK57 _ _ ?_)
                                      refine c_region ?_
                                      refine s_op (o_move (v := (.int .i64 (i : Int))) e47_9 ?_)
                                      refine s_op (o_add (a := (i : Int)) (b := 1) rfl rfl (w64 (by omega) (by omega)) ?_)
                                      refine s_op (o_assign (v := (.int .i64 ((i : Int) + 1))) rfl ?_)
                                      refine s_nil ?_
                                      have hH678 : Has E w676 [s628, [Hp.one b2 (.cells #[(.int .i64 (setNo noP gsnP lp x63 x71 (gsnP + step))), (.int .i64 (setG noP gsnP lp x63 x71 (gsnP + step))), v627] 24 (0, 0))], R] := (((hH677.front 8 rfl).front 1 rfl).front 5 rfl).first 3 rfl
                                      refine t_norm ⟨20 - (i + 1), _, rfl, ?_, ?_⟩
                                      · omega
                                      · exact ⟨(i + 1), (setNo noP gsnP lp x63 x71 (gsnP + step)), (setG noP gsnP lp x63 x71 (gsnP + step)), v627, s628, (setL noP gsnP lp x63 x71 (gsnP + step)), rfl, hH678, ((ho629.sl.mono (fun _ h_ => List.mem_append_left _ h_))), (by omega), (by first | omega | (have h_ := setL_le noP gsnP lp; exact Nat.le_trans (h_ _ _ _) (by omega))), e47_0, e47_1, e47_2, e47_3, e47_4, rfl, e47_38⟩
                                    · -- not: (setE noP gsnP lp x63 x71 (gsnP + step)) = 0
                                      refine wp_skip ?_
                                      refine b_norm ?_
                                      refine t_norm (hK57 _ _ ?_)
                                      refine c_region ?_
                                      refine s_op (o_move (v := (.int .i64 (i : Int))) e47_9 ?_)
                                      refine s_op (o_add (a := (i : Int)) (b := 1) rfl rfl (w64 (by omega) (by omega)) ?_)
                                      refine s_op (o_assign (v := (.int .i64 ((i : Int) + 1))) rfl ?_)
                                      refine s_nil ?_
                                      have hH679 : Has E w672 [sp, [Hp.one b2 (.cells #[(.int .i64 noP), (.int .i64 gsnP), vp] 24 (0, 0))], R] := (((hH671.front 8 rfl).front 8 rfl).front 8 rfl).first 3 rfl
                                      refine t_norm ⟨20 - (i + 1), _, rfl, ?_, ?_⟩
                                      · omega
                                      · exact ⟨(i + 1), noP, gsnP, vp, sp, lp, rfl, hH679, (hp), (by omega), (by first | omega | (have h_ := setL_le noP gsnP lp; exact Nat.le_trans (h_ _ _ _) (by omega))), e47_0, e47_1, e47_2, e47_3, e47_4, rfl, e47_38⟩
                            · -- first operation 17
                              have hH680 : Has E { w634 with drawn := w634.drawn + 1 } [[Hp.one b503 (.cells #[(.int .i64 noP), (.int .i64 gsnP), (.slice p516 lp.length c517)] 24 (0, 0))], [Hp.one b2 (.cells #[(.int .i64 noP), (.int .i64 gsnP), vp] 24 (0, 0))], R] := (((hH638.front 6 rfl).front 6 rfl).front 4 rfl).first 3 rfl
                              refine ok_w 17 rfl (o_alloc (cs := #[(.int .i64 0), (.int .i64 0), (.slice none 0 0)]) ti24 rfl hH638 fun b681 w682 hH683 => ?_)
                              have hH684 : Has E w682 [[Hp.one b503 (.cells #[(.int .i64 noP), (.int .i64 gsnP), (.slice p516 lp.length c517)] 24 (0, 0))], [Hp.one b2 (.cells #[(.int .i64 noP), (.int .i64 gsnP), vp] 24 (0, 0))], R] := (((hH683.front 7 rfl).front 7 rfl).front 5 rfl).first 3 rfl
                              refine a_w 13 rfl (by kernel_rfl) hH684 (o_callf (vs := #[(.agg #[(.int .i64 noP), (.int .i64 gsnP), (.slice p516 lp.length c517)]), (S x63), (.agg #[(.bool x71.1), (S x71.2)]), (.int .i64 (gsnP + step))]) ca17 rfl (args4 rfl rfl rfl rfl) (r11set_c (no := noP) (gsn := gsnP) (l := lp) (key := x63) (v := x71) (g := gsnP + step) hH683.all (ho513.sl.mono (seg_sub 4 rfl)) (by first | omega | (simp only []; omega) | (simp; done) | (simp; omega))) ?_)
                              rintro _ w690 ⟨v685, s686, rfl, ho687, hX688⟩
                              refine ⟨_, rfl, ?_⟩
                              have hH689 : Has E w690 [s686, [Hp.one b681 (.cells #[(.int .i64 0), (.int .i64 0), (.slice none 0 0)] 24 (0, 0))], [Hp.one b623 (.cells #[(.int .i64 (setNo noP gsnP lp x63 x71 (gsnP + step))), (.int .i64 (setG noP gsnP lp x63 x71 (gsnP + step))), v627] 24 (0, 0))], s628, [Hp.one b503 (.cells #[(.int .i64 noP), (.int .i64 gsnP), (.slice p516 lp.length c517)] 24 (0, 0))], s512, sp, [Hp.one b2 (.cells #[(.int .i64 noP), (.int .i64 gsnP), vp] 24 (0, 0))], R] := hX688.of_all1
                              refine a_op 14 rfl (by kernel_rfl) (fun w_ h_ => o_move (v := (.tuple #[(.agg #[(.int .i64 (setNo noP gsnP lp x63 x71 (gsnP + step))), (.int .i64 (setG noP gsnP lp x63 x71 (gsnP + step))), v685]), (.int .i64 (setE noP gsnP lp x63 x71 (gsnP + step)))])) rfl ⟨rfl, rfl⟩) ?_
                              refine a_op 15 rfl (by kernel_rfl) (fun w_ h_ => o_extract (v := (.agg #[(.int .i64 (setNo noP gsnP lp x63 x71 (gsnP + step))), (.int .i64 (setG noP gsnP lp x63 x71 (gsnP + step))), v685])) rfl rfl ⟨rfl, rfl⟩) ?_
                              refine a_op 16 rfl (by kernel_rfl) (fun w_ h_ => o_extract (v := (.int .i64 (setE noP gsnP lp x63 x71 (gsnP + step)))) rfl rfl ⟨rfl, rfl⟩) ?_
                              have hH691 : Has E w690 [[Hp.one b503 (.cells #[(.int .i64 noP), (.int .i64 gsnP), (.slice p516 lp.length c517)] 24 (0, 0))], [Hp.one b2 (.cells #[(.int .i64 noP), (.int .i64 gsnP), vp] 24 (0, 0))], R] := (((hH689.front 8 rfl).front 8 rfl).front 6 rfl).first 3 rfl
                              refine a_we 18 rfl (by kernel_rfl) hH691 (o_storeN (vs := [(.int .i64 (setNo noP gsnP lp x63 x71 (gsnP + step))), (.int .i64 (setG noP gsnP lp x63 x71 (gsnP + step))), v685]) (c' := #[(.int .i64 (setNo noP gsnP lp x63 x71 (gsnP + step))), (.int .i64 (setG noP gsnP lp x63 x71 (gsnP + step))), v685]) ti24 rfl rfl rfl rfl (by intro u hu; simp only [List.mem_cons, List.not_mem_nil, or_false] at hu; rcases hu with rfl | rfl | rfl <;> first | rfl | exact ho687.one) (by simp) (by kernel_rfl) (hH689.front 1 rfl) fun w692 hH693 => ?_)
                              have hH694 : Has E w692 [[Hp.one b503 (.cells #[(.int .i64 noP), (.int .i64 gsnP), (.slice p516 lp.length c517)] 24 (0, 0))], [Hp.one b2 (.cells #[(.int .i64 noP), (.int .i64 gsnP), vp] 24 (0, 0))], R] := (((hH693.front 8 rfl).front 8 rfl).front 6 rfl).first 3 rfl
                              refine a_done (by kernel_rfl) hH694 ?_
                              refine r_op 19 rfl (by kernel_rfl) (o_assign (v := (.int .i64 (setE noP gsnP lp x63 x71 (gsnP + step)))) rfl ?_)
                              refine Rest.done (by kernel_rfl) ?_
                              refine t_norm (hK637 _ _ ?_)
                              refine wp_seq_k fun K695 hK695 => ?_
                              refine wp_seq_k fun K696 hK696 => ?_
                              refine c_region ?_
                              refine s_op (o_loadN (cs := [(.int .i64 (setNo noP gsnP lp x63 x71 (gsnP + step))), (.int .i64 (setG noP gsnP lp x63 x71 (gsnP + step))), v627]) Tryd.underlying24 rfl ti24 rfl hH693 (seg_sub 2 rfl) (CellsAt.one rfl) ?_)
                              refine s_op (o_loadN (cs := [(.int .i64 (setNo noP gsnP lp x63 x71 (gsnP + step))), (.int .i64 (setG noP gsnP lp x63 x71 (gsnP + step))), v685]) Tryd.underlying24 rfl ti24 rfl hH693 (seg_sub 0 rfl) (CellsAt.one rfl) ?_)
                              refine s_op (o_callf (vs := #[(.agg #[(.int .i64 (setNo noP gsnP lp x63 x71 (gsnP + step))), (.int .i64 (setG noP gsnP lp x63 x71 (gsnP + step))), v627]), (.agg #[(.int .i64 (setNo noP gsnP lp x63 x71 (gsnP + step))), (.int .i64 (setG noP gsnP lp x63 x71 (gsnP + step))), v685])]) ca13 rfl (args2 rfl rfl) (r11same_c (noa := (setNo noP gsnP lp x63 x71 (gsnP + step))) (gsna := (setG noP gsnP lp x63 x71 (gsnP + step))) (la := (setL noP gsnP lp x63 x71 (gsnP + step))) (nob := (setNo noP gsnP lp x63 x71 (gsnP + step))) (gsnb := (setG noP gsnP lp x63 x71 (gsnP + step))) (lb := (setL noP gsnP lp x63 x71 (gsnP + step))) hH693.all (ho629.sl.mono (seg_sub 3 rfl)) (ho687.sl.mono (seg_sub 1 rfl))) ?_)
                              rintro _ w699 ⟨rfl, hX697⟩
                              refine ⟨_, rfl, ?_⟩
                              have hH698 := hX697.of_all
                              refine s_op (o_not rfl ?_)
                              refine s_op (o_move (v := (.bool (!(decide ((setNo noP gsnP lp x63 x71 (gsnP + step)) = (setNo noP gsnP lp x63 x71 (gsnP + step)) ∧ (setG noP gsnP lp x63 x71 (gsnP + step)) = (setG noP gsnP lp x63 x71 (gsnP + step)) ∧ (setL noP gsnP lp x63 x71 (gsnP + step)) = (setL noP gsnP lp x63 x71 (gsnP + step))))))) rfl ?_)
                              rcases Bool.eq_false_or_eq_true (!(decide ((setNo noP gsnP lp x63 x71 (gsnP + step)) = (setNo noP gsnP lp x63 x71 (gsnP + step)) ∧ (setG noP gsnP lp x63 x71 (gsnP + step)) = (setG noP gsnP lp x63 x71 (gsnP + step)) ∧ (setL noP gsnP lp x63 x71 (gsnP + step)) = (setL noP gsnP lp x63 x71 (gsnP + step))))) with h700 | h700
                              · -- !(decide ((setNo noP gsnP lp x63 x71 (gsnP + step)) = (setNo noP gsnP lp x63 x71 (gsnP + step)) ∧ (setG noP gsnP lp x63 x71 (gsnP + step)) = (setG noP gsnP lp x63 x71 (gsnP + step)) ∧ (setL noP gsnP lp x63 x71 (gsnP + step)) = (setL noP gsnP lp x63 x71 (gsnP + step))))
                                exact absurd h700 (by simp)
                              · -- not: !(decide ((setNo noP gsnP lp x63 x71 (gsnP + step)) = (setNo noP gsnP lp x63 x71 (gsnP + step)) ∧ (setG noP gsnP lp x63 x71 (gsnP + step)) = (setG noP gsnP lp x63 x71 (gsnP + step)) ∧ (setL noP gsnP lp x63 x71 (gsnP + step)) = (setL noP gsnP lp x63 x71 (gsnP + step))))
                                refine s_on 124 rfl (congrArg Value.bool h700) (o_move (v := (.int .i64 (setE noP gsnP lp x63 x71 (gsnP + step)))) rfl ?_)
                                refine s_on 124 rfl (congrArg Value.bool h700) (o_move (v := (.int .i64 (setE noP gsnP lp x63 x71 (gsnP + step)))) rfl ?_)
                                refine s_on 124 rfl (congrArg Value.bool h700) (o_neq (a := (setE noP gsnP lp x63 x71 (gsnP + step))) (b := (setE noP gsnP lp x63 x71 (gsnP + step))) rfl rfl ?_)
                                refine s_op (o_pick_f (u := (.bool (decide ((setE noP gsnP lp x63 x71 (gsnP + step)) ≠ (setE noP gsnP lp x63 x71 (gsnP + step)))))) ((rfl : _ = _).trans (congrArg Value.bool h700)) rfl ?_)
                                refine s_op (o_move (v := (.bool (decide ((setE noP gsnP lp x63 x71 (gsnP + step)) ≠ (setE noP gsnP lp x63 x71 (gsnP + step)))))) rfl ?_)
                                by_cases h701 : (setE noP gsnP lp x63 x71 (gsnP + step)) ≠ (setE noP gsnP lp x63 x71 (gsnP + step))
                                · -- (setE noP gsnP lp x63 x71 (gsnP + step)) ≠ (setE noP gsnP lp x63 x71 (gsnP + step))
                                  exact absurd rfl h701
                                · -- not: (setE noP gsnP lp x63 x71 (gsnP + step)) ≠ (setE noP gsnP lp x63 x71 (gsnP + step))
                                  refine s_on 129 rfl (congrArg Value.bool (decide_eq_false h701)) (o_loadN (cs := [(.int .i64 noP), (.int .i64 gsnP), vp]) Tryd.underlying24 rfl ti24 e47_4 hH698 (seg_sub 7 rfl) (CellsAt.one rfl) ?_)
                                  refine s_on 129 rfl (congrArg Value.bool (decide_eq_false h701)) (o_loadN (cs := [(.int .i64 noP), (.int .i64 gsnP), (.slice p516 lp.length c517)]) Tryd.underlying24 rfl ti24 rfl hH698 (seg_sub 4 rfl) (CellsAt.one rfl) ?_)
                                  refine s_on 129 rfl (congrArg Value.bool (decide_eq_false h701)) (o_callf (vs := #[(.agg #[(.int .i64 noP), (.int .i64 gsnP), vp]), (.agg #[(.int .i64 noP), (.int .i64 gsnP), (.slice p516 lp.length c517)])]) ca13 rfl (args2 rfl rfl) (r11same_c (noa := noP) (gsna := gsnP) (la := lp) (nob := noP) (gsnb := gsnP) (lb := lp) hH698.all (hp.mono (app_sub (seg_sub 6 rfl) (seg_sub 8 rfl))) (ho513.sl.mono (seg_sub 5 rfl))) ?_)
                                  rintro _ w704 ⟨rfl, hX702⟩
                                  refine ⟨_, rfl, ?_⟩
                                  have hH703 := hX702.of_all
                                  refine s_on 129 rfl (congrArg Value.bool (decide_eq_false h701)) (o_not rfl ?_)
                                  refine s_op (o_pick_f (u := (.bool (!(decide (noP = noP ∧ gsnP = gsnP ∧ lp = lp))))) ((rfl : _ = _).trans (congrArg Value.bool (decide_eq_false h701))) rfl ?_)
                                  refine s_nil ?_
                                  refine t_norm (hK696 _ _ ?_)
                                  refine c_condb rfl (fun h705 => ?_) (fun h705 => ?_)
                                  · -- !(decide (noP = noP ∧ gsnP = gsnP ∧ lp = lp))
                                    have h705_n : (decide (noP = noP ∧ gsnP = gsnP ∧ lp = lp)) = false := by simpa using h705
                                    exact absurd h705 (by simp)
                                  · -- not: !(decide (noP = noP ∧ gsnP = gsnP ∧ lp = lp))
                                    have h705_n : (decide (noP = noP ∧ gsnP = gsnP ∧ lp = lp)) = true := by simpa using h705
                                    refine wp_skip ?_
                                    refine t_norm (hK695 _ _ ?_)
                                    refine wp_seq_k fun K706 hK706 => ?_
                                    refine c_region ?_
                                    refine s_op (o_move (v := (.int .i64 (setE noP gsnP lp x63 x71 (gsnP + step)))) rfl ?_)
                                    refine s_op (o_eql (a := (setE noP gsnP lp x63 x71 (gsnP + step))) (b := 0) rfl rfl ?_)
                                    refine s_nil ?_
                                    refine t_norm (hK706 _ _ ?_)
                                    refine c_cond rfl (fun h707 => ?_) (fun h707 => ?_)
                                    · -- (setE noP gsnP lp x63 x71 (gsnP + step)) = 0
                                      refine c_region ?_
                                      refine s_op (o_loadN (cs := [(.int .i64 (setNo noP gsnP lp x63 x71 (gsnP + step))), (.int .i64 (setG noP gsnP lp x63 x71 (gsnP + step))), v627]) Tryd.underlying24 rfl ti24 rfl hH703 (seg_sub 2 rfl) (CellsAt.one rfl) ?_)
                                      refine s_eff (o_storeN (vs := [(.int .i64 (setNo noP gsnP lp x63 x71 (gsnP + step))), (.int .i64 (setG noP gsnP lp x63 x71 (gsnP + step))), v627]) (c' := #[(.int .i64 (setNo noP gsnP lp x63 x71 (gsnP + step))), (.int .i64 (setG noP gsnP lp x63 x71 (gsnP + step))), v627]) ti24 e47_4 rfl rfl rfl (by intro u hu; simp only [List.mem_cons, List.not_mem_nil, or_false] at hu; rcases hu with rfl | rfl | rfl <;> first | rfl | exact ho629.one) (by simp) (by kernel_rfl) (hH703.front 7 rfl) fun w708 hH709 => ?_)
                                      refine s_nil ?_
                                      refine b_norm ?_
                                      refine t_norm (hK57 _ _ ?_)
                                      refine c_region ?_
                                      refine s_op (o_move (v := (.int .i64 (i : Int))) e47_9 ?_)
                                      refine s_op (o_add (a := (i : Int)) (b := 1) rfl rfl (w64 (by omega) (by omega)) ?_)
                                      refine s_op (o_assign (v := (.int .i64 ((i : Int) + 1))) rfl ?_)
                                      refine s_nil ?_
                                      have hH710 : Has E w708 [s628, [Hp.one b2 (.cells #[(.int .i64 (setNo noP gsnP lp x63 x71 (gsnP + step))), (.int .i64 (setG noP gsnP lp x63 x71 (gsnP + step))), v627] 24 (0, 0))], R] := (((hH709.front 8 rfl).front 1 rfl).front 5 rfl).first 3 rfl
                                      refine t_norm ⟨20 - (i + 1), _, rfl, ?_, ?_⟩
                                      · omega
                                      · exact ⟨(i + 1), (setNo noP gsnP lp x63 x71 (gsnP + step)), (setG noP gsnP lp x63 x71 (gsnP + step)), v627, s628, (setL noP gsnP lp x63 x71 (gsnP + step)), rfl, hH710, ((ho629.sl.mono (fun _ h_ => List.mem_append_left _ h_))), (by omega), (by first | omega | (have h_ := setL_le noP gsnP lp; exact Nat.le_trans (h_ _ _ _) (by omega))), e47_0, e47_1, e47_2, e47_3, e47_4, rfl, e47_38⟩
                                    · -- not: (setE noP gsnP lp x63 x71 (gsnP + step)) = 0
                                      refine wp_skip ?_
                                      refine b_norm ?_
                                      refine t_norm (hK57 _ _ ?_)
                                      refine c_region ?_
                                      refine s_op (o_move (v := (.int .i64 (i : Int))) e47_9 ?_)
                                      refine s_op (o_add (a := (i : Int)) (b := 1) rfl rfl (w64 (by omega) (by omega)) ?_)
                                      refine s_op (o_assign (v := (.int .i64 ((i : Int) + 1))) rfl ?_)
                                      refine s_nil ?_
                                      have hH711 : Has E w704 [sp, [Hp.one b2 (.cells #[(.int .i64 noP), (.int .i64 gsnP), vp] 24 (0, 0))], R] := (((hH703.front 8 rfl).front 8 rfl).front 8 rfl).first 3 rfl
                                      refine t_norm ⟨20 - (i + 1), _, rfl, ?_, ?_⟩
                                      · omega
                                      · exact ⟨(i + 1), noP, gsnP, vp, sp, lp, rfl, hH711, (hp), (by omega), (by first | omega | (have h_ := setL_le noP gsnP lp; exact Nat.le_trans (h_ _ _ _) (by omega))), e47_0, e47_1, e47_2, e47_3, e47_4, rfl, e47_38⟩
              · -- not: (i : Int) < ((vals.length : Nat) : Int)
                refine wp_exit ?_
                refine t_exit (t_exit (x_in (?_)))
                refine t_norm (hK45 _ _ ?_)
                refine wp_seq_k fun K712 hK712 => ?_
                refine c_region ?_
                refine s_op (o_assign (v := (.bool true)) rfl ?_)
                refine s_nil ?_
                refine t_norm (hK712 _ _ ?_)
                refine wp_ret ?_
                refine c_ret1 Tryd.results4  (v := (.bool true)) rfl ?_
                have hH713 : Has E w50 [R] := (hH51.front 2 rfl).first 1 rfl
                exact ⟨by rw [show true = true by first | rfl | assumption | (simp; done)], hH713⟩
            · -- not: (i : Int) < ((keys.length : Nat) : Int)
              refine s_off (b' := false) 44 rfl (congrArg Value.bool (decide_eq_false h55)) rfl ?_
              refine s_off (b' := false) 44 rfl (congrArg Value.bool (decide_eq_false h55)) rfl ?_
              refine s_off (b' := false) 44 rfl (congrArg Value.bool (decide_eq_false h55)) rfl ?_
              refine s_off (b' := false) 44 rfl (congrArg Value.bool (decide_eq_false h55)) rfl ?_
              refine s_op (o_pick_f (u := (.bool false)) ((rfl : _ = _).trans (congrArg Value.bool (decide_eq_false h55))) rfl ?_)
              refine s_nil ?_
              refine t_norm (hK54 _ _ ?_)
              refine c_false rfl rfl ?_
              refine wp_exit ?_
              refine t_exit (t_exit (x_in (?_)))
              refine t_norm (hK45 _ _ ?_)
              refine wp_seq_k fun K714 hK714 => ?_
              refine c_region ?_
              refine s_op (o_assign (v := (.bool true)) rfl ?_)
              refine s_nil ?_
              refine t_norm (hK714 _ _ ?_)
              refine wp_ret ?_
              refine c_ret1 Tryd.results4  (v := (.bool true)) rfl ?_
              have hH715 : Has E w50 [R] := (hH51.front 2 rfl).first 1 rfl
              exact ⟨by rw [show true = true by first | rfl | assumption | (simp; done)], hH715⟩
end Go.Q
