/-
  Parts of a walk: what functions of the program compute, each told by a theorem.
-/
import Derived.Test.YtagicdbeacmffaaDoorQV10
import Derived.Test.YtagicdbeacmffaaDoorQFrame4
set_option linter.unusedVariables false
set_option linter.unusedSimpArgs false
namespace Go.Q
open Go.Proofs
set_option linter.unusedVariables false
set_option maxRecDepth 100000
attribute [local irreducible] wpList OK Code.wp
set_option maxHeartbeats 4000000 in
theorem ffits_c {E w : World} {R : List Hp} (hH : Has E w [R]) (f : Fr) (hfl : f.data.length ≤ 9223372036854775807) (re rc pl ab : Int) :
    Calls Tryd.prog 32 #[(.agg #[(.int .i64 re), (.int .i64 rc)]), (.agg #[(.int .i64 f.ep), (.int .i64 f.pl), (.int .i64 f.gsn), (S f.data)]), (.int .i64 pl), (.int .i64 ab)] w fun e w' => e = .returned (.bool (fitsF re rc pl ab f)) ∧ Has E w' [R] := by
  refine c_enter (args := [(.agg #[(.int .i64 re), (.int .i64 rc)]), (.agg #[(.int .i64 f.ep), (.int .i64 f.pl), (.int .i64 f.gsn), (S f.data)]), (.int .i64 pl), (.int .i64 ab)]) Tryd.func32 rfl Tryd.ntmps32 (by simp) ?_
  refine wp_seq_k fun K1 hK1 => ?_
  refine c_region ?_
  refine s_op (o_box (cs := #[(.int .i64 re), (.int .i64 rc)]) rfl rfl hH fun b2 w3 hH4 => ?_)
  refine s_op (o_box (cs := #[(.int .i64 f.ep), (.int .i64 f.pl), (.int .i64 f.gsn), (S f.data)]) rfl rfl hH4 fun b5 w6 hH7 => ?_)
  refine s_op (o_assign (v := (.bool false)) rfl ?_)
  refine s_nil ?_
  refine t_norm (hK1 _ _ ?_)
  refine wp_seq_k fun K8 hK8 => ?_
  refine c_region ?_
  refine s_op (o_loadN (cs := [(.int .i64 f.ep), (.int .i64 f.pl), (.int .i64 f.gsn), (S f.data)]) Tryd.underlying40 rfl ti40 rfl hH7 (seg_sub 0 rfl) (CellsAt.one rfl) ?_)
  refine s_op (o_callf (vs := #[(.agg #[(.int .i64 f.ep), (.int .i64 f.pl), (.int .i64 f.gsn), (S f.data)])]) ca38 rfl (args1 rfl) (right_c hH7.all f (by omega)) ?_)
  rintro _ w11 ⟨rfl, hX9⟩
  refine ⟨_, rfl, ?_⟩
  have hH10 := hX9.of_all
  refine s_op (o_move (v := (.bool (rightS f))) rfl ?_)
  rcases Bool.eq_false_or_eq_true (rightS f) with h12 | h12
  · -- (rightS f)
    refine s_on 11 rfl (congrArg Value.bool h12) (o_fieldAddr (k := 1) (fun _ => by kernel_rfl) rfl ?_)
    refine s_on 11 rfl (congrArg Value.bool h12) (o_load1 (v := (.int .i64 f.pl)) Tryd.underlying3 rfl rfl hH10 (seg_sub 0 rfl) (CellsAt.one rfl) ?_)
    refine s_on 11 rfl (congrArg Value.bool h12) (o_move (v := (.int .i64 pl)) rfl ?_)
    refine s_on 11 rfl (congrArg Value.bool h12) (o_eql (a := f.pl) (b := pl) rfl rfl ?_)
    refine s_op (o_pick_t (u := (.bool (decide (f.pl = pl)))) ((rfl : _ = _).trans (congrArg Value.bool h12)) rfl ?_)
    refine s_op (o_move (v := (.bool (decide (f.pl = pl)))) rfl ?_)
    by_cases h13 : f.pl = pl
    · -- f.pl = pl
      refine s_on 17 rfl (congrArg Value.bool (decide_eq_true h13)) (o_fieldAddr (k := 2) (fun _ => by kernel_rfl) rfl ?_)
      refine s_on 17 rfl (congrArg Value.bool (decide_eq_true h13)) (o_load1 (v := (.int .i64 f.gsn)) Tryd.underlying3 rfl rfl hH10 (seg_sub 0 rfl) (CellsAt.one rfl) ?_)
      refine s_on 17 rfl (congrArg Value.bool (decide_eq_true h13)) (o_move (v := (.int .i64 ab)) rfl ?_)
      refine s_on 17 rfl (congrArg Value.bool (decide_eq_true h13)) (o_gtr (a := f.gsn) (b := ab) rfl rfl ?_)
      refine s_op (o_pick_t (u := (.bool (decide (ab < f.gsn)))) ((rfl : _ = _).trans (congrArg Value.bool (decide_eq_true h13))) rfl ?_)
      refine s_op (o_move (v := (.bool (decide (ab < f.gsn)))) rfl ?_)
      by_cases h14 : ab < f.gsn
      · -- ab < f.gsn
        refine s_on 23 rfl (congrArg Value.bool (decide_eq_true h14)) (o_fieldAddr (k := 0) (fun _ => by kernel_rfl) rfl ?_)
        refine s_on 23 rfl (congrArg Value.bool (decide_eq_true h14)) (o_load1 (v := (.int .i64 f.ep)) Tryd.underlying3 rfl rfl hH10 (seg_sub 0 rfl) (CellsAt.one rfl) ?_)
        refine s_on 23 rfl (congrArg Value.bool (decide_eq_true h14)) (o_fieldAddr (k := 0) (fun _ => by kernel_rfl) rfl ?_)
        refine s_on 23 rfl (congrArg Value.bool (decide_eq_true h14)) (o_load1 (v := (.int .i64 re)) Tryd.underlying3 rfl rfl hH10 (seg_sub 1 rfl) (CellsAt.one rfl) ?_)
        refine s_on 23 rfl (congrArg Value.bool (decide_eq_true h14)) (o_leq (a := f.ep) (b := re) rfl rfl ?_)
        refine s_op (o_pick_t (u := (.bool (decide (f.ep ≤ re)))) ((rfl : _ = _).trans (congrArg Value.bool (decide_eq_true h14))) rfl ?_)
        refine s_op (o_move (v := (.bool (decide (f.ep ≤ re)))) rfl ?_)
        by_cases h15 : f.ep ≤ re
        · -- f.ep ≤ re
          refine s_on 30 rfl (congrArg Value.bool (decide_eq_true h15)) (o_fieldAddr (k := 1) (fun _ => by kernel_rfl) rfl ?_)
          refine s_on 30 rfl (congrArg Value.bool (decide_eq_true h15)) (o_load1 (v := (.int .i64 f.pl)) Tryd.underlying3 rfl rfl hH10 (seg_sub 0 rfl) (CellsAt.one rfl) ?_)
          refine s_on 30 rfl (congrArg Value.bool (decide_eq_true h15)) (o_fieldAddr (k := 1) (fun _ => by kernel_rfl) rfl ?_)
          refine s_on 30 rfl (congrArg Value.bool (decide_eq_true h15)) (o_load1 (v := (.int .i64 rc)) Tryd.underlying3 rfl rfl hH10 (seg_sub 1 rfl) (CellsAt.one rfl) ?_)
          refine s_on 30 rfl (congrArg Value.bool (decide_eq_true h15)) (o_lss (a := f.pl) (b := rc) rfl rfl ?_)
          refine s_on 30 rfl (congrArg Value.bool (decide_eq_true h15)) (o_move (v := (.bool (decide (f.pl < rc)))) rfl ?_)
          by_cases h16 : f.pl < rc
          · -- f.pl < rc
            refine s_off (b' := true) 36 rfl (congrArg Value.bool (decide_eq_true h16)) rfl ?_
            refine s_off (b' := true) 36 rfl (congrArg Value.bool (decide_eq_true h16)) rfl ?_
            refine s_off (b' := true) 36 rfl (congrArg Value.bool (decide_eq_true h16)) rfl ?_
            refine s_off (b' := true) 36 rfl (congrArg Value.bool (decide_eq_true h16)) rfl ?_
            refine s_off (b' := true) 36 rfl (congrArg Value.bool (decide_eq_true h16)) rfl ?_
            refine s_on 30 rfl (congrArg Value.bool (decide_eq_true h15)) (o_pick_t (u := (.bool true)) ((rfl : _ = _).trans (congrArg Value.bool (decide_eq_true h16))) rfl ?_)
            refine s_op (o_pick_t (u := (.bool true)) ((rfl : _ = _).trans (congrArg Value.bool (decide_eq_true h15))) rfl ?_)
            refine s_op (o_assign (v := (.bool true)) rfl ?_)
            refine s_nil ?_
            refine t_norm (hK8 _ _ ?_)
            refine wp_ret ?_
            refine c_ret1 Tryd.results32  (v := (.bool true)) rfl ?_
            have hH17 : Has E w11 [R] := (hH10.front 2 rfl).first 1 rfl
            exact ⟨by rw [fitsF, h12, Bool.true_and]; exact congrArg (fun b => Ending.returned (.bool b)) ((decide_eq_true (by omega)).symm), hH17⟩
          · -- not: f.pl < rc
            refine s_on 36 rfl (congrArg Value.bool (decide_eq_false h16)) (o_fieldAddr (k := 0) (fun _ => by kernel_rfl) rfl ?_)
            refine s_on 36 rfl (congrArg Value.bool (decide_eq_false h16)) (o_load1 (v := (.int .i64 f.ep)) Tryd.underlying3 rfl rfl hH10 (seg_sub 0 rfl) (CellsAt.one rfl) ?_)
            refine s_on 36 rfl (congrArg Value.bool (decide_eq_false h16)) (o_fieldAddr (k := 0) (fun _ => by kernel_rfl) rfl ?_)
            refine s_on 36 rfl (congrArg Value.bool (decide_eq_false h16)) (o_load1 (v := (.int .i64 re)) Tryd.underlying3 rfl rfl hH10 (seg_sub 1 rfl) (CellsAt.one rfl) ?_)
            refine s_on 36 rfl (congrArg Value.bool (decide_eq_false h16)) (o_eql (a := f.ep) (b := re) rfl rfl ?_)
            refine s_on 30 rfl (congrArg Value.bool (decide_eq_true h15)) (o_pick_f (u := (.bool (decide (f.ep = re)))) ((rfl : _ = _).trans (congrArg Value.bool (decide_eq_false h16))) rfl ?_)
            refine s_op (o_pick_t (u := (.bool (decide (f.ep = re)))) ((rfl : _ = _).trans (congrArg Value.bool (decide_eq_true h15))) rfl ?_)
            refine s_op (o_assign (v := (.bool (decide (f.ep = re)))) rfl ?_)
            refine s_nil ?_
            refine t_norm (hK8 _ _ ?_)
            refine wp_ret ?_
            refine c_ret1 Tryd.results32  (v := (.bool (decide (f.ep = re)))) rfl ?_
            have hH18 : Has E w11 [R] := (hH10.front 2 rfl).first 1 rfl
            exact ⟨by rw [fitsF, h12, Bool.true_and]; exact congrArg (fun b => Ending.returned (.bool b)) (decide_eq_decide.2 (by omega)), hH18⟩
        · -- not: f.ep ≤ re
          refine s_off (b' := false) 30 rfl (congrArg Value.bool (decide_eq_false h15)) rfl ?_
          refine s_off (b' := false) 30 rfl (congrArg Value.bool (decide_eq_false h15)) rfl ?_
          refine s_off (b' := false) 30 rfl (congrArg Value.bool (decide_eq_false h15)) rfl ?_
          refine s_off (b' := false) 30 rfl (congrArg Value.bool (decide_eq_false h15)) rfl ?_
          refine s_off (b' := false) 30 rfl (congrArg Value.bool (decide_eq_false h15)) rfl ?_
          refine s_off (b' := false) 30 rfl (congrArg Value.bool (decide_eq_false h15)) rfl ?_
          refine s_offu 36 rfl rfl ?_
          refine s_offu 36 rfl rfl ?_
          refine s_offu 36 rfl rfl ?_
          refine s_offu 36 rfl rfl ?_
          refine s_offu 36 rfl rfl ?_
          refine s_off (b' := false) 30 rfl (congrArg Value.bool (decide_eq_false h15)) rfl ?_
          refine s_op (o_pick_f (u := (.bool false)) ((rfl : _ = _).trans (congrArg Value.bool (decide_eq_false h15))) rfl ?_)
          refine s_op (o_assign (v := (.bool false)) rfl ?_)
          refine s_nil ?_
          refine t_norm (hK8 _ _ ?_)
          refine wp_ret ?_
          refine c_ret1 Tryd.results32  (v := (.bool false)) rfl ?_
          have hH19 : Has E w11 [R] := (hH10.front 2 rfl).first 1 rfl
          exact ⟨by rw [fitsF, h12, Bool.true_and]; exact congrArg (fun b => Ending.returned (.bool b)) ((decide_eq_false (by omega)).symm), hH19⟩
      · -- not: ab < f.gsn
        refine s_off (b' := false) 23 rfl (congrArg Value.bool (decide_eq_false h14)) rfl ?_
        refine s_off (b' := false) 23 rfl (congrArg Value.bool (decide_eq_false h14)) rfl ?_
        refine s_off (b' := false) 23 rfl (congrArg Value.bool (decide_eq_false h14)) rfl ?_
        refine s_off (b' := false) 23 rfl (congrArg Value.bool (decide_eq_false h14)) rfl ?_
        refine s_off (b' := false) 23 rfl (congrArg Value.bool (decide_eq_false h14)) rfl ?_
        refine s_op (o_pick_f (u := (.bool false)) ((rfl : _ = _).trans (congrArg Value.bool (decide_eq_false h14))) rfl ?_)
        refine s_op (o_move (v := (.bool false)) rfl ?_)
        refine s_off (b' := false) 30 rfl rfl rfl ?_
        refine s_off (b' := false) 30 rfl rfl rfl ?_
        refine s_off (b' := false) 30 rfl rfl rfl ?_
        refine s_off (b' := false) 30 rfl rfl rfl ?_
        refine s_off (b' := false) 30 rfl rfl rfl ?_
        refine s_off (b' := false) 30 rfl rfl rfl ?_
        refine s_offu 36 rfl rfl ?_
        refine s_offu 36 rfl rfl ?_
        refine s_offu 36 rfl rfl ?_
        refine s_offu 36 rfl rfl ?_
        refine s_offu 36 rfl rfl ?_
        refine s_off (b' := false) 30 rfl rfl rfl ?_
        refine s_op (o_pick_f (u := (.bool false)) rfl rfl ?_)
        refine s_op (o_assign (v := (.bool false)) rfl ?_)
        refine s_nil ?_
        refine t_norm (hK8 _ _ ?_)
        refine wp_ret ?_
        refine c_ret1 Tryd.results32  (v := (.bool false)) rfl ?_
        have hH20 : Has E w11 [R] := (hH10.front 2 rfl).first 1 rfl
        exact ⟨by rw [fitsF, h12, Bool.true_and]; exact congrArg (fun b => Ending.returned (.bool b)) ((decide_eq_false (by omega)).symm), hH20⟩
    · -- not: f.pl = pl
      refine s_off (b' := false) 17 rfl (congrArg Value.bool (decide_eq_false h13)) rfl ?_
      refine s_off (b' := false) 17 rfl (congrArg Value.bool (decide_eq_false h13)) rfl ?_
      refine s_off (b' := false) 17 rfl (congrArg Value.bool (decide_eq_false h13)) rfl ?_
      refine s_off (b' := false) 17 rfl (congrArg Value.bool (decide_eq_false h13)) rfl ?_
      refine s_op (o_pick_f (u := (.bool false)) ((rfl : _ = _).trans (congrArg Value.bool (decide_eq_false h13))) rfl ?_)
      refine s_op (o_move (v := (.bool false)) rfl ?_)
      refine s_off (b' := false) 23 rfl rfl rfl ?_
      refine s_off (b' := false) 23 rfl rfl rfl ?_
      refine s_off (b' := false) 23 rfl rfl rfl ?_
      refine s_off (b' := false) 23 rfl rfl rfl ?_
      refine s_off (b' := false) 23 rfl rfl rfl ?_
      refine s_op (o_pick_f (u := (.bool false)) rfl rfl ?_)
      refine s_op (o_move (v := (.bool false)) rfl ?_)
      refine s_off (b' := false) 30 rfl rfl rfl ?_
      refine s_off (b' := false) 30 rfl rfl rfl ?_
      refine s_off (b' := false) 30 rfl rfl rfl ?_
      refine s_off (b' := false) 30 rfl rfl rfl ?_
      refine s_off (b' := false) 30 rfl rfl rfl ?_
      refine s_off (b' := false) 30 rfl rfl rfl ?_
      refine s_offu 36 rfl rfl ?_
      refine s_offu 36 rfl rfl ?_
      refine s_offu 36 rfl rfl ?_
      refine s_offu 36 rfl rfl ?_
      refine s_offu 36 rfl rfl ?_
      refine s_off (b' := false) 30 rfl rfl rfl ?_
      refine s_op (o_pick_f (u := (.bool false)) rfl rfl ?_)
      refine s_op (o_assign (v := (.bool false)) rfl ?_)
      refine s_nil ?_
      refine t_norm (hK8 _ _ ?_)
      refine wp_ret ?_
      refine c_ret1 Tryd.results32  (v := (.bool false)) rfl ?_
      have hH21 : Has E w11 [R] := (hH10.front 2 rfl).first 1 rfl
      exact ⟨by rw [fitsF, h12, Bool.true_and]; exact congrArg (fun b => Ending.returned (.bool b)) ((decide_eq_false (by omega)).symm), hH21⟩
  · -- not: (rightS f)
    refine s_off (b' := false) 11 rfl (congrArg Value.bool h12) rfl ?_
    refine s_off (b' := false) 11 rfl (congrArg Value.bool h12) rfl ?_
    refine s_off (b' := false) 11 rfl (congrArg Value.bool h12) rfl ?_
    refine s_off (b' := false) 11 rfl (congrArg Value.bool h12) rfl ?_
    refine s_op (o_pick_f (u := (.bool false)) ((rfl : _ = _).trans (congrArg Value.bool h12)) rfl ?_)
    refine s_op (o_move (v := (.bool false)) rfl ?_)
    refine s_off (b' := false) 17 rfl rfl rfl ?_
    refine s_off (b' := false) 17 rfl rfl rfl ?_
    refine s_off (b' := false) 17 rfl rfl rfl ?_
    refine s_off (b' := false) 17 rfl rfl rfl ?_
    refine s_op (o_pick_f (u := (.bool false)) rfl rfl ?_)
    refine s_op (o_move (v := (.bool false)) rfl ?_)
    refine s_off (b' := false) 23 rfl rfl rfl ?_
    refine s_off (b' := false) 23 rfl rfl rfl ?_
    refine s_off (b' := false) 23 rfl rfl rfl ?_
    refine s_off (b' := false) 23 rfl rfl rfl ?_
    refine s_off (b' := false) 23 rfl rfl rfl ?_
    refine s_op (o_pick_f (u := (.bool false)) rfl rfl ?_)
    refine s_op (o_move (v := (.bool false)) rfl ?_)
    refine s_off (b' := false) 30 rfl rfl rfl ?_
    refine s_off (b' := false) 30 rfl rfl rfl ?_
    refine s_off (b' := false) 30 rfl rfl rfl ?_
    refine s_off (b' := false) 30 rfl rfl rfl ?_
    refine s_off (b' := false) 30 rfl rfl rfl ?_
    refine s_off (b' := false) 30 rfl rfl rfl ?_
    refine s_offu 36 rfl rfl ?_
    refine s_offu 36 rfl rfl ?_
    refine s_offu 36 rfl rfl ?_
    refine s_offu 36 rfl rfl ?_
    refine s_offu 36 rfl rfl ?_
    refine s_off (b' := false) 30 rfl rfl rfl ?_
    refine s_op (o_pick_f (u := (.bool false)) rfl rfl ?_)
    refine s_op (o_assign (v := (.bool false)) rfl ?_)
    refine s_nil ?_
    refine t_norm (hK8 _ _ ?_)
    refine wp_ret ?_
    refine c_ret1 Tryd.results32  (v := (.bool false)) rfl ?_
    have hH22 : Has E w11 [R] := (hH10.front 2 rfl).first 1 rfl
    exact ⟨by rw [fitsF, h12]; rfl, hH22⟩
set_option maxHeartbeats 4000000 in
theorem reffits_c {E w : World} {R : List Hp} (hH : Has E w [R]) (f : Fr) (hfl : f.data.length ≤ 9223372036854775807) (re rc pl ab : Int) :
    Calls Tryd.prog 33 #[(.int .i64 re), (.int .i64 rc), (.agg #[(.int .i64 f.ep), (.int .i64 f.pl), (.int .i64 f.gsn), (S f.data)]), (.int .i64 pl), (.int .i64 ab)] w fun e w' => e = .returned (.bool (fitsF re rc pl ab f)) ∧ Has E w' [R] := by
  refine c_enter (args := [(.int .i64 re), (.int .i64 rc), (.agg #[(.int .i64 f.ep), (.int .i64 f.pl), (.int .i64 f.gsn), (S f.data)]), (.int .i64 pl), (.int .i64 ab)]) Tryd.func33 rfl Tryd.ntmps33 (by simp) ?_
  refine wp_seq_k fun K1 hK1 => ?_
  refine c_region ?_
  refine s_op (o_box (cs := #[(.int .i64 f.ep), (.int .i64 f.pl), (.int .i64 f.gsn), (S f.data)]) rfl rfl hH fun b2 w3 hH4 => ?_)
  refine s_op (o_assign (v := (.bool false)) rfl ?_)
  refine s_nil ?_
  refine t_norm (hK1 _ _ ?_)
  refine wp_seq_k fun K5 hK5 => ?_
  refine wp_seq_k fun K6 hK6 => ?_
  refine c_region ?_
  refine s_op (o_loadN (cs := [(.int .i64 f.ep), (.int .i64 f.pl), (.int .i64 f.gsn), (S f.data)]) Tryd.underlying43 rfl ti43 rfl hH4 (seg_sub 0 rfl) (CellsAt.one rfl) ?_)
  refine s_op (o_callf (vs := #[(.agg #[(.int .i64 f.ep), (.int .i64 f.pl), (.int .i64 f.gsn), (S f.data)])]) ca27 rfl (args1 rfl) (refright_c hH4.all f (by omega)) ?_)
  rintro _ w9 ⟨rfl, hX7⟩
  refine ⟨_, rfl, ?_⟩
  have hH8 := hX7.of_all
  refine s_op (o_not rfl ?_)
  refine s_op (o_move (v := (.bool (!(rightS f)))) rfl ?_)
  rcases Bool.eq_false_or_eq_true (!(rightS f)) with h10 | h10
  · -- !(rightS f)
    refine s_off (b' := true) 14 rfl (congrArg Value.bool h10) rfl ?_
    refine s_off (b' := true) 14 rfl (congrArg Value.bool h10) rfl ?_
    refine s_off (b' := true) 14 rfl (congrArg Value.bool h10) rfl ?_
    refine s_off (b' := true) 14 rfl (congrArg Value.bool h10) rfl ?_
    refine s_op (o_pick_t (u := (.bool true)) ((rfl : _ = _).trans (congrArg Value.bool h10)) rfl ?_)
    refine s_op (o_move (v := (.bool true)) rfl ?_)
    refine s_off (b' := true) 20 rfl rfl rfl ?_
    refine s_off (b' := true) 20 rfl rfl rfl ?_
    refine s_off (b' := true) 20 rfl rfl rfl ?_
    refine s_off (b' := true) 20 rfl rfl rfl ?_
    refine s_op (o_pick_t (u := (.bool true)) rfl rfl ?_)
    refine s_op (o_move (v := (.bool true)) rfl ?_)
    refine s_off (b' := true) 26 rfl rfl rfl ?_
    refine s_off (b' := true) 26 rfl rfl rfl ?_
    refine s_off (b' := true) 26 rfl rfl rfl ?_
    refine s_off (b' := true) 26 rfl rfl rfl ?_
    refine s_op (o_pick_t (u := (.bool true)) rfl rfl ?_)
    refine s_nil ?_
    refine t_norm (hK6 _ _ ?_)
    refine c_true rfl rfl ?_
    refine wp_seq_k fun K11 hK11 => ?_
    refine c_region ?_
    refine s_op (o_assign (v := (.bool false)) rfl ?_)
    refine s_nil ?_
    refine t_norm (hK11 _ _ ?_)
    refine wp_ret ?_
    refine t_ret (c_ret1 Tryd.results33  (v := (.bool false)) rfl ?_)
    have hH12 : Has E w9 [R] := (hH8.front 1 rfl).first 1 rfl
    exact ⟨by rw [fitsF, (not_t h10)]; rfl, hH12⟩
  · -- not: !(rightS f)
    refine s_on 14 rfl (congrArg Value.bool h10) (o_fieldAddr (k := 1) (fun _ => by kernel_rfl) rfl ?_)
    refine s_on 14 rfl (congrArg Value.bool h10) (o_load1 (v := (.int .i64 f.pl)) Tryd.underlying3 rfl rfl hH8 (seg_sub 0 rfl) (CellsAt.one rfl) ?_)
    refine s_on 14 rfl (congrArg Value.bool h10) (o_move (v := (.int .i64 pl)) rfl ?_)
    refine s_on 14 rfl (congrArg Value.bool h10) (o_neq (a := f.pl) (b := pl) rfl rfl ?_)
    refine s_op (o_pick_f (u := (.bool (decide (f.pl ≠ pl)))) ((rfl : _ = _).trans (congrArg Value.bool h10)) rfl ?_)
    refine s_op (o_move (v := (.bool (decide (f.pl ≠ pl)))) rfl ?_)
    by_cases h13 : f.pl ≠ pl
    · -- f.pl ≠ pl
      refine s_off (b' := true) 20 rfl (congrArg Value.bool (decide_eq_true h13)) rfl ?_
      refine s_off (b' := true) 20 rfl (congrArg Value.bool (decide_eq_true h13)) rfl ?_
      refine s_off (b' := true) 20 rfl (congrArg Value.bool (decide_eq_true h13)) rfl ?_
      refine s_off (b' := true) 20 rfl (congrArg Value.bool (decide_eq_true h13)) rfl ?_
      refine s_op (o_pick_t (u := (.bool true)) ((rfl : _ = _).trans (congrArg Value.bool (decide_eq_true h13))) rfl ?_)
      refine s_op (o_move (v := (.bool true)) rfl ?_)
      refine s_off (b' := true) 26 rfl rfl rfl ?_
      refine s_off (b' := true) 26 rfl rfl rfl ?_
      refine s_off (b' := true) 26 rfl rfl rfl ?_
      refine s_off (b' := true) 26 rfl rfl rfl ?_
      refine s_op (o_pick_t (u := (.bool true)) rfl rfl ?_)
      refine s_nil ?_
      refine t_norm (hK6 _ _ ?_)
      refine c_true rfl rfl ?_
      refine wp_seq_k fun K14 hK14 => ?_
      refine c_region ?_
      refine s_op (o_assign (v := (.bool false)) rfl ?_)
      refine s_nil ?_
      refine t_norm (hK14 _ _ ?_)
      refine wp_ret ?_
      refine t_ret (c_ret1 Tryd.results33  (v := (.bool false)) rfl ?_)
      have hH15 : Has E w9 [R] := (hH8.front 1 rfl).first 1 rfl
      exact ⟨by rw [fitsF, (not_f h10), Bool.true_and]; exact congrArg (fun b => Ending.returned (.bool b)) ((decide_eq_false (by omega)).symm), hH15⟩
    · -- not: f.pl ≠ pl
      refine s_on 20 rfl (congrArg Value.bool (decide_eq_false h13)) (o_fieldAddr (k := 2) (fun _ => by kernel_rfl) rfl ?_)
      refine s_on 20 rfl (congrArg Value.bool (decide_eq_false h13)) (o_load1 (v := (.int .i64 f.gsn)) Tryd.underlying3 rfl rfl hH8 (seg_sub 0 rfl) (CellsAt.one rfl) ?_)
      refine s_on 20 rfl (congrArg Value.bool (decide_eq_false h13)) (o_move (v := (.int .i64 ab)) rfl ?_)
      refine s_on 20 rfl (congrArg Value.bool (decide_eq_false h13)) (o_leq (a := f.gsn) (b := ab) rfl rfl ?_)
      refine s_op (o_pick_f (u := (.bool (decide (f.gsn ≤ ab)))) ((rfl : _ = _).trans (congrArg Value.bool (decide_eq_false h13))) rfl ?_)
      refine s_op (o_move (v := (.bool (decide (f.gsn ≤ ab)))) rfl ?_)
      by_cases h16 : f.gsn ≤ ab
      · -- f.gsn ≤ ab
        refine s_off (b' := true) 26 rfl (congrArg Value.bool (decide_eq_true h16)) rfl ?_
        refine s_off (b' := true) 26 rfl (congrArg Value.bool (decide_eq_true h16)) rfl ?_
        refine s_off (b' := true) 26 rfl (congrArg Value.bool (decide_eq_true h16)) rfl ?_
        refine s_off (b' := true) 26 rfl (congrArg Value.bool (decide_eq_true h16)) rfl ?_
        refine s_op (o_pick_t (u := (.bool true)) ((rfl : _ = _).trans (congrArg Value.bool (decide_eq_true h16))) rfl ?_)
        refine s_nil ?_
        refine t_norm (hK6 _ _ ?_)
        refine c_true rfl rfl ?_
        refine wp_seq_k fun K17 hK17 => ?_
        refine c_region ?_
        refine s_op (o_assign (v := (.bool false)) rfl ?_)
        refine s_nil ?_
        refine t_norm (hK17 _ _ ?_)
        refine wp_ret ?_
        refine t_ret (c_ret1 Tryd.results33  (v := (.bool false)) rfl ?_)
        have hH18 : Has E w9 [R] := (hH8.front 1 rfl).first 1 rfl
        exact ⟨by rw [fitsF, (not_f h10), Bool.true_and]; exact congrArg (fun b => Ending.returned (.bool b)) ((decide_eq_false (by omega)).symm), hH18⟩
      · -- not: f.gsn ≤ ab
        refine s_on 26 rfl (congrArg Value.bool (decide_eq_false h16)) (o_fieldAddr (k := 0) (fun _ => by kernel_rfl) rfl ?_)
        refine s_on 26 rfl (congrArg Value.bool (decide_eq_false h16)) (o_load1 (v := (.int .i64 f.ep)) Tryd.underlying3 rfl rfl hH8 (seg_sub 0 rfl) (CellsAt.one rfl) ?_)
        refine s_on 26 rfl (congrArg Value.bool (decide_eq_false h16)) (o_move (v := (.int .i64 re)) rfl ?_)
        refine s_on 26 rfl (congrArg Value.bool (decide_eq_false h16)) (o_gtr (a := f.ep) (b := re) rfl rfl ?_)
        refine s_op (o_pick_f (u := (.bool (decide (re < f.ep)))) ((rfl : _ = _).trans (congrArg Value.bool (decide_eq_false h16))) rfl ?_)
        refine s_nil ?_
        refine t_norm (hK6 _ _ ?_)
        refine c_cond rfl (fun h19 => ?_) (fun h19 => ?_)
        · -- re < f.ep
          refine wp_seq_k fun K20 hK20 => ?_
          refine c_region ?_
          refine s_op (o_assign (v := (.bool false)) rfl ?_)
          refine s_nil ?_
          refine t_norm (hK20 _ _ ?_)
          refine wp_ret ?_
          refine t_ret (c_ret1 Tryd.results33  (v := (.bool false)) rfl ?_)
          have hH21 : Has E w9 [R] := (hH8.front 1 rfl).first 1 rfl
          exact ⟨by rw [fitsF, (not_f h10), Bool.true_and]; exact congrArg (fun b => Ending.returned (.bool b)) ((decide_eq_false (by omega)).symm), hH21⟩
        · -- not: re < f.ep
          refine wp_skip ?_
          refine t_norm (hK5 _ _ ?_)
          refine wp_seq_k fun K22 hK22 => ?_
          refine c_region ?_
          refine s_op (o_fieldAddr (k := 0) (fun _ => by kernel_rfl) rfl ?_)
          refine s_op (o_load1 (v := (.int .i64 f.ep)) Tryd.underlying3 rfl rfl hH8 (seg_sub 0 rfl) (CellsAt.one rfl) ?_)
          refine s_op (o_move (v := (.int .i64 re)) rfl ?_)
          refine s_op (o_eql (a := f.ep) (b := re) rfl rfl ?_)
          refine s_op (o_move (v := (.bool (decide (f.ep = re)))) rfl ?_)
          by_cases h23 : f.ep = re
          · -- f.ep = re
            refine s_off (b' := true) 36 rfl (congrArg Value.bool (decide_eq_true h23)) rfl ?_
            refine s_off (b' := true) 36 rfl (congrArg Value.bool (decide_eq_true h23)) rfl ?_
            refine s_off (b' := true) 36 rfl (congrArg Value.bool (decide_eq_true h23)) rfl ?_
            refine s_off (b' := true) 36 rfl (congrArg Value.bool (decide_eq_true h23)) rfl ?_
            refine s_op (o_pick_t (u := (.bool true)) ((rfl : _ = _).trans (congrArg Value.bool (decide_eq_true h23))) rfl ?_)
            refine s_op (o_assign (v := (.bool true)) rfl ?_)
            refine s_nil ?_
            refine t_norm (hK22 _ _ ?_)
            refine wp_ret ?_
            refine c_ret1 Tryd.results33  (v := (.bool true)) rfl ?_
            have hH24 : Has E w9 [R] := (hH8.front 1 rfl).first 1 rfl
            exact ⟨by rw [fitsF, (not_f h10), Bool.true_and]; exact congrArg (fun b => Ending.returned (.bool b)) ((decide_eq_true (by omega)).symm), hH24⟩
          · -- not: f.ep = re
            refine s_on 36 rfl (congrArg Value.bool (decide_eq_false h23)) (o_fieldAddr (k := 1) (fun _ => by kernel_rfl) rfl ?_)
            refine s_on 36 rfl (congrArg Value.bool (decide_eq_false h23)) (o_load1 (v := (.int .i64 f.pl)) Tryd.underlying3 rfl rfl hH8 (seg_sub 0 rfl) (CellsAt.one rfl) ?_)
            refine s_on 36 rfl (congrArg Value.bool (decide_eq_false h23)) (o_move (v := (.int .i64 rc)) rfl ?_)
            refine s_on 36 rfl (congrArg Value.bool (decide_eq_false h23)) (o_lss (a := f.pl) (b := rc) rfl rfl ?_)
            refine s_op (o_pick_f (u := (.bool (decide (f.pl < rc)))) ((rfl : _ = _).trans (congrArg Value.bool (decide_eq_false h23))) rfl ?_)
            refine s_op (o_assign (v := (.bool (decide (f.pl < rc)))) rfl ?_)
            refine s_nil ?_
            refine t_norm (hK22 _ _ ?_)
            refine wp_ret ?_
            refine c_ret1 Tryd.results33  (v := (.bool (decide (f.pl < rc)))) rfl ?_
            have hH25 : Has E w9 [R] := (hH8.front 1 rfl).first 1 rfl
            exact ⟨by rw [fitsF, (not_f h10), Bool.true_and]; exact congrArg (fun b => Ending.returned (.bool b)) (decide_eq_decide.2 (by omega)), hH25⟩
end Go.Q
