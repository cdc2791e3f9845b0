/-
  Parts of a walk: what functions of the program compute, each told by a theorem.
-/
import Derived.Test.YtagicdbeacmffaaDoorQV3
import Derived.Test.YtagicdbeacmffaaDoorQVN2
import Derived.Test.YtagicdbeacmffaaDoorQFrame
set_option linter.unusedVariables false
set_option linter.unusedSimpArgs false
namespace Go.Q
open Go.Proofs
set_option linter.unusedVariables false
set_option maxRecDepth 100000
attribute [local irreducible] wpList OK Code.wp
set_option maxHeartbeats 4000000 in
theorem within_c {E w : World} {R : List Hp} (hH : Has E w [R]) (n m : Int) :
    Calls Tryd.prog 46 #[(.int .i64 n), (.int .i64 m)] w fun e w' => e = .returned (.bool (decide (0 ≤ n ∧ n ≤ m))) ∧ Has E w' [R] := by
  refine c_enter (args := [(.int .i64 n), (.int .i64 m)]) Tryd.func46 rfl Tryd.ntmps46 (by simp) ?_
  refine wp_seq_k fun K1 hK1 => ?_
  refine c_region ?_
  refine s_op (o_assign (v := (.bool false)) rfl ?_)
  refine s_nil ?_
  refine t_norm (hK1 _ _ ?_)
  refine wp_seq_k fun K2 hK2 => ?_
  refine c_region ?_
  refine s_op (o_move (v := (.int .i64 n)) rfl ?_)
  refine s_op (o_geq (a := n) (b := 0) rfl rfl ?_)
  refine s_op (o_move (v := (.bool (decide (0 ≤ n)))) rfl ?_)
  by_cases h3 : 0 ≤ n
  · -- 0 ≤ n
    refine s_on 7 rfl (congrArg Value.bool (decide_eq_true h3)) (o_move (v := (.int .i64 n)) rfl ?_)
    refine s_on 7 rfl (congrArg Value.bool (decide_eq_true h3)) (o_move (v := (.int .i64 m)) rfl ?_)
    refine s_on 7 rfl (congrArg Value.bool (decide_eq_true h3)) (o_leq (a := n) (b := m) rfl rfl ?_)
    refine s_op (o_pick_t (u := (.bool (decide (n ≤ m)))) ((rfl : _ = _).trans (congrArg Value.bool (decide_eq_true h3))) rfl ?_)
    refine s_op (o_assign (v := (.bool (decide (n ≤ m)))) rfl ?_)
    refine s_nil ?_
    refine t_norm (hK2 _ _ ?_)
    refine wp_ret ?_
    refine c_ret1 Tryd.results46  (v := (.bool (decide (n ≤ m)))) rfl ?_
    exact ⟨congrArg (fun b => Ending.returned (.bool b)) (decide_eq_decide.2 (by omega)), hH⟩
  · -- not: 0 ≤ n
    refine s_off (b' := false) 7 rfl (congrArg Value.bool (decide_eq_false h3)) rfl ?_
    refine s_off (b' := false) 7 rfl (congrArg Value.bool (decide_eq_false h3)) rfl ?_
    refine s_off (b' := false) 7 rfl (congrArg Value.bool (decide_eq_false h3)) rfl ?_
    refine s_op (o_pick_f (u := (.bool false)) ((rfl : _ = _).trans (congrArg Value.bool (decide_eq_false h3))) rfl ?_)
    refine s_op (o_assign (v := (.bool false)) rfl ?_)
    refine s_nil ?_
    refine t_norm (hK2 _ _ ?_)
    refine wp_ret ?_
    refine c_ret1 Tryd.results46  (v := (.bool false)) rfl ?_
    exact ⟨congrArg (fun b => Ending.returned (.bool b)) ((decide_eq_false (by omega)).symm), hH⟩
set_option maxHeartbeats 4000000 in
theorem right_c {E w : World} {R : List Hp} (hH : Has E w [R]) (f : Fr) (hfl : f.data.length ≤ 9223372036854775807) :
    Calls Tryd.prog 38 #[(.agg #[(.int .i64 f.ep), (.int .i64 f.pl), (.int .i64 f.gsn), (S f.data)])] w fun e w' => e = .returned (.bool (rightS f)) ∧ Has E w' [R] := by
  refine c_enter (args := [(.agg #[(.int .i64 f.ep), (.int .i64 f.pl), (.int .i64 f.gsn), (S f.data)])]) Tryd.func38 rfl Tryd.ntmps38 (by simp) ?_
  refine wp_seq_k fun K1 hK1 => ?_
  refine c_region ?_
  refine s_op (o_box (cs := #[(.int .i64 f.ep), (.int .i64 f.pl), (.int .i64 f.gsn), (S f.data)]) rfl rfl hH fun b2 w3 hH4 => ?_)
  refine s_op (o_assign (v := (.bool false)) rfl ?_)
  refine s_nil ?_
  refine t_norm (hK1 _ _ ?_)
  refine wp_seq_k fun K5 hK5 => ?_
  refine c_region ?_
  refine s_op (o_fieldAddr (k := 0) (fun _ => by kernel_rfl) rfl ?_)
  refine s_op (o_load1 (v := (.int .i64 f.ep)) Tryd.underlying3 rfl rfl hH4 (seg_sub 0 rfl) (CellsAt.one rfl) ?_)
  refine s_op (o_callf (vs := #[(.int .i64 f.ep), (.int .i64 2147483647)]) ca46 rfl (args2 rfl rfl) (within_c hH4.all f.ep 2147483647) ?_)
  rintro _ w8 ⟨rfl, hX6⟩
  refine ⟨_, rfl, ?_⟩
  have hH7 := hX6.of_all
  refine s_op (o_move (v := (.bool (decide (0 ≤ f.ep ∧ f.ep ≤ 2147483647)))) rfl ?_)
  by_cases h9 : 0 ≤ f.ep ∧ f.ep ≤ 2147483647
  · -- 0 ≤ f.ep ∧ f.ep ≤ 2147483647
    refine s_on 6 rfl (congrArg Value.bool (decide_eq_true h9)) (o_fieldAddr (k := 1) (fun _ => by kernel_rfl) rfl ?_)
    refine s_on 6 rfl (congrArg Value.bool (decide_eq_true h9)) (o_load1 (v := (.int .i64 f.pl)) Tryd.underlying3 rfl rfl hH7 (seg_sub 0 rfl) (CellsAt.one rfl) ?_)
    refine s_on 6 rfl (congrArg Value.bool (decide_eq_true h9)) (o_callf (vs := #[(.int .i64 f.pl), (.int .i64 4611686018427387903)]) ca46 rfl (args2 rfl rfl) (within_c hH7.all f.pl 4611686018427387903) ?_)
    rintro _ w12 ⟨rfl, hX10⟩
    refine ⟨_, rfl, ?_⟩
    have hH11 := hX10.of_all
    refine s_op (o_pick_t (u := (.bool (decide (0 ≤ f.pl ∧ f.pl ≤ 4611686018427387903)))) ((rfl : _ = _).trans (congrArg Value.bool (decide_eq_true h9))) rfl ?_)
    refine s_op (o_move (v := (.bool (decide (0 ≤ f.pl ∧ f.pl ≤ 4611686018427387903)))) rfl ?_)
    by_cases h13 : 0 ≤ f.pl ∧ f.pl ≤ 4611686018427387903
    · -- 0 ≤ f.pl ∧ f.pl ≤ 4611686018427387903
      refine s_on 11 rfl (congrArg Value.bool (decide_eq_true h13)) (o_fieldAddr (k := 2) (fun _ => by kernel_rfl) rfl ?_)
      refine s_on 11 rfl (congrArg Value.bool (decide_eq_true h13)) (o_load1 (v := (.int .i64 f.gsn)) Tryd.underlying3 rfl rfl hH11 (seg_sub 0 rfl) (CellsAt.one rfl) ?_)
      refine s_on 11 rfl (congrArg Value.bool (decide_eq_true h13)) (o_callf (vs := #[(.int .i64 f.gsn), (.int .i64 4611686018427387903)]) ca46 rfl (args2 rfl rfl) (within_c hH11.all f.gsn 4611686018427387903) ?_)
      rintro _ w16 ⟨rfl, hX14⟩
      refine ⟨_, rfl, ?_⟩
      have hH15 := hX14.of_all
      refine s_op (o_pick_t (u := (.bool (decide (0 ≤ f.gsn ∧ f.gsn ≤ 4611686018427387903)))) ((rfl : _ = _).trans (congrArg Value.bool (decide_eq_true h13))) rfl ?_)
      refine s_op (o_move (v := (.bool (decide (0 ≤ f.gsn ∧ f.gsn ≤ 4611686018427387903)))) rfl ?_)
      by_cases h17 : 0 ≤ f.gsn ∧ f.gsn ≤ 4611686018427387903
      · -- 0 ≤ f.gsn ∧ f.gsn ≤ 4611686018427387903
        refine s_on 16 rfl (congrArg Value.bool (decide_eq_true h17)) (o_fieldAddr (k := 3) (fun _ => by kernel_rfl) rfl ?_)
        refine s_on 16 rfl (congrArg Value.bool (decide_eq_true h17)) (o_load1 (v := (S f.data)) Tryd.underlying9 rfl rfl hH15 (seg_sub 0 rfl) (CellsAt.one rfl) ?_)
        refine s_on 16 rfl (congrArg Value.bool (decide_eq_true h17)) (o_slen Tryd.underlying9 rfl ?_)
        refine s_on 16 rfl (congrArg Value.bool (decide_eq_true h17)) (o_leq (a := (f.data.length : Int)) (b := 200) rfl rfl ?_)
        refine s_op (o_pick_t (u := (.bool (decide ((f.data.length : Int) ≤ 200)))) ((rfl : _ = _).trans (congrArg Value.bool (decide_eq_true h17))) rfl ?_)
        refine s_op (o_assign (v := (.bool (decide ((f.data.length : Int) ≤ 200)))) rfl ?_)
        refine s_nil ?_
        refine t_norm (hK5 _ _ ?_)
        refine wp_ret ?_
        refine c_ret1 Tryd.results38  (v := (.bool (decide ((f.data.length : Int) ≤ 200)))) rfl ?_
        have hH18 : Has E w16 [R] := (hH15.front 1 rfl).first 1 rfl
        exact ⟨congrArg (fun b => Ending.returned (.bool b)) (decide_eq_decide.2 (by omega)), hH18⟩
      · -- not: 0 ≤ f.gsn ∧ f.gsn ≤ 4611686018427387903
        refine s_off (b' := false) 16 rfl (congrArg Value.bool (decide_eq_false h17)) rfl ?_
        refine s_off (b' := false) 16 rfl (congrArg Value.bool (decide_eq_false h17)) rfl ?_
        refine s_off (b' := false) 16 rfl (congrArg Value.bool (decide_eq_false h17)) rfl ?_
        refine s_off (b' := false) 16 rfl (congrArg Value.bool (decide_eq_false h17)) rfl ?_
        refine s_op (o_pick_f (u := (.bool false)) ((rfl : _ = _).trans (congrArg Value.bool (decide_eq_false h17))) rfl ?_)
        refine s_op (o_assign (v := (.bool false)) rfl ?_)
        refine s_nil ?_
        refine t_norm (hK5 _ _ ?_)
        refine wp_ret ?_
        refine c_ret1 Tryd.results38  (v := (.bool false)) rfl ?_
        have hH19 : Has E w16 [R] := (hH15.front 1 rfl).first 1 rfl
        exact ⟨congrArg (fun b => Ending.returned (.bool b)) ((decide_eq_false (by omega)).symm), hH19⟩
    · -- not: 0 ≤ f.pl ∧ f.pl ≤ 4611686018427387903
      refine s_off (b' := false) 11 rfl (congrArg Value.bool (decide_eq_false h13)) rfl ?_
      refine s_off (b' := false) 11 rfl (congrArg Value.bool (decide_eq_false h13)) rfl ?_
      refine s_off (b' := false) 11 rfl (congrArg Value.bool (decide_eq_false h13)) rfl ?_
      refine s_op (o_pick_f (u := (.bool false)) ((rfl : _ = _).trans (congrArg Value.bool (decide_eq_false h13))) rfl ?_)
      refine s_op (o_move (v := (.bool false)) rfl ?_)
      refine s_off (b' := false) 16 rfl rfl rfl ?_
      refine s_off (b' := false) 16 rfl rfl rfl ?_
      refine s_off (b' := false) 16 rfl rfl rfl ?_
      refine s_off (b' := false) 16 rfl rfl rfl ?_
      refine s_op (o_pick_f (u := (.bool false)) rfl rfl ?_)
      refine s_op (o_assign (v := (.bool false)) rfl ?_)
      refine s_nil ?_
      refine t_norm (hK5 _ _ ?_)
      refine wp_ret ?_
      refine c_ret1 Tryd.results38  (v := (.bool false)) rfl ?_
      have hH20 : Has E w12 [R] := (hH11.front 1 rfl).first 1 rfl
      exact ⟨congrArg (fun b => Ending.returned (.bool b)) ((decide_eq_false (by omega)).symm), hH20⟩
  · -- not: 0 ≤ f.ep ∧ f.ep ≤ 2147483647
    refine s_off (b' := false) 6 rfl (congrArg Value.bool (decide_eq_false h9)) rfl ?_
    refine s_off (b' := false) 6 rfl (congrArg Value.bool (decide_eq_false h9)) rfl ?_
    refine s_off (b' := false) 6 rfl (congrArg Value.bool (decide_eq_false h9)) rfl ?_
    refine s_op (o_pick_f (u := (.bool false)) ((rfl : _ = _).trans (congrArg Value.bool (decide_eq_false h9))) rfl ?_)
    refine s_op (o_move (v := (.bool false)) rfl ?_)
    refine s_off (b' := false) 11 rfl rfl rfl ?_
    refine s_off (b' := false) 11 rfl rfl rfl ?_
    refine s_off (b' := false) 11 rfl rfl rfl ?_
    refine s_op (o_pick_f (u := (.bool false)) rfl rfl ?_)
    refine s_op (o_move (v := (.bool false)) rfl ?_)
    refine s_off (b' := false) 16 rfl rfl rfl ?_
    refine s_off (b' := false) 16 rfl rfl rfl ?_
    refine s_off (b' := false) 16 rfl rfl rfl ?_
    refine s_off (b' := false) 16 rfl rfl rfl ?_
    refine s_op (o_pick_f (u := (.bool false)) rfl rfl ?_)
    refine s_op (o_assign (v := (.bool false)) rfl ?_)
    refine s_nil ?_
    refine t_norm (hK5 _ _ ?_)
    refine wp_ret ?_
    refine c_ret1 Tryd.results38  (v := (.bool false)) rfl ?_
    have hH21 : Has E w8 [R] := (hH7.front 1 rfl).first 1 rfl
    exact ⟨congrArg (fun b => Ending.returned (.bool b)) ((decide_eq_false (by omega)).symm), hH21⟩
set_option maxHeartbeats 4000000 in
theorem refright_c {E w : World} {R : List Hp} (hH : Has E w [R]) (f : Fr) (hfl : f.data.length ≤ 9223372036854775807) :
    Calls Tryd.prog 27 #[(.agg #[(.int .i64 f.ep), (.int .i64 f.pl), (.int .i64 f.gsn), (S f.data)])] w fun e w' => e = .returned (.bool (rightS f)) ∧ Has E w' [R] := by
  refine c_enter (args := [(.agg #[(.int .i64 f.ep), (.int .i64 f.pl), (.int .i64 f.gsn), (S f.data)])]) Tryd.func27 rfl Tryd.ntmps27 (by simp) ?_
  refine wp_seq_k fun K1 hK1 => ?_
  refine c_region ?_
  refine s_op (o_box (cs := #[(.int .i64 f.ep), (.int .i64 f.pl), (.int .i64 f.gsn), (S f.data)]) rfl rfl hH fun b2 w3 hH4 => ?_)
  refine s_op (o_assign (v := (.bool false)) rfl ?_)
  refine s_nil ?_
  refine t_norm (hK1 _ _ ?_)
  refine wp_seq_k fun K5 hK5 => ?_
  refine c_region ?_
  refine s_op (o_fieldAddr (k := 0) (fun _ => by kernel_rfl) rfl ?_)
  refine s_op (o_load1 (v := (.int .i64 f.ep)) Tryd.underlying3 rfl rfl hH4 (seg_sub 0 rfl) (CellsAt.one rfl) ?_)
  refine s_op (o_geq (a := f.ep) (b := 0) rfl rfl ?_)
  refine s_op (o_move (v := (.bool (decide (0 ≤ f.ep)))) rfl ?_)
  by_cases h6 : 0 ≤ f.ep
  · -- 0 ≤ f.ep
    refine s_on 6 rfl (congrArg Value.bool (decide_eq_true h6)) (o_fieldAddr (k := 0) (fun _ => by kernel_rfl) rfl ?_)
    refine s_on 6 rfl (congrArg Value.bool (decide_eq_true h6)) (o_load1 (v := (.int .i64 f.ep)) Tryd.underlying3 rfl rfl hH4 (seg_sub 0 rfl) (CellsAt.one rfl) ?_)
    refine s_on 6 rfl (congrArg Value.bool (decide_eq_true h6)) (o_lss (a := f.ep) (b := 2147483648) rfl rfl ?_)
    refine s_op (o_pick_t (u := (.bool (decide (f.ep < 2147483648)))) ((rfl : _ = _).trans (congrArg Value.bool (decide_eq_true h6))) rfl ?_)
    refine s_op (o_move (v := (.bool (decide (f.ep < 2147483648)))) rfl ?_)
    by_cases h7 : f.ep < 2147483648
    · -- f.ep < 2147483648
      refine s_on 11 rfl (congrArg Value.bool (decide_eq_true h7)) (o_fieldAddr (k := 1) (fun _ => by kernel_rfl) rfl ?_)
      refine s_on 11 rfl (congrArg Value.bool (decide_eq_true h7)) (o_load1 (v := (.int .i64 f.pl)) Tryd.underlying3 rfl rfl hH4 (seg_sub 0 rfl) (CellsAt.one rfl) ?_)
      refine s_on 11 rfl (congrArg Value.bool (decide_eq_true h7)) (o_geq (a := f.pl) (b := 0) rfl rfl ?_)
      refine s_op (o_pick_t (u := (.bool (decide (0 ≤ f.pl)))) ((rfl : _ = _).trans (congrArg Value.bool (decide_eq_true h7))) rfl ?_)
      refine s_op (o_move (v := (.bool (decide (0 ≤ f.pl)))) rfl ?_)
      by_cases h8 : 0 ≤ f.pl
      · -- 0 ≤ f.pl
        refine s_on 16 rfl (congrArg Value.bool (decide_eq_true h8)) (o_fieldAddr (k := 1) (fun _ => by kernel_rfl) rfl ?_)
        refine s_on 16 rfl (congrArg Value.bool (decide_eq_true h8)) (o_load1 (v := (.int .i64 f.pl)) Tryd.underlying3 rfl rfl hH4 (seg_sub 0 rfl) (CellsAt.one rfl) ?_)
        refine s_on 16 rfl (congrArg Value.bool (decide_eq_true h8)) (o_lss (a := f.pl) (b := 4611686018427387904) rfl rfl ?_)
        refine s_op (o_pick_t (u := (.bool (decide (f.pl < 4611686018427387904)))) ((rfl : _ = _).trans (congrArg Value.bool (decide_eq_true h8))) rfl ?_)
        refine s_op (o_move (v := (.bool (decide (f.pl < 4611686018427387904)))) rfl ?_)
        by_cases h9 : f.pl < 4611686018427387904
        · -- f.pl < 4611686018427387904
          refine s_on 21 rfl (congrArg Value.bool (decide_eq_true h9)) (o_fieldAddr (k := 2) (fun _ => by kernel_rfl) rfl ?_)
          refine s_on 21 rfl (congrArg Value.bool (decide_eq_true h9)) (o_load1 (v := (.int .i64 f.gsn)) Tryd.underlying3 rfl rfl hH4 (seg_sub 0 rfl) (CellsAt.one rfl) ?_)
          refine s_on 21 rfl (congrArg Value.bool (decide_eq_true h9)) (o_geq (a := f.gsn) (b := 0) rfl rfl ?_)
          refine s_op (o_pick_t (u := (.bool (decide (0 ≤ f.gsn)))) ((rfl : _ = _).trans (congrArg Value.bool (decide_eq_true h9))) rfl ?_)
          refine s_op (o_move (v := (.bool (decide (0 ≤ f.gsn)))) rfl ?_)
          by_cases h10 : 0 ≤ f.gsn
          · -- 0 ≤ f.gsn
            refine s_on 26 rfl (congrArg Value.bool (decide_eq_true h10)) (o_fieldAddr (k := 2) (fun _ => by kernel_rfl) rfl ?_)
            refine s_on 26 rfl (congrArg Value.bool (decide_eq_true h10)) (o_load1 (v := (.int .i64 f.gsn)) Tryd.underlying3 rfl rfl hH4 (seg_sub 0 rfl) (CellsAt.one rfl) ?_)
            refine s_on 26 rfl (congrArg Value.bool (decide_eq_true h10)) (o_lss (a := f.gsn) (b := 4611686018427387904) rfl rfl ?_)
            refine s_op (o_pick_t (u := (.bool (decide (f.gsn < 4611686018427387904)))) ((rfl : _ = _).trans (congrArg Value.bool (decide_eq_true h10))) rfl ?_)
            refine s_op (o_move (v := (.bool (decide (f.gsn < 4611686018427387904)))) rfl ?_)
            by_cases h11 : f.gsn < 4611686018427387904
            · -- f.gsn < 4611686018427387904
              refine s_on 31 rfl (congrArg Value.bool (decide_eq_true h11)) (o_fieldAddr (k := 3) (fun _ => by kernel_rfl) rfl ?_)
              refine s_on 31 rfl (congrArg Value.bool (decide_eq_true h11)) (o_load1 (v := (S f.data)) Tryd.underlying9 rfl rfl hH4 (seg_sub 0 rfl) (CellsAt.one rfl) ?_)
              refine s_on 31 rfl (congrArg Value.bool (decide_eq_true h11)) (o_slen Tryd.underlying9 rfl ?_)
              refine s_on 31 rfl (congrArg Value.bool (decide_eq_true h11)) (o_leq (a := (f.data.length : Int)) (b := 200) rfl rfl ?_)
              refine s_op (o_pick_t (u := (.bool (decide ((f.data.length : Int) ≤ 200)))) ((rfl : _ = _).trans (congrArg Value.bool (decide_eq_true h11))) rfl ?_)
              refine s_op (o_assign (v := (.bool (decide ((f.data.length : Int) ≤ 200)))) rfl ?_)
              refine s_nil ?_
              refine t_norm (hK5 _ _ ?_)
              refine wp_ret ?_
              refine c_ret1 Tryd.results27  (v := (.bool (decide ((f.data.length : Int) ≤ 200)))) rfl ?_
              have hH12 : Has E w3 [R] := (hH4.front 1 rfl).first 1 rfl
              exact ⟨congrArg (fun b => Ending.returned (.bool b)) (decide_eq_decide.2 (by omega)), hH12⟩
            · -- not: f.gsn < 4611686018427387904
              refine s_off (b' := false) 31 rfl (congrArg Value.bool (decide_eq_false h11)) rfl ?_
              refine s_off (b' := false) 31 rfl (congrArg Value.bool (decide_eq_false h11)) rfl ?_
              refine s_off (b' := false) 31 rfl (congrArg Value.bool (decide_eq_false h11)) rfl ?_
              refine s_off (b' := false) 31 rfl (congrArg Value.bool (decide_eq_false h11)) rfl ?_
              refine s_op (o_pick_f (u := (.bool false)) ((rfl : _ = _).trans (congrArg Value.bool (decide_eq_false h11))) rfl ?_)
              refine s_op (o_assign (v := (.bool false)) rfl ?_)
              refine s_nil ?_
              refine t_norm (hK5 _ _ ?_)
              refine wp_ret ?_
              refine c_ret1 Tryd.results27  (v := (.bool false)) rfl ?_
              have hH13 : Has E w3 [R] := (hH4.front 1 rfl).first 1 rfl
              exact ⟨congrArg (fun b => Ending.returned (.bool b)) ((decide_eq_false (by omega)).symm), hH13⟩
          · -- not: 0 ≤ f.gsn
            refine s_off (b' := false) 26 rfl (congrArg Value.bool (decide_eq_false h10)) rfl ?_
            refine s_off (b' := false) 26 rfl (congrArg Value.bool (decide_eq_false h10)) rfl ?_
            refine s_off (b' := false) 26 rfl (congrArg Value.bool (decide_eq_false h10)) rfl ?_
            refine s_op (o_pick_f (u := (.bool false)) ((rfl : _ = _).trans (congrArg Value.bool (decide_eq_false h10))) rfl ?_)
            refine s_op (o_move (v := (.bool false)) rfl ?_)
            refine s_off (b' := false) 31 rfl rfl rfl ?_
            refine s_off (b' := false) 31 rfl rfl rfl ?_
            refine s_off (b' := false) 31 rfl rfl rfl ?_
            refine s_off (b' := false) 31 rfl rfl rfl ?_
            refine s_op (o_pick_f (u := (.bool false)) rfl rfl ?_)
            refine s_op (o_assign (v := (.bool false)) rfl ?_)
            refine s_nil ?_
            refine t_norm (hK5 _ _ ?_)
            refine wp_ret ?_
            refine c_ret1 Tryd.results27  (v := (.bool false)) rfl ?_
            have hH14 : Has E w3 [R] := (hH4.front 1 rfl).first 1 rfl
            exact ⟨congrArg (fun b => Ending.returned (.bool b)) ((decide_eq_false (by omega)).symm), hH14⟩
        · -- not: f.pl < 4611686018427387904
          refine s_off (b' := false) 21 rfl (congrArg Value.bool (decide_eq_false h9)) rfl ?_
          refine s_off (b' := false) 21 rfl (congrArg Value.bool (decide_eq_false h9)) rfl ?_
          refine s_off (b' := false) 21 rfl (congrArg Value.bool (decide_eq_false h9)) rfl ?_
          refine s_op (o_pick_f (u := (.bool false)) ((rfl : _ = _).trans (congrArg Value.bool (decide_eq_false h9))) rfl ?_)
          refine s_op (o_move (v := (.bool false)) rfl ?_)
          refine s_off (b' := false) 26 rfl rfl rfl ?_
          refine s_off (b' := false) 26 rfl rfl rfl ?_
          refine s_off (b' := false) 26 rfl rfl rfl ?_
          refine s_op (o_pick_f (u := (.bool false)) rfl rfl ?_)
          refine s_op (o_move (v := (.bool false)) rfl ?_)
          refine s_off (b' := false) 31 rfl rfl rfl ?_
          refine s_off (b' := false) 31 rfl rfl rfl ?_
          refine s_off (b' := false) 31 rfl rfl rfl ?_
          refine s_off (b' := false) 31 rfl rfl rfl ?_
          refine s_op (o_pick_f (u := (.bool false)) rfl rfl ?_)
          refine s_op (o_assign (v := (.bool false)) rfl ?_)
          refine s_nil ?_
          refine t_norm (hK5 _ _ ?_)
          refine wp_ret ?_
          refine c_ret1 Tryd.results27  (v := (.bool false)) rfl ?_
          have hH15 : Has E w3 [R] := (hH4.front 1 rfl).first 1 rfl
          exact ⟨congrArg (fun b => Ending.returned (.bool b)) ((decide_eq_false (by omega)).symm), hH15⟩
      · -- not: 0 ≤ f.pl
        refine s_off (b' := false) 16 rfl (congrArg Value.bool (decide_eq_false h8)) rfl ?_
        refine s_off (b' := false) 16 rfl (congrArg Value.bool (decide_eq_false h8)) rfl ?_
        refine s_off (b' := false) 16 rfl (congrArg Value.bool (decide_eq_false h8)) rfl ?_
        refine s_op (o_pick_f (u := (.bool false)) ((rfl : _ = _).trans (congrArg Value.bool (decide_eq_false h8))) rfl ?_)
        refine s_op (o_move (v := (.bool false)) rfl ?_)
        refine s_off (b' := false) 21 rfl rfl rfl ?_
        refine s_off (b' := false) 21 rfl rfl rfl ?_
        refine s_off (b' := false) 21 rfl rfl rfl ?_
        refine s_op (o_pick_f (u := (.bool false)) rfl rfl ?_)
        refine s_op (o_move (v := (.bool false)) rfl ?_)
        refine s_off (b' := false) 26 rfl rfl rfl ?_
        refine s_off (b' := false) 26 rfl rfl rfl ?_
        refine s_off (b' := false) 26 rfl rfl rfl ?_
        refine s_op (o_pick_f (u := (.bool false)) rfl rfl ?_)
        refine s_op (o_move (v := (.bool false)) rfl ?_)
        refine s_off (b' := false) 31 rfl rfl rfl ?_
        refine s_off (b' := false) 31 rfl rfl rfl ?_
        refine s_off (b' := false) 31 rfl rfl rfl ?_
        refine s_off (b' := false) 31 rfl rfl rfl ?_
        refine s_op (o_pick_f (u := (.bool false)) rfl rfl ?_)
        refine s_op (o_assign (v := (.bool false)) rfl ?_)
        refine s_nil ?_
        refine t_norm (hK5 _ _ ?_)
        refine wp_ret ?_
        refine c_ret1 Tryd.results27  (v := (.bool false)) rfl ?_
        have hH16 : Has E w3 [R] := (hH4.front 1 rfl).first 1 rfl
        exact ⟨congrArg (fun b => Ending.returned (.bool b)) ((decide_eq_false (by omega)).symm), hH16⟩
    · -- not: f.ep < 2147483648
      refine s_off (b' := false) 11 rfl (congrArg Value.bool (decide_eq_false h7)) rfl ?_
      refine s_off (b' := false) 11 rfl (congrArg Value.bool (decide_eq_false h7)) rfl ?_
      refine s_off (b' := false) 11 rfl (congrArg Value.bool (decide_eq_false h7)) rfl ?_
      refine s_op (o_pick_f (u := (.bool false)) ((rfl : _ = _).trans (congrArg Value.bool (decide_eq_false h7))) rfl ?_)
      refine s_op (o_move (v := (.bool false)) rfl ?_)
      refine s_off (b' := false) 16 rfl rfl rfl ?_
      refine s_off (b' := false) 16 rfl rfl rfl ?_
      refine s_off (b' := false) 16 rfl rfl rfl ?_
      refine s_op (o_pick_f (u := (.bool false)) rfl rfl ?_)
      refine s_op (o_move (v := (.bool false)) rfl ?_)
      refine s_off (b' := false) 21 rfl rfl rfl ?_
      refine s_off (b' := false) 21 rfl rfl rfl ?_
      refine s_off (b' := false) 21 rfl rfl rfl ?_
      refine s_op (o_pick_f (u := (.bool false)) rfl rfl ?_)
      refine s_op (o_move (v := (.bool false)) rfl ?_)
      refine s_off (b' := false) 26 rfl rfl rfl ?_
      refine s_off (b' := false) 26 rfl rfl rfl ?_
      refine s_off (b' := false) 26 rfl rfl rfl ?_
      refine s_op (o_pick_f (u := (.bool false)) rfl rfl ?_)
      refine s_op (o_move (v := (.bool false)) rfl ?_)
      refine s_off (b' := false) 31 rfl rfl rfl ?_
      refine s_off (b' := false) 31 rfl rfl rfl ?_
      refine s_off (b' := false) 31 rfl rfl rfl ?_
      refine s_off (b' := false) 31 rfl rfl rfl ?_
      refine s_op (o_pick_f (u := (.bool false)) rfl rfl ?_)
      refine s_op (o_assign (v := (.bool false)) rfl ?_)
      refine s_nil ?_
      refine t_norm (hK5 _ _ ?_)
      refine wp_ret ?_
      refine c_ret1 Tryd.results27  (v := (.bool false)) rfl ?_
      have hH17 : Has E w3 [R] := (hH4.front 1 rfl).first 1 rfl
      exact ⟨congrArg (fun b => Ending.returned (.bool b)) ((decide_eq_false (by omega)).symm), hH17⟩
  · -- not: 0 ≤ f.ep
    refine s_off (b' := false) 6 rfl (congrArg Value.bool (decide_eq_false h6)) rfl ?_
    refine s_off (b' := false) 6 rfl (congrArg Value.bool (decide_eq_false h6)) rfl ?_
    refine s_off (b' := false) 6 rfl (congrArg Value.bool (decide_eq_false h6)) rfl ?_
    refine s_op (o_pick_f (u := (.bool false)) ((rfl : _ = _).trans (congrArg Value.bool (decide_eq_false h6))) rfl ?_)
    refine s_op (o_move (v := (.bool false)) rfl ?_)
    refine s_off (b' := false) 11 rfl rfl rfl ?_
    refine s_off (b' := false) 11 rfl rfl rfl ?_
    refine s_off (b' := false) 11 rfl rfl rfl ?_
    refine s_op (o_pick_f (u := (.bool false)) rfl rfl ?_)
    refine s_op (o_move (v := (.bool false)) rfl ?_)
    refine s_off (b' := false) 16 rfl rfl rfl ?_
    refine s_off (b' := false) 16 rfl rfl rfl ?_
    refine s_off (b' := false) 16 rfl rfl rfl ?_
    refine s_op (o_pick_f (u := (.bool false)) rfl rfl ?_)
    refine s_op (o_move (v := (.bool false)) rfl ?_)
    refine s_off (b' := false) 21 rfl rfl rfl ?_
    refine s_off (b' := false) 21 rfl rfl rfl ?_
    refine s_off (b' := false) 21 rfl rfl rfl ?_
    refine s_op (o_pick_f (u := (.bool false)) rfl rfl ?_)
    refine s_op (o_move (v := (.bool false)) rfl ?_)
    refine s_off (b' := false) 26 rfl rfl rfl ?_
    refine s_off (b' := false) 26 rfl rfl rfl ?_
    refine s_off (b' := false) 26 rfl rfl rfl ?_
    refine s_op (o_pick_f (u := (.bool false)) rfl rfl ?_)
    refine s_op (o_move (v := (.bool false)) rfl ?_)
    refine s_off (b' := false) 31 rfl rfl rfl ?_
    refine s_off (b' := false) 31 rfl rfl rfl ?_
    refine s_off (b' := false) 31 rfl rfl rfl ?_
    refine s_off (b' := false) 31 rfl rfl rfl ?_
    refine s_op (o_pick_f (u := (.bool false)) rfl rfl ?_)
    refine s_op (o_assign (v := (.bool false)) rfl ?_)
    refine s_nil ?_
    refine t_norm (hK5 _ _ ?_)
    refine wp_ret ?_
    refine c_ret1 Tryd.results27  (v := (.bool false)) rfl ?_
    have hH18 : Has E w3 [R] := (hH4.front 1 rfl).first 1 rfl
    exact ⟨congrArg (fun b => Ending.returned (.bool b)) ((decide_eq_false (by omega)).symm), hH18⟩
set_option maxHeartbeats 4000000 in
theorem rlaid_c {E w : World} {R : List Hp} (hH : Has E w [R]) (m : Nat) (hm : 1 ≤ m ∧ m ≤ 8) (n : Int) (hn : -9223372036854775808 ≤ n ∧ n ≤ 9223372036854775807) (hf : fitsS n m = true) :
    Calls Tryd.prog 41 #[(.int .i64 (m : Int)), (.int .i64 n)] w fun e w' => e = .returned (S (beFrom n m)) ∧ Has E w' [R] := by
  refine c_enter (args := [(.int .i64 (m : Int)), (.int .i64 n)]) Tryd.func41 rfl Tryd.ntmps41 (by simp) ?_
  refine wp_seq_k fun K1 hK1 => ?_
  refine c_region ?_
  refine s_op (o_assign (v := (S ([] : List UInt8))) rfl ?_)
  refine s_nil ?_
  refine t_norm (hK1 _ _ ?_)
  refine wp_seq_k fun K2 hK2 => ?_
  refine c_region ?_
  refine s_op (o_move (v := (.int .i64 (m : Int))) rfl ?_)
  refine s_op (o_move (v := (.int .i64 n)) rfl ?_)
  refine s_op (o_callf (vs := #[(.int .i64 (m : Int)), (.int .i64 n)]) ca48 rfl (args2 rfl rfl) (refPut_c hH.all m hm n hn) ?_)
  rintro _ w7 ⟨t3, rfl, _, ht4, hX5⟩
  refine ⟨_, rfl, ?_⟩
  have hH6 : Has E w7 [R] := hX5.of_all
  refine s_op (o_move (v := (.tuple #[(S t3), (.bool (fitsS n m))])) rfl ?_)
  refine s_op (o_extract (v := (S t3)) rfl rfl ?_)
  refine s_op (o_extract (v := (.bool (fitsS n m))) rfl rfl ?_)
  refine s_op (o_assign (v := (S t3)) rfl ?_)
  refine s_op (o_assign (v := (.bool (fitsS n m))) rfl ?_)
  refine s_nil ?_
  refine t_norm (hK2 _ _ ?_)
  refine wp_seq_k fun K8 hK8 => ?_
  refine c_region ?_
  refine s_op (o_move (v := (S t3)) rfl ?_)
  refine s_op (o_assign (v := (S t3)) rfl ?_)
  refine s_nil ?_
  refine t_norm (hK8 _ _ ?_)
  refine wp_ret ?_
  refine c_ret1 Tryd.results41  (v := (S t3)) rfl ?_
  exact ⟨by rw [ht4 hf], hH6⟩
end Go.Q
