/-
  Parts of a walk: what functions of the program compute, each told by a theorem (Qzh10, Qzn2, Qzh6, Qzh7, Qzh8, QzL2, QYD, QzRd).
-/
import Derived.Test.YtcnfkdodgemeeaaGreatDoorB4
import Derived.OpenShut
set_option linter.unusedVariables false
set_option linter.unusedSimpArgs false
set_option linter.unnecessarySimpa false
namespace Go.Q
open Go.Proofs
set_option linter.unusedVariables false
set_option maxRecDepth 100000
attribute [local irreducible] wpList OK Code.wp
set_option maxHeartbeats 4000000 in
theorem awake7_c {E w : World} {R : List Hp} (hH : Has E w [R]) (hg : CellsAt R 0 0 nibV) :
    Calls Tryz.prog 9 #[] w fun e w' => e = .returned (.bool true) ∧ Has E w' [R] := by
  refine c_enter (args := []) Tryz.func9 rfl Tryz.ntmps9 (by simp) ?_
  refine wp_seq_k fun K1 hK1 => ?_
  refine c_region ?_
  refine s_op (o_assign (v := (.bool false)) rfl ?_)
  refine s_nil ?_
  refine t_norm (hK1 _ _ ?_)
  refine wp_seq_k fun K2 hK2 => ?_
  refine c_region ?_
  refine s_op (o_callf (vs := #[(.pointer none), (.int .i64 2)]) ca15 rfl (args2 rfl rfl) (new_nil hH.all (n := 2) (by decide)) ?_)
  rintro _ w9 ⟨db3, pb4, sg5, rfl, hd6, hX7⟩
  refine ⟨_, rfl, ?_⟩
  have hH8 : Has E w9 [sg5, [Hp.one pb4 (.cells #[(.bool (Pw.mk false false 0 0).off), (.bool (Pw.mk false false 0 0).armed), (.int .i64 (Pw.mk false false 0 0).left), (.int .i64 (Pw.mk false false 0 0).uses)] 78 (0, 0))], R] := hX7.of_all2
  refine s_op (o_assign (v := (.pointer (some ⟨db3, 0, none⟩))) rfl ?_)
  refine s_nil ?_
  refine t_norm (hK2 _ _ ?_)
  refine wp_seq_k fun K10 hK10 => ?_
  refine c_region ?_
  refine s_op (o_move (v := (.pointer (some ⟨db3, 0, none⟩))) rfl ?_)
  refine s_op (o_sight (v := (.agg #[(.int .i64 0), (.int .i64 0), (.int .i64 0), (.int .i64 0), (.int .i64 0)])) (fun _ => by kernel_rfl) ?_)
  refine s_op (o_callf (vs := #[(.pointer (some ⟨db3, 0, none⟩)), (.int .i64 0), (.agg #[(.int .i64 0), (.int .i64 0), (.int .i64 0), (.int .i64 0), (.int .i64 0)])]) ca26 rfl (args3 rfl rfl rfl) (hsave_ok (p := (Pw.mk false false 0 0)) (la := (List.replicate 2 blankS)) ((hH8.front 1 rfl).front 1 rfl).all2 hd6 (hg.mono (seg_sub 0 rfl)) (by unfold PwOk; decide +kernel) (by unfold PwOk; decide +kernel) (by decide +kernel) (x := 0) (h := (Hd.mk 0 0 0 0 0)) (by decide +kernel) (by decide +kernel) (by decide +kernel)) ?_)
  rintro _ w15 ⟨sg11, rfl, hd12, hX13⟩
  refine ⟨_, rfl, ?_⟩
  have hH14 : Has E w15 [sg11, [Hp.one pb4 (.cells #[(.bool (useS (useS (Pw.mk false false 0 0))).off), (.bool (useS (useS (Pw.mk false false 0 0))).armed), (.int .i64 (useS (useS (Pw.mk false false 0 0))).left), (.int .i64 (useS (useS (Pw.mk false false 0 0))).uses)] 78 (0, 0))], R] := hX13.of_all2
  refine s_op (o_move (v := (.tuple #[(.agg #[(.int .i64 (hdUp (Hd.mk 0 0 0 0 0)).seq), (.int .i64 (hdUp (Hd.mk 0 0 0 0 0)).ep), (.int .i64 (hdUp (Hd.mk 0 0 0 0 0)).cut), (.int .i64 (hdUp (Hd.mk 0 0 0 0 0)).st), (.int .i64 (hdUp (Hd.mk 0 0 0 0 0)).mrk)]), (.int .i64 (0 : Int))])) rfl ?_)
  refine s_op (o_extract (v := (.agg #[(.int .i64 (hdUp (Hd.mk 0 0 0 0 0)).seq), (.int .i64 (hdUp (Hd.mk 0 0 0 0 0)).ep), (.int .i64 (hdUp (Hd.mk 0 0 0 0 0)).cut), (.int .i64 (hdUp (Hd.mk 0 0 0 0 0)).st), (.int .i64 (hdUp (Hd.mk 0 0 0 0 0)).mrk)])) rfl rfl ?_)
  refine s_op (o_extract (v := (.int .i64 (0 : Int))) rfl rfl ?_)
  refine s_op (o_alloc (cs := #[(.int .i64 0), (.int .i64 0), (.int .i64 0), (.int .i64 0), (.int .i64 0)]) ti27 rfl hH14 fun b16 w17 hH18 => ?_)
  refine s_eff (o_storeN (vs := [(.int .i64 (hdUp (Hd.mk 0 0 0 0 0)).seq), (.int .i64 (hdUp (Hd.mk 0 0 0 0 0)).ep), (.int .i64 (hdUp (Hd.mk 0 0 0 0 0)).cut), (.int .i64 (hdUp (Hd.mk 0 0 0 0 0)).st), (.int .i64 (hdUp (Hd.mk 0 0 0 0 0)).mrk)]) (c' := #[(.int .i64 (hdUp (Hd.mk 0 0 0 0 0)).seq), (.int .i64 (hdUp (Hd.mk 0 0 0 0 0)).ep), (.int .i64 (hdUp (Hd.mk 0 0 0 0 0)).cut), (.int .i64 (hdUp (Hd.mk 0 0 0 0 0)).st), (.int .i64 (hdUp (Hd.mk 0 0 0 0 0)).mrk)]) ti27 rfl rfl rfl rfl (by intro u hu; simp only [List.mem_cons, List.not_mem_nil, or_false] at hu; rcases hu with rfl | rfl | rfl | rfl | rfl <;> first | rfl) (by simp) (by kernel_rfl) (hH18.front 0 rfl) fun w19 hH20 => ?_)
  refine s_op (o_assign (v := (.int .i64 (0 : Int))) rfl ?_)
  refine s_nil ?_
  refine t_norm (hK10 _ _ ?_)
  refine wp_seq_k fun K21 hK21 => ?_
  refine c_region ?_
  refine s_op (o_move (v := (.pointer (some ⟨db3, 0, none⟩))) rfl ?_)
  refine s_op (o_callf (vs := #[(.pointer (some ⟨db3, 0, none⟩)), (.int .i64 1)]) ca17 rfl (args2 rfl rfl) (read_d (p := (useS (useS (Pw.mk false false 0 0)))) (la := ((List.replicate 2 blankS).set (svN 0 (Hd.mk 0 0 0 0 0)).toNat (hdL (hdUp (Hd.mk 0 0 0 0 0))))) (lo := ([] : List (Int × Bs))) ((hH20.front 2 rfl).front 2 rfl).all2 hd12 1) ?_)
  rintro _ w24 ⟨rfl, hX22⟩
  refine ⟨_, rfl, ?_⟩
  have hH23 : Has E w24 [sg11, [Hp.one pb4 (.cells #[(.bool (useS (useS (Pw.mk false false 0 0))).off), (.bool (useS (useS (Pw.mk false false 0 0))).armed), (.int .i64 (useS (useS (Pw.mk false false 0 0))).left), (.int .i64 (useS (useS (Pw.mk false false 0 0))).uses)] 78 (0, 0))], [Hp.one b16 (.cells #[(.int .i64 (hdUp (Hd.mk 0 0 0 0 0)).seq), (.int .i64 (hdUp (Hd.mk 0 0 0 0 0)).ep), (.int .i64 (hdUp (Hd.mk 0 0 0 0 0)).cut), (.int .i64 (hdUp (Hd.mk 0 0 0 0 0)).st), (.int .i64 (hdUp (Hd.mk 0 0 0 0 0)).mrk)] 27 (0, 0))], R] := hX22.of_all2
  refine s_op (o_move (v := (.tuple #[(S (readS (useS (useS (Pw.mk false false 0 0))) ((List.replicate 2 blankS).set (svN 0 (Hd.mk 0 0 0 0 0)).toNat (hdL (hdUp (Hd.mk 0 0 0 0 0)))) ([] : List (Int × Bs)) 1)), (.int .i64 (readE (useS (useS (Pw.mk false false 0 0))) ((List.replicate 2 blankS).set (svN 0 (Hd.mk 0 0 0 0 0)).toNat (hdL (hdUp (Hd.mk 0 0 0 0 0)))) 1))])) rfl ?_)
  refine s_op (o_extract (v := (S (readS (useS (useS (Pw.mk false false 0 0))) ((List.replicate 2 blankS).set (svN 0 (Hd.mk 0 0 0 0 0)).toNat (hdL (hdUp (Hd.mk 0 0 0 0 0)))) ([] : List (Int × Bs)) 1))) rfl rfl ?_)
  refine s_op (o_extract (v := (.int .i64 (readE (useS (useS (Pw.mk false false 0 0))) ((List.replicate 2 blankS).set (svN 0 (Hd.mk 0 0 0 0 0)).toNat (hdL (hdUp (Hd.mk 0 0 0 0 0)))) 1))) rfl rfl ?_)
  refine s_op (o_assign (v := (S (readS (useS (useS (Pw.mk false false 0 0))) ((List.replicate 2 blankS).set (svN 0 (Hd.mk 0 0 0 0 0)).toNat (hdL (hdUp (Hd.mk 0 0 0 0 0)))) ([] : List (Int × Bs)) 1))) rfl ?_)
  refine s_op (o_assign (v := (.int .i64 (readE (useS (useS (Pw.mk false false 0 0))) ((List.replicate 2 blankS).set (svN 0 (Hd.mk 0 0 0 0 0)).toNat (hdL (hdUp (Hd.mk 0 0 0 0 0)))) 1))) rfl ?_)
  refine s_nil ?_
  refine t_norm (hK21 _ _ ?_)
  refine wp_seq_k fun K25 hK25 => ?_
  refine c_region ?_
  refine s_op (o_move (v := (.pointer (some ⟨db3, 0, none⟩))) rfl ?_)
  refine s_op (o_callf (vs := #[(.pointer (some ⟨db3, 0, none⟩)), (.int .i64 0)]) ca19 rfl (args2 rfl rfl) (hload_c (p := (useS (useS (Pw.mk false false 0 0)))) (la := ((List.replicate 2 blankS).set (svN 0 (Hd.mk 0 0 0 0 0)).toNat (hdL (hdUp (Hd.mk 0 0 0 0 0))))) ((hH23.front 1 rfl).front 1 rfl).all2 hd12 (hg.mono (seg_sub 1 rfl)) (by unfold Full64; decide +kernel) (by decide +kernel) 0) ?_)
  rintro _ w28 ⟨rfl, hX26⟩
  refine ⟨_, rfl, ?_⟩
  have hH27 : Has E w28 [sg11, [Hp.one pb4 (.cells #[(.bool (useS (useS (Pw.mk false false 0 0))).off), (.bool (useS (useS (Pw.mk false false 0 0))).armed), (.int .i64 (useS (useS (Pw.mk false false 0 0))).left), (.int .i64 (useS (useS (Pw.mk false false 0 0))).uses)] 78 (0, 0))], [Hp.one b16 (.cells #[(.int .i64 (hdUp (Hd.mk 0 0 0 0 0)).seq), (.int .i64 (hdUp (Hd.mk 0 0 0 0 0)).ep), (.int .i64 (hdUp (Hd.mk 0 0 0 0 0)).cut), (.int .i64 (hdUp (Hd.mk 0 0 0 0 0)).st), (.int .i64 (hdUp (Hd.mk 0 0 0 0 0)).mrk)] 27 (0, 0))], R] := hX26.of_all2
  refine s_op (o_move (v := (.tuple #[(.agg #[(.int .i64 (ldH (useS (useS (Pw.mk false false 0 0))) ((List.replicate 2 blankS).set (svN 0 (Hd.mk 0 0 0 0 0)).toNat (hdL (hdUp (Hd.mk 0 0 0 0 0)))) 0).seq), (.int .i64 (ldH (useS (useS (Pw.mk false false 0 0))) ((List.replicate 2 blankS).set (svN 0 (Hd.mk 0 0 0 0 0)).toNat (hdL (hdUp (Hd.mk 0 0 0 0 0)))) 0).ep), (.int .i64 (ldH (useS (useS (Pw.mk false false 0 0))) ((List.replicate 2 blankS).set (svN 0 (Hd.mk 0 0 0 0 0)).toNat (hdL (hdUp (Hd.mk 0 0 0 0 0)))) 0).cut), (.int .i64 (ldH (useS (useS (Pw.mk false false 0 0))) ((List.replicate 2 blankS).set (svN 0 (Hd.mk 0 0 0 0 0)).toNat (hdL (hdUp (Hd.mk 0 0 0 0 0)))) 0).st), (.int .i64 (ldH (useS (useS (Pw.mk false false 0 0))) ((List.replicate 2 blankS).set (svN 0 (Hd.mk 0 0 0 0 0)).toNat (hdL (hdUp (Hd.mk 0 0 0 0 0)))) 0).mrk)]), (.int .i64 (ldE (useS (useS (Pw.mk false false 0 0))) ((List.replicate 2 blankS).set (svN 0 (Hd.mk 0 0 0 0 0)).toNat (hdL (hdUp (Hd.mk 0 0 0 0 0)))) 0))])) rfl ?_)
  refine s_op (o_extract (v := (.agg #[(.int .i64 (ldH (useS (useS (Pw.mk false false 0 0))) ((List.replicate 2 blankS).set (svN 0 (Hd.mk 0 0 0 0 0)).toNat (hdL (hdUp (Hd.mk 0 0 0 0 0)))) 0).seq), (.int .i64 (ldH (useS (useS (Pw.mk false false 0 0))) ((List.replicate 2 blankS).set (svN 0 (Hd.mk 0 0 0 0 0)).toNat (hdL (hdUp (Hd.mk 0 0 0 0 0)))) 0).ep), (.int .i64 (ldH (useS (useS (Pw.mk false false 0 0))) ((List.replicate 2 blankS).set (svN 0 (Hd.mk 0 0 0 0 0)).toNat (hdL (hdUp (Hd.mk 0 0 0 0 0)))) 0).cut), (.int .i64 (ldH (useS (useS (Pw.mk false false 0 0))) ((List.replicate 2 blankS).set (svN 0 (Hd.mk 0 0 0 0 0)).toNat (hdL (hdUp (Hd.mk 0 0 0 0 0)))) 0).st), (.int .i64 (ldH (useS (useS (Pw.mk false false 0 0))) ((List.replicate 2 blankS).set (svN 0 (Hd.mk 0 0 0 0 0)).toNat (hdL (hdUp (Hd.mk 0 0 0 0 0)))) 0).mrk)])) rfl rfl ?_)
  refine s_op (o_extract (v := (.int .i64 (ldE (useS (useS (Pw.mk false false 0 0))) ((List.replicate 2 blankS).set (svN 0 (Hd.mk 0 0 0 0 0)).toNat (hdL (hdUp (Hd.mk 0 0 0 0 0)))) 0))) rfl rfl ?_)
  refine s_op (o_alloc (cs := #[(.int .i64 0), (.int .i64 0), (.int .i64 0), (.int .i64 0), (.int .i64 0)]) ti27 rfl hH27 fun b29 w30 hH31 => ?_)
  refine s_eff (o_storeN (vs := [(.int .i64 (ldH (useS (useS (Pw.mk false false 0 0))) ((List.replicate 2 blankS).set (svN 0 (Hd.mk 0 0 0 0 0)).toNat (hdL (hdUp (Hd.mk 0 0 0 0 0)))) 0).seq), (.int .i64 (ldH (useS (useS (Pw.mk false false 0 0))) ((List.replicate 2 blankS).set (svN 0 (Hd.mk 0 0 0 0 0)).toNat (hdL (hdUp (Hd.mk 0 0 0 0 0)))) 0).ep), (.int .i64 (ldH (useS (useS (Pw.mk false false 0 0))) ((List.replicate 2 blankS).set (svN 0 (Hd.mk 0 0 0 0 0)).toNat (hdL (hdUp (Hd.mk 0 0 0 0 0)))) 0).cut), (.int .i64 (ldH (useS (useS (Pw.mk false false 0 0))) ((List.replicate 2 blankS).set (svN 0 (Hd.mk 0 0 0 0 0)).toNat (hdL (hdUp (Hd.mk 0 0 0 0 0)))) 0).st), (.int .i64 (ldH (useS (useS (Pw.mk false false 0 0))) ((List.replicate 2 blankS).set (svN 0 (Hd.mk 0 0 0 0 0)).toNat (hdL (hdUp (Hd.mk 0 0 0 0 0)))) 0).mrk)]) (c' := #[(.int .i64 (ldH (useS (useS (Pw.mk false false 0 0))) ((List.replicate 2 blankS).set (svN 0 (Hd.mk 0 0 0 0 0)).toNat (hdL (hdUp (Hd.mk 0 0 0 0 0)))) 0).seq), (.int .i64 (ldH (useS (useS (Pw.mk false false 0 0))) ((List.replicate 2 blankS).set (svN 0 (Hd.mk 0 0 0 0 0)).toNat (hdL (hdUp (Hd.mk 0 0 0 0 0)))) 0).ep), (.int .i64 (ldH (useS (useS (Pw.mk false false 0 0))) ((List.replicate 2 blankS).set (svN 0 (Hd.mk 0 0 0 0 0)).toNat (hdL (hdUp (Hd.mk 0 0 0 0 0)))) 0).cut), (.int .i64 (ldH (useS (useS (Pw.mk false false 0 0))) ((List.replicate 2 blankS).set (svN 0 (Hd.mk 0 0 0 0 0)).toNat (hdL (hdUp (Hd.mk 0 0 0 0 0)))) 0).st), (.int .i64 (ldH (useS (useS (Pw.mk false false 0 0))) ((List.replicate 2 blankS).set (svN 0 (Hd.mk 0 0 0 0 0)).toNat (hdL (hdUp (Hd.mk 0 0 0 0 0)))) 0).mrk)]) ti27 rfl rfl rfl rfl (by intro u hu; simp only [List.mem_cons, List.not_mem_nil, or_false] at hu; rcases hu with rfl | rfl | rfl | rfl | rfl <;> first | rfl) (by simp) (by kernel_rfl) (hH31.front 0 rfl) fun w32 hH33 => ?_)
  refine s_op (o_assign (v := (.int .i64 (ldE (useS (useS (Pw.mk false false 0 0))) ((List.replicate 2 blankS).set (svN 0 (Hd.mk 0 0 0 0 0)).toNat (hdL (hdUp (Hd.mk 0 0 0 0 0)))) 0))) rfl ?_)
  refine s_nil ?_
  refine t_norm (hK25 _ _ ?_)
  refine wp_seq_k fun K34 hK34 => ?_
  refine c_region ?_
  refine s_op (o_move (v := (.int .i64 (0 : Int))) rfl ?_)
  refine s_op (o_eql (a := (0 : Int)) (b := 0) rfl rfl ?_)
  refine s_op (o_move (v := (.bool (decide ((0 : Int) = 0)))) rfl ?_)
  by_cases h35 : (0 : Int) = 0
  · -- (0 : Int) = 0
    refine s_on 27 rfl (congrArg Value.bool (decide_eq_true h35)) (o_fieldAddr (k := 0) (fun _ => by kernel_rfl) rfl ?_)
    refine s_on 27 rfl (congrArg Value.bool (decide_eq_true h35)) (o_load1 (v := (.int .i64 (hdUp (Hd.mk 0 0 0 0 0)).seq)) Tryz.underlying3 rfl rfl hH33 (seg_sub 3 rfl) (CellsAt.one rfl) ?_)
    refine s_on 27 rfl (congrArg Value.bool (decide_eq_true h35)) (o_eql (a := (hdUp (Hd.mk 0 0 0 0 0)).seq) (b := 1) rfl rfl ?_)
    refine s_op (o_pick_t (u := (.bool (decide ((hdUp (Hd.mk 0 0 0 0 0)).seq = 1)))) ((rfl : _ = _).trans (congrArg Value.bool (decide_eq_true h35))) rfl ?_)
    refine s_op (o_move (v := (.bool (decide ((hdUp (Hd.mk 0 0 0 0 0)).seq = 1)))) rfl ?_)
    by_cases h36 : (hdUp (Hd.mk 0 0 0 0 0)).seq = 1
    · -- (hdUp (Hd.mk 0 0 0 0 0)).seq = 1
      refine s_on 32 rfl (congrArg Value.bool (decide_eq_true h36)) (o_move (v := (.int .i64 (readE (useS (useS (Pw.mk false false 0 0))) ((List.replicate 2 blankS).set (svN 0 (Hd.mk 0 0 0 0 0)).toNat (hdL (hdUp (Hd.mk 0 0 0 0 0)))) 1))) rfl ?_)
      refine s_on 32 rfl (congrArg Value.bool (decide_eq_true h36)) (o_eql (a := readE (useS (useS (Pw.mk false false 0 0))) ((List.replicate 2 blankS).set (svN 0 (Hd.mk 0 0 0 0 0)).toNat (hdL (hdUp (Hd.mk 0 0 0 0 0)))) 1) (b := 0) rfl rfl ?_)
      refine s_op (o_pick_t (u := (.bool (decide (readE (useS (useS (Pw.mk false false 0 0))) ((List.replicate 2 blankS).set (svN 0 (Hd.mk 0 0 0 0 0)).toNat (hdL (hdUp (Hd.mk 0 0 0 0 0)))) 1 = 0)))) ((rfl : _ = _).trans (congrArg Value.bool (decide_eq_true h36))) rfl ?_)
      refine s_op (o_move (v := (.bool (decide (readE (useS (useS (Pw.mk false false 0 0))) ((List.replicate 2 blankS).set (svN 0 (Hd.mk 0 0 0 0 0)).toNat (hdL (hdUp (Hd.mk 0 0 0 0 0)))) 1 = 0)))) rfl ?_)
      by_cases h37 : readE (useS (useS (Pw.mk false false 0 0))) ((List.replicate 2 blankS).set (svN 0 (Hd.mk 0 0 0 0 0)).toNat (hdL (hdUp (Hd.mk 0 0 0 0 0)))) 1 = 0
      · -- readE (useS (useS (Pw.mk false false 0 0))) ((List.replicate 2 blankS).set (svN 0 (Hd.mk 0 0 0 0 0)).toNat (hdL (hdUp (Hd.mk 0 0 0 0 0)))) 1 = 0
        refine s_on 36 rfl (congrArg Value.bool (decide_eq_true h37)) (o_move (v := (S (readS (useS (useS (Pw.mk false false 0 0))) ((List.replicate 2 blankS).set (svN 0 (Hd.mk 0 0 0 0 0)).toNat (hdL (hdUp (Hd.mk 0 0 0 0 0)))) ([] : List (Int × Bs)) 1))) rfl ?_)
        refine s_on 36 rfl (congrArg Value.bool (decide_eq_true h37)) (o_loadN (cs := [(.int .i64 (hdUp (Hd.mk 0 0 0 0 0)).seq), (.int .i64 (hdUp (Hd.mk 0 0 0 0 0)).ep), (.int .i64 (hdUp (Hd.mk 0 0 0 0 0)).cut), (.int .i64 (hdUp (Hd.mk 0 0 0 0 0)).st), (.int .i64 (hdUp (Hd.mk 0 0 0 0 0)).mrk)]) Tryz.underlying27 rfl ti27 rfl hH33 (seg_sub 3 rfl) (CellsAt.one rfl) ?_)
        refine s_on 36 rfl (congrArg Value.bool (decide_eq_true h37)) (o_callf (vs := #[(.agg #[(.int .i64 (hdUp (Hd.mk 0 0 0 0 0)).seq), (.int .i64 (hdUp (Hd.mk 0 0 0 0 0)).ep), (.int .i64 (hdUp (Hd.mk 0 0 0 0 0)).cut), (.int .i64 (hdUp (Hd.mk 0 0 0 0 0)).st), (.int .i64 (hdUp (Hd.mk 0 0 0 0 0)).mrk)])]) ca14 rfl (args1 rfl) (hlaid_c (h := (hdUp (Hd.mk 0 0 0 0 0))) hH33.all (hg.mono (seg_sub 4 rfl))) ?_)
        rintro _ w40 ⟨rfl, hX38⟩
        refine ⟨_, rfl, ?_⟩
        have hH39 := hX38.of_all
        refine s_on 36 rfl (congrArg Value.bool (decide_eq_true h37)) (o_seql (a := (readS (useS (useS (Pw.mk false false 0 0))) ((List.replicate 2 blankS).set (svN 0 (Hd.mk 0 0 0 0 0)).toNat (hdL (hdUp (Hd.mk 0 0 0 0 0)))) ([] : List (Int × Bs)) 1)) (b := (hdL (hdUp (Hd.mk 0 0 0 0 0)))) rfl rfl ?_)
        refine s_op (o_pick_t (u := (.bool (decide ((readS (useS (useS (Pw.mk false false 0 0))) ((List.replicate 2 blankS).set (svN 0 (Hd.mk 0 0 0 0 0)).toNat (hdL (hdUp (Hd.mk 0 0 0 0 0)))) ([] : List (Int × Bs)) 1) = (hdL (hdUp (Hd.mk 0 0 0 0 0))))))) ((rfl : _ = _).trans (congrArg Value.bool (decide_eq_true h37))) rfl ?_)
        refine s_op (o_move (v := (.bool (decide ((readS (useS (useS (Pw.mk false false 0 0))) ((List.replicate 2 blankS).set (svN 0 (Hd.mk 0 0 0 0 0)).toNat (hdL (hdUp (Hd.mk 0 0 0 0 0)))) ([] : List (Int × Bs)) 1) = (hdL (hdUp (Hd.mk 0 0 0 0 0))))))) rfl ?_)
        by_cases h41 : (readS (useS (useS (Pw.mk false false 0 0))) ((List.replicate 2 blankS).set (svN 0 (Hd.mk 0 0 0 0 0)).toNat (hdL (hdUp (Hd.mk 0 0 0 0 0)))) ([] : List (Int × Bs)) 1) = (hdL (hdUp (Hd.mk 0 0 0 0 0)))
        · -- (readS (useS (useS (Pw.mk false false 0 0))) ((List.replicate 2 blankS).set (svN 0 (Hd.mk 0 0 0 0 0)).toNat (hdL (hdUp (Hd.mk 0 0 0 0 0)))) ([] : List (Int × Bs)) 1) = (hdL (hdUp (Hd.mk 0 0 0 0 0)))
          refine s_on 42 rfl (congrArg Value.bool (decide_eq_true h41)) (o_move (v := (S (readS (useS (useS (Pw.mk false false 0 0))) ((List.replicate 2 blankS).set (svN 0 (Hd.mk 0 0 0 0 0)).toNat (hdL (hdUp (Hd.mk 0 0 0 0 0)))) ([] : List (Int × Bs)) 1))) rfl ?_)
          refine s_on 42 rfl (congrArg Value.bool (decide_eq_true h41)) (o_slen Tryz.underlying9 rfl ?_)
          refine s_on 42 rfl (congrArg Value.bool (decide_eq_true h41)) (o_eql (a := ((readS (useS (useS (Pw.mk false false 0 0))) ((List.replicate 2 blankS).set (svN 0 (Hd.mk 0 0 0 0 0)).toNat (hdL (hdUp (Hd.mk 0 0 0 0 0)))) ([] : List (Int × Bs)) 1).length : Int)) (b := 64) rfl rfl ?_)
          refine s_op (o_pick_t (u := (.bool (decide (((readS (useS (useS (Pw.mk false false 0 0))) ((List.replicate 2 blankS).set (svN 0 (Hd.mk 0 0 0 0 0)).toNat (hdL (hdUp (Hd.mk 0 0 0 0 0)))) ([] : List (Int × Bs)) 1).length : Int) = 64)))) ((rfl : _ = _).trans (congrArg Value.bool (decide_eq_true h41))) rfl ?_)
          refine s_op (o_move (v := (.bool (decide (((readS (useS (useS (Pw.mk false false 0 0))) ((List.replicate 2 blankS).set (svN 0 (Hd.mk 0 0 0 0 0)).toNat (hdL (hdUp (Hd.mk 0 0 0 0 0)))) ([] : List (Int × Bs)) 1).length : Int) = 64)))) rfl ?_)
          by_cases h42 : ((readS (useS (useS (Pw.mk false false 0 0))) ((List.replicate 2 blankS).set (svN 0 (Hd.mk 0 0 0 0 0)).toNat (hdL (hdUp (Hd.mk 0 0 0 0 0)))) ([] : List (Int × Bs)) 1).length : Int) = 64
          · -- ((readS (useS (useS (Pw.mk false false 0 0))) ((List.replicate 2 blankS).set (svN 0 (Hd.mk 0 0 0 0 0)).toNat (hdL (hdUp (Hd.mk 0 0 0 0 0)))) ([] : List (Int × Bs)) 1).length : Int) = 64
            refine s_on 47 rfl (congrArg Value.bool (decide_eq_true h42)) (o_loadN (cs := [(.int .i64 (ldH (useS (useS (Pw.mk false false 0 0))) ((List.replicate 2 blankS).set (svN 0 (Hd.mk 0 0 0 0 0)).toNat (hdL (hdUp (Hd.mk 0 0 0 0 0)))) 0).seq), (.int .i64 (ldH (useS (useS (Pw.mk false false 0 0))) ((List.replicate 2 blankS).set (svN 0 (Hd.mk 0 0 0 0 0)).toNat (hdL (hdUp (Hd.mk 0 0 0 0 0)))) 0).ep), (.int .i64 (ldH (useS (useS (Pw.mk false false 0 0))) ((List.replicate 2 blankS).set (svN 0 (Hd.mk 0 0 0 0 0)).toNat (hdL (hdUp (Hd.mk 0 0 0 0 0)))) 0).cut), (.int .i64 (ldH (useS (useS (Pw.mk false false 0 0))) ((List.replicate 2 blankS).set (svN 0 (Hd.mk 0 0 0 0 0)).toNat (hdL (hdUp (Hd.mk 0 0 0 0 0)))) 0).st), (.int .i64 (ldH (useS (useS (Pw.mk false false 0 0))) ((List.replicate 2 blankS).set (svN 0 (Hd.mk 0 0 0 0 0)).toNat (hdL (hdUp (Hd.mk 0 0 0 0 0)))) 0).mrk)]) Tryz.underlying27 rfl ti27 rfl hH39 (seg_sub 0 rfl) (CellsAt.one rfl) ?_)
            refine s_on 47 rfl (congrArg Value.bool (decide_eq_true h42)) (o_loadN (cs := [(.int .i64 (hdUp (Hd.mk 0 0 0 0 0)).seq), (.int .i64 (hdUp (Hd.mk 0 0 0 0 0)).ep), (.int .i64 (hdUp (Hd.mk 0 0 0 0 0)).cut), (.int .i64 (hdUp (Hd.mk 0 0 0 0 0)).st), (.int .i64 (hdUp (Hd.mk 0 0 0 0 0)).mrk)]) Tryz.underlying27 rfl ti27 rfl hH39 (seg_sub 3 rfl) (CellsAt.one rfl) ?_)
            refine s_on 47 rfl (congrArg Value.bool (decide_eq_true h42)) (o_eql27 ((ldH (useS (useS (Pw.mk false false 0 0))) ((List.replicate 2 blankS).set (svN 0 (Hd.mk 0 0 0 0 0)).toNat (hdL (hdUp (Hd.mk 0 0 0 0 0)))) 0).seq) ((ldH (useS (useS (Pw.mk false false 0 0))) ((List.replicate 2 blankS).set (svN 0 (Hd.mk 0 0 0 0 0)).toNat (hdL (hdUp (Hd.mk 0 0 0 0 0)))) 0).ep) ((ldH (useS (useS (Pw.mk false false 0 0))) ((List.replicate 2 blankS).set (svN 0 (Hd.mk 0 0 0 0 0)).toNat (hdL (hdUp (Hd.mk 0 0 0 0 0)))) 0).cut) ((ldH (useS (useS (Pw.mk false false 0 0))) ((List.replicate 2 blankS).set (svN 0 (Hd.mk 0 0 0 0 0)).toNat (hdL (hdUp (Hd.mk 0 0 0 0 0)))) 0).st) ((ldH (useS (useS (Pw.mk false false 0 0))) ((List.replicate 2 blankS).set (svN 0 (Hd.mk 0 0 0 0 0)).toNat (hdL (hdUp (Hd.mk 0 0 0 0 0)))) 0).mrk) ((hdUp (Hd.mk 0 0 0 0 0)).seq) ((hdUp (Hd.mk 0 0 0 0 0)).ep) ((hdUp (Hd.mk 0 0 0 0 0)).cut) ((hdUp (Hd.mk 0 0 0 0 0)).st) ((hdUp (Hd.mk 0 0 0 0 0)).mrk) rfl rfl ?_)
            refine s_op (o_pick_t (u := (.bool (eqv27 ((ldH (useS (useS (Pw.mk false false 0 0))) ((List.replicate 2 blankS).set (svN 0 (Hd.mk 0 0 0 0 0)).toNat (hdL (hdUp (Hd.mk 0 0 0 0 0)))) 0).seq) ((ldH (useS (useS (Pw.mk false false 0 0))) ((List.replicate 2 blankS).set (svN 0 (Hd.mk 0 0 0 0 0)).toNat (hdL (hdUp (Hd.mk 0 0 0 0 0)))) 0).ep) ((ldH (useS (useS (Pw.mk false false 0 0))) ((List.replicate 2 blankS).set (svN 0 (Hd.mk 0 0 0 0 0)).toNat (hdL (hdUp (Hd.mk 0 0 0 0 0)))) 0).cut) ((ldH (useS (useS (Pw.mk false false 0 0))) ((List.replicate 2 blankS).set (svN 0 (Hd.mk 0 0 0 0 0)).toNat (hdL (hdUp (Hd.mk 0 0 0 0 0)))) 0).st) ((ldH (useS (useS (Pw.mk false false 0 0))) ((List.replicate 2 blankS).set (svN 0 (Hd.mk 0 0 0 0 0)).toNat (hdL (hdUp (Hd.mk 0 0 0 0 0)))) 0).mrk) ((hdUp (Hd.mk 0 0 0 0 0)).seq) ((hdUp (Hd.mk 0 0 0 0 0)).ep) ((hdUp (Hd.mk 0 0 0 0 0)).cut) ((hdUp (Hd.mk 0 0 0 0 0)).st) ((hdUp (Hd.mk 0 0 0 0 0)).mrk)))) ((rfl : _ = _).trans (congrArg Value.bool (decide_eq_true h42))) rfl ?_)
            refine s_op (o_move (v := (.bool (eqv27 ((ldH (useS (useS (Pw.mk false false 0 0))) ((List.replicate 2 blankS).set (svN 0 (Hd.mk 0 0 0 0 0)).toNat (hdL (hdUp (Hd.mk 0 0 0 0 0)))) 0).seq) ((ldH (useS (useS (Pw.mk false false 0 0))) ((List.replicate 2 blankS).set (svN 0 (Hd.mk 0 0 0 0 0)).toNat (hdL (hdUp (Hd.mk 0 0 0 0 0)))) 0).ep) ((ldH (useS (useS (Pw.mk false false 0 0))) ((List.replicate 2 blankS).set (svN 0 (Hd.mk 0 0 0 0 0)).toNat (hdL (hdUp (Hd.mk 0 0 0 0 0)))) 0).cut) ((ldH (useS (useS (Pw.mk false false 0 0))) ((List.replicate 2 blankS).set (svN 0 (Hd.mk 0 0 0 0 0)).toNat (hdL (hdUp (Hd.mk 0 0 0 0 0)))) 0).st) ((ldH (useS (useS (Pw.mk false false 0 0))) ((List.replicate 2 blankS).set (svN 0 (Hd.mk 0 0 0 0 0)).toNat (hdL (hdUp (Hd.mk 0 0 0 0 0)))) 0).mrk) ((hdUp (Hd.mk 0 0 0 0 0)).seq) ((hdUp (Hd.mk 0 0 0 0 0)).ep) ((hdUp (Hd.mk 0 0 0 0 0)).cut) ((hdUp (Hd.mk 0 0 0 0 0)).st) ((hdUp (Hd.mk 0 0 0 0 0)).mrk)))) rfl ?_)
            rcases Bool.eq_false_or_eq_true (eqv27 ((ldH (useS (useS (Pw.mk false false 0 0))) ((List.replicate 2 blankS).set (svN 0 (Hd.mk 0 0 0 0 0)).toNat (hdL (hdUp (Hd.mk 0 0 0 0 0)))) 0).seq) ((ldH (useS (useS (Pw.mk false false 0 0))) ((List.replicate 2 blankS).set (svN 0 (Hd.mk 0 0 0 0 0)).toNat (hdL (hdUp (Hd.mk 0 0 0 0 0)))) 0).ep) ((ldH (useS (useS (Pw.mk false false 0 0))) ((List.replicate 2 blankS).set (svN 0 (Hd.mk 0 0 0 0 0)).toNat (hdL (hdUp (Hd.mk 0 0 0 0 0)))) 0).cut) ((ldH (useS (useS (Pw.mk false false 0 0))) ((List.replicate 2 blankS).set (svN 0 (Hd.mk 0 0 0 0 0)).toNat (hdL (hdUp (Hd.mk 0 0 0 0 0)))) 0).st) ((ldH (useS (useS (Pw.mk false false 0 0))) ((List.replicate 2 blankS).set (svN 0 (Hd.mk 0 0 0 0 0)).toNat (hdL (hdUp (Hd.mk 0 0 0 0 0)))) 0).mrk) ((hdUp (Hd.mk 0 0 0 0 0)).seq) ((hdUp (Hd.mk 0 0 0 0 0)).ep) ((hdUp (Hd.mk 0 0 0 0 0)).cut) ((hdUp (Hd.mk 0 0 0 0 0)).st) ((hdUp (Hd.mk 0 0 0 0 0)).mrk)) with h43 | h43
            · -- eqv27 ((ldH (useS (useS (Pw.mk false false 0 0))) ((List.replicate 2 blankS).set (svN 0 (Hd.mk 0 0 0 0 0)).toNat (hdL (hdUp (Hd.mk 0 0 0 0 0)))) 0).seq) ((ldH (useS (useS (Pw.mk false false 0 0))) ((List.replicate 2 blankS).set (svN 0 (Hd.mk 0 0 0 0 0)).toNat (hdL (hdUp (Hd.mk 0 0 0 0 0)))) 0).ep) ((ldH (useS (useS (Pw.mk false false 0 0))) ((List.replicate 2 blankS).set (svN 0 (Hd.mk 0 0 0 0 0)).toNat (hdL (hdUp (Hd.mk 0 0 0 0 0)))) 0).cut) ((ldH (useS (useS (Pw.mk false false 0 0))) ((List.replicate 2 blankS).set (svN 0 (Hd.mk 0 0 0 0 0)).toNat (hdL (hdUp (Hd.mk 0 0 0 0 0)))) 0).st) ((ldH (useS (useS (Pw.mk false false 0 0))) ((List.replicate 2 blankS).set (svN 0 (Hd.mk 0 0 0 0 0)).toNat (hdL (hdUp (Hd.mk 0 0 0 0 0)))) 0).mrk) ((hdUp (Hd.mk 0 0 0 0 0)).seq) ((hdUp (Hd.mk 0 0 0 0 0)).ep) ((hdUp (Hd.mk 0 0 0 0 0)).cut) ((hdUp (Hd.mk 0 0 0 0 0)).st) ((hdUp (Hd.mk 0 0 0 0 0)).mrk)
              refine s_on 52 rfl (congrArg Value.bool h43) (o_move (v := (.int .i64 (ldE (useS (useS (Pw.mk false false 0 0))) ((List.replicate 2 blankS).set (svN 0 (Hd.mk 0 0 0 0 0)).toNat (hdL (hdUp (Hd.mk 0 0 0 0 0)))) 0))) rfl ?_)
              refine s_on 52 rfl (congrArg Value.bool h43) (o_eql (a := ldE (useS (useS (Pw.mk false false 0 0))) ((List.replicate 2 blankS).set (svN 0 (Hd.mk 0 0 0 0 0)).toNat (hdL (hdUp (Hd.mk 0 0 0 0 0)))) 0) (b := 0) rfl rfl ?_)
              refine s_op (o_pick_t (u := (.bool (decide (ldE (useS (useS (Pw.mk false false 0 0))) ((List.replicate 2 blankS).set (svN 0 (Hd.mk 0 0 0 0 0)).toNat (hdL (hdUp (Hd.mk 0 0 0 0 0)))) 0 = 0)))) ((rfl : _ = _).trans (congrArg Value.bool h43)) rfl ?_)
              refine s_op (o_assign (v := (.bool (decide (ldE (useS (useS (Pw.mk false false 0 0))) ((List.replicate 2 blankS).set (svN 0 (Hd.mk 0 0 0 0 0)).toNat (hdL (hdUp (Hd.mk 0 0 0 0 0)))) 0 = 0)))) rfl ?_)
              refine s_nil ?_
              refine t_norm (hK34 _ _ ?_)
              refine wp_ret ?_
              refine c_ret1 Tryz.results9  (v := (.bool (decide (ldE (useS (useS (Pw.mk false false 0 0))) ((List.replicate 2 blankS).set (svN 0 (Hd.mk 0 0 0 0 0)).toNat (hdL (hdUp (Hd.mk 0 0 0 0 0)))) 0 = 0)))) rfl ?_
              have hH44 : Has E w40 [R] := (hH39.front 4 rfl).first 1 rfl
              exact ⟨by rw [show decide (ldE (useS (useS (Pw.mk false false 0 0))) ((List.replicate 2 blankS).set (svN 0 (Hd.mk 0 0 0 0 0)).toNat (hdL (hdUp (Hd.mk 0 0 0 0 0)))) 0 = 0) = true by decide +kernel], hH44⟩
            · -- not: eqv27 ((ldH (useS (useS (Pw.mk false false 0 0))) ((List.replicate 2 blankS).set (svN 0 (Hd.mk 0 0 0 0 0)).toNat (hdL (hdUp (Hd.mk 0 0 0 0 0)))) 0).seq) ((ldH (useS (useS (Pw.mk false false 0 0))) ((List.replicate 2 blankS).set (svN 0 (Hd.mk 0 0 0 0 0)).toNat (hdL (hdUp (Hd.mk 0 0 0 0 0)))) 0).ep) ((ldH (useS (useS (Pw.mk false false 0 0))) ((List.replicate 2 blankS).set (svN 0 (Hd.mk 0 0 0 0 0)).toNat (hdL (hdUp (Hd.mk 0 0 0 0 0)))) 0).cut) ((ldH (useS (useS (Pw.mk false false 0 0))) ((List.replicate 2 blankS).set (svN 0 (Hd.mk 0 0 0 0 0)).toNat (hdL (hdUp (Hd.mk 0 0 0 0 0)))) 0).st) ((ldH (useS (useS (Pw.mk false false 0 0))) ((List.replicate 2 blankS).set (svN 0 (Hd.mk 0 0 0 0 0)).toNat (hdL (hdUp (Hd.mk 0 0 0 0 0)))) 0).mrk) ((hdUp (Hd.mk 0 0 0 0 0)).seq) ((hdUp (Hd.mk 0 0 0 0 0)).ep) ((hdUp (Hd.mk 0 0 0 0 0)).cut) ((hdUp (Hd.mk 0 0 0 0 0)).st) ((hdUp (Hd.mk 0 0 0 0 0)).mrk)
              exact absurd h43 (by decide +kernel)
          · -- not: ((readS (useS (useS (Pw.mk false false 0 0))) ((List.replicate 2 blankS).set (svN 0 (Hd.mk 0 0 0 0 0)).toNat (hdL (hdUp (Hd.mk 0 0 0 0 0)))) ([] : List (Int × Bs)) 1).length : Int) = 64
            exact absurd (by decide +kernel) h42
        · -- not: (readS (useS (useS (Pw.mk false false 0 0))) ((List.replicate 2 blankS).set (svN 0 (Hd.mk 0 0 0 0 0)).toNat (hdL (hdUp (Hd.mk 0 0 0 0 0)))) ([] : List (Int × Bs)) 1) = (hdL (hdUp (Hd.mk 0 0 0 0 0)))
          exact absurd (by decide +kernel) h41
      · -- not: readE (useS (useS (Pw.mk false false 0 0))) ((List.replicate 2 blankS).set (svN 0 (Hd.mk 0 0 0 0 0)).toNat (hdL (hdUp (Hd.mk 0 0 0 0 0)))) 1 = 0
        exact absurd (by decide +kernel) h37
    · -- not: (hdUp (Hd.mk 0 0 0 0 0)).seq = 1
      exact absurd (by decide +kernel) h36
  · -- not: (0 : Int) = 0
    exact absurd (by decide +kernel) h35
end Go.Q
namespace Go.Q
open Go.Proofs
set_option linter.unusedVariables false
set_option maxRecDepth 100000
attribute [local irreducible] wpList OK Code.wp
set_option maxHeartbeats 4000000 in
theorem refPut_c {E w : World} {R : List Hp} (hH : Has E w [R]) (m : Nat) (hm : 1 ≤ m ∧ m ≤ 8) (n : Int) (hn : -9223372036854775808 ≤ n ∧ n ≤ 9223372036854775807) :
    Calls Tryz.prog 55 #[(.int .i64 (m : Int)), (.int .i64 n)] w fun e w' => ∃ t : List UInt8, e = .returned (.tuple #[S t, .bool (fitsS n m)]) ∧ t.length = m ∧ (fitsS n m = true → t = beFrom n m) ∧ Has E w' [R] := by
  refine c_enter (args := [(.int .i64 (m : Int)), (.int .i64 n)]) Tryz.func55 rfl Tryz.ntmps55 (by simp) ?_
  refine wp_seq_k fun K1 hK1 => ?_
  refine c_region ?_
  refine s_op (o_assign (v := (S ([] : List UInt8))) rfl ?_)
  refine s_op (o_assign (v := (.bool false)) rfl ?_)
  refine s_nil ?_
  refine t_norm (hK1 _ _ ?_)
  refine wp_seq_k fun K2 hK2 => ?_
  refine c_region ?_
  refine s_op (o_assign (v := (.slice none 0 0)) rfl ?_)
  refine s_nil ?_
  refine t_norm (hK2 _ _ ?_)
  refine wp_seq_k fun K3 hK3 => ?_
  refine wp_seq_k fun K4 hK4 => ?_
  refine c_region ?_
  refine s_op (o_assign (v := (.int .i64 0)) rfl ?_)
  refine s_nil ?_
  refine t_norm (hK4 _ _ ?_)
  refine wp_block ?_
  let I6 : Nat → (Nat → Value) → World → Prop := fun n__ r__ w__ => ∃ (k : Nat) (vb : Value) (hs : List Hp) (lb : List UInt8), n__ = m - k ∧ Has E w__ [hs, R] ∧ (k ≤ m) ∧ (Own 5 1 vb lb.length (lb.map bV) hs) ∧ (lb = List.replicate k 0) ∧ (lb.length = k) ∧ r__ 0 = (.int .i64 (m : Int)) ∧ r__ 1 = (.int .i64 n) ∧ r__ 4 = (S ([] : List UInt8)) ∧ r__ 5 = (.bool false) ∧ r__ 6 = vb ∧ r__ 7 = (.int .i64 (k : Int))
  have hH7 : Has E w [[], R] := (Has.nil hH).first 2 rfl
  refine c_loop I6 _ ⟨0, (.slice none 0 0), [], [], rfl, hH7, Nat.zero_le _, Own.nil 5 1, rfl, rfl, rfl, rfl, rfl, rfl, rfl, rfl⟩ ?_
  rintro n_ r10 w8 ⟨k, vb, hs, lb, rfl, hH9, hk, hob, hlb, hll, e5_0, e5_1, e5_4, e5_5, e5_6, e5_7⟩
  refine wp_seq_k fun K11 hK11 => ?_
  refine wp_seq_k fun K12 hK12 => ?_
  refine c_region ?_
  refine s_op (o_move (v := (.int .i64 (k : Int))) e5_7 ?_)
  refine s_op (o_move (v := (.int .i64 (m : Int))) e5_0 ?_)
  refine s_op (o_lss (a := (k : Int)) (b := (m : Int)) rfl rfl ?_)
  refine s_nil ?_
  refine t_norm (hK12 _ _ ?_)
  refine c_cond rfl (fun h13 => ?_) (fun h13 => ?_)
  · -- (k : Int) < (m : Int)
    refine wp_skip ?_
    refine t_norm (hK11 _ _ ?_)
    refine wp_seq_k fun K14 hK14 => ?_
    refine wp_block ?_
    refine c_region ?_
    refine s_op (o_move (v := vb) e5_6 ?_)
    refine s_op (o_buildSlice (ps := #[(0, (.int .u8 0))]) (cells := #[(.int .u8 0)]) Tryz.underlying87 ti5 (by decide) (parts1 rfl) (by kernel_rfl) hH9 fun b15 w16 hH17 => ?_)
    refine s_op (o_append Tryz.underlying87 ti5 rfl (by decide) rfl hob rfl (sl_lit (f := bV) (l := [(0 : UInt8)]) rfl rfl (by simp)) (hH17.front 1 rfl) (seg_sub 0 rfl) (one_bV _) (by simp; omega) (by simp; omega) fun v18 s19 w21 ho20 hH22 => ?_)
    have ho20 : Own 5 1 v18 (lb ++ [(0 : UInt8)]).length ((lb ++ [(0 : UInt8)]).map bV) s19 := ho20.app
    refine s_op (o_assign (v := v18) rfl ?_)
    refine s_nil ?_
    refine b_norm ?_
    refine t_norm (hK14 _ _ ?_)
    refine c_region ?_
    refine s_op (o_move (v := (.int .i64 (k : Int))) e5_7 ?_)
    refine s_op (o_add (a := (k : Int)) (b := 1) rfl rfl (w64 (by omega) (by omega)) ?_)
    refine s_op (o_assign (v := (.int .i64 ((k : Int) + 1))) rfl ?_)
    refine s_nil ?_
    have hH23 : Has E w21 [s19, R] := ((hH22.front 2 rfl).front 1 rfl).first 2 rfl
    refine t_norm ⟨m - (k + 1), _, rfl, ?_, ?_⟩
    · omega
    · exact ⟨(k + 1), v18, s19, (lb ++ [(0 : UInt8)]), rfl, hH23, (by omega), (ho20), (by rw [hlb, List.replicate_succ']), (by simp; omega), e5_0, e5_1, e5_4, e5_5, rfl, rfl⟩
  · -- not: (k : Int) < (m : Int)
    refine wp_exit ?_
    refine t_exit (t_exit (x_in (?_)))
    refine t_norm (hK3 _ _ ?_)
    refine wp_seq_k fun K24 hK24 => ?_
    refine wp_seq_k fun K25 hK25 => ?_
    refine c_region ?_
    refine s_op (o_move (v := (.int .i64 (m : Int))) e5_0 ?_)
    refine s_op (o_sub (a := (m : Int)) (b := 1) rfl rfl (w64 (by omega) (by omega)) ?_)
    refine s_op (o_assign (v := (.int .i64 ((m : Int) - 1))) rfl ?_)
    refine s_nil ?_
    refine t_norm (hK25 _ _ ?_)
    refine wp_block ?_
    let I27 : Nat → (Nat → Value) → World → Prop := fun n__ r__ w__ => ∃ (j : Nat) (i : Int) (y : Int) (hs2 : List Hp) (lc : List UInt8), n__ = j + 1 ∧ Has E w__ [hs2, R] ∧ (j ≤ m) ∧ (i = (j : Int) - 1) ∧ (Own 5 1 vb lc.length (lc.map bV) hs2) ∧ (lc = List.replicate j 0 ++ beFrom n (m - j)) ∧ (0 ≤ n → y = n / ((256 ^ (m - j) : Nat) : Int)) ∧ (n < 0 → j = m ∧ y = n) ∧ (lc.length = m) ∧ (-9223372036854775808 ≤ y ∧ y ≤ 9223372036854775807) ∧ r__ 0 = (.int .i64 (m : Int)) ∧ r__ 1 = (.int .i64 y) ∧ r__ 4 = (S ([] : List UInt8)) ∧ r__ 5 = (.bool false) ∧ r__ 6 = vb ∧ r__ 7 = (.int .i64 (k : Int)) ∧ r__ 8 = (.int .i64 i) ∧ r__ 11 = (.bool (decide ((k : Int) < (m : Int))))
    refine c_loop I27 _ ⟨m, ((m : Int) - 1), n, hs, lb, rfl, hH9, Nat.le_refl _, rfl, hob, (by rw [hlb, show k = m from by omega, Nat.sub_self]; simp [beFrom]), (by intro _; rw [Nat.sub_self]; simp), fun _ => ⟨rfl, rfl⟩, (by omega), hn, e5_0, e5_1, e5_4, e5_5, e5_6, e5_7, rfl, rfl⟩ ?_
    rintro n_ r30 w28 ⟨j, i, y, hs2, lc, rfl, hH29, hj, hi, hoc, hlc, hy, hneg, hlen, hyr, e26_0, e26_1, e26_4, e26_5, e26_6, e26_7, e26_8, e26_11⟩
    refine wp_seq_k fun K31 hK31 => ?_
    refine wp_seq_k fun K32 hK32 => ?_
    refine c_region ?_
    refine s_op (o_move (v := (.int .i64 i)) e26_8 ?_)
    refine s_op (o_geq (a := i) (b := 0) rfl rfl ?_)
    refine s_op (o_move (v := (.bool (decide (0 ≤ i)))) rfl ?_)
    by_cases h33 : 0 ≤ i
    · -- 0 ≤ i
      refine s_on 21 rfl (congrArg Value.bool (decide_eq_true h33)) (o_move (v := (.int .i64 y)) e26_1 ?_)
      refine s_on 21 rfl (congrArg Value.bool (decide_eq_true h33)) (o_gtr (a := y) (b := 0) rfl rfl ?_)
      refine s_op (o_pick_t (u := (.bool (decide (0 < y)))) ((rfl : _ = _).trans (congrArg Value.bool (decide_eq_true h33))) rfl ?_)
      refine s_nil ?_
      refine t_norm (hK32 _ _ ?_)
      refine c_cond rfl (fun h34 => ?_) (fun h34 => ?_)
      · -- 0 < y
        refine wp_skip ?_
        refine t_norm (hK31 _ _ ?_)
        refine wp_seq_k fun K35 hK35 => ?_
        refine wp_block ?_
        refine wp_seq_k fun K36 hK36 => ?_
        refine c_region ?_
        refine s_op (o_move (v := vb) e26_6 ?_)
        refine s_op (o_move (v := (.int .i64 i)) e26_8 ?_)
        refine s_op (o_move (v := (.int .i64 y)) e26_1 ?_)
        refine s_op (o_rem (a := y) (b := 256) (c := y % 256) rfl rfl (by omega) ((Int.tmod_eq_emod_of_nonneg (by first | exact Int.natCast_nonneg _ | omega))) ?_)
        refine s_op (o_conv (c := ((by8 (y % 256)).toNat : Int)) Tryz.underlying3 Tryz.underlying5 rfl (wrap_by8 _) ?_)
        refine s_op (o_ownAddr Tryz.underlying87 ti5 rfl hoc rfl (by omega) (by first | omega | (simp only [List.length_append, List.length_cons, List.length_nil, List.length_set]; omega)) fun b37 ho38 => ?_)
        refine s_eff (o_ownStore (f := bV) (l := lc) (a := (by8 (y % 256))) ti5 rfl rfl rfl ho38 (by first | omega | (simp only [List.length_append, List.length_cons, List.length_nil, List.length_set]; omega)) hH29 fun s39 w40 ho41 hH42 => ?_)
        refine s_nil ?_
        refine t_norm (hK36 _ _ ?_)
        refine c_region ?_
        refine s_op (o_move (v := (.int .i64 y)) e26_1 ?_)
        refine s_op (o_quo (a := y) (b := 256) (c := y / 256) rfl rfl (by omega) (by rw [(Int.tdiv_eq_ediv_of_nonneg (by first | exact Int.natCast_nonneg _ | omega))]; exact w64 (by omega) (by omega)) ?_)
        refine s_op (o_assign (v := (.int .i64 (y / 256))) rfl ?_)
        refine s_nil ?_
        refine b_norm ?_
        refine t_norm (hK35 _ _ ?_)
        refine c_region ?_
        refine s_op (o_move (v := (.int .i64 i)) e26_8 ?_)
        refine s_op (o_sub (a := i) (b := 1) rfl rfl (w64 (by omega) (by omega)) ?_)
        refine s_op (o_assign (v := (.int .i64 (i - 1))) rfl ?_)
        refine s_nil ?_
        refine t_norm ⟨(j - 1) + 1, _, rfl, ?_, ?_⟩
        · omega
        · exact ⟨(j - 1), (i - 1), (y / 256), s39, (lc.set ((i).toNat) (by8 (y % 256))), rfl, hH42, (by omega), (by omega), (ho41), (refput_set hlc (by omega) (by omega) hi hy (by omega)), (refput_div hy (by omega) (by omega)), (by omega), (by simp; omega), (by omega), e26_0, rfl, e26_4, e26_5, e26_6, e26_7, rfl, e26_11⟩
      · -- not: 0 < y
        refine wp_exit ?_
        refine t_exit (t_exit (x_in (?_)))
        refine t_norm (hK24 _ _ ?_)
        refine wp_seq_k fun K43 hK43 => ?_
        refine c_region ?_
        refine s_op (o_move (v := vb) e26_6 ?_)
        refine s_op (o_bstr Tryz.underlying87 Tryz.underlying5 Tryz.underlying9 rfl hoc.sl hH29 (seg_sub 0 rfl) ?_)
        refine s_op (o_move (v := (.int .i64 y)) e26_1 ?_)
        refine s_op (o_eql (a := y) (b := 0) rfl rfl ?_)
        refine s_op (o_assign (v := (S lc)) rfl ?_)
        refine s_op (o_assign (v := (.bool (decide (y = 0)))) rfl ?_)
        refine s_nil ?_
        refine t_norm (hK43 _ _ ?_)
        refine wp_ret ?_
        refine c_ret2 Tryz.results55  (v := (S lc)) rfl (x := (.bool (decide (y = 0)))) rfl ?_
        have hH44 : Has E w28 [R] := (hH29.front 1 rfl).first 1 rfl
        exact ⟨lc, by rw [show decide (y = 0) = fitsS n m from refput_ok hm hn hj hy hneg (by omega)], hlen, refput_be hm hn hj hlc hy hneg (by omega), hH44⟩
    · -- not: 0 ≤ i
      refine s_off (b' := false) 21 rfl (congrArg Value.bool (decide_eq_false h33)) rfl ?_
      refine s_off (b' := false) 21 rfl (congrArg Value.bool (decide_eq_false h33)) rfl ?_
      refine s_op (o_pick_f (u := (.bool false)) ((rfl : _ = _).trans (congrArg Value.bool (decide_eq_false h33))) rfl ?_)
      refine s_nil ?_
      refine t_norm (hK32 _ _ ?_)
      refine c_false rfl rfl ?_
      refine wp_exit ?_
      refine t_exit (t_exit (x_in (?_)))
      refine t_norm (hK24 _ _ ?_)
      refine wp_seq_k fun K45 hK45 => ?_
      refine c_region ?_
      refine s_op (o_move (v := vb) e26_6 ?_)
      refine s_op (o_bstr Tryz.underlying87 Tryz.underlying5 Tryz.underlying9 rfl hoc.sl hH29 (seg_sub 0 rfl) ?_)
      refine s_op (o_move (v := (.int .i64 y)) e26_1 ?_)
      refine s_op (o_eql (a := y) (b := 0) rfl rfl ?_)
      refine s_op (o_assign (v := (S lc)) rfl ?_)
      refine s_op (o_assign (v := (.bool (decide (y = 0)))) rfl ?_)
      refine s_nil ?_
      refine t_norm (hK45 _ _ ?_)
      refine wp_ret ?_
      refine c_ret2 Tryz.results55  (v := (S lc)) rfl (x := (.bool (decide (y = 0)))) rfl ?_
      have hH46 : Has E w28 [R] := (hH29.front 1 rfl).first 1 rfl
      exact ⟨lc, by rw [show decide (y = 0) = fitsS n m from refput_ok hm hn hj hy hneg (by omega)], hlen, refput_be hm hn hj hlc hy hneg (by omega), hH46⟩
set_option maxHeartbeats 4000000 in
theorem refTake_c {E w : World} {R : List Hp} (hH : Has E w [R]) (m : Nat) (s : List UInt8) (hsl : s.length ≤ 9223372036854775807) :
    Calls Tryz.prog 35 #[(S s), (.int .i64 (m : Int))] w fun e w' => e = .returned (.tuple #[.int .i64 (takeS s m).1, .bool (takeS s m).2.2]) ∧ Has E w' [R] := by
  refine c_enter (args := [(S s), (.int .i64 (m : Int))]) Tryz.func35 rfl Tryz.ntmps35 (by simp) ?_
  refine wp_seq_k fun K1 hK1 => ?_
  refine c_region ?_
  refine s_op (o_assign (v := (.int .i64 0)) rfl ?_)
  refine s_op (o_assign (v := (.bool false)) rfl ?_)
  refine s_nil ?_
  refine t_norm (hK1 _ _ ?_)
  refine wp_seq_k fun K2 hK2 => ?_
  refine wp_seq_k fun K3 hK3 => ?_
  refine c_region ?_
  refine s_op (o_move (v := (.int .i64 (m : Int))) rfl ?_)
  refine s_op (o_lss (a := (m : Int)) (b := 1) rfl rfl ?_)
  refine s_op (o_move (v := (.bool (decide ((m : Int) < 1)))) rfl ?_)
  by_cases h4 : (m : Int) < 1
  · -- (m : Int) < 1
    refine s_off (b' := true) 10 rfl (congrArg Value.bool (decide_eq_true h4)) rfl ?_
    refine s_off (b' := true) 10 rfl (congrArg Value.bool (decide_eq_true h4)) rfl ?_
    refine s_op (o_pick_t (u := (.bool true)) ((rfl : _ = _).trans (congrArg Value.bool (decide_eq_true h4))) rfl ?_)
    refine s_op (o_move (v := (.bool true)) rfl ?_)
    refine s_off (b' := true) 14 rfl rfl rfl ?_
    refine s_off (b' := true) 14 rfl rfl rfl ?_
    refine s_off (b' := true) 14 rfl rfl rfl ?_
    refine s_off (b' := true) 14 rfl rfl rfl ?_
    refine s_op (o_pick_t (u := (.bool true)) rfl rfl ?_)
    refine s_op (o_move (v := (.bool true)) rfl ?_)
    refine s_off (b' := true) 20 rfl rfl rfl ?_
    refine s_off (b' := true) 20 rfl rfl rfl ?_
    refine s_off (b' := true) 20 rfl rfl rfl ?_
    refine s_offu 23 rfl rfl ?_
    refine s_offu 23 rfl rfl ?_
    refine s_offu 23 rfl rfl ?_
    refine s_off (b' := true) 20 rfl rfl rfl ?_
    refine s_op (o_pick_t (u := (.bool true)) rfl rfl ?_)
    refine s_nil ?_
    refine t_norm (hK3 _ _ ?_)
    refine c_true rfl rfl ?_
    refine wp_seq_k fun K5 hK5 => ?_
    refine c_region ?_
    refine s_op (o_assign (v := (.int .i64 0)) rfl ?_)
    refine s_op (o_assign (v := (.bool false)) rfl ?_)
    refine s_nil ?_
    refine t_norm (hK5 _ _ ?_)
    refine wp_ret ?_
    refine t_ret (c_ret2 Tryz.results35  (v := (.int .i64 0)) rfl (x := (.bool false)) rfl ?_)
    exact ⟨by rw [takeS_no (by first | exact .inl (by omega) | exact .inr (.inl (by omega)) | exact .inr (.inr ⟨by omega, 0, by simpa using rfl, by omega⟩))], hH⟩
  · -- not: (m : Int) < 1
    refine s_on 10 rfl (congrArg Value.bool (decide_eq_false h4)) (o_move (v := (.int .i64 (m : Int))) rfl ?_)
    refine s_on 10 rfl (congrArg Value.bool (decide_eq_false h4)) (o_gtr (a := (m : Int)) (b := 8) rfl rfl ?_)
    refine s_op (o_pick_f (u := (.bool (decide (8 < (m : Int))))) ((rfl : _ = _).trans (congrArg Value.bool (decide_eq_false h4))) rfl ?_)
    refine s_op (o_move (v := (.bool (decide (8 < (m : Int))))) rfl ?_)
    by_cases h6 : 8 < (m : Int)
    · -- 8 < (m : Int)
      refine s_off (b' := true) 14 rfl (congrArg Value.bool (decide_eq_true h6)) rfl ?_
      refine s_off (b' := true) 14 rfl (congrArg Value.bool (decide_eq_true h6)) rfl ?_
      refine s_off (b' := true) 14 rfl (congrArg Value.bool (decide_eq_true h6)) rfl ?_
      refine s_off (b' := true) 14 rfl (congrArg Value.bool (decide_eq_true h6)) rfl ?_
      refine s_op (o_pick_t (u := (.bool true)) ((rfl : _ = _).trans (congrArg Value.bool (decide_eq_true h6))) rfl ?_)
      refine s_op (o_move (v := (.bool true)) rfl ?_)
      refine s_off (b' := true) 20 rfl rfl rfl ?_
      refine s_off (b' := true) 20 rfl rfl rfl ?_
      refine s_off (b' := true) 20 rfl rfl rfl ?_
      refine s_offu 23 rfl rfl ?_
      refine s_offu 23 rfl rfl ?_
      refine s_offu 23 rfl rfl ?_
      refine s_off (b' := true) 20 rfl rfl rfl ?_
      refine s_op (o_pick_t (u := (.bool true)) rfl rfl ?_)
      refine s_nil ?_
      refine t_norm (hK3 _ _ ?_)
      refine c_true rfl rfl ?_
      refine wp_seq_k fun K7 hK7 => ?_
      refine c_region ?_
      refine s_op (o_assign (v := (.int .i64 0)) rfl ?_)
      refine s_op (o_assign (v := (.bool false)) rfl ?_)
      refine s_nil ?_
      refine t_norm (hK7 _ _ ?_)
      refine wp_ret ?_
      refine t_ret (c_ret2 Tryz.results35  (v := (.int .i64 0)) rfl (x := (.bool false)) rfl ?_)
      exact ⟨by rw [takeS_no (by first | exact .inl (by omega) | exact .inr (.inl (by omega)) | exact .inr (.inr ⟨by omega, 0, by simpa using rfl, by omega⟩))], hH⟩
    · -- not: 8 < (m : Int)
      refine s_on 14 rfl (congrArg Value.bool (decide_eq_false h6)) (o_move (v := (S s)) rfl ?_)
      refine s_on 14 rfl (congrArg Value.bool (decide_eq_false h6)) (o_slen Tryz.underlying9 rfl ?_)
      refine s_on 14 rfl (congrArg Value.bool (decide_eq_false h6)) (o_move (v := (.int .i64 (m : Int))) rfl ?_)
      refine s_on 14 rfl (congrArg Value.bool (decide_eq_false h6)) (o_lss (a := (s.length : Int)) (b := (m : Int)) rfl rfl ?_)
      refine s_op (o_pick_f (u := (.bool (decide ((s.length : Int) < (m : Int))))) ((rfl : _ = _).trans (congrArg Value.bool (decide_eq_false h6))) rfl ?_)
      refine s_op (o_move (v := (.bool (decide ((s.length : Int) < (m : Int))))) rfl ?_)
      by_cases h8 : (s.length : Int) < (m : Int)
      · -- (s.length : Int) < (m : Int)
        refine s_off (b' := true) 20 rfl (congrArg Value.bool (decide_eq_true h8)) rfl ?_
        refine s_off (b' := true) 20 rfl (congrArg Value.bool (decide_eq_true h8)) rfl ?_
        refine s_off (b' := true) 20 rfl (congrArg Value.bool (decide_eq_true h8)) rfl ?_
        refine s_offu 23 rfl rfl ?_
        refine s_offu 23 rfl rfl ?_
        refine s_offu 23 rfl rfl ?_
        refine s_off (b' := true) 20 rfl (congrArg Value.bool (decide_eq_true h8)) rfl ?_
        refine s_op (o_pick_t (u := (.bool true)) ((rfl : _ = _).trans (congrArg Value.bool (decide_eq_true h8))) rfl ?_)
        refine s_nil ?_
        refine t_norm (hK3 _ _ ?_)
        refine c_true rfl rfl ?_
        refine wp_seq_k fun K9 hK9 => ?_
        refine c_region ?_
        refine s_op (o_assign (v := (.int .i64 0)) rfl ?_)
        refine s_op (o_assign (v := (.bool false)) rfl ?_)
        refine s_nil ?_
        refine t_norm (hK9 _ _ ?_)
        refine wp_ret ?_
        refine t_ret (c_ret2 Tryz.results35  (v := (.int .i64 0)) rfl (x := (.bool false)) rfl ?_)
        exact ⟨by rw [takeS_no (by first | exact .inl (by omega) | exact .inr (.inl (by omega)) | exact .inr (.inr ⟨by omega, 0, by simpa using rfl, by omega⟩))], hH⟩
      · -- not: (s.length : Int) < (m : Int)
        refine s_on 20 rfl (congrArg Value.bool (decide_eq_false h8)) (o_move (v := (.int .i64 (m : Int))) rfl ?_)
        refine s_on 20 rfl (congrArg Value.bool (decide_eq_false h8)) (o_eql (a := (m : Int)) (b := 8) rfl rfl ?_)
        refine s_on 20 rfl (congrArg Value.bool (decide_eq_false h8)) (o_move (v := (.bool (decide ((m : Int) = 8)))) rfl ?_)
        by_cases h10 : (m : Int) = 8
        · -- (m : Int) = 8
          refine s_on 23 rfl (congrArg Value.bool (decide_eq_true h10)) (o_move (v := (S s)) rfl ?_)
          obtain ⟨c11, hx12⟩ : ∃ x_, s[((0 : Int)).toNat]? = some x_ := get_some (by omega)
          have c11_lt := c11.toNat_lt
          refine s_on 23 rfl (congrArg Value.bool (decide_eq_true h10)) (o_sidx Tryz.underlying9 rfl rfl (by omega) hx12 ?_)
          refine s_on 23 rfl (congrArg Value.bool (decide_eq_true h10)) (o_geq (a := (c11.toNat : Int)) (b := 128) rfl rfl ?_)
          refine s_on 20 rfl (congrArg Value.bool (decide_eq_false h8)) (o_pick_t (u := (.bool (decide (128 ≤ (c11.toNat : Int))))) ((rfl : _ = _).trans (congrArg Value.bool (decide_eq_true h10))) rfl ?_)
          refine s_op (o_pick_f (u := (.bool (decide (128 ≤ (c11.toNat : Int))))) ((rfl : _ = _).trans (congrArg Value.bool (decide_eq_false h8))) rfl ?_)
          refine s_nil ?_
          refine t_norm (hK3 _ _ ?_)
          refine c_cond rfl (fun h13 => ?_) (fun h13 => ?_)
          · -- 128 ≤ (c11.toNat : Int)
            refine wp_seq_k fun K14 hK14 => ?_
            refine c_region ?_
            refine s_op (o_assign (v := (.int .i64 0)) rfl ?_)
            refine s_op (o_assign (v := (.bool false)) rfl ?_)
            refine s_nil ?_
            refine t_norm (hK14 _ _ ?_)
            refine wp_ret ?_
            refine t_ret (c_ret2 Tryz.results35  (v := (.int .i64 0)) rfl (x := (.bool false)) rfl ?_)
            exact ⟨by rw [takeS_no (by first | exact .inl (by omega) | exact .inr (.inl (by omega)) | exact .inr (.inr ⟨by omega, c11, by simpa using hx12, by omega⟩))], hH⟩
          · -- not: 128 ≤ (c11.toNat : Int)
            refine wp_skip ?_
            refine t_norm (hK2 _ _ ?_)
            refine wp_seq_k fun K15 hK15 => ?_
            refine c_region ?_
            refine s_op (o_assign (v := (.int .i64 0)) rfl ?_)
            refine s_nil ?_
            refine t_norm (hK15 _ _ ?_)
            refine wp_seq_k fun K16 hK16 => ?_
            refine wp_seq_k fun K17 hK17 => ?_
            refine c_region ?_
            refine s_op (o_assign (v := (.int .i64 0)) rfl ?_)
            refine s_nil ?_
            refine t_norm (hK17 _ _ ?_)
            refine wp_block ?_
            let I19 : Nat → (Nat → Value) → World → Prop := fun n__ r__ w__ => ∃ (i : Nat) (y : Int), n__ = m - i ∧ Has E w__ [R] ∧ (i ≤ m) ∧ (y = beVal (s.take i)) ∧ r__ 0 = (S s) ∧ r__ 1 = (.int .i64 (m : Int)) ∧ r__ 4 = (.int .i64 0) ∧ r__ 5 = (.bool false) ∧ r__ 6 = (.int .i64 y) ∧ r__ 7 = (.int .i64 (i : Int)) ∧ r__ 28 = (.bool (decide (128 ≤ (c11.toNat : Int))))
            refine c_loop I19 _ ⟨0, 0, rfl, hH, Nat.zero_le _, rfl, rfl, rfl, rfl, rfl, rfl, rfl, rfl⟩ ?_
            rintro n_ r22 w20 ⟨i, y, rfl, hH21, hi, hy, e18_0, e18_1, e18_4, e18_5, e18_6, e18_7, e18_28⟩
            have hb0 := beVal_nonneg (s.take i)
            have hb1 : i < m → beVal (s.take i) < 36028797018963968 := fun h => beVal_lt h (by omega) (by omega) (.inr (first_byte (by simpa using hx12) (by omega)))
            refine wp_seq_k fun K23 hK23 => ?_
            refine wp_seq_k fun K24 hK24 => ?_
            refine c_region ?_
            refine s_op (o_move (v := (.int .i64 (i : Int))) e18_7 ?_)
            refine s_op (o_move (v := (.int .i64 (m : Int))) e18_1 ?_)
            refine s_op (o_lss (a := (i : Int)) (b := (m : Int)) rfl rfl ?_)
            refine s_nil ?_
            refine t_norm (hK24 _ _ ?_)
            refine c_cond rfl (fun h25 => ?_) (fun h25 => ?_)
            · -- (i : Int) < (m : Int)
              refine wp_skip ?_
              refine t_norm (hK23 _ _ ?_)
              refine wp_seq_k fun K26 hK26 => ?_
              refine wp_block ?_
              refine c_region ?_
              refine s_op (o_move (v := (.int .i64 y)) e18_6 ?_)
              refine s_op (o_mul (a := 256) (b := y) rfl rfl (w64 (by omega) (by omega)) ?_)
              refine s_op (o_move (v := (S s)) e18_0 ?_)
              refine s_op (o_move (v := (.int .i64 (i : Int))) e18_7 ?_)
              obtain ⟨c27, hx28⟩ : ∃ x_, s[((i : Int)).toNat]? = some x_ := get_some (by omega)
              have c27_lt := c27.toNat_lt
              refine s_op (o_sidx Tryz.underlying9 rfl rfl (by omega) hx28 ?_)
              refine s_op (o_conv Tryz.underlying5 Tryz.underlying3 rfl (w_u8 _) ?_)
              refine s_op (o_add (a := 256 * y) (b := (c27.toNat : Int)) rfl rfl (w64 (by omega) (by omega)) ?_)
              refine s_op (o_assign (v := (.int .i64 ((256 * y) + (c27.toNat : Int)))) rfl ?_)
              refine s_nil ?_
              refine b_norm ?_
              refine t_norm (hK26 _ _ ?_)
              refine c_region ?_
              refine s_op (o_move (v := (.int .i64 (i : Int))) e18_7 ?_)
              refine s_op (o_add (a := (i : Int)) (b := 1) rfl rfl (w64 (by omega) (by omega)) ?_)
              refine s_op (o_assign (v := (.int .i64 ((i : Int) + 1))) rfl ?_)
              refine s_nil ?_
              refine t_norm ⟨m - (i + 1), _, rfl, ?_, ?_⟩
              · omega
              · exact ⟨(i + 1), ((256 * y) + (c27.toNat : Int)), rfl, hH21, (by omega), (by rw [take_succ_of (by simpa using hx28), beVal_snoc, ← hy]; omega), e18_0, e18_1, e18_4, e18_5, rfl, rfl, e18_28⟩
            · -- not: (i : Int) < (m : Int)
              refine wp_exit ?_
              refine t_exit (t_exit (x_in (?_)))
              refine t_norm (hK16 _ _ ?_)
              refine wp_seq_k fun K29 hK29 => ?_
              refine c_region ?_
              refine s_op (o_move (v := (.int .i64 y)) e18_6 ?_)
              refine s_op (o_assign (v := (.int .i64 y)) rfl ?_)
              refine s_op (o_assign (v := (.bool true)) rfl ?_)
              refine s_nil ?_
              refine t_norm (hK29 _ _ ?_)
              refine wp_ret ?_
              refine c_ret2 Tryz.results35  (v := (.int .i64 y)) rfl (x := (.bool true)) rfl ?_
              have e : i = m := by omega
              rw [e] at hy
              exact ⟨by rw [takeS_yes (by omega) (by omega) (by omega) (.inr (first_byte (by simpa using hx12) (by omega))), hy], hH21⟩
        · -- not: (m : Int) = 8
          refine s_off (b' := false) 23 rfl (congrArg Value.bool (decide_eq_false h10)) rfl ?_
          refine s_off (b' := false) 23 rfl (congrArg Value.bool (decide_eq_false h10)) rfl ?_
          refine s_off (b' := false) 23 rfl (congrArg Value.bool (decide_eq_false h10)) rfl ?_
          refine s_on 20 rfl (congrArg Value.bool (decide_eq_false h8)) (o_pick_f (u := (.bool false)) ((rfl : _ = _).trans (congrArg Value.bool (decide_eq_false h10))) rfl ?_)
          refine s_op (o_pick_f (u := (.bool false)) ((rfl : _ = _).trans (congrArg Value.bool (decide_eq_false h8))) rfl ?_)
          refine s_nil ?_
          refine t_norm (hK3 _ _ ?_)
          refine c_false rfl rfl ?_
          refine wp_skip ?_
          refine t_norm (hK2 _ _ ?_)
          refine wp_seq_k fun K30 hK30 => ?_
          refine c_region ?_
          refine s_op (o_assign (v := (.int .i64 0)) rfl ?_)
          refine s_nil ?_
          refine t_norm (hK30 _ _ ?_)
          refine wp_seq_k fun K31 hK31 => ?_
          refine wp_seq_k fun K32 hK32 => ?_
          refine c_region ?_
          refine s_op (o_assign (v := (.int .i64 0)) rfl ?_)
          refine s_nil ?_
          refine t_norm (hK32 _ _ ?_)
          refine wp_block ?_
          let I34 : Nat → (Nat → Value) → World → Prop := fun n__ r__ w__ => ∃ (i : Nat) (y : Int), n__ = m - i ∧ Has E w__ [R] ∧ (i ≤ m) ∧ (y = beVal (s.take i)) ∧ r__ 0 = (S s) ∧ r__ 1 = (.int .i64 (m : Int)) ∧ r__ 4 = (.int .i64 0) ∧ r__ 5 = (.bool false) ∧ r__ 6 = (.int .i64 y) ∧ r__ 7 = (.int .i64 (i : Int)) ∧ r__ 28 = (.bool false)
          refine c_loop I34 _ ⟨0, 0, rfl, hH, Nat.zero_le _, rfl, rfl, rfl, rfl, rfl, rfl, rfl, rfl⟩ ?_
          rintro n_ r37 w35 ⟨i, y, rfl, hH36, hi, hy, e33_0, e33_1, e33_4, e33_5, e33_6, e33_7, e33_28⟩
          have hb0 := beVal_nonneg (s.take i)
          have hb1 : i < m → beVal (s.take i) < 36028797018963968 := fun h => beVal_lt h (by omega) (by omega) (.inl (by omega))
          refine wp_seq_k fun K38 hK38 => ?_
          refine wp_seq_k fun K39 hK39 => ?_
          refine c_region ?_
          refine s_op (o_move (v := (.int .i64 (i : Int))) e33_7 ?_)
          refine s_op (o_move (v := (.int .i64 (m : Int))) e33_1 ?_)
          refine s_op (o_lss (a := (i : Int)) (b := (m : Int)) rfl rfl ?_)
          refine s_nil ?_
          refine t_norm (hK39 _ _ ?_)
          refine c_cond rfl (fun h40 => ?_) (fun h40 => ?_)
          · -- (i : Int) < (m : Int)
            refine wp_skip ?_
            refine t_norm (hK38 _ _ ?_)
            refine wp_seq_k fun K41 hK41 => ?_
            refine wp_block ?_
            refine c_region ?_
            refine s_op (o_move (v := (.int .i64 y)) e33_6 ?_)
            refine s_op (o_mul (a := 256) (b := y) rfl rfl (w64 (by omega) (by omega)) ?_)
            refine s_op (o_move (v := (S s)) e33_0 ?_)
            refine s_op (o_move (v := (.int .i64 (i : Int))) e33_7 ?_)
            obtain ⟨c42, hx43⟩ : ∃ x_, s[((i : Int)).toNat]? = some x_ := get_some (by omega)
            have c42_lt := c42.toNat_lt
            refine s_op (o_sidx Tryz.underlying9 rfl rfl (by omega) hx43 ?_)
            refine s_op (o_conv Tryz.underlying5 Tryz.underlying3 rfl (w_u8 _) ?_)
            refine s_op (o_add (a := 256 * y) (b := (c42.toNat : Int)) rfl rfl (w64 (by omega) (by omega)) ?_)
            refine s_op (o_assign (v := (.int .i64 ((256 * y) + (c42.toNat : Int)))) rfl ?_)
            refine s_nil ?_
            refine b_norm ?_
            refine t_norm (hK41 _ _ ?_)
            refine c_region ?_
            refine s_op (o_move (v := (.int .i64 (i : Int))) e33_7 ?_)
            refine s_op (o_add (a := (i : Int)) (b := 1) rfl rfl (w64 (by omega) (by omega)) ?_)
            refine s_op (o_assign (v := (.int .i64 ((i : Int) + 1))) rfl ?_)
            refine s_nil ?_
            refine t_norm ⟨m - (i + 1), _, rfl, ?_, ?_⟩
            · omega
            · exact ⟨(i + 1), ((256 * y) + (c42.toNat : Int)), rfl, hH36, (by omega), (by rw [take_succ_of (by simpa using hx43), beVal_snoc, ← hy]; omega), e33_0, e33_1, e33_4, e33_5, rfl, rfl, e33_28⟩
          · -- not: (i : Int) < (m : Int)
            refine wp_exit ?_
            refine t_exit (t_exit (x_in (?_)))
            refine t_norm (hK31 _ _ ?_)
            refine wp_seq_k fun K44 hK44 => ?_
            refine c_region ?_
            refine s_op (o_move (v := (.int .i64 y)) e33_6 ?_)
            refine s_op (o_assign (v := (.int .i64 y)) rfl ?_)
            refine s_op (o_assign (v := (.bool true)) rfl ?_)
            refine s_nil ?_
            refine t_norm (hK44 _ _ ?_)
            refine wp_ret ?_
            refine c_ret2 Tryz.results35  (v := (.int .i64 y)) rfl (x := (.bool true)) rfl ?_
            have e : i = m := by omega
            rw [e] at hy
            exact ⟨by rw [takeS_yes (by omega) (by omega) (by omega) (.inl (by omega)), hy], hH36⟩
set_option maxHeartbeats 4000000 in
theorem rlaid_c {E w : World} {R : List Hp} (hH : Has E w [R]) (m : Nat) (hm : 1 ≤ m ∧ m ≤ 8) (n : Int) (hn : -9223372036854775808 ≤ n ∧ n ≤ 9223372036854775807) (hf : fitsS n m = true) :
    Calls Tryz.prog 32 #[(.int .i64 (m : Int)), (.int .i64 n)] w fun e w' => e = .returned (S (beFrom n m)) ∧ Has E w' [R] := by
  refine c_enter (args := [(.int .i64 (m : Int)), (.int .i64 n)]) Tryz.func32 rfl Tryz.ntmps32 (by simp) ?_
  refine wp_seq_k fun K1 hK1 => ?_
  refine c_region ?_
  refine s_op (o_assign (v := (S ([] : List UInt8))) rfl ?_)
  refine s_nil ?_
  refine t_norm (hK1 _ _ ?_)
  refine wp_seq_k fun K2 hK2 => ?_
  refine c_region ?_
  refine s_op (o_move (v := (.int .i64 (m : Int))) rfl ?_)
  refine s_op (o_move (v := (.int .i64 n)) rfl ?_)
  refine s_op (o_callf (vs := #[(.int .i64 (m : Int)), (.int .i64 n)]) ca55 rfl (args2 rfl rfl) (refPut_c hH.all m hm n hn) ?_)
  rintro _ w7 ⟨t3, rfl, _, ht4, hX5⟩
  refine ⟨_, rfl, ?_⟩
  have hH6 : Has E w7 [R] := hX5.of_all
  refine s_op (o_move (v := (.tuple #[(S t3), (.bool (fitsS n m))])) rfl ?_)
  refine s_op (o_extract (v := (S t3)) rfl rfl ?_)
  refine s_op (o_extract (v := (.bool (fitsS n m))) rfl rfl ?_)
  refine s_op (o_assign (v := (S t3)) rfl ?_)
  refine s_op (o_assign (v := (.bool (fitsS n m))) rfl ?_)
  refine s_nil ?_
  refine t_norm (hK2 _ _ ?_)
  refine wp_seq_k fun K8 hK8 => ?_
  refine c_region ?_
  refine s_op (o_move (v := (S t3)) rfl ?_)
  refine s_op (o_assign (v := (S t3)) rfl ?_)
  refine s_nil ?_
  refine t_norm (hK8 _ _ ?_)
  refine wp_ret ?_
  refine c_ret1 Tryz.results32  (v := (S t3)) rfl ?_
  exact ⟨by rw [ht4 hf], hH6⟩
end Go.Q
namespace Go.Q
open Go.Proofs
set_option linter.unusedVariables false
set_option maxRecDepth 100000
attribute [local irreducible] wpList OK Code.wp
set_option maxHeartbeats 4000000 in
theorem small7_c {E w : World} {R : List Hp} {n : Int}  (hH : Has E w [R]) :
    Calls Tryz.prog 31 #[(.int .i64 n)] w fun e w' => e = .returned (.bool (decide (0 ≤ n ∧ n ≤ 4611686018427387903))) ∧ Has E w' [R] := by
  refine c_enter (args := [(.int .i64 n)]) Tryz.func31 rfl Tryz.ntmps31 (by simp) ?_
  refine wp_seq_k fun K1 hK1 => ?_
  refine c_region ?_
  refine s_op (o_assign (v := (.bool false)) rfl ?_)
  refine s_nil ?_
  refine t_norm (hK1 _ _ ?_)
  refine wp_seq_k fun K2 hK2 => ?_
  refine c_region ?_
  refine s_op (o_move (v := (.int .i64 n)) rfl ?_)
  refine s_op (o_geq (a := n) (b := 0) rfl rfl ?_)
  refine s_op (o_move (v := (.bool (decide (0 ≤ n)))) rfl ?_)
  by_cases h3 : 0 ≤ n
  · -- 0 ≤ n
    refine s_on 5 rfl (congrArg Value.bool (decide_eq_true h3)) (o_move (v := (.int .i64 n)) rfl ?_)
    refine s_on 5 rfl (congrArg Value.bool (decide_eq_true h3)) (o_lss (a := n) (b := 4611686018427387904) rfl rfl ?_)
    refine s_op (o_pick_t (u := (.bool (decide (n < 4611686018427387904)))) ((rfl : _ = _).trans (congrArg Value.bool (decide_eq_true h3))) rfl ?_)
    refine s_op (o_assign (v := (.bool (decide (n < 4611686018427387904)))) rfl ?_)
    refine s_nil ?_
    refine t_norm (hK2 _ _ ?_)
    refine wp_ret ?_
    refine c_ret1 Tryz.results31  (v := (.bool (decide (n < 4611686018427387904)))) rfl ?_
    have q4 : decide (0 ≤ n ∧ n ≤ 4611686018427387903) = decide (n < 4611686018427387904) := by first | (rw [decide_eq_decide]; omega) | (rw [decide_eq_false_iff_not]; omega)
    exact ⟨by rw [q4], hH⟩
  · -- not: 0 ≤ n
    refine s_off (b' := false) 5 rfl (congrArg Value.bool (decide_eq_false h3)) rfl ?_
    refine s_off (b' := false) 5 rfl (congrArg Value.bool (decide_eq_false h3)) rfl ?_
    refine s_op (o_pick_f (u := (.bool false)) ((rfl : _ = _).trans (congrArg Value.bool (decide_eq_false h3))) rfl ?_)
    refine s_op (o_assign (v := (.bool false)) rfl ?_)
    refine s_nil ?_
    refine t_norm (hK2 _ _ ?_)
    refine wp_ret ?_
    refine c_ret1 Tryz.results31  (v := (.bool false)) rfl ?_
    have q5 : decide (0 ≤ n ∧ n ≤ 4611686018427387903) = false := by first | (rw [decide_eq_decide]; omega) | (rw [decide_eq_false_iff_not]; omega)
    exact ⟨by rw [q5], hH⟩
set_option maxHeartbeats 4000000 in
theorem r7right_c {E w : World} {R : List Hp} {h : Hd}  (hH : Has E w [R]) :
    Calls Tryz.prog 10 #[(.agg #[(.int .i64 h.seq), (.int .i64 h.ep), (.int .i64 h.cut), (.int .i64 h.st), (.int .i64 h.mrk)])] w fun e w' => e = .returned (.bool (hdR h)) ∧ Has E w' [R] := by
  refine c_enter (args := [(.agg #[(.int .i64 h.seq), (.int .i64 h.ep), (.int .i64 h.cut), (.int .i64 h.st), (.int .i64 h.mrk)])]) Tryz.func10 rfl Tryz.ntmps10 (by simp) ?_
  refine wp_seq_k fun K1 hK1 => ?_
  refine c_region ?_
  refine s_op (o_box (cs := #[(.int .i64 h.seq), (.int .i64 h.ep), (.int .i64 h.cut), (.int .i64 h.st), (.int .i64 h.mrk)]) rfl rfl hH fun b2 w3 hH4 => ?_)
  refine s_op (o_assign (v := (.bool false)) rfl ?_)
  refine s_nil ?_
  refine t_norm (hK1 _ _ ?_)
  refine wp_seq_k fun K5 hK5 => ?_
  refine c_region ?_
  refine s_op (o_fieldAddr (k := 0) (fun _ => by kernel_rfl) rfl ?_)
  refine s_op (o_load1 (v := (.int .i64 h.seq)) Tryz.underlying3 rfl rfl hH4 (seg_sub 0 rfl) (CellsAt.one rfl) ?_)
  refine s_op (o_callf (vs := #[(.int .i64 h.seq)]) ca31 rfl (args1 rfl) (small7_c (n := h.seq) hH4.all ) ?_)
  rintro _ w8 ⟨rfl, hX6⟩
  refine ⟨_, rfl, ?_⟩
  have hH7 := hX6.of_all
  refine s_op (o_move (v := (.bool (decide (0 ≤ h.seq ∧ h.seq ≤ 4611686018427387903)))) rfl ?_)
  by_cases h9 : 0 ≤ h.seq ∧ h.seq ≤ 4611686018427387903
  · -- 0 ≤ h.seq ∧ h.seq ≤ 4611686018427387903
    refine s_on 6 rfl (congrArg Value.bool (decide_eq_true h9)) (o_fieldAddr (k := 1) (fun _ => by kernel_rfl) rfl ?_)
    refine s_on 6 rfl (congrArg Value.bool (decide_eq_true h9)) (o_load1 (v := (.int .i64 h.ep)) Tryz.underlying3 rfl rfl hH7 (seg_sub 0 rfl) (CellsAt.one rfl) ?_)
    refine s_on 6 rfl (congrArg Value.bool (decide_eq_true h9)) (o_geq (a := h.ep) (b := 0) rfl rfl ?_)
    refine s_op (o_pick_t (u := (.bool (decide (0 ≤ h.ep)))) ((rfl : _ = _).trans (congrArg Value.bool (decide_eq_true h9))) rfl ?_)
    refine s_op (o_move (v := (.bool (decide (0 ≤ h.ep)))) rfl ?_)
    by_cases h10 : 0 ≤ h.ep
    · -- 0 ≤ h.ep
      refine s_on 11 rfl (congrArg Value.bool (decide_eq_true h10)) (o_fieldAddr (k := 1) (fun _ => by kernel_rfl) rfl ?_)
      refine s_on 11 rfl (congrArg Value.bool (decide_eq_true h10)) (o_load1 (v := (.int .i64 h.ep)) Tryz.underlying3 rfl rfl hH7 (seg_sub 0 rfl) (CellsAt.one rfl) ?_)
      refine s_on 11 rfl (congrArg Value.bool (decide_eq_true h10)) (o_lss (a := h.ep) (b := 2147483648) rfl rfl ?_)
      refine s_op (o_pick_t (u := (.bool (decide (h.ep < 2147483648)))) ((rfl : _ = _).trans (congrArg Value.bool (decide_eq_true h10))) rfl ?_)
      refine s_op (o_move (v := (.bool (decide (h.ep < 2147483648)))) rfl ?_)
      by_cases h11 : h.ep < 2147483648
      · -- h.ep < 2147483648
        refine s_on 16 rfl (congrArg Value.bool (decide_eq_true h11)) (o_fieldAddr (k := 2) (fun _ => by kernel_rfl) rfl ?_)
        refine s_on 16 rfl (congrArg Value.bool (decide_eq_true h11)) (o_load1 (v := (.int .i64 h.cut)) Tryz.underlying3 rfl rfl hH7 (seg_sub 0 rfl) (CellsAt.one rfl) ?_)
        refine s_on 16 rfl (congrArg Value.bool (decide_eq_true h11)) (o_callf (vs := #[(.int .i64 h.cut)]) ca31 rfl (args1 rfl) (small7_c (n := h.cut) hH7.all ) ?_)
        rintro _ w14 ⟨rfl, hX12⟩
        refine ⟨_, rfl, ?_⟩
        have hH13 := hX12.of_all
        refine s_op (o_pick_t (u := (.bool (decide (0 ≤ h.cut ∧ h.cut ≤ 4611686018427387903)))) ((rfl : _ = _).trans (congrArg Value.bool (decide_eq_true h11))) rfl ?_)
        refine s_op (o_move (v := (.bool (decide (0 ≤ h.cut ∧ h.cut ≤ 4611686018427387903)))) rfl ?_)
        by_cases h15 : 0 ≤ h.cut ∧ h.cut ≤ 4611686018427387903
        · -- 0 ≤ h.cut ∧ h.cut ≤ 4611686018427387903
          refine s_on 21 rfl (congrArg Value.bool (decide_eq_true h15)) (o_fieldAddr (k := 3) (fun _ => by kernel_rfl) rfl ?_)
          refine s_on 21 rfl (congrArg Value.bool (decide_eq_true h15)) (o_load1 (v := (.int .i64 h.st)) Tryz.underlying3 rfl rfl hH13 (seg_sub 0 rfl) (CellsAt.one rfl) ?_)
          refine s_on 21 rfl (congrArg Value.bool (decide_eq_true h15)) (o_callf (vs := #[(.int .i64 h.st)]) ca31 rfl (args1 rfl) (small7_c (n := h.st) hH13.all ) ?_)
          rintro _ w18 ⟨rfl, hX16⟩
          refine ⟨_, rfl, ?_⟩
          have hH17 := hX16.of_all
          refine s_op (o_pick_t (u := (.bool (decide (0 ≤ h.st ∧ h.st ≤ 4611686018427387903)))) ((rfl : _ = _).trans (congrArg Value.bool (decide_eq_true h15))) rfl ?_)
          refine s_op (o_move (v := (.bool (decide (0 ≤ h.st ∧ h.st ≤ 4611686018427387903)))) rfl ?_)
          by_cases h19 : 0 ≤ h.st ∧ h.st ≤ 4611686018427387903
          · -- 0 ≤ h.st ∧ h.st ≤ 4611686018427387903
            refine s_on 26 rfl (congrArg Value.bool (decide_eq_true h19)) (o_fieldAddr (k := 4) (fun _ => by kernel_rfl) rfl ?_)
            refine s_on 26 rfl (congrArg Value.bool (decide_eq_true h19)) (o_load1 (v := (.int .i64 h.mrk)) Tryz.underlying3 rfl rfl hH17 (seg_sub 0 rfl) (CellsAt.one rfl) ?_)
            refine s_on 26 rfl (congrArg Value.bool (decide_eq_true h19)) (o_callf (vs := #[(.int .i64 h.mrk)]) ca31 rfl (args1 rfl) (small7_c (n := h.mrk) hH17.all ) ?_)
            rintro _ w22 ⟨rfl, hX20⟩
            refine ⟨_, rfl, ?_⟩
            have hH21 := hX20.of_all
            refine s_op (o_pick_t (u := (.bool (decide (0 ≤ h.mrk ∧ h.mrk ≤ 4611686018427387903)))) ((rfl : _ = _).trans (congrArg Value.bool (decide_eq_true h19))) rfl ?_)
            refine s_op (o_assign (v := (.bool (decide (0 ≤ h.mrk ∧ h.mrk ≤ 4611686018427387903)))) rfl ?_)
            refine s_nil ?_
            refine t_norm (hK5 _ _ ?_)
            refine wp_ret ?_
            refine c_ret1 Tryz.results10  (v := (.bool (decide (0 ≤ h.mrk ∧ h.mrk ≤ 4611686018427387903)))) rfl ?_
            have q23 : (hdR h) = decide (0 ≤ h.mrk ∧ h.mrk ≤ 4611686018427387903) := by unfold hdR; first | (rw [decide_eq_decide]; omega) | (rw [decide_eq_false_iff_not]; omega)
            have hH24 : Has E w22 [R] := (hH21.front 1 rfl).first 1 rfl
            exact ⟨by rw [q23], hH24⟩
          · -- not: 0 ≤ h.st ∧ h.st ≤ 4611686018427387903
            refine s_off (b' := false) 26 rfl (congrArg Value.bool (decide_eq_false h19)) rfl ?_
            refine s_off (b' := false) 26 rfl (congrArg Value.bool (decide_eq_false h19)) rfl ?_
            refine s_off (b' := false) 26 rfl (congrArg Value.bool (decide_eq_false h19)) rfl ?_
            refine s_op (o_pick_f (u := (.bool false)) ((rfl : _ = _).trans (congrArg Value.bool (decide_eq_false h19))) rfl ?_)
            refine s_op (o_assign (v := (.bool false)) rfl ?_)
            refine s_nil ?_
            refine t_norm (hK5 _ _ ?_)
            refine wp_ret ?_
            refine c_ret1 Tryz.results10  (v := (.bool false)) rfl ?_
            have q25 : (hdR h) = false := by unfold hdR; first | (rw [decide_eq_decide]; omega) | (rw [decide_eq_false_iff_not]; omega)
            have hH26 : Has E w18 [R] := (hH17.front 1 rfl).first 1 rfl
            exact ⟨by rw [q25], hH26⟩
        · -- not: 0 ≤ h.cut ∧ h.cut ≤ 4611686018427387903
          refine s_off (b' := false) 21 rfl (congrArg Value.bool (decide_eq_false h15)) rfl ?_
          refine s_off (b' := false) 21 rfl (congrArg Value.bool (decide_eq_false h15)) rfl ?_
          refine s_off (b' := false) 21 rfl (congrArg Value.bool (decide_eq_false h15)) rfl ?_
          refine s_op (o_pick_f (u := (.bool false)) ((rfl : _ = _).trans (congrArg Value.bool (decide_eq_false h15))) rfl ?_)
          refine s_op (o_move (v := (.bool false)) rfl ?_)
          refine s_off (b' := false) 26 rfl rfl rfl ?_
          refine s_off (b' := false) 26 rfl rfl rfl ?_
          refine s_off (b' := false) 26 rfl rfl rfl ?_
          refine s_op (o_pick_f (u := (.bool false)) rfl rfl ?_)
          refine s_op (o_assign (v := (.bool false)) rfl ?_)
          refine s_nil ?_
          refine t_norm (hK5 _ _ ?_)
          refine wp_ret ?_
          refine c_ret1 Tryz.results10  (v := (.bool false)) rfl ?_
          have q27 : (hdR h) = false := by unfold hdR; first | (rw [decide_eq_decide]; omega) | (rw [decide_eq_false_iff_not]; omega)
          have hH28 : Has E w14 [R] := (hH13.front 1 rfl).first 1 rfl
          exact ⟨by rw [q27], hH28⟩
      · -- not: h.ep < 2147483648
        refine s_off (b' := false) 16 rfl (congrArg Value.bool (decide_eq_false h11)) rfl ?_
        refine s_off (b' := false) 16 rfl (congrArg Value.bool (decide_eq_false h11)) rfl ?_
        refine s_off (b' := false) 16 rfl (congrArg Value.bool (decide_eq_false h11)) rfl ?_
        refine s_op (o_pick_f (u := (.bool false)) ((rfl : _ = _).trans (congrArg Value.bool (decide_eq_false h11))) rfl ?_)
        refine s_op (o_move (v := (.bool false)) rfl ?_)
        refine s_off (b' := false) 21 rfl rfl rfl ?_
        refine s_off (b' := false) 21 rfl rfl rfl ?_
        refine s_off (b' := false) 21 rfl rfl rfl ?_
        refine s_op (o_pick_f (u := (.bool false)) rfl rfl ?_)
        refine s_op (o_move (v := (.bool false)) rfl ?_)
        refine s_off (b' := false) 26 rfl rfl rfl ?_
        refine s_off (b' := false) 26 rfl rfl rfl ?_
        refine s_off (b' := false) 26 rfl rfl rfl ?_
        refine s_op (o_pick_f (u := (.bool false)) rfl rfl ?_)
        refine s_op (o_assign (v := (.bool false)) rfl ?_)
        refine s_nil ?_
        refine t_norm (hK5 _ _ ?_)
        refine wp_ret ?_
        refine c_ret1 Tryz.results10  (v := (.bool false)) rfl ?_
        have q29 : (hdR h) = false := by unfold hdR; first | (rw [decide_eq_decide]; omega) | (rw [decide_eq_false_iff_not]; omega)
        have hH30 : Has E w8 [R] := (hH7.front 1 rfl).first 1 rfl
        exact ⟨by rw [q29], hH30⟩
    · -- not: 0 ≤ h.ep
      refine s_off (b' := false) 11 rfl (congrArg Value.bool (decide_eq_false h10)) rfl ?_
      refine s_off (b' := false) 11 rfl (congrArg Value.bool (decide_eq_false h10)) rfl ?_
      refine s_off (b' := false) 11 rfl (congrArg Value.bool (decide_eq_false h10)) rfl ?_
      refine s_op (o_pick_f (u := (.bool false)) ((rfl : _ = _).trans (congrArg Value.bool (decide_eq_false h10))) rfl ?_)
      refine s_op (o_move (v := (.bool false)) rfl ?_)
      refine s_off (b' := false) 16 rfl rfl rfl ?_
      refine s_off (b' := false) 16 rfl rfl rfl ?_
      refine s_off (b' := false) 16 rfl rfl rfl ?_
      refine s_op (o_pick_f (u := (.bool false)) rfl rfl ?_)
      refine s_op (o_move (v := (.bool false)) rfl ?_)
      refine s_off (b' := false) 21 rfl rfl rfl ?_
      refine s_off (b' := false) 21 rfl rfl rfl ?_
      refine s_off (b' := false) 21 rfl rfl rfl ?_
      refine s_op (o_pick_f (u := (.bool false)) rfl rfl ?_)
      refine s_op (o_move (v := (.bool false)) rfl ?_)
      refine s_off (b' := false) 26 rfl rfl rfl ?_
      refine s_off (b' := false) 26 rfl rfl rfl ?_
      refine s_off (b' := false) 26 rfl rfl rfl ?_
      refine s_op (o_pick_f (u := (.bool false)) rfl rfl ?_)
      refine s_op (o_assign (v := (.bool false)) rfl ?_)
      refine s_nil ?_
      refine t_norm (hK5 _ _ ?_)
      refine wp_ret ?_
      refine c_ret1 Tryz.results10  (v := (.bool false)) rfl ?_
      have q31 : (hdR h) = false := by unfold hdR; first | (rw [decide_eq_decide]; omega) | (rw [decide_eq_false_iff_not]; omega)
      have hH32 : Has E w8 [R] := (hH7.front 1 rfl).first 1 rfl
      exact ⟨by rw [q31], hH32⟩
  · -- not: 0 ≤ h.seq ∧ h.seq ≤ 4611686018427387903
    refine s_off (b' := false) 6 rfl (congrArg Value.bool (decide_eq_false h9)) rfl ?_
    refine s_off (b' := false) 6 rfl (congrArg Value.bool (decide_eq_false h9)) rfl ?_
    refine s_off (b' := false) 6 rfl (congrArg Value.bool (decide_eq_false h9)) rfl ?_
    refine s_op (o_pick_f (u := (.bool false)) ((rfl : _ = _).trans (congrArg Value.bool (decide_eq_false h9))) rfl ?_)
    refine s_op (o_move (v := (.bool false)) rfl ?_)
    refine s_off (b' := false) 11 rfl rfl rfl ?_
    refine s_off (b' := false) 11 rfl rfl rfl ?_
    refine s_off (b' := false) 11 rfl rfl rfl ?_
    refine s_op (o_pick_f (u := (.bool false)) rfl rfl ?_)
    refine s_op (o_move (v := (.bool false)) rfl ?_)
    refine s_off (b' := false) 16 rfl rfl rfl ?_
    refine s_off (b' := false) 16 rfl rfl rfl ?_
    refine s_off (b' := false) 16 rfl rfl rfl ?_
    refine s_op (o_pick_f (u := (.bool false)) rfl rfl ?_)
    refine s_op (o_move (v := (.bool false)) rfl ?_)
    refine s_off (b' := false) 21 rfl rfl rfl ?_
    refine s_off (b' := false) 21 rfl rfl rfl ?_
    refine s_off (b' := false) 21 rfl rfl rfl ?_
    refine s_op (o_pick_f (u := (.bool false)) rfl rfl ?_)
    refine s_op (o_move (v := (.bool false)) rfl ?_)
    refine s_off (b' := false) 26 rfl rfl rfl ?_
    refine s_off (b' := false) 26 rfl rfl rfl ?_
    refine s_off (b' := false) 26 rfl rfl rfl ?_
    refine s_op (o_pick_f (u := (.bool false)) rfl rfl ?_)
    refine s_op (o_assign (v := (.bool false)) rfl ?_)
    refine s_nil ?_
    refine t_norm (hK5 _ _ ?_)
    refine wp_ret ?_
    refine c_ret1 Tryz.results10  (v := (.bool false)) rfl ?_
    have q33 : (hdR h) = false := by unfold hdR; first | (rw [decide_eq_decide]; omega) | (rw [decide_eq_false_iff_not]; omega)
    have hH34 : Has E w8 [R] := (hH7.front 1 rfl).first 1 rfl
    exact ⟨by rw [q33], hH34⟩
set_option maxHeartbeats 4000000 in
theorem r7laid_c {E w : World} {R : List Hp} {h : Hd}  (hH : Has E w [R]) (hr : hdR h = true) :
    Calls Tryz.prog 11 #[(.agg #[(.int .i64 h.seq), (.int .i64 h.ep), (.int .i64 h.cut), (.int .i64 h.st), (.int .i64 h.mrk)])] w fun e w' => e = .returned (S (hdL h)) ∧ Has E w' [R] := by
  obtain ⟨b1_, b2_, b3_, b4_, b5_⟩ := of_decide_eq_true hr
  refine c_enter (args := [(.agg #[(.int .i64 h.seq), (.int .i64 h.ep), (.int .i64 h.cut), (.int .i64 h.st), (.int .i64 h.mrk)])]) Tryz.func11 rfl Tryz.ntmps11 (by simp) ?_
  refine wp_seq_k fun K1 hK1 => ?_
  refine c_region ?_
  refine s_op (o_box (cs := #[(.int .i64 h.seq), (.int .i64 h.ep), (.int .i64 h.cut), (.int .i64 h.st), (.int .i64 h.mrk)]) rfl rfl hH fun b2 w3 hH4 => ?_)
  refine s_op (o_assign (v := (S ([] : List UInt8))) rfl ?_)
  refine s_nil ?_
  refine t_norm (hK1 _ _ ?_)
  refine wp_seq_k fun K5 hK5 => ?_
  refine Rest.region mixed (by kernel_rfl) ?_
  have hH6 : Has E { w3 with drawn := w3.drawn + 1 } [[Hp.one b2 (.cells #[(.int .i64 h.seq), (.int .i64 h.ep), (.int .i64 h.cut), (.int .i64 h.st), (.int .i64 h.mrk)] 23 (0, 0))], R] := Has0.drew hH4 _
  refine Rest.phaseA (fun w_ => Has E w_ [[Hp.one b2 (.cells #[(.int .i64 h.seq), (.int .i64 h.ep), (.int .i64 h.cut), (.int .i64 h.st), (.int .i64 h.mrk)] 23 (0, 0))]]) 0 18 18 rfl (by decide) (by kernel_rfl) ?_
  refine a_op 0 rfl (by kernel_rfl) (fun w_ h_ => o_fieldAddr (k := 0) (fun _ => by kernel_rfl) rfl ⟨rfl, rfl⟩) ?_
  refine a_op 1 rfl (by kernel_rfl) (fun w_ h_ => o_load1 (v := (.int .i64 h.seq)) Tryz.underlying3 rfl rfl h_ (seg_sub 0 rfl) (CellsAt.one rfl) ⟨rfl, rfl⟩) ?_
  refine a_op 3 rfl (by kernel_rfl) (fun w_ h_ => o_fieldAddr (k := 1) (fun _ => by kernel_rfl) rfl ⟨rfl, rfl⟩) ?_
  refine a_op 4 rfl (by kernel_rfl) (fun w_ h_ => o_load1 (v := (.int .i64 h.ep)) Tryz.underlying3 rfl rfl h_ (seg_sub 0 rfl) (CellsAt.one rfl) ⟨rfl, rfl⟩) ?_
  refine a_op 7 rfl (by kernel_rfl) (fun w_ h_ => o_fieldAddr (k := 2) (fun _ => by kernel_rfl) rfl ⟨rfl, rfl⟩) ?_
  refine a_op 8 rfl (by kernel_rfl) (fun w_ h_ => o_load1 (v := (.int .i64 h.cut)) Tryz.underlying3 rfl rfl h_ (seg_sub 0 rfl) (CellsAt.one rfl) ⟨rfl, rfl⟩) ?_
  refine a_op 11 rfl (by kernel_rfl) (fun w_ h_ => o_fieldAddr (k := 3) (fun _ => by kernel_rfl) rfl ⟨rfl, rfl⟩) ?_
  refine a_op 12 rfl (by kernel_rfl) (fun w_ h_ => o_load1 (v := (.int .i64 h.st)) Tryz.underlying3 rfl rfl h_ (seg_sub 0 rfl) (CellsAt.one rfl) ⟨rfl, rfl⟩) ?_
  refine a_op 15 rfl (by kernel_rfl) (fun w_ h_ => o_fieldAddr (k := 4) (fun _ => by kernel_rfl) rfl ⟨rfl, rfl⟩) ?_
  refine a_op 16 rfl (by kernel_rfl) (fun w_ h_ => o_load1 (v := (.int .i64 h.mrk)) Tryz.underlying3 rfl rfl h_ (seg_sub 0 rfl) (CellsAt.one rfl) ⟨rfl, rfl⟩) ?_
  have hH7 : Has E { w3 with drawn := w3.drawn + 1 } [[Hp.one b2 (.cells #[(.int .i64 h.seq), (.int .i64 h.ep), (.int .i64 h.cut), (.int .i64 h.st), (.int .i64 h.mrk)] 23 (0, 0))]] := hH6.first 1 rfl
  refine a_w 2 rfl (by kernel_rfl) hH7 (o_callf (vs := #[(.int .i64 8), (.int .i64 h.seq)]) ca32 rfl (args2 rfl rfl) (rlaid_c hH6.all 8 (by decide) h.seq (by omega) (fits_lit (b := 9223372036854775808) (by omega) (by omega) (by decide) (by decide) (by omega))) ?_)
  rintro _ w10 ⟨rfl, hX8⟩
  refine ⟨_, rfl, ?_⟩
  have hH9 := hX8.of_all
  have hH11 : Has E w10 [[Hp.one b2 (.cells #[(.int .i64 h.seq), (.int .i64 h.ep), (.int .i64 h.cut), (.int .i64 h.st), (.int .i64 h.mrk)] 23 (0, 0))]] := hH9.first 1 rfl
  refine a_w 5 rfl (by kernel_rfl) hH11 (o_callf (vs := #[(.int .i64 8), (.int .i64 h.ep)]) ca32 rfl (args2 rfl rfl) (rlaid_c hH9.all 8 (by decide) h.ep (by omega) (fits_lit (b := 9223372036854775808) (by omega) (by omega) (by decide) (by decide) (by omega))) ?_)
  rintro _ w14 ⟨rfl, hX12⟩
  refine ⟨_, rfl, ?_⟩
  have hH13 := hX12.of_all
  refine a_op 6 rfl (by kernel_rfl) (fun w_ h_ => o_sadd rfl rfl (by simp only [List.length_append, List.length_cons, List.length_nil, beFrom_length, laidS_len]; omega) ⟨rfl, rfl⟩) ?_
  have hH15 : Has E w14 [[Hp.one b2 (.cells #[(.int .i64 h.seq), (.int .i64 h.ep), (.int .i64 h.cut), (.int .i64 h.st), (.int .i64 h.mrk)] 23 (0, 0))]] := hH13.first 1 rfl
  refine a_w 9 rfl (by kernel_rfl) hH15 (o_callf (vs := #[(.int .i64 8), (.int .i64 h.cut)]) ca32 rfl (args2 rfl rfl) (rlaid_c hH13.all 8 (by decide) h.cut (by omega) (fits_lit (b := 9223372036854775808) (by omega) (by omega) (by decide) (by decide) (by omega))) ?_)
  rintro _ w18 ⟨rfl, hX16⟩
  refine ⟨_, rfl, ?_⟩
  have hH17 := hX16.of_all
  refine a_op 10 rfl (by kernel_rfl) (fun w_ h_ => o_sadd rfl rfl (by simp only [List.length_append, List.length_cons, List.length_nil, beFrom_length, laidS_len]; omega) ⟨rfl, rfl⟩) ?_
  have hH19 : Has E w18 [[Hp.one b2 (.cells #[(.int .i64 h.seq), (.int .i64 h.ep), (.int .i64 h.cut), (.int .i64 h.st), (.int .i64 h.mrk)] 23 (0, 0))]] := hH17.first 1 rfl
  refine a_w 13 rfl (by kernel_rfl) hH19 (o_callf (vs := #[(.int .i64 8), (.int .i64 h.st)]) ca32 rfl (args2 rfl rfl) (rlaid_c hH17.all 8 (by decide) h.st (by omega) (fits_lit (b := 9223372036854775808) (by omega) (by omega) (by decide) (by decide) (by omega))) ?_)
  rintro _ w22 ⟨rfl, hX20⟩
  refine ⟨_, rfl, ?_⟩
  have hH21 := hX20.of_all
  refine a_op 14 rfl (by kernel_rfl) (fun w_ h_ => o_sadd rfl rfl (by simp only [List.length_append, List.length_cons, List.length_nil, beFrom_length, laidS_len]; omega) ⟨rfl, rfl⟩) ?_
  have hH23 : Has E w22 [[Hp.one b2 (.cells #[(.int .i64 h.seq), (.int .i64 h.ep), (.int .i64 h.cut), (.int .i64 h.st), (.int .i64 h.mrk)] 23 (0, 0))]] := hH21.first 1 rfl
  refine a_w 17 rfl (by kernel_rfl) hH23 (o_callf (vs := #[(.int .i64 8), (.int .i64 h.mrk)]) ca32 rfl (args2 rfl rfl) (rlaid_c hH21.all 8 (by decide) h.mrk (by omega) (fits_lit (b := 9223372036854775808) (by omega) (by omega) (by decide) (by decide) (by omega))) ?_)
  rintro _ w26 ⟨rfl, hX24⟩
  refine ⟨_, rfl, ?_⟩
  have hH25 := hX24.of_all
  have hH27 : Has E w26 [[Hp.one b2 (.cells #[(.int .i64 h.seq), (.int .i64 h.ep), (.int .i64 h.cut), (.int .i64 h.st), (.int .i64 h.mrk)] 23 (0, 0))]] := hH25.first 1 rfl
  refine a_done (by kernel_rfl) hH27 ?_
  refine r_op 18 rfl (by kernel_rfl) (o_sadd rfl rfl (by simp only [List.length_append, List.length_cons, List.length_nil, beFrom_length, laidS_len]; omega) ?_)
  refine r_op 19 rfl (by kernel_rfl) (o_assign (v := (S (((((beFrom h.seq 8) ++ (beFrom h.ep 8)) ++ (beFrom h.cut 8)) ++ (beFrom h.st 8)) ++ (beFrom h.mrk 8)))) rfl ?_)
  refine Rest.done (by kernel_rfl) ?_
  refine t_norm (hK5 _ _ ?_)
  refine wp_seq_k fun K28 hK28 => ?_
  refine c_region ?_
  refine s_op (o_move (v := (S (((((beFrom h.seq 8) ++ (beFrom h.ep 8)) ++ (beFrom h.cut 8)) ++ (beFrom h.st 8)) ++ (beFrom h.mrk 8)))) rfl ?_)
  refine s_op (o_move (v := (S (((((beFrom h.seq 8) ++ (beFrom h.ep 8)) ++ (beFrom h.cut 8)) ++ (beFrom h.st 8)) ++ (beFrom h.mrk 8)))) rfl ?_)
  refine s_op (o_callf (vs := #[(S (((((beFrom h.seq 8) ++ (beFrom h.ep 8)) ++ (beFrom h.cut 8)) ++ (beFrom h.st 8)) ++ (beFrom h.mrk 8)))]) ca33 rfl (args1 rfl) (reflaid_c hH25.all (((((beFrom h.seq 8) ++ (beFrom h.ep 8)) ++ (beFrom h.cut 8)) ++ (beFrom h.st 8)) ++ (beFrom h.mrk 8)) (by simp only [List.length_append, beFrom_length]; omega)) ?_)
  rintro _ w31 ⟨rfl, hX29⟩
  refine ⟨_, rfl, ?_⟩
  have hH30 := hX29.of_all
  refine s_op (o_sadd rfl rfl (by simp only [List.length_append, List.length_cons, List.length_nil, beFrom_length, laidS_len]; omega) ?_)
  refine s_op (o_assign (v := (S ((((((beFrom h.seq 8) ++ (beFrom h.ep 8)) ++ (beFrom h.cut 8)) ++ (beFrom h.st 8)) ++ (beFrom h.mrk 8)) ++ (laidS (crcS (((((beFrom h.seq 8) ++ (beFrom h.ep 8)) ++ (beFrom h.cut 8)) ++ (beFrom h.st 8)) ++ (beFrom h.mrk 8))))))) rfl ?_)
  refine s_nil ?_
  refine t_norm (hK28 _ _ ?_)
  refine wp_seq_k fun K32 hK32 => ?_
  refine wp_block ?_
  let I34 : Nat → (Nat → Value) → World → Prop := fun n__ r__ w__ => ∃ (u : Bs) (j : Nat), n__ = 64 - u.length ∧ Has E w__ [[Hp.one b2 (.cells #[(.int .i64 h.seq), (.int .i64 h.ep), (.int .i64 h.cut), (.int .i64 h.st), (.int .i64 h.mrk)] 23 (0, 0))], R] ∧ (u = sealS (hdN h) ++ List.replicate j 0) ∧ (u.length ≤ 64) ∧ r__ 0 = (.agg #[(.int .i64 h.seq), (.int .i64 h.ep), (.int .i64 h.cut), (.int .i64 h.st), (.int .i64 h.mrk)]) ∧ r__ 1 = (.pointer (some ⟨b2, 0, none⟩)) ∧ r__ 2 = (S ([] : List UInt8)) ∧ r__ 3 = (S u)
  refine c_loop I34 _ ⟨((((((beFrom h.seq 8) ++ (beFrom h.ep 8)) ++ (beFrom h.cut 8)) ++ (beFrom h.st 8)) ++ (beFrom h.mrk 8)) ++ (laidS (crcS (((((beFrom h.seq 8) ++ (beFrom h.ep 8)) ++ (beFrom h.cut 8)) ++ (beFrom h.st 8)) ++ (beFrom h.mrk 8))))), 0, rfl, hH30, (by rw [sealS, hdN]; simp [List.append_assoc]), (by simp only [List.length_append, beFrom_length, laidS_len]; omega), rfl, rfl, rfl, rfl⟩ ?_
  rintro n_ r37 w35 ⟨u, j, rfl, hH36, hu, hul, e33_0, e33_1, e33_2, e33_3⟩
  refine wp_seq_k fun K38 hK38 => ?_
  refine wp_seq_k fun K39 hK39 => ?_
  refine c_region ?_
  refine s_op (o_move (v := (S u)) e33_3 ?_)
  refine s_op (o_slen Tryz.underlying9 rfl ?_)
  refine s_op (o_lss (a := (u.length : Int)) (b := 64) rfl rfl ?_)
  refine s_nil ?_
  refine t_norm (hK39 _ _ ?_)
  refine c_cond rfl (fun h40 => ?_) (fun h40 => ?_)
  · -- (u.length : Int) < 64
    refine wp_skip ?_
    refine t_norm (hK38 _ _ ?_)
    refine wp_block ?_
    refine c_region ?_
    refine s_op (o_move (v := (S u)) e33_3 ?_)
    refine s_op (o_sadd rfl rfl (by simp only [List.length_append, List.length_cons, List.length_nil, beFrom_length, laidS_len]; omega) ?_)
    refine s_op (o_assign (v := (S (u ++ [0]))) rfl ?_)
    refine s_nil ?_
    refine b_norm ?_
    refine t_norm ⟨64 - (u ++ [0]).length, _, rfl, ?_, ?_⟩
    · simp only [List.length_append, List.length_cons, List.length_nil]; omega
    · exact ⟨(u ++ [0]), (j + 1), rfl, hH36, (by rw [hu, List.append_assoc, show [(0 : UInt8)] = List.replicate 1 0 from rfl, List.replicate_append_replicate]), (by simp only [List.length_append, List.length_cons, List.length_nil]; omega), e33_0, e33_1, e33_2, rfl⟩
  · -- not: (u.length : Int) < 64
    refine wp_exit ?_
    refine t_exit (t_exit (x_in (?_)))
    refine t_norm (hK32 _ _ ?_)
    refine wp_seq_k fun K41 hK41 => ?_
    refine c_region ?_
    refine s_op (o_move (v := (S u)) e33_3 ?_)
    refine s_op (o_assign (v := (S u)) rfl ?_)
    refine s_nil ?_
    refine t_norm (hK41 _ _ ?_)
    refine wp_ret ?_
    refine c_ret1 Tryz.results11  (v := (S u)) rfl ?_
    have q42 : (hdL h) = u := by exact r7_end hr hu hul (by omega)
    have hH43 : Has E w35 [R] := (hH36.front 1 rfl).first 1 rfl
    exact ⟨by rw [q42], hH43⟩
end Go.Q
namespace Go.Q
open Go.Proofs
set_option linter.unusedVariables false
set_option maxRecDepth 100000
attribute [local irreducible] wpList OK Code.wp
set_option maxHeartbeats 4000000 in
theorem r7read_c {E w : World} {R : List Hp} {s : Bs}  (hH : Has E w [R]) (hs : s.length ≤ 1000000) :
    Calls Tryz.prog 13 #[(S s)] w fun e w' => e = .returned (.tuple #[(.agg #[(.int .i64 ((hdD s).1).seq), (.int .i64 ((hdD s).1).ep), (.int .i64 ((hdD s).1).cut), (.int .i64 ((hdD s).1).st), (.int .i64 ((hdD s).1).mrk)]), (.bool ((hdD s).2))]) ∧ Has E w' [R] := by
  refine c_enter (args := [(S s)]) Tryz.func13 rfl Tryz.ntmps13 (by simp) ?_
  refine wp_seq_k fun K1 hK1 => ?_
  refine c_region ?_
  refine s_op (o_alloc (cs := #[(.int .i64 0), (.int .i64 0), (.int .i64 0), (.int .i64 0), (.int .i64 0)]) ti23 rfl hH fun b2 w3 hH4 => ?_)
  refine s_op (o_assign (v := (.bool false)) rfl ?_)
  refine s_nil ?_
  refine t_norm (hK1 _ _ ?_)
  refine wp_seq_k fun K5 hK5 => ?_
  refine wp_seq_k fun K6 hK6 => ?_
  refine c_region ?_
  refine s_op (o_move (v := (S s)) rfl ?_)
  refine s_op (o_slen Tryz.underlying9 rfl ?_)
  refine s_op (o_neq (a := (s.length : Int)) (b := 64) rfl rfl ?_)
  refine s_nil ?_
  refine t_norm (hK6 _ _ ?_)
  refine c_cond rfl (fun h7 => ?_) (fun h7 => ?_)
  · -- (s.length : Int) ≠ 64
    refine wp_seq_k fun K8 hK8 => ?_
    refine c_region ?_
    refine s_op (o_sight (v := (.agg #[(.int .i64 0), (.int .i64 0), (.int .i64 0), (.int .i64 0), (.int .i64 0)])) (fun _ => by kernel_rfl) ?_)
    refine s_eff (o_storeN (vs := [(.int .i64 0), (.int .i64 0), (.int .i64 0), (.int .i64 0), (.int .i64 0)]) (c' := #[(.int .i64 0), (.int .i64 0), (.int .i64 0), (.int .i64 0), (.int .i64 0)]) ti23 rfl rfl rfl rfl (by intro u hu; simp only [List.mem_cons, List.not_mem_nil, or_false] at hu; rcases hu with rfl | rfl | rfl | rfl | rfl <;> first | rfl) (by simp) (by kernel_rfl) (hH4.front 0 rfl) fun w9 hH10 => ?_)
    refine s_op (o_assign (v := (.bool false)) rfl ?_)
    refine s_nil ?_
    refine t_norm (hK8 _ _ ?_)
    refine wp_ret ?_
    refine t_ret (c_retC2 Tryz.results13 rfl (run_loadVarN (cs := [(.int .i64 0), (.int .i64 0), (.int .i64 0), (.int .i64 0), (.int .i64 0)]) Tryz.underlying23 rfl ti23 hH10 (seg_sub 0 rfl) (CellsAt.one rfl)) (x := (.bool false)) rfl ?_)
    have hE_ := hdD_no (s := s) (.inl (by omega))
    have q11 : (hdD s).1 = (Hd.mk 0 0 0 0 0) := by exact (congrArg Prod.fst hE_).trans rfl
    have q12 : (hdD s).2 = false := by exact (congrArg Prod.snd hE_).trans rfl
    have hH13 : Has E w9 [R] := (hH10.front 1 rfl).first 1 rfl
    exact ⟨by rw [q11]; rw [q12], hH13⟩
  · -- not: (s.length : Int) ≠ 64
    refine wp_skip ?_
    refine t_norm (hK5 _ _ ?_)
    refine wp_seq_k fun K14 hK14 => ?_
    refine c_region ?_
    refine s_op (o_move (v := (S s)) rfl ?_)
    refine s_op (o_callf (vs := #[(S s), (.int .i64 8)]) ca35 rfl (args2 rfl rfl) (refTake_c hH4.all 8 s (by first | omega | (simp only [List.length_drop]; omega))) ?_)
    rintro _ w17 ⟨rfl, hX15⟩
    refine ⟨_, rfl, ?_⟩
    have hH16 := hX15.of_all
    refine s_op (o_move (v := (.tuple #[(.int .i64 ((takeS s 8).1)), (.bool ((takeS s 8).2.2))])) rfl ?_)
    refine s_op (o_extract (v := (.int .i64 ((takeS s 8).1))) rfl rfl ?_)
    refine s_op (o_extract (v := (.bool ((takeS s 8).2.2))) rfl rfl ?_)
    refine s_op (o_assign (v := (.int .i64 ((takeS s 8).1))) rfl ?_)
    refine s_op (o_assign (v := (.bool ((takeS s 8).2.2))) rfl ?_)
    refine s_nil ?_
    refine t_norm (hK14 _ _ ?_)
    refine wp_seq_k fun K18 hK18 => ?_
    refine c_region ?_
    refine s_op (o_move (v := (S s)) rfl ?_)
    refine s_op (o_ssl_l Tryz.underlying9 rfl rfl (by omega) (by omega) ?_)
    refine s_op (o_callf (vs := #[(S (s.drop 8)), (.int .i64 8)]) ca35 rfl (args2 rfl rfl) (refTake_c hH16.all 8 (s.drop 8) (by first | omega | (simp only [List.length_drop]; omega))) ?_)
    rintro _ w21 ⟨rfl, hX19⟩
    refine ⟨_, rfl, ?_⟩
    have hH20 := hX19.of_all
    refine s_op (o_move (v := (.tuple #[(.int .i64 ((takeS (s.drop 8) 8).1)), (.bool ((takeS (s.drop 8) 8).2.2))])) rfl ?_)
    refine s_op (o_extract (v := (.int .i64 ((takeS (s.drop 8) 8).1))) rfl rfl ?_)
    refine s_op (o_extract (v := (.bool ((takeS (s.drop 8) 8).2.2))) rfl rfl ?_)
    refine s_op (o_assign (v := (.int .i64 ((takeS (s.drop 8) 8).1))) rfl ?_)
    refine s_op (o_assign (v := (.bool ((takeS (s.drop 8) 8).2.2))) rfl ?_)
    refine s_nil ?_
    refine t_norm (hK18 _ _ ?_)
    refine wp_seq_k fun K22 hK22 => ?_
    refine c_region ?_
    refine s_op (o_move (v := (S s)) rfl ?_)
    refine s_op (o_ssl_l Tryz.underlying9 rfl rfl (by omega) (by omega) ?_)
    refine s_op (o_callf (vs := #[(S (s.drop 16)), (.int .i64 8)]) ca35 rfl (args2 rfl rfl) (refTake_c hH20.all 8 (s.drop 16) (by first | omega | (simp only [List.length_drop]; omega))) ?_)
    rintro _ w25 ⟨rfl, hX23⟩
    refine ⟨_, rfl, ?_⟩
    have hH24 := hX23.of_all
    refine s_op (o_move (v := (.tuple #[(.int .i64 ((takeS (s.drop 16) 8).1)), (.bool ((takeS (s.drop 16) 8).2.2))])) rfl ?_)
    refine s_op (o_extract (v := (.int .i64 ((takeS (s.drop 16) 8).1))) rfl rfl ?_)
    refine s_op (o_extract (v := (.bool ((takeS (s.drop 16) 8).2.2))) rfl rfl ?_)
    refine s_op (o_assign (v := (.int .i64 ((takeS (s.drop 16) 8).1))) rfl ?_)
    refine s_op (o_assign (v := (.bool ((takeS (s.drop 16) 8).2.2))) rfl ?_)
    refine s_nil ?_
    refine t_norm (hK22 _ _ ?_)
    refine wp_seq_k fun K26 hK26 => ?_
    refine c_region ?_
    refine s_op (o_move (v := (S s)) rfl ?_)
    refine s_op (o_ssl_l Tryz.underlying9 rfl rfl (by omega) (by omega) ?_)
    refine s_op (o_callf (vs := #[(S (s.drop 24)), (.int .i64 8)]) ca35 rfl (args2 rfl rfl) (refTake_c hH24.all 8 (s.drop 24) (by first | omega | (simp only [List.length_drop]; omega))) ?_)
    rintro _ w29 ⟨rfl, hX27⟩
    refine ⟨_, rfl, ?_⟩
    have hH28 := hX27.of_all
    refine s_op (o_move (v := (.tuple #[(.int .i64 ((takeS (s.drop 24) 8).1)), (.bool ((takeS (s.drop 24) 8).2.2))])) rfl ?_)
    refine s_op (o_extract (v := (.int .i64 ((takeS (s.drop 24) 8).1))) rfl rfl ?_)
    refine s_op (o_extract (v := (.bool ((takeS (s.drop 24) 8).2.2))) rfl rfl ?_)
    refine s_op (o_assign (v := (.int .i64 ((takeS (s.drop 24) 8).1))) rfl ?_)
    refine s_op (o_assign (v := (.bool ((takeS (s.drop 24) 8).2.2))) rfl ?_)
    refine s_nil ?_
    refine t_norm (hK26 _ _ ?_)
    refine wp_seq_k fun K30 hK30 => ?_
    refine c_region ?_
    refine s_op (o_move (v := (S s)) rfl ?_)
    refine s_op (o_ssl_l Tryz.underlying9 rfl rfl (by omega) (by omega) ?_)
    refine s_op (o_callf (vs := #[(S (s.drop 32)), (.int .i64 8)]) ca35 rfl (args2 rfl rfl) (refTake_c hH28.all 8 (s.drop 32) (by first | omega | (simp only [List.length_drop]; omega))) ?_)
    rintro _ w33 ⟨rfl, hX31⟩
    refine ⟨_, rfl, ?_⟩
    have hH32 := hX31.of_all
    refine s_op (o_move (v := (.tuple #[(.int .i64 ((takeS (s.drop 32) 8).1)), (.bool ((takeS (s.drop 32) 8).2.2))])) rfl ?_)
    refine s_op (o_extract (v := (.int .i64 ((takeS (s.drop 32) 8).1))) rfl rfl ?_)
    refine s_op (o_extract (v := (.bool ((takeS (s.drop 32) 8).2.2))) rfl rfl ?_)
    refine s_op (o_assign (v := (.int .i64 ((takeS (s.drop 32) 8).1))) rfl ?_)
    refine s_op (o_assign (v := (.bool ((takeS (s.drop 32) 8).2.2))) rfl ?_)
    refine s_nil ?_
    refine t_norm (hK30 _ _ ?_)
    refine wp_seq_k fun K34 hK34 => ?_
    refine c_region ?_
    refine s_op (o_move (v := (.int .i64 ((takeS s 8).1))) rfl ?_)
    refine s_op (o_move (v := (.int .i64 ((takeS (s.drop 8) 8).1))) rfl ?_)
    refine s_op (o_move (v := (.int .i64 ((takeS (s.drop 16) 8).1))) rfl ?_)
    refine s_op (o_move (v := (.int .i64 ((takeS (s.drop 24) 8).1))) rfl ?_)
    refine s_op (o_move (v := (.int .i64 ((takeS (s.drop 32) 8).1))) rfl ?_)
    refine s_op (o_sight (v := (.agg #[(.int .i64 ((takeS s 8).1)), (.int .i64 ((takeS (s.drop 8) 8).1)), (.int .i64 ((takeS (s.drop 16) 8).1)), (.int .i64 ((takeS (s.drop 24) 8).1)), (.int .i64 ((takeS (s.drop 32) 8).1))])) (fun _ => by kernel_rfl) ?_)
    refine s_op (o_alloc (cs := #[(.int .i64 0), (.int .i64 0), (.int .i64 0), (.int .i64 0), (.int .i64 0)]) ti23 rfl hH32 fun b35 w36 hH37 => ?_)
    refine s_eff (o_storeN (vs := [(.int .i64 ((takeS s 8).1)), (.int .i64 ((takeS (s.drop 8) 8).1)), (.int .i64 ((takeS (s.drop 16) 8).1)), (.int .i64 ((takeS (s.drop 24) 8).1)), (.int .i64 ((takeS (s.drop 32) 8).1))]) (c' := #[(.int .i64 ((takeS s 8).1)), (.int .i64 ((takeS (s.drop 8) 8).1)), (.int .i64 ((takeS (s.drop 16) 8).1)), (.int .i64 ((takeS (s.drop 24) 8).1)), (.int .i64 ((takeS (s.drop 32) 8).1))]) ti23 rfl rfl rfl rfl (by intro u hu; simp only [List.mem_cons, List.not_mem_nil, or_false] at hu; rcases hu with rfl | rfl | rfl | rfl | rfl <;> first | rfl) (by simp) (by kernel_rfl) (hH37.front 0 rfl) fun w38 hH39 => ?_)
    refine s_nil ?_
    refine t_norm (hK34 _ _ ?_)
    refine wp_seq_k fun K40 hK40 => ?_
    refine wp_seq_k fun K41 hK41 => ?_
    refine c_region ?_
    refine s_op (o_loadN (cs := [(.int .i64 ((takeS s 8).1)), (.int .i64 ((takeS (s.drop 8) 8).1)), (.int .i64 ((takeS (s.drop 16) 8).1)), (.int .i64 ((takeS (s.drop 24) 8).1)), (.int .i64 ((takeS (s.drop 32) 8).1))]) Tryz.underlying23 rfl ti23 rfl hH39 (seg_sub 0 rfl) (CellsAt.one rfl) ?_)
    refine s_op (o_callf (vs := #[(.agg #[(.int .i64 ((takeS s 8).1)), (.int .i64 ((takeS (s.drop 8) 8).1)), (.int .i64 ((takeS (s.drop 16) 8).1)), (.int .i64 ((takeS (s.drop 24) 8).1)), (.int .i64 ((takeS (s.drop 32) 8).1))])]) ca10 rfl (args1 rfl) (r7right_c (h := (Hd.mk ((takeS s 8).1) ((takeS (s.drop 8) 8).1) ((takeS (s.drop 16) 8).1) ((takeS (s.drop 24) 8).1) ((takeS (s.drop 32) 8).1))) hH39.all ) ?_)
    rintro _ w44 ⟨rfl, hX42⟩
    refine ⟨_, rfl, ?_⟩
    have hH43 := hX42.of_all
    refine s_op (o_not rfl ?_)
    refine s_op (o_move (v := (.bool (!(hdR (Hd.mk ((takeS s 8).1) ((takeS (s.drop 8) 8).1) ((takeS (s.drop 16) 8).1) ((takeS (s.drop 24) 8).1) ((takeS (s.drop 32) 8).1)))))) rfl ?_)
    rcases Bool.eq_false_or_eq_true (!(hdR (Hd.mk ((takeS s 8).1) ((takeS (s.drop 8) 8).1) ((takeS (s.drop 16) 8).1) ((takeS (s.drop 24) 8).1) ((takeS (s.drop 32) 8).1)))) with h45 | h45
    · -- !(hdR (Hd.mk ((takeS s 8).1) ((takeS (s.drop 8) 8).1) ((takeS (s.drop 16) 8).1) ((takeS (s.drop 24) 8).1) ((takeS (s.drop 32) 8).1)))
      have h45_n : (hdR (Hd.mk ((takeS s 8).1) ((takeS (s.drop 8) 8).1) ((takeS (s.drop 16) 8).1) ((takeS (s.drop 24) 8).1) ((takeS (s.drop 32) 8).1))) = false := by simpa using h45
      refine s_off (b' := true) 57 rfl (congrArg Value.bool h45) rfl ?_
      refine s_off (b' := true) 57 rfl (congrArg Value.bool h45) rfl ?_
      refine s_off (b' := true) 57 rfl (congrArg Value.bool h45) rfl ?_
      refine s_off (b' := true) 57 rfl (congrArg Value.bool h45) rfl ?_
      refine s_op (o_pick_t (u := (.bool true)) ((rfl : _ = _).trans (congrArg Value.bool h45)) rfl ?_)
      refine s_nil ?_
      refine t_norm (hK41 _ _ ?_)
      refine c_true rfl rfl ?_
      refine wp_seq_k fun K46 hK46 => ?_
      refine c_region ?_
      refine s_op (o_sight (v := (.agg #[(.int .i64 0), (.int .i64 0), (.int .i64 0), (.int .i64 0), (.int .i64 0)])) (fun _ => by kernel_rfl) ?_)
      refine s_eff (o_storeN (vs := [(.int .i64 0), (.int .i64 0), (.int .i64 0), (.int .i64 0), (.int .i64 0)]) (c' := #[(.int .i64 0), (.int .i64 0), (.int .i64 0), (.int .i64 0), (.int .i64 0)]) ti23 rfl rfl rfl rfl (by intro u hu; simp only [List.mem_cons, List.not_mem_nil, or_false] at hu; rcases hu with rfl | rfl | rfl | rfl | rfl <;> first | rfl) (by simp) (by kernel_rfl) (hH43.front 1 rfl) fun w47 hH48 => ?_)
      refine s_op (o_assign (v := (.bool false)) rfl ?_)
      refine s_nil ?_
      refine t_norm (hK46 _ _ ?_)
      refine wp_ret ?_
      refine t_ret (c_retC2 Tryz.results13 rfl (run_loadVarN (cs := [(.int .i64 0), (.int .i64 0), (.int .i64 0), (.int .i64 0), (.int .i64 0)]) Tryz.underlying23 rfl ti23 hH48 (seg_sub 0 rfl) (CellsAt.one rfl)) (x := (.bool false)) rfl ?_)
      have hE_ := hdD_no (s := s) (.inr (.inl (by simpa using h45)))
      have q49 : (hdD s).1 = (Hd.mk 0 0 0 0 0) := by exact (congrArg Prod.fst hE_).trans rfl
      have q50 : (hdD s).2 = false := by exact (congrArg Prod.snd hE_).trans rfl
      have hH51 : Has E w47 [R] := (hH48.front 2 rfl).first 1 rfl
      exact ⟨by rw [q49]; rw [q50], hH51⟩
    · -- not: !(hdR (Hd.mk ((takeS s 8).1) ((takeS (s.drop 8) 8).1) ((takeS (s.drop 16) 8).1) ((takeS (s.drop 24) 8).1) ((takeS (s.drop 32) 8).1)))
      have h45_n : (hdR (Hd.mk ((takeS s 8).1) ((takeS (s.drop 8) 8).1) ((takeS (s.drop 16) 8).1) ((takeS (s.drop 24) 8).1) ((takeS (s.drop 32) 8).1))) = true := by simpa using h45
      refine s_on 57 rfl (congrArg Value.bool h45) (o_loadN (cs := [(.int .i64 ((takeS s 8).1)), (.int .i64 ((takeS (s.drop 8) 8).1)), (.int .i64 ((takeS (s.drop 16) 8).1)), (.int .i64 ((takeS (s.drop 24) 8).1)), (.int .i64 ((takeS (s.drop 32) 8).1))]) Tryz.underlying23 rfl ti23 rfl hH43 (seg_sub 0 rfl) (CellsAt.one rfl) ?_)
      refine s_on 57 rfl (congrArg Value.bool h45) (o_callf (vs := #[(.agg #[(.int .i64 ((takeS s 8).1)), (.int .i64 ((takeS (s.drop 8) 8).1)), (.int .i64 ((takeS (s.drop 16) 8).1)), (.int .i64 ((takeS (s.drop 24) 8).1)), (.int .i64 ((takeS (s.drop 32) 8).1))])]) ca11 rfl (args1 rfl) (r7laid_c (h := (Hd.mk ((takeS s 8).1) ((takeS (s.drop 8) 8).1) ((takeS (s.drop 16) 8).1) ((takeS (s.drop 24) 8).1) ((takeS (s.drop 32) 8).1))) hH43.all (by simpa using h45)) ?_)
      rintro _ w54 ⟨rfl, hX52⟩
      refine ⟨_, rfl, ?_⟩
      have hH53 := hX52.of_all
      refine s_on 57 rfl (congrArg Value.bool h45) (o_move (v := (S s)) rfl ?_)
      refine s_on 57 rfl (congrArg Value.bool h45) (o_sneq (a := (hdL (Hd.mk ((takeS s 8).1) ((takeS (s.drop 8) 8).1) ((takeS (s.drop 16) 8).1) ((takeS (s.drop 24) 8).1) ((takeS (s.drop 32) 8).1)))) (b := s) rfl rfl ?_)
      refine s_op (o_pick_f (u := (.bool (decide ((hdL (Hd.mk ((takeS s 8).1) ((takeS (s.drop 8) 8).1) ((takeS (s.drop 16) 8).1) ((takeS (s.drop 24) 8).1) ((takeS (s.drop 32) 8).1))) ≠ s)))) ((rfl : _ = _).trans (congrArg Value.bool h45)) rfl ?_)
      refine s_nil ?_
      refine t_norm (hK41 _ _ ?_)
      refine c_cond rfl (fun h55 => ?_) (fun h55 => ?_)
      · -- (hdL (Hd.mk ((takeS s 8).1) ((takeS (s.drop 8) 8).1) ((takeS (s.drop 16) 8).1) ((takeS (s.drop 24) 8).1) ((takeS (s.drop 32) 8).1))) ≠ s
        refine wp_seq_k fun K56 hK56 => ?_
        refine c_region ?_
        refine s_op (o_sight (v := (.agg #[(.int .i64 0), (.int .i64 0), (.int .i64 0), (.int .i64 0), (.int .i64 0)])) (fun _ => by kernel_rfl) ?_)
        refine s_eff (o_storeN (vs := [(.int .i64 0), (.int .i64 0), (.int .i64 0), (.int .i64 0), (.int .i64 0)]) (c' := #[(.int .i64 0), (.int .i64 0), (.int .i64 0), (.int .i64 0), (.int .i64 0)]) ti23 rfl rfl rfl rfl (by intro u hu; simp only [List.mem_cons, List.not_mem_nil, or_false] at hu; rcases hu with rfl | rfl | rfl | rfl | rfl <;> first | rfl) (by simp) (by kernel_rfl) (hH53.front 1 rfl) fun w57 hH58 => ?_)
        refine s_op (o_assign (v := (.bool false)) rfl ?_)
        refine s_nil ?_
        refine t_norm (hK56 _ _ ?_)
        refine wp_ret ?_
        refine t_ret (c_retC2 Tryz.results13 rfl (run_loadVarN (cs := [(.int .i64 0), (.int .i64 0), (.int .i64 0), (.int .i64 0), (.int .i64 0)]) Tryz.underlying23 rfl ti23 hH58 (seg_sub 0 rfl) (CellsAt.one rfl)) (x := (.bool false)) rfl ?_)
        have hE_ := hdD_no (s := s) (.inr (.inr h55))
        have q59 : (hdD s).1 = (Hd.mk 0 0 0 0 0) := by exact (congrArg Prod.fst hE_).trans rfl
        have q60 : (hdD s).2 = false := by exact (congrArg Prod.snd hE_).trans rfl
        have hH61 : Has E w57 [R] := (hH58.front 2 rfl).first 1 rfl
        exact ⟨by rw [q59]; rw [q60], hH61⟩
      · -- not: (hdL (Hd.mk ((takeS s 8).1) ((takeS (s.drop 8) 8).1) ((takeS (s.drop 16) 8).1) ((takeS (s.drop 24) 8).1) ((takeS (s.drop 32) 8).1))) ≠ s
        refine wp_skip ?_
        refine t_norm (hK40 _ _ ?_)
        refine wp_seq_k fun K62 hK62 => ?_
        refine c_region ?_
        refine s_op (o_loadN (cs := [(.int .i64 ((takeS s 8).1)), (.int .i64 ((takeS (s.drop 8) 8).1)), (.int .i64 ((takeS (s.drop 16) 8).1)), (.int .i64 ((takeS (s.drop 24) 8).1)), (.int .i64 ((takeS (s.drop 32) 8).1))]) Tryz.underlying23 rfl ti23 rfl hH53 (seg_sub 0 rfl) (CellsAt.one rfl) ?_)
        refine s_eff (o_storeN (vs := [(.int .i64 ((takeS s 8).1)), (.int .i64 ((takeS (s.drop 8) 8).1)), (.int .i64 ((takeS (s.drop 16) 8).1)), (.int .i64 ((takeS (s.drop 24) 8).1)), (.int .i64 ((takeS (s.drop 32) 8).1))]) (c' := #[(.int .i64 ((takeS s 8).1)), (.int .i64 ((takeS (s.drop 8) 8).1)), (.int .i64 ((takeS (s.drop 16) 8).1)), (.int .i64 ((takeS (s.drop 24) 8).1)), (.int .i64 ((takeS (s.drop 32) 8).1))]) ti23 rfl rfl rfl rfl (by intro u hu; simp only [List.mem_cons, List.not_mem_nil, or_false] at hu; rcases hu with rfl | rfl | rfl | rfl | rfl <;> first | rfl) (by simp) (by kernel_rfl) (hH53.front 1 rfl) fun w63 hH64 => ?_)
        refine s_op (o_assign (v := (.bool true)) rfl ?_)
        refine s_nil ?_
        refine t_norm (hK62 _ _ ?_)
        refine wp_ret ?_
        refine c_retC2 Tryz.results13 rfl (run_loadVarN (cs := [(.int .i64 ((takeS s 8).1)), (.int .i64 ((takeS (s.drop 8) 8).1)), (.int .i64 ((takeS (s.drop 16) 8).1)), (.int .i64 ((takeS (s.drop 24) 8).1)), (.int .i64 ((takeS (s.drop 32) 8).1))]) Tryz.underlying23 rfl ti23 hH64 (seg_sub 0 rfl) (CellsAt.one rfl)) (x := (.bool true)) rfl ?_
        have hE_ := hdD_yes (s := s) (by omega) (by simpa using h45) (Classical.not_not.1 h55)
        have q65 : (hdD s).1 = (Hd.mk ((takeS s 8).1) ((takeS (s.drop 8) 8).1) ((takeS (s.drop 16) 8).1) ((takeS (s.drop 24) 8).1) ((takeS (s.drop 32) 8).1)) := by exact (congrArg Prod.fst hE_).trans rfl
        have q66 : (hdD s).2 = true := by exact (congrArg Prod.snd hE_).trans rfl
        have hH67 : Has E w63 [R] := (hH64.front 2 rfl).first 1 rfl
        exact ⟨by rw [q65]; rw [q66], hH67⟩
end Go.Q
namespace Go.Q
open Go.Proofs
set_option linter.unusedVariables false
set_option maxRecDepth 100000
attribute [local irreducible] wpList OK Code.wp
set_option maxHeartbeats 4000000 in
theorem r7load_c {E w : World} {R : List Hp} {s : Bs} {t : Bs}  (hH : Has E w [R]) (hs : s.length ≤ 1000000) (ht : t.length ≤ 1000000) :
    Calls Tryz.prog 18 #[(S s), (S t)] w fun e w' => e = .returned (.tuple #[(.agg #[(.int .i64 ((ldD s t).1).seq), (.int .i64 ((ldD s t).1).ep), (.int .i64 ((ldD s t).1).cut), (.int .i64 ((ldD s t).1).st), (.int .i64 ((ldD s t).1).mrk)]), (.int .i64 ((ldD s t).2))]) ∧ Has E w' [R] := by
  refine c_enter (args := [(S s), (S t)]) Tryz.func18 rfl Tryz.ntmps18 (by simp) ?_
  refine wp_seq_k fun K1 hK1 => ?_
  refine c_region ?_
  refine s_op (o_alloc (cs := #[(.int .i64 0), (.int .i64 0), (.int .i64 0), (.int .i64 0), (.int .i64 0)]) ti23 rfl hH fun b2 w3 hH4 => ?_)
  refine s_op (o_assign (v := (.int .i64 0)) rfl ?_)
  refine s_nil ?_
  refine t_norm (hK1 _ _ ?_)
  refine wp_seq_k fun K5 hK5 => ?_
  refine c_region ?_
  refine s_op (o_move (v := (S s)) rfl ?_)
  refine s_op (o_callf (vs := #[(S s)]) ca13 rfl (args1 rfl) (r7read_c (s := s) hH4.all (by first | omega | (simp only []; omega) | (simp; done) | (simp; omega))) ?_)
  rintro _ w8 ⟨rfl, hX6⟩
  refine ⟨_, rfl, ?_⟩
  have hH7 := hX6.of_all
  have hnd_ := hdD_nn s
  refine s_op (o_move (v := (.tuple #[(.agg #[(.int .i64 ((hdD s).1).seq), (.int .i64 ((hdD s).1).ep), (.int .i64 ((hdD s).1).cut), (.int .i64 ((hdD s).1).st), (.int .i64 ((hdD s).1).mrk)]), (.bool ((hdD s).2))])) rfl ?_)
  refine s_op (o_extract (v := (.agg #[(.int .i64 ((hdD s).1).seq), (.int .i64 ((hdD s).1).ep), (.int .i64 ((hdD s).1).cut), (.int .i64 ((hdD s).1).st), (.int .i64 ((hdD s).1).mrk)])) rfl rfl ?_)
  refine s_op (o_extract (v := (.bool ((hdD s).2))) rfl rfl ?_)
  refine s_op (o_alloc (cs := #[(.int .i64 0), (.int .i64 0), (.int .i64 0), (.int .i64 0), (.int .i64 0)]) ti23 rfl hH7 fun b9 w10 hH11 => ?_)
  refine s_eff (o_storeN (vs := [(.int .i64 ((hdD s).1).seq), (.int .i64 ((hdD s).1).ep), (.int .i64 ((hdD s).1).cut), (.int .i64 ((hdD s).1).st), (.int .i64 ((hdD s).1).mrk)]) (c' := #[(.int .i64 ((hdD s).1).seq), (.int .i64 ((hdD s).1).ep), (.int .i64 ((hdD s).1).cut), (.int .i64 ((hdD s).1).st), (.int .i64 ((hdD s).1).mrk)]) ti23 rfl rfl rfl rfl (by intro u hu; simp only [List.mem_cons, List.not_mem_nil, or_false] at hu; rcases hu with rfl | rfl | rfl | rfl | rfl <;> first | rfl) (by simp) (by kernel_rfl) (hH11.front 0 rfl) fun w12 hH13 => ?_)
  refine s_op (o_assign (v := (.bool ((hdD s).2))) rfl ?_)
  refine s_nil ?_
  refine t_norm (hK5 _ _ ?_)
  refine wp_seq_k fun K14 hK14 => ?_
  refine c_region ?_
  refine s_op (o_move (v := (S t)) rfl ?_)
  refine s_op (o_callf (vs := #[(S t)]) ca13 rfl (args1 rfl) (r7read_c (s := t) hH13.all (by first | omega | (simp only []; omega) | (simp; done) | (simp; omega))) ?_)
  rintro _ w17 ⟨rfl, hX15⟩
  refine ⟨_, rfl, ?_⟩
  have hH16 := hX15.of_all
  have hnd_ := hdD_nn t
  refine s_op (o_move (v := (.tuple #[(.agg #[(.int .i64 ((hdD t).1).seq), (.int .i64 ((hdD t).1).ep), (.int .i64 ((hdD t).1).cut), (.int .i64 ((hdD t).1).st), (.int .i64 ((hdD t).1).mrk)]), (.bool ((hdD t).2))])) rfl ?_)
  refine s_op (o_extract (v := (.agg #[(.int .i64 ((hdD t).1).seq), (.int .i64 ((hdD t).1).ep), (.int .i64 ((hdD t).1).cut), (.int .i64 ((hdD t).1).st), (.int .i64 ((hdD t).1).mrk)])) rfl rfl ?_)
  refine s_op (o_extract (v := (.bool ((hdD t).2))) rfl rfl ?_)
  refine s_op (o_alloc (cs := #[(.int .i64 0), (.int .i64 0), (.int .i64 0), (.int .i64 0), (.int .i64 0)]) ti23 rfl hH16 fun b18 w19 hH20 => ?_)
  refine s_eff (o_storeN (vs := [(.int .i64 ((hdD t).1).seq), (.int .i64 ((hdD t).1).ep), (.int .i64 ((hdD t).1).cut), (.int .i64 ((hdD t).1).st), (.int .i64 ((hdD t).1).mrk)]) (c' := #[(.int .i64 ((hdD t).1).seq), (.int .i64 ((hdD t).1).ep), (.int .i64 ((hdD t).1).cut), (.int .i64 ((hdD t).1).st), (.int .i64 ((hdD t).1).mrk)]) ti23 rfl rfl rfl rfl (by intro u hu; simp only [List.mem_cons, List.not_mem_nil, or_false] at hu; rcases hu with rfl | rfl | rfl | rfl | rfl <;> first | rfl) (by simp) (by kernel_rfl) (hH20.front 0 rfl) fun w21 hH22 => ?_)
  refine s_op (o_assign (v := (.bool ((hdD t).2))) rfl ?_)
  refine s_nil ?_
  refine t_norm (hK14 _ _ ?_)
  refine wp_seq_k fun K23 hK23 => ?_
  refine c_region ?_
  refine s_op (o_move (v := (.bool ((hdD s).2))) rfl ?_)
  refine s_op (o_move (v := (.bool ((hdD s).2))) rfl ?_)
  rcases Bool.eq_false_or_eq_true ((hdD s).2) with h24 | h24
  · -- (hdD s).2
    refine s_on 21 rfl (congrArg Value.bool h24) (o_fieldAddr (k := 0) (fun _ => by kernel_rfl) rfl ?_)
    refine s_on 21 rfl (congrArg Value.bool h24) (o_load1 (v := (.int .i64 ((hdD s).1).seq)) Tryz.underlying3 rfl rfl hH22 (seg_sub 1 rfl) (CellsAt.one rfl) ?_)
    refine s_on 21 rfl (congrArg Value.bool h24) (o_rem (a := ((hdD s).1).seq) (b := 2) (c := (((hdD s).1).seq) % 2) rfl rfl (by omega) ((Int.tmod_eq_emod_of_nonneg (by first | exact Int.natCast_nonneg _ | omega))) ?_)
    refine s_on 21 rfl (congrArg Value.bool h24) (o_eql (a := (((hdD s).1).seq) % 2) (b := 0) rfl rfl ?_)
    refine s_op (o_pick_t (u := (.bool (decide ((((hdD s).1).seq) % 2 = 0)))) ((rfl : _ = _).trans (congrArg Value.bool h24)) rfl ?_)
    refine s_op (o_assign (v := (.bool (decide ((((hdD s).1).seq) % 2 = 0)))) rfl ?_)
    refine s_nil ?_
    refine t_norm (hK23 _ _ ?_)
    refine wp_seq_k fun K25 hK25 => ?_
    refine c_region ?_
    refine s_op (o_move (v := (.bool ((hdD t).2))) rfl ?_)
    refine s_op (o_move (v := (.bool ((hdD t).2))) rfl ?_)
    rcases Bool.eq_false_or_eq_true ((hdD t).2) with h26 | h26
    · -- (hdD t).2
      refine s_on 28 rfl (congrArg Value.bool h26) (o_fieldAddr (k := 0) (fun _ => by kernel_rfl) rfl ?_)
      refine s_on 28 rfl (congrArg Value.bool h26) (o_load1 (v := (.int .i64 ((hdD t).1).seq)) Tryz.underlying3 rfl rfl hH22 (seg_sub 0 rfl) (CellsAt.one rfl) ?_)
      refine s_on 28 rfl (congrArg Value.bool h26) (o_rem (a := ((hdD t).1).seq) (b := 2) (c := (((hdD t).1).seq) % 2) rfl rfl (by omega) ((Int.tmod_eq_emod_of_nonneg (by first | exact Int.natCast_nonneg _ | omega))) ?_)
      refine s_on 28 rfl (congrArg Value.bool h26) (o_eql (a := (((hdD t).1).seq) % 2) (b := 1) rfl rfl ?_)
      refine s_op (o_pick_t (u := (.bool (decide ((((hdD t).1).seq) % 2 = 1)))) ((rfl : _ = _).trans (congrArg Value.bool h26)) rfl ?_)
      refine s_op (o_assign (v := (.bool (decide ((((hdD t).1).seq) % 2 = 1)))) rfl ?_)
      refine s_nil ?_
      refine t_norm (hK25 _ _ ?_)
      refine wp_seq_k fun K27 hK27 => ?_
      refine wp_block ?_
      refine wp_seq_k fun K28 hK28 => ?_
      refine c_region ?_
      refine s_op (o_move (v := (.bool (decide ((((hdD s).1).seq) % 2 = 0)))) rfl ?_)
      refine s_op (o_move (v := (.bool (decide ((((hdD s).1).seq) % 2 = 0)))) rfl ?_)
      by_cases h29 : (((hdD s).1).seq) % 2 = 0
      · -- (((hdD s).1).seq) % 2 = 0
        refine s_on 36 rfl (congrArg Value.bool (decide_eq_true h29)) (o_move (v := (.bool (decide ((((hdD t).1).seq) % 2 = 1)))) rfl ?_)
        refine s_on 36 rfl (congrArg Value.bool (decide_eq_true h29)) (o_not2 (b := decide ((((hdD t).1).seq) % 2 = 1)) (b' := decide (¬ ((((hdD t).1).seq) % 2 = 1))) rfl not_dec ?_)
        refine s_on 36 rfl (congrArg Value.bool (decide_eq_true h29)) (o_move (v := (.bool (decide (¬ ((((hdD t).1).seq) % 2 = 1))))) rfl ?_)
        by_cases h30 : ¬ ((((hdD t).1).seq) % 2 = 1)
        · -- ¬ ((((hdD t).1).seq) % 2 = 1)
          refine s_off (b' := true) 39 rfl (congrArg Value.bool (decide_eq_true h30)) rfl ?_
          refine s_off (b' := true) 39 rfl (congrArg Value.bool (decide_eq_true h30)) rfl ?_
          refine s_off (b' := true) 39 rfl (congrArg Value.bool (decide_eq_true h30)) rfl ?_
          refine s_off (b' := true) 39 rfl (congrArg Value.bool (decide_eq_true h30)) rfl ?_
          refine s_off (b' := true) 39 rfl (congrArg Value.bool (decide_eq_true h30)) rfl ?_
          refine s_on 36 rfl (congrArg Value.bool (decide_eq_true h29)) (o_pick_t (u := (.bool true)) ((rfl : _ = _).trans (congrArg Value.bool (decide_eq_true h30))) rfl ?_)
          refine s_op (o_pick_t (u := (.bool true)) ((rfl : _ = _).trans (congrArg Value.bool (decide_eq_true h29))) rfl ?_)
          refine s_op (o_assign (v := (.bool true)) rfl ?_)
          refine s_nil ?_
          refine t_norm (hK28 _ _ ?_)
          refine c_true rfl rfl ?_
          refine wp_seq_k fun K31 hK31 => ?_
          refine c_region ?_
          refine s_op (o_loadN (cs := [(.int .i64 ((hdD s).1).seq), (.int .i64 ((hdD s).1).ep), (.int .i64 ((hdD s).1).cut), (.int .i64 ((hdD s).1).st), (.int .i64 ((hdD s).1).mrk)]) Tryz.underlying23 rfl ti23 rfl hH22 (seg_sub 1 rfl) (CellsAt.one rfl) ?_)
          refine s_eff (o_storeN (vs := [(.int .i64 ((hdD s).1).seq), (.int .i64 ((hdD s).1).ep), (.int .i64 ((hdD s).1).cut), (.int .i64 ((hdD s).1).st), (.int .i64 ((hdD s).1).mrk)]) (c' := #[(.int .i64 ((hdD s).1).seq), (.int .i64 ((hdD s).1).ep), (.int .i64 ((hdD s).1).cut), (.int .i64 ((hdD s).1).st), (.int .i64 ((hdD s).1).mrk)]) ti23 rfl rfl rfl rfl (by intro u hu; simp only [List.mem_cons, List.not_mem_nil, or_false] at hu; rcases hu with rfl | rfl | rfl | rfl | rfl <;> first | rfl) (by simp) (by kernel_rfl) (hH22.front 2 rfl) fun w32 hH33 => ?_)
          refine s_op (o_assign (v := (.int .i64 0)) rfl ?_)
          refine s_nil ?_
          refine t_norm (hK31 _ _ ?_)
          refine wp_ret ?_
          refine b_ret (t_ret (c_retC2 Tryz.results18 rfl (run_loadVarN (cs := [(.int .i64 ((hdD s).1).seq), (.int .i64 ((hdD s).1).ep), (.int .i64 ((hdD s).1).cut), (.int .i64 ((hdD s).1).st), (.int .i64 ((hdD s).1).mrk)]) Tryz.underlying23 rfl ti23 hH33 (seg_sub 0 rfl) (CellsAt.one rfl)) (x := (.int .i64 0)) rfl ?_))
          have hE_ : ldD s t = (((hdD s).1), 0) := by unfold ldD; simp [h24, h26, h29, h30]
          have q34 : (ldD s t).1 = ((hdD s).1) := by exact (congrArg Prod.fst hE_).trans rfl
          have q35 : (ldD s t).2 = 0 := by exact (congrArg Prod.snd hE_).trans rfl
          have hH36 : Has E w32 [R] := (hH33.front 3 rfl).first 1 rfl
          exact ⟨by rw [q34]; rw [q35], hH36⟩
        · -- not: ¬ ((((hdD t).1).seq) % 2 = 1)
          refine s_on 39 rfl (congrArg Value.bool (decide_eq_false h30)) (o_fieldAddr (k := 0) (fun _ => by kernel_rfl) rfl ?_)
          refine s_on 39 rfl (congrArg Value.bool (decide_eq_false h30)) (o_load1 (v := (.int .i64 ((hdD s).1).seq)) Tryz.underlying3 rfl rfl hH22 (seg_sub 1 rfl) (CellsAt.one rfl) ?_)
          refine s_on 39 rfl (congrArg Value.bool (decide_eq_false h30)) (o_fieldAddr (k := 0) (fun _ => by kernel_rfl) rfl ?_)
          refine s_on 39 rfl (congrArg Value.bool (decide_eq_false h30)) (o_load1 (v := (.int .i64 ((hdD t).1).seq)) Tryz.underlying3 rfl rfl hH22 (seg_sub 0 rfl) (CellsAt.one rfl) ?_)
          refine s_on 39 rfl (congrArg Value.bool (decide_eq_false h30)) (o_gtr (a := ((hdD s).1).seq) (b := ((hdD t).1).seq) rfl rfl ?_)
          refine s_on 36 rfl (congrArg Value.bool (decide_eq_true h29)) (o_pick_f (u := (.bool (decide (((hdD t).1).seq < ((hdD s).1).seq)))) ((rfl : _ = _).trans (congrArg Value.bool (decide_eq_false h30))) rfl ?_)
          refine s_op (o_pick_t (u := (.bool (decide (((hdD t).1).seq < ((hdD s).1).seq)))) ((rfl : _ = _).trans (congrArg Value.bool (decide_eq_true h29))) rfl ?_)
          refine s_op (o_assign (v := (.bool (decide (((hdD t).1).seq < ((hdD s).1).seq)))) rfl ?_)
          refine s_nil ?_
          refine t_norm (hK28 _ _ ?_)
          refine c_cond rfl (fun h37 => ?_) (fun h37 => ?_)
          · -- ((hdD t).1).seq < ((hdD s).1).seq
            refine wp_seq_k fun K38 hK38 => ?_
            refine c_region ?_
            refine s_op (o_loadN (cs := [(.int .i64 ((hdD s).1).seq), (.int .i64 ((hdD s).1).ep), (.int .i64 ((hdD s).1).cut), (.int .i64 ((hdD s).1).st), (.int .i64 ((hdD s).1).mrk)]) Tryz.underlying23 rfl ti23 rfl hH22 (seg_sub 1 rfl) (CellsAt.one rfl) ?_)
            refine s_eff (o_storeN (vs := [(.int .i64 ((hdD s).1).seq), (.int .i64 ((hdD s).1).ep), (.int .i64 ((hdD s).1).cut), (.int .i64 ((hdD s).1).st), (.int .i64 ((hdD s).1).mrk)]) (c' := #[(.int .i64 ((hdD s).1).seq), (.int .i64 ((hdD s).1).ep), (.int .i64 ((hdD s).1).cut), (.int .i64 ((hdD s).1).st), (.int .i64 ((hdD s).1).mrk)]) ti23 rfl rfl rfl rfl (by intro u hu; simp only [List.mem_cons, List.not_mem_nil, or_false] at hu; rcases hu with rfl | rfl | rfl | rfl | rfl <;> first | rfl) (by simp) (by kernel_rfl) (hH22.front 2 rfl) fun w39 hH40 => ?_)
            refine s_op (o_assign (v := (.int .i64 0)) rfl ?_)
            refine s_nil ?_
            refine t_norm (hK38 _ _ ?_)
            refine wp_ret ?_
            refine b_ret (t_ret (c_retC2 Tryz.results18 rfl (run_loadVarN (cs := [(.int .i64 ((hdD s).1).seq), (.int .i64 ((hdD s).1).ep), (.int .i64 ((hdD s).1).cut), (.int .i64 ((hdD s).1).st), (.int .i64 ((hdD s).1).mrk)]) Tryz.underlying23 rfl ti23 hH40 (seg_sub 0 rfl) (CellsAt.one rfl)) (x := (.int .i64 0)) rfl ?_))
            have hE_ : ldD s t = (((hdD s).1), 0) := by unfold ldD; simp [h24, h26, h29, h30, h37]
            have q41 : (ldD s t).1 = ((hdD s).1) := by exact (congrArg Prod.fst hE_).trans rfl
            have q42 : (ldD s t).2 = 0 := by exact (congrArg Prod.snd hE_).trans rfl
            have hH43 : Has E w39 [R] := (hH40.front 3 rfl).first 1 rfl
            exact ⟨by rw [q41]; rw [q42], hH43⟩
          · -- not: ((hdD t).1).seq < ((hdD s).1).seq
            refine wp_seq_k fun K44 hK44 => ?_
            refine c_region ?_
            refine s_op (o_move (v := (.bool (decide ((((hdD t).1).seq) % 2 = 1)))) rfl ?_)
            refine s_op (o_assign (v := (.bool (decide ((((hdD t).1).seq) % 2 = 1)))) rfl ?_)
            refine s_nil ?_
            refine t_norm (hK44 _ _ ?_)
            refine c_true rfl (decide_eq_true (Classical.not_not.1 h30)) ?_
            refine wp_seq_k fun K45 hK45 => ?_
            refine c_region ?_
            refine s_op (o_loadN (cs := [(.int .i64 ((hdD t).1).seq), (.int .i64 ((hdD t).1).ep), (.int .i64 ((hdD t).1).cut), (.int .i64 ((hdD t).1).st), (.int .i64 ((hdD t).1).mrk)]) Tryz.underlying23 rfl ti23 rfl hH22 (seg_sub 0 rfl) (CellsAt.one rfl) ?_)
            refine s_eff (o_storeN (vs := [(.int .i64 ((hdD t).1).seq), (.int .i64 ((hdD t).1).ep), (.int .i64 ((hdD t).1).cut), (.int .i64 ((hdD t).1).st), (.int .i64 ((hdD t).1).mrk)]) (c' := #[(.int .i64 ((hdD t).1).seq), (.int .i64 ((hdD t).1).ep), (.int .i64 ((hdD t).1).cut), (.int .i64 ((hdD t).1).st), (.int .i64 ((hdD t).1).mrk)]) ti23 rfl rfl rfl rfl (by intro u hu; simp only [List.mem_cons, List.not_mem_nil, or_false] at hu; rcases hu with rfl | rfl | rfl | rfl | rfl <;> first | rfl) (by simp) (by kernel_rfl) (hH22.front 2 rfl) fun w46 hH47 => ?_)
            refine s_op (o_assign (v := (.int .i64 0)) rfl ?_)
            refine s_nil ?_
            refine t_norm (hK45 _ _ ?_)
            refine wp_ret ?_
            refine b_ret (t_ret (c_retC2 Tryz.results18 rfl (run_loadVarN (cs := [(.int .i64 ((hdD t).1).seq), (.int .i64 ((hdD t).1).ep), (.int .i64 ((hdD t).1).cut), (.int .i64 ((hdD t).1).st), (.int .i64 ((hdD t).1).mrk)]) Tryz.underlying23 rfl ti23 hH47 (seg_sub 0 rfl) (CellsAt.one rfl)) (x := (.int .i64 0)) rfl ?_))
            have hE_ : ldD s t = (((hdD t).1), 0) := by unfold ldD; simp [h24, h26, h29, h30, h37]
            have q48 : (ldD s t).1 = ((hdD t).1) := by exact (congrArg Prod.fst hE_).trans rfl
            have q49 : (ldD s t).2 = 0 := by exact (congrArg Prod.snd hE_).trans rfl
            have hH50 : Has E w46 [R] := (hH47.front 3 rfl).first 1 rfl
            exact ⟨by rw [q48]; rw [q49], hH50⟩
      · -- not: (((hdD s).1).seq) % 2 = 0
        refine s_off (b' := false) 36 rfl (congrArg Value.bool (decide_eq_false h29)) rfl ?_
        refine s_off (b' := false) 36 rfl (congrArg Value.bool (decide_eq_false h29)) rfl ?_
        refine s_off (b' := false) 36 rfl (congrArg Value.bool (decide_eq_false h29)) rfl ?_
        refine s_offu 39 rfl rfl ?_
        refine s_offu 39 rfl rfl ?_
        refine s_offu 39 rfl rfl ?_
        refine s_offu 39 rfl rfl ?_
        refine s_offu 39 rfl rfl ?_
        refine s_off (b' := false) 36 rfl (congrArg Value.bool (decide_eq_false h29)) rfl ?_
        refine s_op (o_pick_f (u := (.bool false)) ((rfl : _ = _).trans (congrArg Value.bool (decide_eq_false h29))) rfl ?_)
        refine s_op (o_assign (v := (.bool false)) rfl ?_)
        refine s_nil ?_
        refine t_norm (hK28 _ _ ?_)
        refine c_false rfl rfl ?_
        refine wp_seq_k fun K51 hK51 => ?_
        refine c_region ?_
        refine s_op (o_move (v := (.bool (decide ((((hdD t).1).seq) % 2 = 1)))) rfl ?_)
        refine s_op (o_assign (v := (.bool (decide ((((hdD t).1).seq) % 2 = 1)))) rfl ?_)
        refine s_nil ?_
        refine t_norm (hK51 _ _ ?_)
        refine c_cond rfl (fun h52 => ?_) (fun h52 => ?_)
        · -- (((hdD t).1).seq) % 2 = 1
          refine wp_seq_k fun K53 hK53 => ?_
          refine c_region ?_
          refine s_op (o_loadN (cs := [(.int .i64 ((hdD t).1).seq), (.int .i64 ((hdD t).1).ep), (.int .i64 ((hdD t).1).cut), (.int .i64 ((hdD t).1).st), (.int .i64 ((hdD t).1).mrk)]) Tryz.underlying23 rfl ti23 rfl hH22 (seg_sub 0 rfl) (CellsAt.one rfl) ?_)
          refine s_eff (o_storeN (vs := [(.int .i64 ((hdD t).1).seq), (.int .i64 ((hdD t).1).ep), (.int .i64 ((hdD t).1).cut), (.int .i64 ((hdD t).1).st), (.int .i64 ((hdD t).1).mrk)]) (c' := #[(.int .i64 ((hdD t).1).seq), (.int .i64 ((hdD t).1).ep), (.int .i64 ((hdD t).1).cut), (.int .i64 ((hdD t).1).st), (.int .i64 ((hdD t).1).mrk)]) ti23 rfl rfl rfl rfl (by intro u hu; simp only [List.mem_cons, List.not_mem_nil, or_false] at hu; rcases hu with rfl | rfl | rfl | rfl | rfl <;> first | rfl) (by simp) (by kernel_rfl) (hH22.front 2 rfl) fun w54 hH55 => ?_)
          refine s_op (o_assign (v := (.int .i64 0)) rfl ?_)
          refine s_nil ?_
          refine t_norm (hK53 _ _ ?_)
          refine wp_ret ?_
          refine b_ret (t_ret (c_retC2 Tryz.results18 rfl (run_loadVarN (cs := [(.int .i64 ((hdD t).1).seq), (.int .i64 ((hdD t).1).ep), (.int .i64 ((hdD t).1).cut), (.int .i64 ((hdD t).1).st), (.int .i64 ((hdD t).1).mrk)]) Tryz.underlying23 rfl ti23 hH55 (seg_sub 0 rfl) (CellsAt.one rfl)) (x := (.int .i64 0)) rfl ?_))
          have hE_ : ldD s t = (((hdD t).1), 0) := by unfold ldD; simp [h24, h26, h29, h52]
          have q56 : (ldD s t).1 = ((hdD t).1) := by exact (congrArg Prod.fst hE_).trans rfl
          have q57 : (ldD s t).2 = 0 := by exact (congrArg Prod.snd hE_).trans rfl
          have hH58 : Has E w54 [R] := (hH55.front 3 rfl).first 1 rfl
          exact ⟨by rw [q56]; rw [q57], hH58⟩
        · -- not: (((hdD t).1).seq) % 2 = 1
          refine wp_seq_k fun K59 hK59 => ?_
          refine c_region ?_
          refine s_op (o_move (v := (S s)) rfl ?_)
          refine s_op (o_make Tryz.underlying87 ti5 rfl rfl (by omega) (by omega) (by omega) (by omega) hH22 fun v60 s61 w63 ho62 hH64 => ?_)
          have ho65 : Own 5 1 v60 (List.replicate ((64 : Int)).toNat (0 : UInt8)).length ((List.replicate ((64 : Int)).toNat (0 : UInt8)).map bV) s61 := by rw [List.length_replicate, List.map_replicate, ← made_rep]; exact ho62
          obtain ⟨p66, c67, rfl⟩ := (Own.sl ho62).form
          refine s_op (o_bstr Tryz.underlying87 Tryz.underlying5 Tryz.underlying9 rfl ho65.sl hH64 (seg_sub 0 rfl) ?_)
          refine s_op (o_seql (a := s) (b := (List.replicate ((64 : Int)).toNat (0 : UInt8))) rfl rfl ?_)
          refine s_op (o_move (v := (.bool (decide (s = (List.replicate ((64 : Int)).toNat (0 : UInt8)))))) rfl ?_)
          by_cases h68 : s = (List.replicate ((64 : Int)).toNat (0 : UInt8))
          · -- s = (List.replicate ((64 : Int)).toNat (0 : UInt8))
            refine s_on 56 rfl (congrArg Value.bool (decide_eq_true h68)) (o_move (v := (S t)) rfl ?_)
            refine s_on 56 rfl (congrArg Value.bool (decide_eq_true h68)) (o_move (v := (S s)) rfl ?_)
            refine s_on 56 rfl (congrArg Value.bool (decide_eq_true h68)) (o_seql (a := t) (b := s) rfl rfl ?_)
            refine s_op (o_pick_t (u := (.bool (decide (t = s)))) ((rfl : _ = _).trans (congrArg Value.bool (decide_eq_true h68))) rfl ?_)
            refine s_op (o_assign (v := (.bool (decide (t = s)))) rfl ?_)
            refine s_nil ?_
            refine t_norm (hK59 _ _ ?_)
            refine c_cond rfl (fun h69 => ?_) (fun h69 => ?_)
            · -- t = s
              refine wp_seq_k fun K70 hK70 => ?_
              refine c_region ?_
              refine s_op (o_sight (v := (.agg #[(.int .i64 0), (.int .i64 0), (.int .i64 0), (.int .i64 0), (.int .i64 0)])) (fun _ => by kernel_rfl) ?_)
              refine s_eff (o_storeN (vs := [(.int .i64 0), (.int .i64 0), (.int .i64 0), (.int .i64 0), (.int .i64 0)]) (c' := #[(.int .i64 0), (.int .i64 0), (.int .i64 0), (.int .i64 0), (.int .i64 0)]) ti23 rfl rfl rfl rfl (by intro u hu; simp only [List.mem_cons, List.not_mem_nil, or_false] at hu; rcases hu with rfl | rfl | rfl | rfl | rfl <;> first | rfl) (by simp) (by kernel_rfl) (hH64.front 3 rfl) fun w71 hH72 => ?_)
              refine s_op (o_assign (v := (.int .i64 7)) rfl ?_)
              refine s_nil ?_
              refine t_norm (hK70 _ _ ?_)
              refine wp_ret ?_
              refine b_ret (t_ret (c_retC2 Tryz.results18 rfl (run_loadVarN (cs := [(.int .i64 0), (.int .i64 0), (.int .i64 0), (.int .i64 0), (.int .i64 0)]) Tryz.underlying23 rfl ti23 hH72 (seg_sub 0 rfl) (CellsAt.one rfl)) (x := (.int .i64 7)) rfl ?_))
              have hE_ := ldD_last (s := s) (t := t) (by simp [h24, h26, h29, h52]) (by simp [h24, h26, h29, h52])
              rw [if_pos ⟨h68, h69⟩] at hE_
              have q73 : (ldD s t).1 = (Hd.mk 0 0 0 0 0) := by exact (congrArg Prod.fst hE_).trans rfl
              have q74 : (ldD s t).2 = 7 := by exact (congrArg Prod.snd hE_).trans rfl
              have hH75 : Has E w71 [R] := (hH72.front 4 rfl).first 1 rfl
              exact ⟨by rw [q73]; rw [q74], hH75⟩
            · -- not: t = s
              refine wp_skip ?_
              refine b_norm ?_
              refine t_norm (hK27 _ _ ?_)
              refine wp_seq_k fun K76 hK76 => ?_
              refine c_region ?_
              refine s_op (o_sight (v := (.agg #[(.int .i64 0), (.int .i64 0), (.int .i64 0), (.int .i64 0), (.int .i64 0)])) (fun _ => by kernel_rfl) ?_)
              refine s_eff (o_storeN (vs := [(.int .i64 0), (.int .i64 0), (.int .i64 0), (.int .i64 0), (.int .i64 0)]) (c' := #[(.int .i64 0), (.int .i64 0), (.int .i64 0), (.int .i64 0), (.int .i64 0)]) ti23 rfl rfl rfl rfl (by intro u hu; simp only [List.mem_cons, List.not_mem_nil, or_false] at hu; rcases hu with rfl | rfl | rfl | rfl | rfl <;> first | rfl) (by simp) (by kernel_rfl) (hH64.front 3 rfl) fun w77 hH78 => ?_)
              refine s_op (o_assign (v := (.int .i64 9)) rfl ?_)
              refine s_nil ?_
              refine t_norm (hK76 _ _ ?_)
              refine wp_ret ?_
              refine c_retC2 Tryz.results18 rfl (run_loadVarN (cs := [(.int .i64 0), (.int .i64 0), (.int .i64 0), (.int .i64 0), (.int .i64 0)]) Tryz.underlying23 rfl ti23 hH78 (seg_sub 0 rfl) (CellsAt.one rfl)) (x := (.int .i64 9)) rfl ?_
              have hE_ := ldD_last (s := s) (t := t) (by simp [h24, h26, h29, h52]) (by simp [h24, h26, h29, h52])
              rw [if_neg (fun k_ => by first | exact h69 k_.2)] at hE_
              have q79 : (ldD s t).1 = (Hd.mk 0 0 0 0 0) := by exact (congrArg Prod.fst hE_).trans rfl
              have q80 : (ldD s t).2 = 9 := by exact (congrArg Prod.snd hE_).trans rfl
              have hH81 : Has E w77 [R] := (hH78.front 4 rfl).first 1 rfl
              exact ⟨by rw [q79]; rw [q80], hH81⟩
          · -- not: s = (List.replicate ((64 : Int)).toNat (0 : UInt8))
            refine s_off (b' := false) 56 rfl (congrArg Value.bool (decide_eq_false h68)) rfl ?_
            refine s_off (b' := false) 56 rfl (congrArg Value.bool (decide_eq_false h68)) rfl ?_
            refine s_off (b' := false) 56 rfl (congrArg Value.bool (decide_eq_false h68)) rfl ?_
            refine s_op (o_pick_f (u := (.bool false)) ((rfl : _ = _).trans (congrArg Value.bool (decide_eq_false h68))) rfl ?_)
            refine s_op (o_assign (v := (.bool false)) rfl ?_)
            refine s_nil ?_
            refine t_norm (hK59 _ _ ?_)
            refine c_false rfl rfl ?_
            refine wp_skip ?_
            refine b_norm ?_
            refine t_norm (hK27 _ _ ?_)
            refine wp_seq_k fun K82 hK82 => ?_
            refine c_region ?_
            refine s_op (o_sight (v := (.agg #[(.int .i64 0), (.int .i64 0), (.int .i64 0), (.int .i64 0), (.int .i64 0)])) (fun _ => by kernel_rfl) ?_)
            refine s_eff (o_storeN (vs := [(.int .i64 0), (.int .i64 0), (.int .i64 0), (.int .i64 0), (.int .i64 0)]) (c' := #[(.int .i64 0), (.int .i64 0), (.int .i64 0), (.int .i64 0), (.int .i64 0)]) ti23 rfl rfl rfl rfl (by intro u hu; simp only [List.mem_cons, List.not_mem_nil, or_false] at hu; rcases hu with rfl | rfl | rfl | rfl | rfl <;> first | rfl) (by simp) (by kernel_rfl) (hH64.front 3 rfl) fun w83 hH84 => ?_)
            refine s_op (o_assign (v := (.int .i64 9)) rfl ?_)
            refine s_nil ?_
            refine t_norm (hK82 _ _ ?_)
            refine wp_ret ?_
            refine c_retC2 Tryz.results18 rfl (run_loadVarN (cs := [(.int .i64 0), (.int .i64 0), (.int .i64 0), (.int .i64 0), (.int .i64 0)]) Tryz.underlying23 rfl ti23 hH84 (seg_sub 0 rfl) (CellsAt.one rfl)) (x := (.int .i64 9)) rfl ?_
            have hE_ := ldD_last (s := s) (t := t) (by simp [h24, h26, h29, h52]) (by simp [h24, h26, h29, h52])
            rw [if_neg (fun k_ => by first | exact h68 k_.1)] at hE_
            have q85 : (ldD s t).1 = (Hd.mk 0 0 0 0 0) := by exact (congrArg Prod.fst hE_).trans rfl
            have q86 : (ldD s t).2 = 9 := by exact (congrArg Prod.snd hE_).trans rfl
            have hH87 : Has E w83 [R] := (hH84.front 4 rfl).first 1 rfl
            exact ⟨by rw [q85]; rw [q86], hH87⟩
    · -- not: (hdD t).2
      refine s_off (b' := false) 28 rfl (congrArg Value.bool h26) rfl ?_
      refine s_off (b' := false) 28 rfl (congrArg Value.bool h26) rfl ?_
      refine s_off (b' := false) 28 rfl (congrArg Value.bool h26) rfl ?_
      refine s_off (b' := false) 28 rfl (congrArg Value.bool h26) rfl ?_
      refine s_op (o_pick_f (u := (.bool false)) ((rfl : _ = _).trans (congrArg Value.bool h26)) rfl ?_)
      refine s_op (o_assign (v := (.bool false)) rfl ?_)
      refine s_nil ?_
      refine t_norm (hK25 _ _ ?_)
      refine wp_seq_k fun K88 hK88 => ?_
      refine wp_block ?_
      refine wp_seq_k fun K89 hK89 => ?_
      refine c_region ?_
      refine s_op (o_move (v := (.bool (decide ((((hdD s).1).seq) % 2 = 0)))) rfl ?_)
      refine s_op (o_move (v := (.bool (decide ((((hdD s).1).seq) % 2 = 0)))) rfl ?_)
      by_cases h90 : (((hdD s).1).seq) % 2 = 0
      · -- (((hdD s).1).seq) % 2 = 0
        refine s_on 36 rfl (congrArg Value.bool (decide_eq_true h90)) (o_move (v := (.bool false)) rfl ?_)
        refine s_on 36 rfl (congrArg Value.bool (decide_eq_true h90)) (o_not rfl ?_)
        refine s_on 36 rfl (congrArg Value.bool (decide_eq_true h90)) (o_move (v := (.bool true)) rfl ?_)
        refine s_off (b' := true) 39 rfl rfl rfl ?_
        refine s_off (b' := true) 39 rfl rfl rfl ?_
        refine s_off (b' := true) 39 rfl rfl rfl ?_
        refine s_off (b' := true) 39 rfl rfl rfl ?_
        refine s_off (b' := true) 39 rfl rfl rfl ?_
        refine s_on 36 rfl (congrArg Value.bool (decide_eq_true h90)) (o_pick_t (u := (.bool true)) rfl rfl ?_)
        refine s_op (o_pick_t (u := (.bool true)) ((rfl : _ = _).trans (congrArg Value.bool (decide_eq_true h90))) rfl ?_)
        refine s_op (o_assign (v := (.bool true)) rfl ?_)
        refine s_nil ?_
        refine t_norm (hK89 _ _ ?_)
        refine c_true rfl rfl ?_
        refine wp_seq_k fun K91 hK91 => ?_
        refine c_region ?_
        refine s_op (o_loadN (cs := [(.int .i64 ((hdD s).1).seq), (.int .i64 ((hdD s).1).ep), (.int .i64 ((hdD s).1).cut), (.int .i64 ((hdD s).1).st), (.int .i64 ((hdD s).1).mrk)]) Tryz.underlying23 rfl ti23 rfl hH22 (seg_sub 1 rfl) (CellsAt.one rfl) ?_)
        refine s_eff (o_storeN (vs := [(.int .i64 ((hdD s).1).seq), (.int .i64 ((hdD s).1).ep), (.int .i64 ((hdD s).1).cut), (.int .i64 ((hdD s).1).st), (.int .i64 ((hdD s).1).mrk)]) (c' := #[(.int .i64 ((hdD s).1).seq), (.int .i64 ((hdD s).1).ep), (.int .i64 ((hdD s).1).cut), (.int .i64 ((hdD s).1).st), (.int .i64 ((hdD s).1).mrk)]) ti23 rfl rfl rfl rfl (by intro u hu; simp only [List.mem_cons, List.not_mem_nil, or_false] at hu; rcases hu with rfl | rfl | rfl | rfl | rfl <;> first | rfl) (by simp) (by kernel_rfl) (hH22.front 2 rfl) fun w92 hH93 => ?_)
        refine s_op (o_assign (v := (.int .i64 0)) rfl ?_)
        refine s_nil ?_
        refine t_norm (hK91 _ _ ?_)
        refine wp_ret ?_
        refine b_ret (t_ret (c_retC2 Tryz.results18 rfl (run_loadVarN (cs := [(.int .i64 ((hdD s).1).seq), (.int .i64 ((hdD s).1).ep), (.int .i64 ((hdD s).1).cut), (.int .i64 ((hdD s).1).st), (.int .i64 ((hdD s).1).mrk)]) Tryz.underlying23 rfl ti23 hH93 (seg_sub 0 rfl) (CellsAt.one rfl)) (x := (.int .i64 0)) rfl ?_))
        have hE_ : ldD s t = (((hdD s).1), 0) := by unfold ldD; simp [h24, h26, h90]
        have q94 : (ldD s t).1 = ((hdD s).1) := by exact (congrArg Prod.fst hE_).trans rfl
        have q95 : (ldD s t).2 = 0 := by exact (congrArg Prod.snd hE_).trans rfl
        have hH96 : Has E w92 [R] := (hH93.front 3 rfl).first 1 rfl
        exact ⟨by rw [q94]; rw [q95], hH96⟩
      · -- not: (((hdD s).1).seq) % 2 = 0
        refine s_off (b' := false) 36 rfl (congrArg Value.bool (decide_eq_false h90)) rfl ?_
        refine s_off (b' := false) 36 rfl (congrArg Value.bool (decide_eq_false h90)) rfl ?_
        refine s_off (b' := false) 36 rfl (congrArg Value.bool (decide_eq_false h90)) rfl ?_
        refine s_offu 39 rfl rfl ?_
        refine s_offu 39 rfl rfl ?_
        refine s_offu 39 rfl rfl ?_
        refine s_offu 39 rfl rfl ?_
        refine s_offu 39 rfl rfl ?_
        refine s_off (b' := false) 36 rfl (congrArg Value.bool (decide_eq_false h90)) rfl ?_
        refine s_op (o_pick_f (u := (.bool false)) ((rfl : _ = _).trans (congrArg Value.bool (decide_eq_false h90))) rfl ?_)
        refine s_op (o_assign (v := (.bool false)) rfl ?_)
        refine s_nil ?_
        refine t_norm (hK89 _ _ ?_)
        refine c_false rfl rfl ?_
        refine wp_seq_k fun K97 hK97 => ?_
        refine c_region ?_
        refine s_op (o_move (v := (.bool false)) rfl ?_)
        refine s_op (o_assign (v := (.bool false)) rfl ?_)
        refine s_nil ?_
        refine t_norm (hK97 _ _ ?_)
        refine c_false rfl rfl ?_
        refine wp_seq_k fun K98 hK98 => ?_
        refine c_region ?_
        refine s_op (o_move (v := (S s)) rfl ?_)
        refine s_op (o_make Tryz.underlying87 ti5 rfl rfl (by omega) (by omega) (by omega) (by omega) hH22 fun v99 s100 w102 ho101 hH103 => ?_)
        have ho104 : Own 5 1 v99 (List.replicate ((64 : Int)).toNat (0 : UInt8)).length ((List.replicate ((64 : Int)).toNat (0 : UInt8)).map bV) s100 := by rw [List.length_replicate, List.map_replicate, ← made_rep]; exact ho101
        obtain ⟨p105, c106, rfl⟩ := (Own.sl ho101).form
        refine s_op (o_bstr Tryz.underlying87 Tryz.underlying5 Tryz.underlying9 rfl ho104.sl hH103 (seg_sub 0 rfl) ?_)
        refine s_op (o_seql (a := s) (b := (List.replicate ((64 : Int)).toNat (0 : UInt8))) rfl rfl ?_)
        refine s_op (o_move (v := (.bool (decide (s = (List.replicate ((64 : Int)).toNat (0 : UInt8)))))) rfl ?_)
        by_cases h107 : s = (List.replicate ((64 : Int)).toNat (0 : UInt8))
        · -- s = (List.replicate ((64 : Int)).toNat (0 : UInt8))
          refine s_on 56 rfl (congrArg Value.bool (decide_eq_true h107)) (o_move (v := (S t)) rfl ?_)
          refine s_on 56 rfl (congrArg Value.bool (decide_eq_true h107)) (o_move (v := (S s)) rfl ?_)
          refine s_on 56 rfl (congrArg Value.bool (decide_eq_true h107)) (o_seql (a := t) (b := s) rfl rfl ?_)
          refine s_op (o_pick_t (u := (.bool (decide (t = s)))) ((rfl : _ = _).trans (congrArg Value.bool (decide_eq_true h107))) rfl ?_)
          refine s_op (o_assign (v := (.bool (decide (t = s)))) rfl ?_)
          refine s_nil ?_
          refine t_norm (hK98 _ _ ?_)
          refine c_cond rfl (fun h108 => ?_) (fun h108 => ?_)
          · -- t = s
            refine wp_seq_k fun K109 hK109 => ?_
            refine c_region ?_
            refine s_op (o_sight (v := (.agg #[(.int .i64 0), (.int .i64 0), (.int .i64 0), (.int .i64 0), (.int .i64 0)])) (fun _ => by kernel_rfl) ?_)
            refine s_eff (o_storeN (vs := [(.int .i64 0), (.int .i64 0), (.int .i64 0), (.int .i64 0), (.int .i64 0)]) (c' := #[(.int .i64 0), (.int .i64 0), (.int .i64 0), (.int .i64 0), (.int .i64 0)]) ti23 rfl rfl rfl rfl (by intro u hu; simp only [List.mem_cons, List.not_mem_nil, or_false] at hu; rcases hu with rfl | rfl | rfl | rfl | rfl <;> first | rfl) (by simp) (by kernel_rfl) (hH103.front 3 rfl) fun w110 hH111 => ?_)
            refine s_op (o_assign (v := (.int .i64 7)) rfl ?_)
            refine s_nil ?_
            refine t_norm (hK109 _ _ ?_)
            refine wp_ret ?_
            refine b_ret (t_ret (c_retC2 Tryz.results18 rfl (run_loadVarN (cs := [(.int .i64 0), (.int .i64 0), (.int .i64 0), (.int .i64 0), (.int .i64 0)]) Tryz.underlying23 rfl ti23 hH111 (seg_sub 0 rfl) (CellsAt.one rfl)) (x := (.int .i64 7)) rfl ?_))
            have hE_ := ldD_last (s := s) (t := t) (by simp [h24, h26, h90]) (by simp [h24, h26, h90])
            rw [if_pos ⟨h107, h108⟩] at hE_
            have q112 : (ldD s t).1 = (Hd.mk 0 0 0 0 0) := by exact (congrArg Prod.fst hE_).trans rfl
            have q113 : (ldD s t).2 = 7 := by exact (congrArg Prod.snd hE_).trans rfl
            have hH114 : Has E w110 [R] := (hH111.front 4 rfl).first 1 rfl
            exact ⟨by rw [q112]; rw [q113], hH114⟩
          · -- not: t = s
            refine wp_skip ?_
            refine b_norm ?_
            refine t_norm (hK88 _ _ ?_)
            refine wp_seq_k fun K115 hK115 => ?_
            refine c_region ?_
            refine s_op (o_sight (v := (.agg #[(.int .i64 0), (.int .i64 0), (.int .i64 0), (.int .i64 0), (.int .i64 0)])) (fun _ => by kernel_rfl) ?_)
            refine s_eff (o_storeN (vs := [(.int .i64 0), (.int .i64 0), (.int .i64 0), (.int .i64 0), (.int .i64 0)]) (c' := #[(.int .i64 0), (.int .i64 0), (.int .i64 0), (.int .i64 0), (.int .i64 0)]) ti23 rfl rfl rfl rfl (by intro u hu; simp only [List.mem_cons, List.not_mem_nil, or_false] at hu; rcases hu with rfl | rfl | rfl | rfl | rfl <;> first | rfl) (by simp) (by kernel_rfl) (hH103.front 3 rfl) fun w116 hH117 => ?_)
            refine s_op (o_assign (v := (.int .i64 9)) rfl ?_)
            refine s_nil ?_
            refine t_norm (hK115 _ _ ?_)
            refine wp_ret ?_
            refine c_retC2 Tryz.results18 rfl (run_loadVarN (cs := [(.int .i64 0), (.int .i64 0), (.int .i64 0), (.int .i64 0), (.int .i64 0)]) Tryz.underlying23 rfl ti23 hH117 (seg_sub 0 rfl) (CellsAt.one rfl)) (x := (.int .i64 9)) rfl ?_
            have hE_ := ldD_last (s := s) (t := t) (by simp [h24, h26, h90]) (by simp [h24, h26, h90])
            rw [if_neg (fun k_ => by first | exact h108 k_.2)] at hE_
            have q118 : (ldD s t).1 = (Hd.mk 0 0 0 0 0) := by exact (congrArg Prod.fst hE_).trans rfl
            have q119 : (ldD s t).2 = 9 := by exact (congrArg Prod.snd hE_).trans rfl
            have hH120 : Has E w116 [R] := (hH117.front 4 rfl).first 1 rfl
            exact ⟨by rw [q118]; rw [q119], hH120⟩
        · -- not: s = (List.replicate ((64 : Int)).toNat (0 : UInt8))
          refine s_off (b' := false) 56 rfl (congrArg Value.bool (decide_eq_false h107)) rfl ?_
          refine s_off (b' := false) 56 rfl (congrArg Value.bool (decide_eq_false h107)) rfl ?_
          refine s_off (b' := false) 56 rfl (congrArg Value.bool (decide_eq_false h107)) rfl ?_
          refine s_op (o_pick_f (u := (.bool false)) ((rfl : _ = _).trans (congrArg Value.bool (decide_eq_false h107))) rfl ?_)
          refine s_op (o_assign (v := (.bool false)) rfl ?_)
          refine s_nil ?_
          refine t_norm (hK98 _ _ ?_)
          refine c_false rfl rfl ?_
          refine wp_skip ?_
          refine b_norm ?_
          refine t_norm (hK88 _ _ ?_)
          refine wp_seq_k fun K121 hK121 => ?_
          refine c_region ?_
          refine s_op (o_sight (v := (.agg #[(.int .i64 0), (.int .i64 0), (.int .i64 0), (.int .i64 0), (.int .i64 0)])) (fun _ => by kernel_rfl) ?_)
          refine s_eff (o_storeN (vs := [(.int .i64 0), (.int .i64 0), (.int .i64 0), (.int .i64 0), (.int .i64 0)]) (c' := #[(.int .i64 0), (.int .i64 0), (.int .i64 0), (.int .i64 0), (.int .i64 0)]) ti23 rfl rfl rfl rfl (by intro u hu; simp only [List.mem_cons, List.not_mem_nil, or_false] at hu; rcases hu with rfl | rfl | rfl | rfl | rfl <;> first | rfl) (by simp) (by kernel_rfl) (hH103.front 3 rfl) fun w122 hH123 => ?_)
          refine s_op (o_assign (v := (.int .i64 9)) rfl ?_)
          refine s_nil ?_
          refine t_norm (hK121 _ _ ?_)
          refine wp_ret ?_
          refine c_retC2 Tryz.results18 rfl (run_loadVarN (cs := [(.int .i64 0), (.int .i64 0), (.int .i64 0), (.int .i64 0), (.int .i64 0)]) Tryz.underlying23 rfl ti23 hH123 (seg_sub 0 rfl) (CellsAt.one rfl)) (x := (.int .i64 9)) rfl ?_
          have hE_ := ldD_last (s := s) (t := t) (by simp [h24, h26, h90]) (by simp [h24, h26, h90])
          rw [if_neg (fun k_ => by first | exact h107 k_.1)] at hE_
          have q124 : (ldD s t).1 = (Hd.mk 0 0 0 0 0) := by exact (congrArg Prod.fst hE_).trans rfl
          have q125 : (ldD s t).2 = 9 := by exact (congrArg Prod.snd hE_).trans rfl
          have hH126 : Has E w122 [R] := (hH123.front 4 rfl).first 1 rfl
          exact ⟨by rw [q124]; rw [q125], hH126⟩
  · -- not: (hdD s).2
    refine s_off (b' := false) 21 rfl (congrArg Value.bool h24) rfl ?_
    refine s_off (b' := false) 21 rfl (congrArg Value.bool h24) rfl ?_
    refine s_off (b' := false) 21 rfl (congrArg Value.bool h24) rfl ?_
    refine s_off (b' := false) 21 rfl (congrArg Value.bool h24) rfl ?_
    refine s_op (o_pick_f (u := (.bool false)) ((rfl : _ = _).trans (congrArg Value.bool h24)) rfl ?_)
    refine s_op (o_assign (v := (.bool false)) rfl ?_)
    refine s_nil ?_
    refine t_norm (hK23 _ _ ?_)
    refine wp_seq_k fun K127 hK127 => ?_
    refine c_region ?_
    refine s_op (o_move (v := (.bool ((hdD t).2))) rfl ?_)
    refine s_op (o_move (v := (.bool ((hdD t).2))) rfl ?_)
    rcases Bool.eq_false_or_eq_true ((hdD t).2) with h128 | h128
    · -- (hdD t).2
      refine s_on 28 rfl (congrArg Value.bool h128) (o_fieldAddr (k := 0) (fun _ => by kernel_rfl) rfl ?_)
      refine s_on 28 rfl (congrArg Value.bool h128) (o_load1 (v := (.int .i64 ((hdD t).1).seq)) Tryz.underlying3 rfl rfl hH22 (seg_sub 0 rfl) (CellsAt.one rfl) ?_)
      refine s_on 28 rfl (congrArg Value.bool h128) (o_rem (a := ((hdD t).1).seq) (b := 2) (c := (((hdD t).1).seq) % 2) rfl rfl (by omega) ((Int.tmod_eq_emod_of_nonneg (by first | exact Int.natCast_nonneg _ | omega))) ?_)
      refine s_on 28 rfl (congrArg Value.bool h128) (o_eql (a := (((hdD t).1).seq) % 2) (b := 1) rfl rfl ?_)
      refine s_op (o_pick_t (u := (.bool (decide ((((hdD t).1).seq) % 2 = 1)))) ((rfl : _ = _).trans (congrArg Value.bool h128)) rfl ?_)
      refine s_op (o_assign (v := (.bool (decide ((((hdD t).1).seq) % 2 = 1)))) rfl ?_)
      refine s_nil ?_
      refine t_norm (hK127 _ _ ?_)
      refine wp_seq_k fun K129 hK129 => ?_
      refine wp_block ?_
      refine wp_seq_k fun K130 hK130 => ?_
      refine c_region ?_
      refine s_op (o_move (v := (.bool false)) rfl ?_)
      refine s_op (o_move (v := (.bool false)) rfl ?_)
      refine s_off (b' := false) 36 rfl rfl rfl ?_
      refine s_off (b' := false) 36 rfl rfl rfl ?_
      refine s_off (b' := false) 36 rfl rfl rfl ?_
      refine s_offu 39 rfl rfl ?_
      refine s_offu 39 rfl rfl ?_
      refine s_offu 39 rfl rfl ?_
      refine s_offu 39 rfl rfl ?_
      refine s_offu 39 rfl rfl ?_
      refine s_off (b' := false) 36 rfl rfl rfl ?_
      refine s_op (o_pick_f (u := (.bool false)) rfl rfl ?_)
      refine s_op (o_assign (v := (.bool false)) rfl ?_)
      refine s_nil ?_
      refine t_norm (hK130 _ _ ?_)
      refine c_false rfl rfl ?_
      refine wp_seq_k fun K131 hK131 => ?_
      refine c_region ?_
      refine s_op (o_move (v := (.bool (decide ((((hdD t).1).seq) % 2 = 1)))) rfl ?_)
      refine s_op (o_assign (v := (.bool (decide ((((hdD t).1).seq) % 2 = 1)))) rfl ?_)
      refine s_nil ?_
      refine t_norm (hK131 _ _ ?_)
      refine c_cond rfl (fun h132 => ?_) (fun h132 => ?_)
      · -- (((hdD t).1).seq) % 2 = 1
        refine wp_seq_k fun K133 hK133 => ?_
        refine c_region ?_
        refine s_op (o_loadN (cs := [(.int .i64 ((hdD t).1).seq), (.int .i64 ((hdD t).1).ep), (.int .i64 ((hdD t).1).cut), (.int .i64 ((hdD t).1).st), (.int .i64 ((hdD t).1).mrk)]) Tryz.underlying23 rfl ti23 rfl hH22 (seg_sub 0 rfl) (CellsAt.one rfl) ?_)
        refine s_eff (o_storeN (vs := [(.int .i64 ((hdD t).1).seq), (.int .i64 ((hdD t).1).ep), (.int .i64 ((hdD t).1).cut), (.int .i64 ((hdD t).1).st), (.int .i64 ((hdD t).1).mrk)]) (c' := #[(.int .i64 ((hdD t).1).seq), (.int .i64 ((hdD t).1).ep), (.int .i64 ((hdD t).1).cut), (.int .i64 ((hdD t).1).st), (.int .i64 ((hdD t).1).mrk)]) ti23 rfl rfl rfl rfl (by intro u hu; simp only [List.mem_cons, List.not_mem_nil, or_false] at hu; rcases hu with rfl | rfl | rfl | rfl | rfl <;> first | rfl) (by simp) (by kernel_rfl) (hH22.front 2 rfl) fun w134 hH135 => ?_)
        refine s_op (o_assign (v := (.int .i64 0)) rfl ?_)
        refine s_nil ?_
        refine t_norm (hK133 _ _ ?_)
        refine wp_ret ?_
        refine b_ret (t_ret (c_retC2 Tryz.results18 rfl (run_loadVarN (cs := [(.int .i64 ((hdD t).1).seq), (.int .i64 ((hdD t).1).ep), (.int .i64 ((hdD t).1).cut), (.int .i64 ((hdD t).1).st), (.int .i64 ((hdD t).1).mrk)]) Tryz.underlying23 rfl ti23 hH135 (seg_sub 0 rfl) (CellsAt.one rfl)) (x := (.int .i64 0)) rfl ?_))
        have hE_ : ldD s t = (((hdD t).1), 0) := by unfold ldD; simp [h24, h128, h132]
        have q136 : (ldD s t).1 = ((hdD t).1) := by exact (congrArg Prod.fst hE_).trans rfl
        have q137 : (ldD s t).2 = 0 := by exact (congrArg Prod.snd hE_).trans rfl
        have hH138 : Has E w134 [R] := (hH135.front 3 rfl).first 1 rfl
        exact ⟨by rw [q136]; rw [q137], hH138⟩
      · -- not: (((hdD t).1).seq) % 2 = 1
        refine wp_seq_k fun K139 hK139 => ?_
        refine c_region ?_
        refine s_op (o_move (v := (S s)) rfl ?_)
        refine s_op (o_make Tryz.underlying87 ti5 rfl rfl (by omega) (by omega) (by omega) (by omega) hH22 fun v140 s141 w143 ho142 hH144 => ?_)
        have ho145 : Own 5 1 v140 (List.replicate ((64 : Int)).toNat (0 : UInt8)).length ((List.replicate ((64 : Int)).toNat (0 : UInt8)).map bV) s141 := by rw [List.length_replicate, List.map_replicate, ← made_rep]; exact ho142
        obtain ⟨p146, c147, rfl⟩ := (Own.sl ho142).form
        refine s_op (o_bstr Tryz.underlying87 Tryz.underlying5 Tryz.underlying9 rfl ho145.sl hH144 (seg_sub 0 rfl) ?_)
        refine s_op (o_seql (a := s) (b := (List.replicate ((64 : Int)).toNat (0 : UInt8))) rfl rfl ?_)
        refine s_op (o_move (v := (.bool (decide (s = (List.replicate ((64 : Int)).toNat (0 : UInt8)))))) rfl ?_)
        by_cases h148 : s = (List.replicate ((64 : Int)).toNat (0 : UInt8))
        · -- s = (List.replicate ((64 : Int)).toNat (0 : UInt8))
          refine s_on 56 rfl (congrArg Value.bool (decide_eq_true h148)) (o_move (v := (S t)) rfl ?_)
          refine s_on 56 rfl (congrArg Value.bool (decide_eq_true h148)) (o_move (v := (S s)) rfl ?_)
          refine s_on 56 rfl (congrArg Value.bool (decide_eq_true h148)) (o_seql (a := t) (b := s) rfl rfl ?_)
          refine s_op (o_pick_t (u := (.bool (decide (t = s)))) ((rfl : _ = _).trans (congrArg Value.bool (decide_eq_true h148))) rfl ?_)
          refine s_op (o_assign (v := (.bool (decide (t = s)))) rfl ?_)
          refine s_nil ?_
          refine t_norm (hK139 _ _ ?_)
          refine c_cond rfl (fun h149 => ?_) (fun h149 => ?_)
          · -- t = s
            refine wp_seq_k fun K150 hK150 => ?_
            refine c_region ?_
            refine s_op (o_sight (v := (.agg #[(.int .i64 0), (.int .i64 0), (.int .i64 0), (.int .i64 0), (.int .i64 0)])) (fun _ => by kernel_rfl) ?_)
            refine s_eff (o_storeN (vs := [(.int .i64 0), (.int .i64 0), (.int .i64 0), (.int .i64 0), (.int .i64 0)]) (c' := #[(.int .i64 0), (.int .i64 0), (.int .i64 0), (.int .i64 0), (.int .i64 0)]) ti23 rfl rfl rfl rfl (by intro u hu; simp only [List.mem_cons, List.not_mem_nil, or_false] at hu; rcases hu with rfl | rfl | rfl | rfl | rfl <;> first | rfl) (by simp) (by kernel_rfl) (hH144.front 3 rfl) fun w151 hH152 => ?_)
            refine s_op (o_assign (v := (.int .i64 7)) rfl ?_)
            refine s_nil ?_
            refine t_norm (hK150 _ _ ?_)
            refine wp_ret ?_
            refine b_ret (t_ret (c_retC2 Tryz.results18 rfl (run_loadVarN (cs := [(.int .i64 0), (.int .i64 0), (.int .i64 0), (.int .i64 0), (.int .i64 0)]) Tryz.underlying23 rfl ti23 hH152 (seg_sub 0 rfl) (CellsAt.one rfl)) (x := (.int .i64 7)) rfl ?_))
            have hE_ := ldD_last (s := s) (t := t) (by simp [h24, h128, h132]) (by simp [h24, h128, h132])
            rw [if_pos ⟨h148, h149⟩] at hE_
            have q153 : (ldD s t).1 = (Hd.mk 0 0 0 0 0) := by exact (congrArg Prod.fst hE_).trans rfl
            have q154 : (ldD s t).2 = 7 := by exact (congrArg Prod.snd hE_).trans rfl
            have hH155 : Has E w151 [R] := (hH152.front 4 rfl).first 1 rfl
            exact ⟨by rw [q153]; rw [q154], hH155⟩
          · -- not: t = s
            refine wp_skip ?_
            refine b_norm ?_
            refine t_norm (hK129 _ _ ?_)
            refine wp_seq_k fun K156 hK156 => ?_
            refine c_region ?_
            refine s_op (o_sight (v := (.agg #[(.int .i64 0), (.int .i64 0), (.int .i64 0), (.int .i64 0), (.int .i64 0)])) (fun _ => by kernel_rfl) ?_)
            refine s_eff (o_storeN (vs := [(.int .i64 0), (.int .i64 0), (.int .i64 0), (.int .i64 0), (.int .i64 0)]) (c' := #[(.int .i64 0), (.int .i64 0), (.int .i64 0), (.int .i64 0), (.int .i64 0)]) ti23 rfl rfl rfl rfl (by intro u hu; simp only [List.mem_cons, List.not_mem_nil, or_false] at hu; rcases hu with rfl | rfl | rfl | rfl | rfl <;> first | rfl) (by simp) (by kernel_rfl) (hH144.front 3 rfl) fun w157 hH158 => ?_)
            refine s_op (o_assign (v := (.int .i64 9)) rfl ?_)
            refine s_nil ?_
            refine t_norm (hK156 _ _ ?_)
            refine wp_ret ?_
            refine c_retC2 Tryz.results18 rfl (run_loadVarN (cs := [(.int .i64 0), (.int .i64 0), (.int .i64 0), (.int .i64 0), (.int .i64 0)]) Tryz.underlying23 rfl ti23 hH158 (seg_sub 0 rfl) (CellsAt.one rfl)) (x := (.int .i64 9)) rfl ?_
            have hE_ := ldD_last (s := s) (t := t) (by simp [h24, h128, h132]) (by simp [h24, h128, h132])
            rw [if_neg (fun k_ => by first | exact h149 k_.2)] at hE_
            have q159 : (ldD s t).1 = (Hd.mk 0 0 0 0 0) := by exact (congrArg Prod.fst hE_).trans rfl
            have q160 : (ldD s t).2 = 9 := by exact (congrArg Prod.snd hE_).trans rfl
            have hH161 : Has E w157 [R] := (hH158.front 4 rfl).first 1 rfl
            exact ⟨by rw [q159]; rw [q160], hH161⟩
        · -- not: s = (List.replicate ((64 : Int)).toNat (0 : UInt8))
          refine s_off (b' := false) 56 rfl (congrArg Value.bool (decide_eq_false h148)) rfl ?_
          refine s_off (b' := false) 56 rfl (congrArg Value.bool (decide_eq_false h148)) rfl ?_
          refine s_off (b' := false) 56 rfl (congrArg Value.bool (decide_eq_false h148)) rfl ?_
          refine s_op (o_pick_f (u := (.bool false)) ((rfl : _ = _).trans (congrArg Value.bool (decide_eq_false h148))) rfl ?_)
          refine s_op (o_assign (v := (.bool false)) rfl ?_)
          refine s_nil ?_
          refine t_norm (hK139 _ _ ?_)
          refine c_false rfl rfl ?_
          refine wp_skip ?_
          refine b_norm ?_
          refine t_norm (hK129 _ _ ?_)
          refine wp_seq_k fun K162 hK162 => ?_
          refine c_region ?_
          refine s_op (o_sight (v := (.agg #[(.int .i64 0), (.int .i64 0), (.int .i64 0), (.int .i64 0), (.int .i64 0)])) (fun _ => by kernel_rfl) ?_)
          refine s_eff (o_storeN (vs := [(.int .i64 0), (.int .i64 0), (.int .i64 0), (.int .i64 0), (.int .i64 0)]) (c' := #[(.int .i64 0), (.int .i64 0), (.int .i64 0), (.int .i64 0), (.int .i64 0)]) ti23 rfl rfl rfl rfl (by intro u hu; simp only [List.mem_cons, List.not_mem_nil, or_false] at hu; rcases hu with rfl | rfl | rfl | rfl | rfl <;> first | rfl) (by simp) (by kernel_rfl) (hH144.front 3 rfl) fun w163 hH164 => ?_)
          refine s_op (o_assign (v := (.int .i64 9)) rfl ?_)
          refine s_nil ?_
          refine t_norm (hK162 _ _ ?_)
          refine wp_ret ?_
          refine c_retC2 Tryz.results18 rfl (run_loadVarN (cs := [(.int .i64 0), (.int .i64 0), (.int .i64 0), (.int .i64 0), (.int .i64 0)]) Tryz.underlying23 rfl ti23 hH164 (seg_sub 0 rfl) (CellsAt.one rfl)) (x := (.int .i64 9)) rfl ?_
          have hE_ := ldD_last (s := s) (t := t) (by simp [h24, h128, h132]) (by simp [h24, h128, h132])
          rw [if_neg (fun k_ => by first | exact h148 k_.1)] at hE_
          have q165 : (ldD s t).1 = (Hd.mk 0 0 0 0 0) := by exact (congrArg Prod.fst hE_).trans rfl
          have q166 : (ldD s t).2 = 9 := by exact (congrArg Prod.snd hE_).trans rfl
          have hH167 : Has E w163 [R] := (hH164.front 4 rfl).first 1 rfl
          exact ⟨by rw [q165]; rw [q166], hH167⟩
    · -- not: (hdD t).2
      refine s_off (b' := false) 28 rfl (congrArg Value.bool h128) rfl ?_
      refine s_off (b' := false) 28 rfl (congrArg Value.bool h128) rfl ?_
      refine s_off (b' := false) 28 rfl (congrArg Value.bool h128) rfl ?_
      refine s_off (b' := false) 28 rfl (congrArg Value.bool h128) rfl ?_
      refine s_op (o_pick_f (u := (.bool false)) ((rfl : _ = _).trans (congrArg Value.bool h128)) rfl ?_)
      refine s_op (o_assign (v := (.bool false)) rfl ?_)
      refine s_nil ?_
      refine t_norm (hK127 _ _ ?_)
      refine wp_seq_k fun K168 hK168 => ?_
      refine wp_block ?_
      refine wp_seq_k fun K169 hK169 => ?_
      refine c_region ?_
      refine s_op (o_move (v := (.bool false)) rfl ?_)
      refine s_op (o_move (v := (.bool false)) rfl ?_)
      refine s_off (b' := false) 36 rfl rfl rfl ?_
      refine s_off (b' := false) 36 rfl rfl rfl ?_
      refine s_off (b' := false) 36 rfl rfl rfl ?_
      refine s_offu 39 rfl rfl ?_
      refine s_offu 39 rfl rfl ?_
      refine s_offu 39 rfl rfl ?_
      refine s_offu 39 rfl rfl ?_
      refine s_offu 39 rfl rfl ?_
      refine s_off (b' := false) 36 rfl rfl rfl ?_
      refine s_op (o_pick_f (u := (.bool false)) rfl rfl ?_)
      refine s_op (o_assign (v := (.bool false)) rfl ?_)
      refine s_nil ?_
      refine t_norm (hK169 _ _ ?_)
      refine c_false rfl rfl ?_
      refine wp_seq_k fun K170 hK170 => ?_
      refine c_region ?_
      refine s_op (o_move (v := (.bool false)) rfl ?_)
      refine s_op (o_assign (v := (.bool false)) rfl ?_)
      refine s_nil ?_
      refine t_norm (hK170 _ _ ?_)
      refine c_false rfl rfl ?_
      refine wp_seq_k fun K171 hK171 => ?_
      refine c_region ?_
      refine s_op (o_move (v := (S s)) rfl ?_)
      refine s_op (o_make Tryz.underlying87 ti5 rfl rfl (by omega) (by omega) (by omega) (by omega) hH22 fun v172 s173 w175 ho174 hH176 => ?_)
      have ho177 : Own 5 1 v172 (List.replicate ((64 : Int)).toNat (0 : UInt8)).length ((List.replicate ((64 : Int)).toNat (0 : UInt8)).map bV) s173 := by rw [List.length_replicate, List.map_replicate, ← made_rep]; exact ho174
      obtain ⟨p178, c179, rfl⟩ := (Own.sl ho174).form
      refine s_op (o_bstr Tryz.underlying87 Tryz.underlying5 Tryz.underlying9 rfl ho177.sl hH176 (seg_sub 0 rfl) ?_)
      refine s_op (o_seql (a := s) (b := (List.replicate ((64 : Int)).toNat (0 : UInt8))) rfl rfl ?_)
      refine s_op (o_move (v := (.bool (decide (s = (List.replicate ((64 : Int)).toNat (0 : UInt8)))))) rfl ?_)
      by_cases h180 : s = (List.replicate ((64 : Int)).toNat (0 : UInt8))
      · -- s = (List.replicate ((64 : Int)).toNat (0 : UInt8))
        refine s_on 56 rfl (congrArg Value.bool (decide_eq_true h180)) (o_move (v := (S t)) rfl ?_)
        refine s_on 56 rfl (congrArg Value.bool (decide_eq_true h180)) (o_move (v := (S s)) rfl ?_)
        refine s_on 56 rfl (congrArg Value.bool (decide_eq_true h180)) (o_seql (a := t) (b := s) rfl rfl ?_)
        refine s_op (o_pick_t (u := (.bool (decide (t = s)))) ((rfl : _ = _).trans (congrArg Value.bool (decide_eq_true h180))) rfl ?_)
        refine s_op (o_assign (v := (.bool (decide (t = s)))) rfl ?_)
        refine s_nil ?_
        refine t_norm (hK171 _ _ ?_)
        refine c_cond rfl (fun h181 => ?_) (fun h181 => ?_)
        · -- t = s
          refine wp_seq_k fun K182 hK182 => ?_
          refine c_region ?_
          refine s_op (o_sight (v := (.agg #[(.int .i64 0), (.int .i64 0), (.int .i64 0), (.int .i64 0), (.int .i64 0)])) (fun _ => by kernel_rfl) ?_)
          refine s_eff (o_storeN (vs := [(.int .i64 0), (.int .i64 0), (.int .i64 0), (.int .i64 0), (.int .i64 0)]) (c' := #[(.int .i64 0), (.int .i64 0), (.int .i64 0), (.int .i64 0), (.int .i64 0)]) ti23 rfl rfl rfl rfl (by intro u hu; simp only [List.mem_cons, List.not_mem_nil, or_false] at hu; rcases hu with rfl | rfl | rfl | rfl | rfl <;> first | rfl) (by simp) (by kernel_rfl) (hH176.front 3 rfl) fun w183 hH184 => ?_)
          refine s_op (o_assign (v := (.int .i64 7)) rfl ?_)
          refine s_nil ?_
          refine t_norm (hK182 _ _ ?_)
          refine wp_ret ?_
          refine b_ret (t_ret (c_retC2 Tryz.results18 rfl (run_loadVarN (cs := [(.int .i64 0), (.int .i64 0), (.int .i64 0), (.int .i64 0), (.int .i64 0)]) Tryz.underlying23 rfl ti23 hH184 (seg_sub 0 rfl) (CellsAt.one rfl)) (x := (.int .i64 7)) rfl ?_))
          have hE_ := ldD_last (s := s) (t := t) (by simp [h24, h128]) (by simp [h24, h128])
          rw [if_pos ⟨h180, h181⟩] at hE_
          have q185 : (ldD s t).1 = (Hd.mk 0 0 0 0 0) := by exact (congrArg Prod.fst hE_).trans rfl
          have q186 : (ldD s t).2 = 7 := by exact (congrArg Prod.snd hE_).trans rfl
          have hH187 : Has E w183 [R] := (hH184.front 4 rfl).first 1 rfl
          exact ⟨by rw [q185]; rw [q186], hH187⟩
        · -- not: t = s
          refine wp_skip ?_
          refine b_norm ?_
          refine t_norm (hK168 _ _ ?_)
          refine wp_seq_k fun K188 hK188 => ?_
          refine c_region ?_
          refine s_op (o_sight (v := (.agg #[(.int .i64 0), (.int .i64 0), (.int .i64 0), (.int .i64 0), (.int .i64 0)])) (fun _ => by kernel_rfl) ?_)
          refine s_eff (o_storeN (vs := [(.int .i64 0), (.int .i64 0), (.int .i64 0), (.int .i64 0), (.int .i64 0)]) (c' := #[(.int .i64 0), (.int .i64 0), (.int .i64 0), (.int .i64 0), (.int .i64 0)]) ti23 rfl rfl rfl rfl (by intro u hu; simp only [List.mem_cons, List.not_mem_nil, or_false] at hu; rcases hu with rfl | rfl | rfl | rfl | rfl <;> first | rfl) (by simp) (by kernel_rfl) (hH176.front 3 rfl) fun w189 hH190 => ?_)
          refine s_op (o_assign (v := (.int .i64 9)) rfl ?_)
          refine s_nil ?_
          refine t_norm (hK188 _ _ ?_)
          refine wp_ret ?_
          refine c_retC2 Tryz.results18 rfl (run_loadVarN (cs := [(.int .i64 0), (.int .i64 0), (.int .i64 0), (.int .i64 0), (.int .i64 0)]) Tryz.underlying23 rfl ti23 hH190 (seg_sub 0 rfl) (CellsAt.one rfl)) (x := (.int .i64 9)) rfl ?_
          have hE_ := ldD_last (s := s) (t := t) (by simp [h24, h128]) (by simp [h24, h128])
          rw [if_neg (fun k_ => by first | exact h181 k_.2)] at hE_
          have q191 : (ldD s t).1 = (Hd.mk 0 0 0 0 0) := by exact (congrArg Prod.fst hE_).trans rfl
          have q192 : (ldD s t).2 = 9 := by exact (congrArg Prod.snd hE_).trans rfl
          have hH193 : Has E w189 [R] := (hH190.front 4 rfl).first 1 rfl
          exact ⟨by rw [q191]; rw [q192], hH193⟩
      · -- not: s = (List.replicate ((64 : Int)).toNat (0 : UInt8))
        refine s_off (b' := false) 56 rfl (congrArg Value.bool (decide_eq_false h180)) rfl ?_
        refine s_off (b' := false) 56 rfl (congrArg Value.bool (decide_eq_false h180)) rfl ?_
        refine s_off (b' := false) 56 rfl (congrArg Value.bool (decide_eq_false h180)) rfl ?_
        refine s_op (o_pick_f (u := (.bool false)) ((rfl : _ = _).trans (congrArg Value.bool (decide_eq_false h180))) rfl ?_)
        refine s_op (o_assign (v := (.bool false)) rfl ?_)
        refine s_nil ?_
        refine t_norm (hK171 _ _ ?_)
        refine c_false rfl rfl ?_
        refine wp_skip ?_
        refine b_norm ?_
        refine t_norm (hK168 _ _ ?_)
        refine wp_seq_k fun K194 hK194 => ?_
        refine c_region ?_
        refine s_op (o_sight (v := (.agg #[(.int .i64 0), (.int .i64 0), (.int .i64 0), (.int .i64 0), (.int .i64 0)])) (fun _ => by kernel_rfl) ?_)
        refine s_eff (o_storeN (vs := [(.int .i64 0), (.int .i64 0), (.int .i64 0), (.int .i64 0), (.int .i64 0)]) (c' := #[(.int .i64 0), (.int .i64 0), (.int .i64 0), (.int .i64 0), (.int .i64 0)]) ti23 rfl rfl rfl rfl (by intro u hu; simp only [List.mem_cons, List.not_mem_nil, or_false] at hu; rcases hu with rfl | rfl | rfl | rfl | rfl <;> first | rfl) (by simp) (by kernel_rfl) (hH176.front 3 rfl) fun w195 hH196 => ?_)
        refine s_op (o_assign (v := (.int .i64 9)) rfl ?_)
        refine s_nil ?_
        refine t_norm (hK194 _ _ ?_)
        refine wp_ret ?_
        refine c_retC2 Tryz.results18 rfl (run_loadVarN (cs := [(.int .i64 0), (.int .i64 0), (.int .i64 0), (.int .i64 0), (.int .i64 0)]) Tryz.underlying23 rfl ti23 hH196 (seg_sub 0 rfl) (CellsAt.one rfl)) (x := (.int .i64 9)) rfl ?_
        have hE_ := ldD_last (s := s) (t := t) (by simp [h24, h128]) (by simp [h24, h128])
        rw [if_neg (fun k_ => by first | exact h180 k_.1)] at hE_
        have q197 : (ldD s t).1 = (Hd.mk 0 0 0 0 0) := by exact (congrArg Prod.fst hE_).trans rfl
        have q198 : (ldD s t).2 = 9 := by exact (congrArg Prod.snd hE_).trans rfl
        have hH199 : Has E w195 [R] := (hH196.front 4 rfl).first 1 rfl
        exact ⟨by rw [q197]; rw [q198], hH199⟩
end Go.Q
namespace Go.Q
open Go.Proofs
set_option linter.unusedVariables false
set_option maxRecDepth 100000
attribute [local irreducible] wpList OK Code.wp
set_option maxHeartbeats 4000000 in
theorem HeadLoads_c {E w : World} {R : List Hp} (hH : Has E w [R]) (hg : CellsAt R 0 0 nibV) (a b : Bs) {at_ : Int} :
    Calls Tryz.prog 4 #[(S a), (S b), (.int .i64 at_)] w fun e w' => e = .returned (.bool true) ∧ Has E w' [R] := by
  refine c_enter (args := [(S a), (S b), (.int .i64 at_)]) Tryz.func4 rfl Tryz.ntmps4 (by simp) ?_
  refine wp_seq_k fun K1 hK1 => ?_
  refine c_region ?_
  refine s_op (o_assign (v := (.bool false)) rfl ?_)
  refine s_nil ?_
  refine t_norm (hK1 _ _ ?_)
  refine wp_seq_k fun K2 hK2 => ?_
  refine wp_seq_k fun K3 hK3 => ?_
  refine c_region ?_
  refine s_op (o_move (v := (S a)) rfl ?_)
  refine s_op (o_slen Tryz.underlying9 rfl ?_)
  refine s_op (o_gtr (a := (a.length : Int)) (b := 64) rfl rfl ?_)
  refine s_op (o_move (v := (.bool (decide (64 < (a.length : Int))))) rfl ?_)
  by_cases h4 : 64 < (a.length : Int)
  · -- 64 < (a.length : Int)
    refine s_off (b' := true) 22 rfl (congrArg Value.bool (decide_eq_true h4)) rfl ?_
    refine s_off (b' := true) 22 rfl (congrArg Value.bool (decide_eq_true h4)) rfl ?_
    refine s_off (b' := true) 22 rfl (congrArg Value.bool (decide_eq_true h4)) rfl ?_
    refine s_op (o_pick_t (u := (.bool true)) ((rfl : _ = _).trans (congrArg Value.bool (decide_eq_true h4))) rfl ?_)
    refine s_op (o_move (v := (.bool true)) rfl ?_)
    refine s_off (b' := true) 27 rfl rfl rfl ?_
    refine s_off (b' := true) 27 rfl rfl rfl ?_
    refine s_op (o_pick_t (u := (.bool true)) rfl rfl ?_)
    refine s_nil ?_
    refine t_norm (hK3 _ _ ?_)
    refine c_true rfl rfl ?_
    refine wp_seq_k fun K5 hK5 => ?_
    refine c_region ?_
    refine s_op (o_callf (vs := #[]) ca9 rfl (args0) (awake7_c hH.all (hg.mono (seg_sub 0 rfl))) ?_)
    rintro _ w8 ⟨rfl, hX6⟩
    refine ⟨_, rfl, ?_⟩
    have hH7 := hX6.of_all
    refine s_op (o_assign (v := (.bool true)) rfl ?_)
    refine s_nil ?_
    refine t_norm (hK5 _ _ ?_)
    refine wp_ret ?_
    refine t_ret (c_ret1 Tryz.results4  (v := (.bool true)) rfl ?_)
    exact ⟨rfl, hH7⟩
  · -- not: 64 < (a.length : Int)
    refine s_on 22 rfl (congrArg Value.bool (decide_eq_false h4)) (o_move (v := (S b)) rfl ?_)
    refine s_on 22 rfl (congrArg Value.bool (decide_eq_false h4)) (o_slen Tryz.underlying9 rfl ?_)
    refine s_on 22 rfl (congrArg Value.bool (decide_eq_false h4)) (o_gtr (a := (b.length : Int)) (b := 64) rfl rfl ?_)
    refine s_op (o_pick_f (u := (.bool (decide (64 < (b.length : Int))))) ((rfl : _ = _).trans (congrArg Value.bool (decide_eq_false h4))) rfl ?_)
    refine s_op (o_move (v := (.bool (decide (64 < (b.length : Int))))) rfl ?_)
    by_cases h9 : 64 < (b.length : Int)
    · -- 64 < (b.length : Int)
      refine s_off (b' := true) 27 rfl (congrArg Value.bool (decide_eq_true h9)) rfl ?_
      refine s_off (b' := true) 27 rfl (congrArg Value.bool (decide_eq_true h9)) rfl ?_
      refine s_op (o_pick_t (u := (.bool true)) ((rfl : _ = _).trans (congrArg Value.bool (decide_eq_true h9))) rfl ?_)
      refine s_nil ?_
      refine t_norm (hK3 _ _ ?_)
      refine c_true rfl rfl ?_
      refine wp_seq_k fun K10 hK10 => ?_
      refine c_region ?_
      refine s_op (o_callf (vs := #[]) ca9 rfl (args0) (awake7_c hH.all (hg.mono (seg_sub 0 rfl))) ?_)
      rintro _ w13 ⟨rfl, hX11⟩
      refine ⟨_, rfl, ?_⟩
      have hH12 := hX11.of_all
      refine s_op (o_assign (v := (.bool true)) rfl ?_)
      refine s_nil ?_
      refine t_norm (hK10 _ _ ?_)
      refine wp_ret ?_
      refine t_ret (c_ret1 Tryz.results4  (v := (.bool true)) rfl ?_)
      exact ⟨rfl, hH12⟩
    · -- not: 64 < (b.length : Int)
      refine s_on 27 rfl (congrArg Value.bool (decide_eq_false h9)) (o_callf (vs := #[]) ca9 rfl (args0) (awake7_c hH.all (hg.mono (seg_sub 0 rfl))) ?_)
      rintro _ w16 ⟨rfl, hX14⟩
      refine ⟨_, rfl, ?_⟩
      have hH15 := hX14.of_all
      refine s_on 27 rfl (congrArg Value.bool (decide_eq_false h9)) (o_not rfl ?_)
      refine s_op (o_pick_f (u := (.bool false)) ((rfl : _ = _).trans (congrArg Value.bool (decide_eq_false h9))) rfl ?_)
      refine s_nil ?_
      refine t_norm (hK3 _ _ ?_)
      refine c_false rfl rfl ?_
      refine wp_skip ?_
      refine t_norm (hK2 _ _ ?_)
      refine wp_seq_k fun K17 hK17 => ?_
      refine c_region ?_
      refine s_op (o_callf (vs := #[(.pointer none), (.int .i64 6)]) ca15 rfl (args2 rfl rfl) (new_nil hH15.all (n := 6) (by decide)) ?_)
      rintro _ w24 ⟨db18, pb19, sg20, rfl, hd21, hX22⟩
      refine ⟨_, rfl, ?_⟩
      have hH23 : Has E w24 [sg20, [Hp.one pb19 (.cells #[(.bool (Pw.mk false false 0 0).off), (.bool (Pw.mk false false 0 0).armed), (.int .i64 (Pw.mk false false 0 0).left), (.int .i64 (Pw.mk false false 0 0).uses)] 78 (0, 0))], R] := hX22.of_all2
      refine s_op (o_assign (v := (.pointer (some ⟨db18, 0, none⟩))) rfl ?_)
      refine s_nil ?_
      refine t_norm (hK17 _ _ ?_)
      refine wp_seq_k fun K25 hK25 => ?_
      refine c_region ?_
      refine s_op (o_move (v := (.int .i64 at_)) rfl ?_)
      have hw26 := wrap_u64 at_
      refine s_op (o_conv (c := (IntKind.wrap .u64 at_)) Tryz.underlying3 Tryz.underlying36 rfl rfl ?_)
      refine s_op (o_rem (a := IntKind.wrap .u64 at_) (b := 5) (c := (IntKind.wrap .u64 at_) % 5) rfl rfl (by omega) ((Int.tmod_eq_emod_of_nonneg (by first | exact Int.natCast_nonneg _ | omega))) ?_)
      refine s_op (o_conv (c := ((IntKind.wrap .u64 at_) % 5)) Tryz.underlying36 Tryz.underlying3 rfl (w64 (by omega) (by omega)) ?_)
      refine s_op (o_assign (v := (.int .i64 ((IntKind.wrap .u64 at_) % 5))) rfl ?_)
      refine s_nil ?_
      refine t_norm (hK25 _ _ ?_)
      refine wp_seq_k fun K27 hK27 => ?_
      refine wp_seq_k fun K28 hK28 => ?_
      refine c_region ?_
      refine s_op (o_move (v := (.pointer (some ⟨db18, 0, none⟩))) rfl ?_)
      refine s_op (o_move (v := (.int .i64 ((IntKind.wrap .u64 at_) % 5))) rfl ?_)
      refine s_op (o_move (v := (S a)) rfl ?_)
      refine s_op (o_callf (vs := #[(.pointer (some ⟨db18, 0, none⟩)), (.int .i64 ((IntKind.wrap .u64 at_) % 5)), (S a)]) ca16 rfl (args3 rfl rfl rfl) (put0_d (p := (Pw.mk false false 0 0)) (la := (List.replicate 6 blankS)) ((hH23.front 1 rfl).front 1 rfl).all2 hd21 ((IntKind.wrap .u64 at_) % 5) a (by omega)) ?_)
      rintro _ w33 ⟨sg29, rfl, hd30, hX31⟩
      refine ⟨_, rfl, ?_⟩
      have hH32 : Has E w33 [sg29, [Hp.one pb19 (.cells #[(.bool (Pw.mk false false 0 0).off), (.bool (Pw.mk false false 0 0).armed), (.int .i64 (Pw.mk false false 0 0).left), (.int .i64 (Pw.mk false false 0 0).uses)] 78 (0, 0))], R] := hX31.of_all2
      refine s_op (o_neq (a := putE ((List.replicate 6 blankS).length) ((IntKind.wrap .u64 at_) % 5) a) (b := 0) rfl rfl ?_)
      refine s_op (o_move (v := (.bool (decide (putE ((List.replicate 6 blankS).length) ((IntKind.wrap .u64 at_) % 5) a ≠ 0)))) rfl ?_)
      by_cases h34 : putE ((List.replicate 6 blankS).length) ((IntKind.wrap .u64 at_) % 5) a ≠ 0
      · -- putE ((List.replicate 6 blankS).length) ((IntKind.wrap .u64 at_) % 5) a ≠ 0
        exact absurd (putE_ok (by omega) (by omega) (by first | (simp; omega) | (rw [putA_len, List.length_replicate]; omega) | (rw [List.length_replicate]; omega))) h34
      · -- not: putE ((List.replicate 6 blankS).length) ((IntKind.wrap .u64 at_) % 5) a ≠ 0
        refine s_on 42 rfl (congrArg Value.bool (decide_eq_false h34)) (o_move (v := (.pointer (some ⟨db18, 0, none⟩))) rfl ?_)
        refine s_on 42 rfl (congrArg Value.bool (decide_eq_false h34)) (o_move (v := (.int .i64 ((IntKind.wrap .u64 at_) % 5))) rfl ?_)
        refine s_on 42 rfl (congrArg Value.bool (decide_eq_false h34)) (o_add (a := (IntKind.wrap .u64 at_) % 5) (b := 1) rfl rfl (w64 (by omega) (by omega)) ?_)
        refine s_on 42 rfl (congrArg Value.bool (decide_eq_false h34)) (o_move (v := (S b)) rfl ?_)
        refine s_on 42 rfl (congrArg Value.bool (decide_eq_false h34)) (o_callf (vs := #[(.pointer (some ⟨db18, 0, none⟩)), (.int .i64 (((IntKind.wrap .u64 at_) % 5) + 1)), (S b)]) ca16 rfl (args3 rfl rfl rfl) (put0_d (p := (Pw.mk false false 0 0)) (la := (putA (List.replicate 6 blankS) ((IntKind.wrap .u64 at_) % 5) a)) ((hH32.front 1 rfl).front 1 rfl).all2 hd30 (((IntKind.wrap .u64 at_) % 5) + 1) b (by omega)) ?_)
        rintro _ w39 ⟨sg35, rfl, hd36, hX37⟩
        refine ⟨_, rfl, ?_⟩
        have hH38 : Has E w39 [sg35, [Hp.one pb19 (.cells #[(.bool (Pw.mk false false 0 0).off), (.bool (Pw.mk false false 0 0).armed), (.int .i64 (Pw.mk false false 0 0).left), (.int .i64 (Pw.mk false false 0 0).uses)] 78 (0, 0))], R] := hX37.of_all2
        refine s_on 42 rfl (congrArg Value.bool (decide_eq_false h34)) (o_neq (a := putE ((putA (List.replicate 6 blankS) ((IntKind.wrap .u64 at_) % 5) a).length) (((IntKind.wrap .u64 at_) % 5) + 1) b) (b := 0) rfl rfl ?_)
        refine s_op (o_pick_f (u := (.bool (decide (putE ((putA (List.replicate 6 blankS) ((IntKind.wrap .u64 at_) % 5) a).length) (((IntKind.wrap .u64 at_) % 5) + 1) b ≠ 0)))) ((rfl : _ = _).trans (congrArg Value.bool (decide_eq_false h34))) rfl ?_)
        refine s_nil ?_
        refine t_norm (hK28 _ _ ?_)
        refine c_cond rfl (fun h40 => ?_) (fun h40 => ?_)
        · -- putE ((putA (List.replicate 6 blankS) ((IntKind.wrap .u64 at_) % 5) a).length) (((IntKind.wrap .u64 at_) % 5) + 1) b ≠ 0
          exact absurd (putE_ok (by omega) (by omega) (by first | (simp; omega) | (rw [putA_len, List.length_replicate]; omega) | (rw [List.length_replicate]; omega))) h40
        · -- not: putE ((putA (List.replicate 6 blankS) ((IntKind.wrap .u64 at_) % 5) a).length) (((IntKind.wrap .u64 at_) % 5) + 1) b ≠ 0
          have hrl0_ := read_len0 (p := Pw.mk false false 0 0) (la := (putA (putA (List.replicate 6 blankS) ((IntKind.wrap .u64 at_) % 5) a) (((IntKind.wrap .u64 at_) % 5) + 1) b)) (putA_64 (putA_64 (full_blank _))) ((IntKind.wrap .u64 at_) % 5)
          have hrl1_ := read_len0 (p := Pw.mk false false 0 0) (la := (putA (putA (List.replicate 6 blankS) ((IntKind.wrap .u64 at_) % 5) a) (((IntKind.wrap .u64 at_) % 5) + 1) b)) (putA_64 (putA_64 (full_blank _))) (((IntKind.wrap .u64 at_) % 5) + 1)
          refine wp_skip ?_
          refine t_norm (hK27 _ _ ?_)
          refine wp_seq_k fun K41 hK41 => ?_
          refine c_region ?_
          refine s_op (o_move (v := (.pointer (some ⟨db18, 0, none⟩))) rfl ?_)
          refine s_op (o_move (v := (.int .i64 ((IntKind.wrap .u64 at_) % 5))) rfl ?_)
          refine s_op (o_callf (vs := #[(.pointer (some ⟨db18, 0, none⟩)), (.int .i64 ((IntKind.wrap .u64 at_) % 5))]) ca17 rfl (args2 rfl rfl) (read_d (p := (Pw.mk false false 0 0)) (la := (putA (putA (List.replicate 6 blankS) ((IntKind.wrap .u64 at_) % 5) a) (((IntKind.wrap .u64 at_) % 5) + 1) b)) (lo := ([] : List (Int × Bs))) ((hH38.front 1 rfl).front 1 rfl).all2 hd36 ((IntKind.wrap .u64 at_) % 5)) ?_)
          rintro _ w44 ⟨rfl, hX42⟩
          refine ⟨_, rfl, ?_⟩
          have hH43 : Has E w44 [sg35, [Hp.one pb19 (.cells #[(.bool (Pw.mk false false 0 0).off), (.bool (Pw.mk false false 0 0).armed), (.int .i64 (Pw.mk false false 0 0).left), (.int .i64 (Pw.mk false false 0 0).uses)] 78 (0, 0))], R] := hX42.of_all2
          refine s_op (o_move (v := (.tuple #[(S (readS (Pw.mk false false 0 0) (putA (putA (List.replicate 6 blankS) ((IntKind.wrap .u64 at_) % 5) a) (((IntKind.wrap .u64 at_) % 5) + 1) b) ([] : List (Int × Bs)) ((IntKind.wrap .u64 at_) % 5))), (.int .i64 (readE (Pw.mk false false 0 0) (putA (putA (List.replicate 6 blankS) ((IntKind.wrap .u64 at_) % 5) a) (((IntKind.wrap .u64 at_) % 5) + 1) b) ((IntKind.wrap .u64 at_) % 5)))])) rfl ?_)
          refine s_op (o_extract (v := (S (readS (Pw.mk false false 0 0) (putA (putA (List.replicate 6 blankS) ((IntKind.wrap .u64 at_) % 5) a) (((IntKind.wrap .u64 at_) % 5) + 1) b) ([] : List (Int × Bs)) ((IntKind.wrap .u64 at_) % 5)))) rfl rfl ?_)
          refine s_op (o_extract (v := (.int .i64 (readE (Pw.mk false false 0 0) (putA (putA (List.replicate 6 blankS) ((IntKind.wrap .u64 at_) % 5) a) (((IntKind.wrap .u64 at_) % 5) + 1) b) ((IntKind.wrap .u64 at_) % 5)))) rfl rfl ?_)
          refine s_op (o_assign (v := (S (readS (Pw.mk false false 0 0) (putA (putA (List.replicate 6 blankS) ((IntKind.wrap .u64 at_) % 5) a) (((IntKind.wrap .u64 at_) % 5) + 1) b) ([] : List (Int × Bs)) ((IntKind.wrap .u64 at_) % 5)))) rfl ?_)
          refine s_op (o_assign (v := (.int .i64 (readE (Pw.mk false false 0 0) (putA (putA (List.replicate 6 blankS) ((IntKind.wrap .u64 at_) % 5) a) (((IntKind.wrap .u64 at_) % 5) + 1) b) ((IntKind.wrap .u64 at_) % 5)))) rfl ?_)
          refine s_nil ?_
          refine t_norm (hK41 _ _ ?_)
          refine wp_seq_k fun K45 hK45 => ?_
          refine c_region ?_
          refine s_op (o_move (v := (.pointer (some ⟨db18, 0, none⟩))) rfl ?_)
          refine s_op (o_move (v := (.int .i64 ((IntKind.wrap .u64 at_) % 5))) rfl ?_)
          refine s_op (o_add (a := (IntKind.wrap .u64 at_) % 5) (b := 1) rfl rfl (w64 (by omega) (by omega)) ?_)
          refine s_op (o_callf (vs := #[(.pointer (some ⟨db18, 0, none⟩)), (.int .i64 (((IntKind.wrap .u64 at_) % 5) + 1))]) ca17 rfl (args2 rfl rfl) (read_d (p := (Pw.mk false false 0 0)) (la := (putA (putA (List.replicate 6 blankS) ((IntKind.wrap .u64 at_) % 5) a) (((IntKind.wrap .u64 at_) % 5) + 1) b)) (lo := ([] : List (Int × Bs))) ((hH43.front 1 rfl).front 1 rfl).all2 hd36 (((IntKind.wrap .u64 at_) % 5) + 1)) ?_)
          rintro _ w48 ⟨rfl, hX46⟩
          refine ⟨_, rfl, ?_⟩
          have hH47 : Has E w48 [sg35, [Hp.one pb19 (.cells #[(.bool (Pw.mk false false 0 0).off), (.bool (Pw.mk false false 0 0).armed), (.int .i64 (Pw.mk false false 0 0).left), (.int .i64 (Pw.mk false false 0 0).uses)] 78 (0, 0))], R] := hX46.of_all2
          refine s_op (o_move (v := (.tuple #[(S (readS (Pw.mk false false 0 0) (putA (putA (List.replicate 6 blankS) ((IntKind.wrap .u64 at_) % 5) a) (((IntKind.wrap .u64 at_) % 5) + 1) b) ([] : List (Int × Bs)) (((IntKind.wrap .u64 at_) % 5) + 1))), (.int .i64 (readE (Pw.mk false false 0 0) (putA (putA (List.replicate 6 blankS) ((IntKind.wrap .u64 at_) % 5) a) (((IntKind.wrap .u64 at_) % 5) + 1) b) (((IntKind.wrap .u64 at_) % 5) + 1)))])) rfl ?_)
          refine s_op (o_extract (v := (S (readS (Pw.mk false false 0 0) (putA (putA (List.replicate 6 blankS) ((IntKind.wrap .u64 at_) % 5) a) (((IntKind.wrap .u64 at_) % 5) + 1) b) ([] : List (Int × Bs)) (((IntKind.wrap .u64 at_) % 5) + 1)))) rfl rfl ?_)
          refine s_op (o_extract (v := (.int .i64 (readE (Pw.mk false false 0 0) (putA (putA (List.replicate 6 blankS) ((IntKind.wrap .u64 at_) % 5) a) (((IntKind.wrap .u64 at_) % 5) + 1) b) (((IntKind.wrap .u64 at_) % 5) + 1)))) rfl rfl ?_)
          refine s_op (o_assign (v := (S (readS (Pw.mk false false 0 0) (putA (putA (List.replicate 6 blankS) ((IntKind.wrap .u64 at_) % 5) a) (((IntKind.wrap .u64 at_) % 5) + 1) b) ([] : List (Int × Bs)) (((IntKind.wrap .u64 at_) % 5) + 1)))) rfl ?_)
          refine s_op (o_assign (v := (.int .i64 (readE (Pw.mk false false 0 0) (putA (putA (List.replicate 6 blankS) ((IntKind.wrap .u64 at_) % 5) a) (((IntKind.wrap .u64 at_) % 5) + 1) b) (((IntKind.wrap .u64 at_) % 5) + 1)))) rfl ?_)
          refine s_nil ?_
          refine t_norm (hK45 _ _ ?_)
          refine wp_seq_k fun K49 hK49 => ?_
          refine c_region ?_
          refine s_op (o_move (v := (S (readS (Pw.mk false false 0 0) (putA (putA (List.replicate 6 blankS) ((IntKind.wrap .u64 at_) % 5) a) (((IntKind.wrap .u64 at_) % 5) + 1) b) ([] : List (Int × Bs)) ((IntKind.wrap .u64 at_) % 5)))) rfl ?_)
          refine s_op (o_move (v := (S (readS (Pw.mk false false 0 0) (putA (putA (List.replicate 6 blankS) ((IntKind.wrap .u64 at_) % 5) a) (((IntKind.wrap .u64 at_) % 5) + 1) b) ([] : List (Int × Bs)) (((IntKind.wrap .u64 at_) % 5) + 1)))) rfl ?_)
          refine s_op (o_callf (vs := #[(S (readS (Pw.mk false false 0 0) (putA (putA (List.replicate 6 blankS) ((IntKind.wrap .u64 at_) % 5) a) (((IntKind.wrap .u64 at_) % 5) + 1) b) ([] : List (Int × Bs)) ((IntKind.wrap .u64 at_) % 5))), (S (readS (Pw.mk false false 0 0) (putA (putA (List.replicate 6 blankS) ((IntKind.wrap .u64 at_) % 5) a) (((IntKind.wrap .u64 at_) % 5) + 1) b) ([] : List (Int × Bs)) (((IntKind.wrap .u64 at_) % 5) + 1)))]) ca18 rfl (args2 rfl rfl) (r7load_c (s := (readS (Pw.mk false false 0 0) (putA (putA (List.replicate 6 blankS) ((IntKind.wrap .u64 at_) % 5) a) (((IntKind.wrap .u64 at_) % 5) + 1) b) ([] : List (Int × Bs)) ((IntKind.wrap .u64 at_) % 5))) (t := (readS (Pw.mk false false 0 0) (putA (putA (List.replicate 6 blankS) ((IntKind.wrap .u64 at_) % 5) a) (((IntKind.wrap .u64 at_) % 5) + 1) b) ([] : List (Int × Bs)) (((IntKind.wrap .u64 at_) % 5) + 1))) hH47.all (by first | omega | (simp only []; omega) | (simp; done) | (simp; omega)) (by first | omega | (simp only []; omega) | (simp; done) | (simp; omega))) ?_)
          rintro _ w52 ⟨rfl, hX50⟩
          refine ⟨_, rfl, ?_⟩
          have hH51 := hX50.of_all
          refine s_op (o_move (v := (.tuple #[(.agg #[(.int .i64 ((ldD (readS (Pw.mk false false 0 0) (putA (putA (List.replicate 6 blankS) ((IntKind.wrap .u64 at_) % 5) a) (((IntKind.wrap .u64 at_) % 5) + 1) b) ([] : List (Int × Bs)) ((IntKind.wrap .u64 at_) % 5)) (readS (Pw.mk false false 0 0) (putA (putA (List.replicate 6 blankS) ((IntKind.wrap .u64 at_) % 5) a) (((IntKind.wrap .u64 at_) % 5) + 1) b) ([] : List (Int × Bs)) (((IntKind.wrap .u64 at_) % 5) + 1))).1).seq), (.int .i64 ((ldD (readS (Pw.mk false false 0 0) (putA (putA (List.replicate 6 blankS) ((IntKind.wrap .u64 at_) % 5) a) (((IntKind.wrap .u64 at_) % 5) + 1) b) ([] : List (Int × Bs)) ((IntKind.wrap .u64 at_) % 5)) (readS (Pw.mk false false 0 0) (putA (putA (List.replicate 6 blankS) ((IntKind.wrap .u64 at_) % 5) a) (((IntKind.wrap .u64 at_) % 5) + 1) b) ([] : List (Int × Bs)) (((IntKind.wrap .u64 at_) % 5) + 1))).1).ep), (.int .i64 ((ldD (readS (Pw.mk false false 0 0) (putA (putA (List.replicate 6 blankS) ((IntKind.wrap .u64 at_) % 5) a) (((IntKind.wrap .u64 at_) % 5) + 1) b) ([] : List (Int × Bs)) ((IntKind.wrap .u64 at_) % 5)) (readS (Pw.mk false false 0 0) (putA (putA (List.replicate 6 blankS) ((IntKind.wrap .u64 at_) % 5) a) (((IntKind.wrap .u64 at_) % 5) + 1) b) ([] : List (Int × Bs)) (((IntKind.wrap .u64 at_) % 5) + 1))).1).cut), (.int .i64 ((ldD (readS (Pw.mk false false 0 0) (putA (putA (List.replicate 6 blankS) ((IntKind.wrap .u64 at_) % 5) a) (((IntKind.wrap .u64 at_) % 5) + 1) b) ([] : List (Int × Bs)) ((IntKind.wrap .u64 at_) % 5)) (readS (Pw.mk false false 0 0) (putA (putA (List.replicate 6 blankS) ((IntKind.wrap .u64 at_) % 5) a) (((IntKind.wrap .u64 at_) % 5) + 1) b) ([] : List (Int × Bs)) (((IntKind.wrap .u64 at_) % 5) + 1))).1).st), (.int .i64 ((ldD (readS (Pw.mk false false 0 0) (putA (putA (List.replicate 6 blankS) ((IntKind.wrap .u64 at_) % 5) a) (((IntKind.wrap .u64 at_) % 5) + 1) b) ([] : List (Int × Bs)) ((IntKind.wrap .u64 at_) % 5)) (readS (Pw.mk false false 0 0) (putA (putA (List.replicate 6 blankS) ((IntKind.wrap .u64 at_) % 5) a) (((IntKind.wrap .u64 at_) % 5) + 1) b) ([] : List (Int × Bs)) (((IntKind.wrap .u64 at_) % 5) + 1))).1).mrk)]), (.int .i64 ((ldD (readS (Pw.mk false false 0 0) (putA (putA (List.replicate 6 blankS) ((IntKind.wrap .u64 at_) % 5) a) (((IntKind.wrap .u64 at_) % 5) + 1) b) ([] : List (Int × Bs)) ((IntKind.wrap .u64 at_) % 5)) (readS (Pw.mk false false 0 0) (putA (putA (List.replicate 6 blankS) ((IntKind.wrap .u64 at_) % 5) a) (((IntKind.wrap .u64 at_) % 5) + 1) b) ([] : List (Int × Bs)) (((IntKind.wrap .u64 at_) % 5) + 1))).2))])) rfl ?_)
          refine s_op (o_extract (v := (.agg #[(.int .i64 ((ldD (readS (Pw.mk false false 0 0) (putA (putA (List.replicate 6 blankS) ((IntKind.wrap .u64 at_) % 5) a) (((IntKind.wrap .u64 at_) % 5) + 1) b) ([] : List (Int × Bs)) ((IntKind.wrap .u64 at_) % 5)) (readS (Pw.mk false false 0 0) (putA (putA (List.replicate 6 blankS) ((IntKind.wrap .u64 at_) % 5) a) (((IntKind.wrap .u64 at_) % 5) + 1) b) ([] : List (Int × Bs)) (((IntKind.wrap .u64 at_) % 5) + 1))).1).seq), (.int .i64 ((ldD (readS (Pw.mk false false 0 0) (putA (putA (List.replicate 6 blankS) ((IntKind.wrap .u64 at_) % 5) a) (((IntKind.wrap .u64 at_) % 5) + 1) b) ([] : List (Int × Bs)) ((IntKind.wrap .u64 at_) % 5)) (readS (Pw.mk false false 0 0) (putA (putA (List.replicate 6 blankS) ((IntKind.wrap .u64 at_) % 5) a) (((IntKind.wrap .u64 at_) % 5) + 1) b) ([] : List (Int × Bs)) (((IntKind.wrap .u64 at_) % 5) + 1))).1).ep), (.int .i64 ((ldD (readS (Pw.mk false false 0 0) (putA (putA (List.replicate 6 blankS) ((IntKind.wrap .u64 at_) % 5) a) (((IntKind.wrap .u64 at_) % 5) + 1) b) ([] : List (Int × Bs)) ((IntKind.wrap .u64 at_) % 5)) (readS (Pw.mk false false 0 0) (putA (putA (List.replicate 6 blankS) ((IntKind.wrap .u64 at_) % 5) a) (((IntKind.wrap .u64 at_) % 5) + 1) b) ([] : List (Int × Bs)) (((IntKind.wrap .u64 at_) % 5) + 1))).1).cut), (.int .i64 ((ldD (readS (Pw.mk false false 0 0) (putA (putA (List.replicate 6 blankS) ((IntKind.wrap .u64 at_) % 5) a) (((IntKind.wrap .u64 at_) % 5) + 1) b) ([] : List (Int × Bs)) ((IntKind.wrap .u64 at_) % 5)) (readS (Pw.mk false false 0 0) (putA (putA (List.replicate 6 blankS) ((IntKind.wrap .u64 at_) % 5) a) (((IntKind.wrap .u64 at_) % 5) + 1) b) ([] : List (Int × Bs)) (((IntKind.wrap .u64 at_) % 5) + 1))).1).st), (.int .i64 ((ldD (readS (Pw.mk false false 0 0) (putA (putA (List.replicate 6 blankS) ((IntKind.wrap .u64 at_) % 5) a) (((IntKind.wrap .u64 at_) % 5) + 1) b) ([] : List (Int × Bs)) ((IntKind.wrap .u64 at_) % 5)) (readS (Pw.mk false false 0 0) (putA (putA (List.replicate 6 blankS) ((IntKind.wrap .u64 at_) % 5) a) (((IntKind.wrap .u64 at_) % 5) + 1) b) ([] : List (Int × Bs)) (((IntKind.wrap .u64 at_) % 5) + 1))).1).mrk)])) rfl rfl ?_)
          refine s_op (o_extract (v := (.int .i64 ((ldD (readS (Pw.mk false false 0 0) (putA (putA (List.replicate 6 blankS) ((IntKind.wrap .u64 at_) % 5) a) (((IntKind.wrap .u64 at_) % 5) + 1) b) ([] : List (Int × Bs)) ((IntKind.wrap .u64 at_) % 5)) (readS (Pw.mk false false 0 0) (putA (putA (List.replicate 6 blankS) ((IntKind.wrap .u64 at_) % 5) a) (((IntKind.wrap .u64 at_) % 5) + 1) b) ([] : List (Int × Bs)) (((IntKind.wrap .u64 at_) % 5) + 1))).2))) rfl rfl ?_)
          refine s_op (o_alloc (cs := #[(.int .i64 0), (.int .i64 0), (.int .i64 0), (.int .i64 0), (.int .i64 0)]) ti23 rfl hH51 fun b53 w54 hH55 => ?_)
          refine s_eff (o_storeN (vs := [(.int .i64 ((ldD (readS (Pw.mk false false 0 0) (putA (putA (List.replicate 6 blankS) ((IntKind.wrap .u64 at_) % 5) a) (((IntKind.wrap .u64 at_) % 5) + 1) b) ([] : List (Int × Bs)) ((IntKind.wrap .u64 at_) % 5)) (readS (Pw.mk false false 0 0) (putA (putA (List.replicate 6 blankS) ((IntKind.wrap .u64 at_) % 5) a) (((IntKind.wrap .u64 at_) % 5) + 1) b) ([] : List (Int × Bs)) (((IntKind.wrap .u64 at_) % 5) + 1))).1).seq), (.int .i64 ((ldD (readS (Pw.mk false false 0 0) (putA (putA (List.replicate 6 blankS) ((IntKind.wrap .u64 at_) % 5) a) (((IntKind.wrap .u64 at_) % 5) + 1) b) ([] : List (Int × Bs)) ((IntKind.wrap .u64 at_) % 5)) (readS (Pw.mk false false 0 0) (putA (putA (List.replicate 6 blankS) ((IntKind.wrap .u64 at_) % 5) a) (((IntKind.wrap .u64 at_) % 5) + 1) b) ([] : List (Int × Bs)) (((IntKind.wrap .u64 at_) % 5) + 1))).1).ep), (.int .i64 ((ldD (readS (Pw.mk false false 0 0) (putA (putA (List.replicate 6 blankS) ((IntKind.wrap .u64 at_) % 5) a) (((IntKind.wrap .u64 at_) % 5) + 1) b) ([] : List (Int × Bs)) ((IntKind.wrap .u64 at_) % 5)) (readS (Pw.mk false false 0 0) (putA (putA (List.replicate 6 blankS) ((IntKind.wrap .u64 at_) % 5) a) (((IntKind.wrap .u64 at_) % 5) + 1) b) ([] : List (Int × Bs)) (((IntKind.wrap .u64 at_) % 5) + 1))).1).cut), (.int .i64 ((ldD (readS (Pw.mk false false 0 0) (putA (putA (List.replicate 6 blankS) ((IntKind.wrap .u64 at_) % 5) a) (((IntKind.wrap .u64 at_) % 5) + 1) b) ([] : List (Int × Bs)) ((IntKind.wrap .u64 at_) % 5)) (readS (Pw.mk false false 0 0) (putA (putA (List.replicate 6 blankS) ((IntKind.wrap .u64 at_) % 5) a) (((IntKind.wrap .u64 at_) % 5) + 1) b) ([] : List (Int × Bs)) (((IntKind.wrap .u64 at_) % 5) + 1))).1).st), (.int .i64 ((ldD (readS (Pw.mk false false 0 0) (putA (putA (List.replicate 6 blankS) ((IntKind.wrap .u64 at_) % 5) a) (((IntKind.wrap .u64 at_) % 5) + 1) b) ([] : List (Int × Bs)) ((IntKind.wrap .u64 at_) % 5)) (readS (Pw.mk false false 0 0) (putA (putA (List.replicate 6 blankS) ((IntKind.wrap .u64 at_) % 5) a) (((IntKind.wrap .u64 at_) % 5) + 1) b) ([] : List (Int × Bs)) (((IntKind.wrap .u64 at_) % 5) + 1))).1).mrk)]) (c' := #[(.int .i64 ((ldD (readS (Pw.mk false false 0 0) (putA (putA (List.replicate 6 blankS) ((IntKind.wrap .u64 at_) % 5) a) (((IntKind.wrap .u64 at_) % 5) + 1) b) ([] : List (Int × Bs)) ((IntKind.wrap .u64 at_) % 5)) (readS (Pw.mk false false 0 0) (putA (putA (List.replicate 6 blankS) ((IntKind.wrap .u64 at_) % 5) a) (((IntKind.wrap .u64 at_) % 5) + 1) b) ([] : List (Int × Bs)) (((IntKind.wrap .u64 at_) % 5) + 1))).1).seq), (.int .i64 ((ldD (readS (Pw.mk false false 0 0) (putA (putA (List.replicate 6 blankS) ((IntKind.wrap .u64 at_) % 5) a) (((IntKind.wrap .u64 at_) % 5) + 1) b) ([] : List (Int × Bs)) ((IntKind.wrap .u64 at_) % 5)) (readS (Pw.mk false false 0 0) (putA (putA (List.replicate 6 blankS) ((IntKind.wrap .u64 at_) % 5) a) (((IntKind.wrap .u64 at_) % 5) + 1) b) ([] : List (Int × Bs)) (((IntKind.wrap .u64 at_) % 5) + 1))).1).ep), (.int .i64 ((ldD (readS (Pw.mk false false 0 0) (putA (putA (List.replicate 6 blankS) ((IntKind.wrap .u64 at_) % 5) a) (((IntKind.wrap .u64 at_) % 5) + 1) b) ([] : List (Int × Bs)) ((IntKind.wrap .u64 at_) % 5)) (readS (Pw.mk false false 0 0) (putA (putA (List.replicate 6 blankS) ((IntKind.wrap .u64 at_) % 5) a) (((IntKind.wrap .u64 at_) % 5) + 1) b) ([] : List (Int × Bs)) (((IntKind.wrap .u64 at_) % 5) + 1))).1).cut), (.int .i64 ((ldD (readS (Pw.mk false false 0 0) (putA (putA (List.replicate 6 blankS) ((IntKind.wrap .u64 at_) % 5) a) (((IntKind.wrap .u64 at_) % 5) + 1) b) ([] : List (Int × Bs)) ((IntKind.wrap .u64 at_) % 5)) (readS (Pw.mk false false 0 0) (putA (putA (List.replicate 6 blankS) ((IntKind.wrap .u64 at_) % 5) a) (((IntKind.wrap .u64 at_) % 5) + 1) b) ([] : List (Int × Bs)) (((IntKind.wrap .u64 at_) % 5) + 1))).1).st), (.int .i64 ((ldD (readS (Pw.mk false false 0 0) (putA (putA (List.replicate 6 blankS) ((IntKind.wrap .u64 at_) % 5) a) (((IntKind.wrap .u64 at_) % 5) + 1) b) ([] : List (Int × Bs)) ((IntKind.wrap .u64 at_) % 5)) (readS (Pw.mk false false 0 0) (putA (putA (List.replicate 6 blankS) ((IntKind.wrap .u64 at_) % 5) a) (((IntKind.wrap .u64 at_) % 5) + 1) b) ([] : List (Int × Bs)) (((IntKind.wrap .u64 at_) % 5) + 1))).1).mrk)]) ti23 rfl rfl rfl rfl (by intro u hu; simp only [List.mem_cons, List.not_mem_nil, or_false] at hu; rcases hu with rfl | rfl | rfl | rfl | rfl <;> first | rfl) (by simp) (by kernel_rfl) (hH55.front 0 rfl) fun w56 hH57 => ?_)
          refine s_op (o_assign (v := (.int .i64 ((ldD (readS (Pw.mk false false 0 0) (putA (putA (List.replicate 6 blankS) ((IntKind.wrap .u64 at_) % 5) a) (((IntKind.wrap .u64 at_) % 5) + 1) b) ([] : List (Int × Bs)) ((IntKind.wrap .u64 at_) % 5)) (readS (Pw.mk false false 0 0) (putA (putA (List.replicate 6 blankS) ((IntKind.wrap .u64 at_) % 5) a) (((IntKind.wrap .u64 at_) % 5) + 1) b) ([] : List (Int × Bs)) (((IntKind.wrap .u64 at_) % 5) + 1))).2))) rfl ?_)
          refine s_nil ?_
          refine t_norm (hK49 _ _ ?_)
          refine wp_seq_k fun K58 hK58 => ?_
          refine c_region ?_
          refine s_op (o_move (v := (.pointer (some ⟨db18, 0, none⟩))) rfl ?_)
          refine s_op (o_move (v := (.int .i64 ((IntKind.wrap .u64 at_) % 5))) rfl ?_)
          refine s_op (o_callf (vs := #[(.pointer (some ⟨db18, 0, none⟩)), (.int .i64 ((IntKind.wrap .u64 at_) % 5))]) ca19 rfl (args2 rfl rfl) (hload_c (p := (Pw.mk false false 0 0)) (la := (putA (putA (List.replicate 6 blankS) ((IntKind.wrap .u64 at_) % 5) a) (((IntKind.wrap .u64 at_) % 5) + 1) b)) ((hH57.front 2 rfl).front 2 rfl).all2 hd36 (hg.mono (seg_sub 1 rfl)) (putA_64 (putA_64 (full_blank _))) (by rw [putA_len, putA_len, List.length_replicate]; decide) ((IntKind.wrap .u64 at_) % 5)) ?_)
          rintro _ w61 ⟨rfl, hX59⟩
          refine ⟨_, rfl, ?_⟩
          have hH60 : Has E w61 [sg35, [Hp.one pb19 (.cells #[(.bool (Pw.mk false false 0 0).off), (.bool (Pw.mk false false 0 0).armed), (.int .i64 (Pw.mk false false 0 0).left), (.int .i64 (Pw.mk false false 0 0).uses)] 78 (0, 0))], [Hp.one b53 (.cells #[(.int .i64 ((ldD (readS (Pw.mk false false 0 0) (putA (putA (List.replicate 6 blankS) ((IntKind.wrap .u64 at_) % 5) a) (((IntKind.wrap .u64 at_) % 5) + 1) b) ([] : List (Int × Bs)) ((IntKind.wrap .u64 at_) % 5)) (readS (Pw.mk false false 0 0) (putA (putA (List.replicate 6 blankS) ((IntKind.wrap .u64 at_) % 5) a) (((IntKind.wrap .u64 at_) % 5) + 1) b) ([] : List (Int × Bs)) (((IntKind.wrap .u64 at_) % 5) + 1))).1).seq), (.int .i64 ((ldD (readS (Pw.mk false false 0 0) (putA (putA (List.replicate 6 blankS) ((IntKind.wrap .u64 at_) % 5) a) (((IntKind.wrap .u64 at_) % 5) + 1) b) ([] : List (Int × Bs)) ((IntKind.wrap .u64 at_) % 5)) (readS (Pw.mk false false 0 0) (putA (putA (List.replicate 6 blankS) ((IntKind.wrap .u64 at_) % 5) a) (((IntKind.wrap .u64 at_) % 5) + 1) b) ([] : List (Int × Bs)) (((IntKind.wrap .u64 at_) % 5) + 1))).1).ep), (.int .i64 ((ldD (readS (Pw.mk false false 0 0) (putA (putA (List.replicate 6 blankS) ((IntKind.wrap .u64 at_) % 5) a) (((IntKind.wrap .u64 at_) % 5) + 1) b) ([] : List (Int × Bs)) ((IntKind.wrap .u64 at_) % 5)) (readS (Pw.mk false false 0 0) (putA (putA (List.replicate 6 blankS) ((IntKind.wrap .u64 at_) % 5) a) (((IntKind.wrap .u64 at_) % 5) + 1) b) ([] : List (Int × Bs)) (((IntKind.wrap .u64 at_) % 5) + 1))).1).cut), (.int .i64 ((ldD (readS (Pw.mk false false 0 0) (putA (putA (List.replicate 6 blankS) ((IntKind.wrap .u64 at_) % 5) a) (((IntKind.wrap .u64 at_) % 5) + 1) b) ([] : List (Int × Bs)) ((IntKind.wrap .u64 at_) % 5)) (readS (Pw.mk false false 0 0) (putA (putA (List.replicate 6 blankS) ((IntKind.wrap .u64 at_) % 5) a) (((IntKind.wrap .u64 at_) % 5) + 1) b) ([] : List (Int × Bs)) (((IntKind.wrap .u64 at_) % 5) + 1))).1).st), (.int .i64 ((ldD (readS (Pw.mk false false 0 0) (putA (putA (List.replicate 6 blankS) ((IntKind.wrap .u64 at_) % 5) a) (((IntKind.wrap .u64 at_) % 5) + 1) b) ([] : List (Int × Bs)) ((IntKind.wrap .u64 at_) % 5)) (readS (Pw.mk false false 0 0) (putA (putA (List.replicate 6 blankS) ((IntKind.wrap .u64 at_) % 5) a) (((IntKind.wrap .u64 at_) % 5) + 1) b) ([] : List (Int × Bs)) (((IntKind.wrap .u64 at_) % 5) + 1))).1).mrk)] 23 (0, 0))], R] := hX59.of_all2
          refine s_op (o_move (v := (.tuple #[(.agg #[(.int .i64 (ldH (Pw.mk false false 0 0) (putA (putA (List.replicate 6 blankS) ((IntKind.wrap .u64 at_) % 5) a) (((IntKind.wrap .u64 at_) % 5) + 1) b) ((IntKind.wrap .u64 at_) % 5)).seq), (.int .i64 (ldH (Pw.mk false false 0 0) (putA (putA (List.replicate 6 blankS) ((IntKind.wrap .u64 at_) % 5) a) (((IntKind.wrap .u64 at_) % 5) + 1) b) ((IntKind.wrap .u64 at_) % 5)).ep), (.int .i64 (ldH (Pw.mk false false 0 0) (putA (putA (List.replicate 6 blankS) ((IntKind.wrap .u64 at_) % 5) a) (((IntKind.wrap .u64 at_) % 5) + 1) b) ((IntKind.wrap .u64 at_) % 5)).cut), (.int .i64 (ldH (Pw.mk false false 0 0) (putA (putA (List.replicate 6 blankS) ((IntKind.wrap .u64 at_) % 5) a) (((IntKind.wrap .u64 at_) % 5) + 1) b) ((IntKind.wrap .u64 at_) % 5)).st), (.int .i64 (ldH (Pw.mk false false 0 0) (putA (putA (List.replicate 6 blankS) ((IntKind.wrap .u64 at_) % 5) a) (((IntKind.wrap .u64 at_) % 5) + 1) b) ((IntKind.wrap .u64 at_) % 5)).mrk)]), (.int .i64 (ldE (Pw.mk false false 0 0) (putA (putA (List.replicate 6 blankS) ((IntKind.wrap .u64 at_) % 5) a) (((IntKind.wrap .u64 at_) % 5) + 1) b) ((IntKind.wrap .u64 at_) % 5)))])) rfl ?_)
          refine s_op (o_extract (v := (.agg #[(.int .i64 (ldH (Pw.mk false false 0 0) (putA (putA (List.replicate 6 blankS) ((IntKind.wrap .u64 at_) % 5) a) (((IntKind.wrap .u64 at_) % 5) + 1) b) ((IntKind.wrap .u64 at_) % 5)).seq), (.int .i64 (ldH (Pw.mk false false 0 0) (putA (putA (List.replicate 6 blankS) ((IntKind.wrap .u64 at_) % 5) a) (((IntKind.wrap .u64 at_) % 5) + 1) b) ((IntKind.wrap .u64 at_) % 5)).ep), (.int .i64 (ldH (Pw.mk false false 0 0) (putA (putA (List.replicate 6 blankS) ((IntKind.wrap .u64 at_) % 5) a) (((IntKind.wrap .u64 at_) % 5) + 1) b) ((IntKind.wrap .u64 at_) % 5)).cut), (.int .i64 (ldH (Pw.mk false false 0 0) (putA (putA (List.replicate 6 blankS) ((IntKind.wrap .u64 at_) % 5) a) (((IntKind.wrap .u64 at_) % 5) + 1) b) ((IntKind.wrap .u64 at_) % 5)).st), (.int .i64 (ldH (Pw.mk false false 0 0) (putA (putA (List.replicate 6 blankS) ((IntKind.wrap .u64 at_) % 5) a) (((IntKind.wrap .u64 at_) % 5) + 1) b) ((IntKind.wrap .u64 at_) % 5)).mrk)])) rfl rfl ?_)
          refine s_op (o_extract (v := (.int .i64 (ldE (Pw.mk false false 0 0) (putA (putA (List.replicate 6 blankS) ((IntKind.wrap .u64 at_) % 5) a) (((IntKind.wrap .u64 at_) % 5) + 1) b) ((IntKind.wrap .u64 at_) % 5)))) rfl rfl ?_)
          refine s_op (o_alloc (cs := #[(.int .i64 0), (.int .i64 0), (.int .i64 0), (.int .i64 0), (.int .i64 0)]) ti27 rfl hH60 fun b62 w63 hH64 => ?_)
          refine s_eff (o_storeN (vs := [(.int .i64 (ldH (Pw.mk false false 0 0) (putA (putA (List.replicate 6 blankS) ((IntKind.wrap .u64 at_) % 5) a) (((IntKind.wrap .u64 at_) % 5) + 1) b) ((IntKind.wrap .u64 at_) % 5)).seq), (.int .i64 (ldH (Pw.mk false false 0 0) (putA (putA (List.replicate 6 blankS) ((IntKind.wrap .u64 at_) % 5) a) (((IntKind.wrap .u64 at_) % 5) + 1) b) ((IntKind.wrap .u64 at_) % 5)).ep), (.int .i64 (ldH (Pw.mk false false 0 0) (putA (putA (List.replicate 6 blankS) ((IntKind.wrap .u64 at_) % 5) a) (((IntKind.wrap .u64 at_) % 5) + 1) b) ((IntKind.wrap .u64 at_) % 5)).cut), (.int .i64 (ldH (Pw.mk false false 0 0) (putA (putA (List.replicate 6 blankS) ((IntKind.wrap .u64 at_) % 5) a) (((IntKind.wrap .u64 at_) % 5) + 1) b) ((IntKind.wrap .u64 at_) % 5)).st), (.int .i64 (ldH (Pw.mk false false 0 0) (putA (putA (List.replicate 6 blankS) ((IntKind.wrap .u64 at_) % 5) a) (((IntKind.wrap .u64 at_) % 5) + 1) b) ((IntKind.wrap .u64 at_) % 5)).mrk)]) (c' := #[(.int .i64 (ldH (Pw.mk false false 0 0) (putA (putA (List.replicate 6 blankS) ((IntKind.wrap .u64 at_) % 5) a) (((IntKind.wrap .u64 at_) % 5) + 1) b) ((IntKind.wrap .u64 at_) % 5)).seq), (.int .i64 (ldH (Pw.mk false false 0 0) (putA (putA (List.replicate 6 blankS) ((IntKind.wrap .u64 at_) % 5) a) (((IntKind.wrap .u64 at_) % 5) + 1) b) ((IntKind.wrap .u64 at_) % 5)).ep), (.int .i64 (ldH (Pw.mk false false 0 0) (putA (putA (List.replicate 6 blankS) ((IntKind.wrap .u64 at_) % 5) a) (((IntKind.wrap .u64 at_) % 5) + 1) b) ((IntKind.wrap .u64 at_) % 5)).cut), (.int .i64 (ldH (Pw.mk false false 0 0) (putA (putA (List.replicate 6 blankS) ((IntKind.wrap .u64 at_) % 5) a) (((IntKind.wrap .u64 at_) % 5) + 1) b) ((IntKind.wrap .u64 at_) % 5)).st), (.int .i64 (ldH (Pw.mk false false 0 0) (putA (putA (List.replicate 6 blankS) ((IntKind.wrap .u64 at_) % 5) a) (((IntKind.wrap .u64 at_) % 5) + 1) b) ((IntKind.wrap .u64 at_) % 5)).mrk)]) ti27 rfl rfl rfl rfl (by intro u hu; simp only [List.mem_cons, List.not_mem_nil, or_false] at hu; rcases hu with rfl | rfl | rfl | rfl | rfl <;> first | rfl) (by simp) (by kernel_rfl) (hH64.front 0 rfl) fun w65 hH66 => ?_)
          refine s_op (o_assign (v := (.int .i64 (ldE (Pw.mk false false 0 0) (putA (putA (List.replicate 6 blankS) ((IntKind.wrap .u64 at_) % 5) a) (((IntKind.wrap .u64 at_) % 5) + 1) b) ((IntKind.wrap .u64 at_) % 5)))) rfl ?_)
          refine s_nil ?_
          refine t_norm (hK58 _ _ ?_)
          refine wp_seq_k fun K67 hK67 => ?_
          refine wp_seq_k fun K68 hK68 => ?_
          refine c_region ?_
          refine s_op (o_loadN (cs := [(.int .i64 (ldH (Pw.mk false false 0 0) (putA (putA (List.replicate 6 blankS) ((IntKind.wrap .u64 at_) % 5) a) (((IntKind.wrap .u64 at_) % 5) + 1) b) ((IntKind.wrap .u64 at_) % 5)).seq), (.int .i64 (ldH (Pw.mk false false 0 0) (putA (putA (List.replicate 6 blankS) ((IntKind.wrap .u64 at_) % 5) a) (((IntKind.wrap .u64 at_) % 5) + 1) b) ((IntKind.wrap .u64 at_) % 5)).ep), (.int .i64 (ldH (Pw.mk false false 0 0) (putA (putA (List.replicate 6 blankS) ((IntKind.wrap .u64 at_) % 5) a) (((IntKind.wrap .u64 at_) % 5) + 1) b) ((IntKind.wrap .u64 at_) % 5)).cut), (.int .i64 (ldH (Pw.mk false false 0 0) (putA (putA (List.replicate 6 blankS) ((IntKind.wrap .u64 at_) % 5) a) (((IntKind.wrap .u64 at_) % 5) + 1) b) ((IntKind.wrap .u64 at_) % 5)).st), (.int .i64 (ldH (Pw.mk false false 0 0) (putA (putA (List.replicate 6 blankS) ((IntKind.wrap .u64 at_) % 5) a) (((IntKind.wrap .u64 at_) % 5) + 1) b) ((IntKind.wrap .u64 at_) % 5)).mrk)]) Tryz.underlying27 rfl ti27 rfl hH66 (seg_sub 0 rfl) (CellsAt.one rfl) ?_)
          refine s_op (o_loadN (cs := [(.int .i64 ((ldD (readS (Pw.mk false false 0 0) (putA (putA (List.replicate 6 blankS) ((IntKind.wrap .u64 at_) % 5) a) (((IntKind.wrap .u64 at_) % 5) + 1) b) ([] : List (Int × Bs)) ((IntKind.wrap .u64 at_) % 5)) (readS (Pw.mk false false 0 0) (putA (putA (List.replicate 6 blankS) ((IntKind.wrap .u64 at_) % 5) a) (((IntKind.wrap .u64 at_) % 5) + 1) b) ([] : List (Int × Bs)) (((IntKind.wrap .u64 at_) % 5) + 1))).1).seq), (.int .i64 ((ldD (readS (Pw.mk false false 0 0) (putA (putA (List.replicate 6 blankS) ((IntKind.wrap .u64 at_) % 5) a) (((IntKind.wrap .u64 at_) % 5) + 1) b) ([] : List (Int × Bs)) ((IntKind.wrap .u64 at_) % 5)) (readS (Pw.mk false false 0 0) (putA (putA (List.replicate 6 blankS) ((IntKind.wrap .u64 at_) % 5) a) (((IntKind.wrap .u64 at_) % 5) + 1) b) ([] : List (Int × Bs)) (((IntKind.wrap .u64 at_) % 5) + 1))).1).ep), (.int .i64 ((ldD (readS (Pw.mk false false 0 0) (putA (putA (List.replicate 6 blankS) ((IntKind.wrap .u64 at_) % 5) a) (((IntKind.wrap .u64 at_) % 5) + 1) b) ([] : List (Int × Bs)) ((IntKind.wrap .u64 at_) % 5)) (readS (Pw.mk false false 0 0) (putA (putA (List.replicate 6 blankS) ((IntKind.wrap .u64 at_) % 5) a) (((IntKind.wrap .u64 at_) % 5) + 1) b) ([] : List (Int × Bs)) (((IntKind.wrap .u64 at_) % 5) + 1))).1).cut), (.int .i64 ((ldD (readS (Pw.mk false false 0 0) (putA (putA (List.replicate 6 blankS) ((IntKind.wrap .u64 at_) % 5) a) (((IntKind.wrap .u64 at_) % 5) + 1) b) ([] : List (Int × Bs)) ((IntKind.wrap .u64 at_) % 5)) (readS (Pw.mk false false 0 0) (putA (putA (List.replicate 6 blankS) ((IntKind.wrap .u64 at_) % 5) a) (((IntKind.wrap .u64 at_) % 5) + 1) b) ([] : List (Int × Bs)) (((IntKind.wrap .u64 at_) % 5) + 1))).1).st), (.int .i64 ((ldD (readS (Pw.mk false false 0 0) (putA (putA (List.replicate 6 blankS) ((IntKind.wrap .u64 at_) % 5) a) (((IntKind.wrap .u64 at_) % 5) + 1) b) ([] : List (Int × Bs)) ((IntKind.wrap .u64 at_) % 5)) (readS (Pw.mk false false 0 0) (putA (putA (List.replicate 6 blankS) ((IntKind.wrap .u64 at_) % 5) a) (((IntKind.wrap .u64 at_) % 5) + 1) b) ([] : List (Int × Bs)) (((IntKind.wrap .u64 at_) % 5) + 1))).1).mrk)]) Tryz.underlying23 rfl ti23 rfl hH66 (seg_sub 3 rfl) (CellsAt.one rfl) ?_)
          refine s_op (o_neq23 ((ldH (Pw.mk false false 0 0) (putA (putA (List.replicate 6 blankS) ((IntKind.wrap .u64 at_) % 5) a) (((IntKind.wrap .u64 at_) % 5) + 1) b) ((IntKind.wrap .u64 at_) % 5)).seq) ((ldH (Pw.mk false false 0 0) (putA (putA (List.replicate 6 blankS) ((IntKind.wrap .u64 at_) % 5) a) (((IntKind.wrap .u64 at_) % 5) + 1) b) ((IntKind.wrap .u64 at_) % 5)).ep) ((ldH (Pw.mk false false 0 0) (putA (putA (List.replicate 6 blankS) ((IntKind.wrap .u64 at_) % 5) a) (((IntKind.wrap .u64 at_) % 5) + 1) b) ((IntKind.wrap .u64 at_) % 5)).cut) ((ldH (Pw.mk false false 0 0) (putA (putA (List.replicate 6 blankS) ((IntKind.wrap .u64 at_) % 5) a) (((IntKind.wrap .u64 at_) % 5) + 1) b) ((IntKind.wrap .u64 at_) % 5)).st) ((ldH (Pw.mk false false 0 0) (putA (putA (List.replicate 6 blankS) ((IntKind.wrap .u64 at_) % 5) a) (((IntKind.wrap .u64 at_) % 5) + 1) b) ((IntKind.wrap .u64 at_) % 5)).mrk) (((ldD (readS (Pw.mk false false 0 0) (putA (putA (List.replicate 6 blankS) ((IntKind.wrap .u64 at_) % 5) a) (((IntKind.wrap .u64 at_) % 5) + 1) b) ([] : List (Int × Bs)) ((IntKind.wrap .u64 at_) % 5)) (readS (Pw.mk false false 0 0) (putA (putA (List.replicate 6 blankS) ((IntKind.wrap .u64 at_) % 5) a) (((IntKind.wrap .u64 at_) % 5) + 1) b) ([] : List (Int × Bs)) (((IntKind.wrap .u64 at_) % 5) + 1))).1).seq) (((ldD (readS (Pw.mk false false 0 0) (putA (putA (List.replicate 6 blankS) ((IntKind.wrap .u64 at_) % 5) a) (((IntKind.wrap .u64 at_) % 5) + 1) b) ([] : List (Int × Bs)) ((IntKind.wrap .u64 at_) % 5)) (readS (Pw.mk false false 0 0) (putA (putA (List.replicate 6 blankS) ((IntKind.wrap .u64 at_) % 5) a) (((IntKind.wrap .u64 at_) % 5) + 1) b) ([] : List (Int × Bs)) (((IntKind.wrap .u64 at_) % 5) + 1))).1).ep) (((ldD (readS (Pw.mk false false 0 0) (putA (putA (List.replicate 6 blankS) ((IntKind.wrap .u64 at_) % 5) a) (((IntKind.wrap .u64 at_) % 5) + 1) b) ([] : List (Int × Bs)) ((IntKind.wrap .u64 at_) % 5)) (readS (Pw.mk false false 0 0) (putA (putA (List.replicate 6 blankS) ((IntKind.wrap .u64 at_) % 5) a) (((IntKind.wrap .u64 at_) % 5) + 1) b) ([] : List (Int × Bs)) (((IntKind.wrap .u64 at_) % 5) + 1))).1).cut) (((ldD (readS (Pw.mk false false 0 0) (putA (putA (List.replicate 6 blankS) ((IntKind.wrap .u64 at_) % 5) a) (((IntKind.wrap .u64 at_) % 5) + 1) b) ([] : List (Int × Bs)) ((IntKind.wrap .u64 at_) % 5)) (readS (Pw.mk false false 0 0) (putA (putA (List.replicate 6 blankS) ((IntKind.wrap .u64 at_) % 5) a) (((IntKind.wrap .u64 at_) % 5) + 1) b) ([] : List (Int × Bs)) (((IntKind.wrap .u64 at_) % 5) + 1))).1).st) (((ldD (readS (Pw.mk false false 0 0) (putA (putA (List.replicate 6 blankS) ((IntKind.wrap .u64 at_) % 5) a) (((IntKind.wrap .u64 at_) % 5) + 1) b) ([] : List (Int × Bs)) ((IntKind.wrap .u64 at_) % 5)) (readS (Pw.mk false false 0 0) (putA (putA (List.replicate 6 blankS) ((IntKind.wrap .u64 at_) % 5) a) (((IntKind.wrap .u64 at_) % 5) + 1) b) ([] : List (Int × Bs)) (((IntKind.wrap .u64 at_) % 5) + 1))).1).mrk) rfl rfl ?_)
          refine s_op (o_move (v := (.bool (!(eqv23 ((ldH (Pw.mk false false 0 0) (putA (putA (List.replicate 6 blankS) ((IntKind.wrap .u64 at_) % 5) a) (((IntKind.wrap .u64 at_) % 5) + 1) b) ((IntKind.wrap .u64 at_) % 5)).seq) ((ldH (Pw.mk false false 0 0) (putA (putA (List.replicate 6 blankS) ((IntKind.wrap .u64 at_) % 5) a) (((IntKind.wrap .u64 at_) % 5) + 1) b) ((IntKind.wrap .u64 at_) % 5)).ep) ((ldH (Pw.mk false false 0 0) (putA (putA (List.replicate 6 blankS) ((IntKind.wrap .u64 at_) % 5) a) (((IntKind.wrap .u64 at_) % 5) + 1) b) ((IntKind.wrap .u64 at_) % 5)).cut) ((ldH (Pw.mk false false 0 0) (putA (putA (List.replicate 6 blankS) ((IntKind.wrap .u64 at_) % 5) a) (((IntKind.wrap .u64 at_) % 5) + 1) b) ((IntKind.wrap .u64 at_) % 5)).st) ((ldH (Pw.mk false false 0 0) (putA (putA (List.replicate 6 blankS) ((IntKind.wrap .u64 at_) % 5) a) (((IntKind.wrap .u64 at_) % 5) + 1) b) ((IntKind.wrap .u64 at_) % 5)).mrk) (((ldD (readS (Pw.mk false false 0 0) (putA (putA (List.replicate 6 blankS) ((IntKind.wrap .u64 at_) % 5) a) (((IntKind.wrap .u64 at_) % 5) + 1) b) ([] : List (Int × Bs)) ((IntKind.wrap .u64 at_) % 5)) (readS (Pw.mk false false 0 0) (putA (putA (List.replicate 6 blankS) ((IntKind.wrap .u64 at_) % 5) a) (((IntKind.wrap .u64 at_) % 5) + 1) b) ([] : List (Int × Bs)) (((IntKind.wrap .u64 at_) % 5) + 1))).1).seq) (((ldD (readS (Pw.mk false false 0 0) (putA (putA (List.replicate 6 blankS) ((IntKind.wrap .u64 at_) % 5) a) (((IntKind.wrap .u64 at_) % 5) + 1) b) ([] : List (Int × Bs)) ((IntKind.wrap .u64 at_) % 5)) (readS (Pw.mk false false 0 0) (putA (putA (List.replicate 6 blankS) ((IntKind.wrap .u64 at_) % 5) a) (((IntKind.wrap .u64 at_) % 5) + 1) b) ([] : List (Int × Bs)) (((IntKind.wrap .u64 at_) % 5) + 1))).1).ep) (((ldD (readS (Pw.mk false false 0 0) (putA (putA (List.replicate 6 blankS) ((IntKind.wrap .u64 at_) % 5) a) (((IntKind.wrap .u64 at_) % 5) + 1) b) ([] : List (Int × Bs)) ((IntKind.wrap .u64 at_) % 5)) (readS (Pw.mk false false 0 0) (putA (putA (List.replicate 6 blankS) ((IntKind.wrap .u64 at_) % 5) a) (((IntKind.wrap .u64 at_) % 5) + 1) b) ([] : List (Int × Bs)) (((IntKind.wrap .u64 at_) % 5) + 1))).1).cut) (((ldD (readS (Pw.mk false false 0 0) (putA (putA (List.replicate 6 blankS) ((IntKind.wrap .u64 at_) % 5) a) (((IntKind.wrap .u64 at_) % 5) + 1) b) ([] : List (Int × Bs)) ((IntKind.wrap .u64 at_) % 5)) (readS (Pw.mk false false 0 0) (putA (putA (List.replicate 6 blankS) ((IntKind.wrap .u64 at_) % 5) a) (((IntKind.wrap .u64 at_) % 5) + 1) b) ([] : List (Int × Bs)) (((IntKind.wrap .u64 at_) % 5) + 1))).1).st) (((ldD (readS (Pw.mk false false 0 0) (putA (putA (List.replicate 6 blankS) ((IntKind.wrap .u64 at_) % 5) a) (((IntKind.wrap .u64 at_) % 5) + 1) b) ([] : List (Int × Bs)) ((IntKind.wrap .u64 at_) % 5)) (readS (Pw.mk false false 0 0) (putA (putA (List.replicate 6 blankS) ((IntKind.wrap .u64 at_) % 5) a) (((IntKind.wrap .u64 at_) % 5) + 1) b) ([] : List (Int × Bs)) (((IntKind.wrap .u64 at_) % 5) + 1))).1).mrk))))) rfl ?_)
          rcases Bool.eq_false_or_eq_true (!(eqv23 ((ldH (Pw.mk false false 0 0) (putA (putA (List.replicate 6 blankS) ((IntKind.wrap .u64 at_) % 5) a) (((IntKind.wrap .u64 at_) % 5) + 1) b) ((IntKind.wrap .u64 at_) % 5)).seq) ((ldH (Pw.mk false false 0 0) (putA (putA (List.replicate 6 blankS) ((IntKind.wrap .u64 at_) % 5) a) (((IntKind.wrap .u64 at_) % 5) + 1) b) ((IntKind.wrap .u64 at_) % 5)).ep) ((ldH (Pw.mk false false 0 0) (putA (putA (List.replicate 6 blankS) ((IntKind.wrap .u64 at_) % 5) a) (((IntKind.wrap .u64 at_) % 5) + 1) b) ((IntKind.wrap .u64 at_) % 5)).cut) ((ldH (Pw.mk false false 0 0) (putA (putA (List.replicate 6 blankS) ((IntKind.wrap .u64 at_) % 5) a) (((IntKind.wrap .u64 at_) % 5) + 1) b) ((IntKind.wrap .u64 at_) % 5)).st) ((ldH (Pw.mk false false 0 0) (putA (putA (List.replicate 6 blankS) ((IntKind.wrap .u64 at_) % 5) a) (((IntKind.wrap .u64 at_) % 5) + 1) b) ((IntKind.wrap .u64 at_) % 5)).mrk) (((ldD (readS (Pw.mk false false 0 0) (putA (putA (List.replicate 6 blankS) ((IntKind.wrap .u64 at_) % 5) a) (((IntKind.wrap .u64 at_) % 5) + 1) b) ([] : List (Int × Bs)) ((IntKind.wrap .u64 at_) % 5)) (readS (Pw.mk false false 0 0) (putA (putA (List.replicate 6 blankS) ((IntKind.wrap .u64 at_) % 5) a) (((IntKind.wrap .u64 at_) % 5) + 1) b) ([] : List (Int × Bs)) (((IntKind.wrap .u64 at_) % 5) + 1))).1).seq) (((ldD (readS (Pw.mk false false 0 0) (putA (putA (List.replicate 6 blankS) ((IntKind.wrap .u64 at_) % 5) a) (((IntKind.wrap .u64 at_) % 5) + 1) b) ([] : List (Int × Bs)) ((IntKind.wrap .u64 at_) % 5)) (readS (Pw.mk false false 0 0) (putA (putA (List.replicate 6 blankS) ((IntKind.wrap .u64 at_) % 5) a) (((IntKind.wrap .u64 at_) % 5) + 1) b) ([] : List (Int × Bs)) (((IntKind.wrap .u64 at_) % 5) + 1))).1).ep) (((ldD (readS (Pw.mk false false 0 0) (putA (putA (List.replicate 6 blankS) ((IntKind.wrap .u64 at_) % 5) a) (((IntKind.wrap .u64 at_) % 5) + 1) b) ([] : List (Int × Bs)) ((IntKind.wrap .u64 at_) % 5)) (readS (Pw.mk false false 0 0) (putA (putA (List.replicate 6 blankS) ((IntKind.wrap .u64 at_) % 5) a) (((IntKind.wrap .u64 at_) % 5) + 1) b) ([] : List (Int × Bs)) (((IntKind.wrap .u64 at_) % 5) + 1))).1).cut) (((ldD (readS (Pw.mk false false 0 0) (putA (putA (List.replicate 6 blankS) ((IntKind.wrap .u64 at_) % 5) a) (((IntKind.wrap .u64 at_) % 5) + 1) b) ([] : List (Int × Bs)) ((IntKind.wrap .u64 at_) % 5)) (readS (Pw.mk false false 0 0) (putA (putA (List.replicate 6 blankS) ((IntKind.wrap .u64 at_) % 5) a) (((IntKind.wrap .u64 at_) % 5) + 1) b) ([] : List (Int × Bs)) (((IntKind.wrap .u64 at_) % 5) + 1))).1).st) (((ldD (readS (Pw.mk false false 0 0) (putA (putA (List.replicate 6 blankS) ((IntKind.wrap .u64 at_) % 5) a) (((IntKind.wrap .u64 at_) % 5) + 1) b) ([] : List (Int × Bs)) ((IntKind.wrap .u64 at_) % 5)) (readS (Pw.mk false false 0 0) (putA (putA (List.replicate 6 blankS) ((IntKind.wrap .u64 at_) % 5) a) (((IntKind.wrap .u64 at_) % 5) + 1) b) ([] : List (Int × Bs)) (((IntKind.wrap .u64 at_) % 5) + 1))).1).mrk))) with h69 | h69
          · -- !(eqv23 ((ldH (Pw.mk false false 0 0) (putA (putA (List.replicate 6 blankS) ((IntKind.wrap .u64 at_) % 5) a) (((IntKind.wrap .u64 at_) % 5) + 1) b) ((IntKind.wrap .u64 at_) % 5)).seq) ((ldH (Pw.mk false false 0 0) (putA (putA (List.replicate 6 blankS) ((IntKind.wrap .u64 at_) % 5) a) (((IntKind.wrap .u64 at_) % 5) + 1) b) ((IntKind.wrap .u64 at_) % 5)).ep) ((ldH (Pw.mk false false 0 0) (putA (putA (List.replicate 6 blankS) ((IntKind.wrap .u64 at_) % 5) a) (((IntKind.wrap .u64 at_) % 5) + 1) b) ((IntKind.wrap .u64 at_) % 5)).cut) ((ldH (Pw.mk false false 0 0) (putA (putA (List.replicate 6 blankS) ((IntKind.wrap .u64 at_) % 5) a) (((IntKind.wrap .u64 at_) % 5) + 1) b) ((IntKind.wrap .u64 at_) % 5)).st) ((ldH (Pw.mk false false 0 0) (putA (putA (List.replicate 6 blankS) ((IntKind.wrap .u64 at_) % 5) a) (((IntKind.wrap .u64 at_) % 5) + 1) b) ((IntKind.wrap .u64 at_) % 5)).mrk) (((ldD (readS (Pw.mk false false 0 0) (putA (putA (List.replicate 6 blankS) ((IntKind.wrap .u64 at_) % 5) a) (((IntKind.wrap .u64 at_) % 5) + 1) b) ([] : List (Int × Bs)) ((IntKind.wrap .u64 at_) % 5)) (readS (Pw.mk false false 0 0) (putA (putA (List.replicate 6 blankS) ((IntKind.wrap .u64 at_) % 5) a) (((IntKind.wrap .u64 at_) % 5) + 1) b) ([] : List (Int × Bs)) (((IntKind.wrap .u64 at_) % 5) + 1))).1).seq) (((ldD (readS (Pw.mk false false 0 0) (putA (putA (List.replicate 6 blankS) ((IntKind.wrap .u64 at_) % 5) a) (((IntKind.wrap .u64 at_) % 5) + 1) b) ([] : List (Int × Bs)) ((IntKind.wrap .u64 at_) % 5)) (readS (Pw.mk false false 0 0) (putA (putA (List.replicate 6 blankS) ((IntKind.wrap .u64 at_) % 5) a) (((IntKind.wrap .u64 at_) % 5) + 1) b) ([] : List (Int × Bs)) (((IntKind.wrap .u64 at_) % 5) + 1))).1).ep) (((ldD (readS (Pw.mk false false 0 0) (putA (putA (List.replicate 6 blankS) ((IntKind.wrap .u64 at_) % 5) a) (((IntKind.wrap .u64 at_) % 5) + 1) b) ([] : List (Int × Bs)) ((IntKind.wrap .u64 at_) % 5)) (readS (Pw.mk false false 0 0) (putA (putA (List.replicate 6 blankS) ((IntKind.wrap .u64 at_) % 5) a) (((IntKind.wrap .u64 at_) % 5) + 1) b) ([] : List (Int × Bs)) (((IntKind.wrap .u64 at_) % 5) + 1))).1).cut) (((ldD (readS (Pw.mk false false 0 0) (putA (putA (List.replicate 6 blankS) ((IntKind.wrap .u64 at_) % 5) a) (((IntKind.wrap .u64 at_) % 5) + 1) b) ([] : List (Int × Bs)) ((IntKind.wrap .u64 at_) % 5)) (readS (Pw.mk false false 0 0) (putA (putA (List.replicate 6 blankS) ((IntKind.wrap .u64 at_) % 5) a) (((IntKind.wrap .u64 at_) % 5) + 1) b) ([] : List (Int × Bs)) (((IntKind.wrap .u64 at_) % 5) + 1))).1).st) (((ldD (readS (Pw.mk false false 0 0) (putA (putA (List.replicate 6 blankS) ((IntKind.wrap .u64 at_) % 5) a) (((IntKind.wrap .u64 at_) % 5) + 1) b) ([] : List (Int × Bs)) ((IntKind.wrap .u64 at_) % 5)) (readS (Pw.mk false false 0 0) (putA (putA (List.replicate 6 blankS) ((IntKind.wrap .u64 at_) % 5) a) (((IntKind.wrap .u64 at_) % 5) + 1) b) ([] : List (Int × Bs)) (((IntKind.wrap .u64 at_) % 5) + 1))).1).mrk))
            have hat_ : atOk (putA (putA (List.replicate 6 blankS) ((IntKind.wrap .u64 at_) % 5) a) (((IntKind.wrap .u64 at_) % 5) + 1) b).length ((IntKind.wrap .u64 at_) % 5) := ⟨by omega, by rw [putA_len, putA_len, List.length_replicate]; omega⟩
            obtain ⟨hl1_, hl2_⟩ := hl_eq (p := Pw.mk false false 0 0) rfl hat_
            exact absurd h69 (by rw [hl1_]; simp [eqv23_iff])
          · -- not: !(eqv23 ((ldH (Pw.mk false false 0 0) (putA (putA (List.replicate 6 blankS) ((IntKind.wrap .u64 at_) % 5) a) (((IntKind.wrap .u64 at_) % 5) + 1) b) ((IntKind.wrap .u64 at_) % 5)).seq) ((ldH (Pw.mk false false 0 0) (putA (putA (List.replicate 6 blankS) ((IntKind.wrap .u64 at_) % 5) a) (((IntKind.wrap .u64 at_) % 5) + 1) b) ((IntKind.wrap .u64 at_) % 5)).ep) ((ldH (Pw.mk false false 0 0) (putA (putA (List.replicate 6 blankS) ((IntKind.wrap .u64 at_) % 5) a) (((IntKind.wrap .u64 at_) % 5) + 1) b) ((IntKind.wrap .u64 at_) % 5)).cut) ((ldH (Pw.mk false false 0 0) (putA (putA (List.replicate 6 blankS) ((IntKind.wrap .u64 at_) % 5) a) (((IntKind.wrap .u64 at_) % 5) + 1) b) ((IntKind.wrap .u64 at_) % 5)).st) ((ldH (Pw.mk false false 0 0) (putA (putA (List.replicate 6 blankS) ((IntKind.wrap .u64 at_) % 5) a) (((IntKind.wrap .u64 at_) % 5) + 1) b) ((IntKind.wrap .u64 at_) % 5)).mrk) (((ldD (readS (Pw.mk false false 0 0) (putA (putA (List.replicate 6 blankS) ((IntKind.wrap .u64 at_) % 5) a) (((IntKind.wrap .u64 at_) % 5) + 1) b) ([] : List (Int × Bs)) ((IntKind.wrap .u64 at_) % 5)) (readS (Pw.mk false false 0 0) (putA (putA (List.replicate 6 blankS) ((IntKind.wrap .u64 at_) % 5) a) (((IntKind.wrap .u64 at_) % 5) + 1) b) ([] : List (Int × Bs)) (((IntKind.wrap .u64 at_) % 5) + 1))).1).seq) (((ldD (readS (Pw.mk false false 0 0) (putA (putA (List.replicate 6 blankS) ((IntKind.wrap .u64 at_) % 5) a) (((IntKind.wrap .u64 at_) % 5) + 1) b) ([] : List (Int × Bs)) ((IntKind.wrap .u64 at_) % 5)) (readS (Pw.mk false false 0 0) (putA (putA (List.replicate 6 blankS) ((IntKind.wrap .u64 at_) % 5) a) (((IntKind.wrap .u64 at_) % 5) + 1) b) ([] : List (Int × Bs)) (((IntKind.wrap .u64 at_) % 5) + 1))).1).ep) (((ldD (readS (Pw.mk false false 0 0) (putA (putA (List.replicate 6 blankS) ((IntKind.wrap .u64 at_) % 5) a) (((IntKind.wrap .u64 at_) % 5) + 1) b) ([] : List (Int × Bs)) ((IntKind.wrap .u64 at_) % 5)) (readS (Pw.mk false false 0 0) (putA (putA (List.replicate 6 blankS) ((IntKind.wrap .u64 at_) % 5) a) (((IntKind.wrap .u64 at_) % 5) + 1) b) ([] : List (Int × Bs)) (((IntKind.wrap .u64 at_) % 5) + 1))).1).cut) (((ldD (readS (Pw.mk false false 0 0) (putA (putA (List.replicate 6 blankS) ((IntKind.wrap .u64 at_) % 5) a) (((IntKind.wrap .u64 at_) % 5) + 1) b) ([] : List (Int × Bs)) ((IntKind.wrap .u64 at_) % 5)) (readS (Pw.mk false false 0 0) (putA (putA (List.replicate 6 blankS) ((IntKind.wrap .u64 at_) % 5) a) (((IntKind.wrap .u64 at_) % 5) + 1) b) ([] : List (Int × Bs)) (((IntKind.wrap .u64 at_) % 5) + 1))).1).st) (((ldD (readS (Pw.mk false false 0 0) (putA (putA (List.replicate 6 blankS) ((IntKind.wrap .u64 at_) % 5) a) (((IntKind.wrap .u64 at_) % 5) + 1) b) ([] : List (Int × Bs)) ((IntKind.wrap .u64 at_) % 5)) (readS (Pw.mk false false 0 0) (putA (putA (List.replicate 6 blankS) ((IntKind.wrap .u64 at_) % 5) a) (((IntKind.wrap .u64 at_) % 5) + 1) b) ([] : List (Int × Bs)) (((IntKind.wrap .u64 at_) % 5) + 1))).1).mrk))
            have hat_ : atOk (putA (putA (List.replicate 6 blankS) ((IntKind.wrap .u64 at_) % 5) a) (((IntKind.wrap .u64 at_) % 5) + 1) b).length ((IntKind.wrap .u64 at_) % 5) := ⟨by omega, by rw [putA_len, putA_len, List.length_replicate]; omega⟩
            obtain ⟨hl1_, hl2_⟩ := hl_eq (p := Pw.mk false false 0 0) rfl hat_
            refine s_on 78 rfl (congrArg Value.bool h69) (o_move (v := (.int .i64 (ldE (Pw.mk false false 0 0) (putA (putA (List.replicate 6 blankS) ((IntKind.wrap .u64 at_) % 5) a) (((IntKind.wrap .u64 at_) % 5) + 1) b) ((IntKind.wrap .u64 at_) % 5)))) rfl ?_)
            refine s_on 78 rfl (congrArg Value.bool h69) (o_move (v := (.int .i64 ((ldD (readS (Pw.mk false false 0 0) (putA (putA (List.replicate 6 blankS) ((IntKind.wrap .u64 at_) % 5) a) (((IntKind.wrap .u64 at_) % 5) + 1) b) ([] : List (Int × Bs)) ((IntKind.wrap .u64 at_) % 5)) (readS (Pw.mk false false 0 0) (putA (putA (List.replicate 6 blankS) ((IntKind.wrap .u64 at_) % 5) a) (((IntKind.wrap .u64 at_) % 5) + 1) b) ([] : List (Int × Bs)) (((IntKind.wrap .u64 at_) % 5) + 1))).2))) rfl ?_)
            refine s_on 78 rfl (congrArg Value.bool h69) (o_neq (a := ldE (Pw.mk false false 0 0) (putA (putA (List.replicate 6 blankS) ((IntKind.wrap .u64 at_) % 5) a) (((IntKind.wrap .u64 at_) % 5) + 1) b) ((IntKind.wrap .u64 at_) % 5)) (b := (ldD (readS (Pw.mk false false 0 0) (putA (putA (List.replicate 6 blankS) ((IntKind.wrap .u64 at_) % 5) a) (((IntKind.wrap .u64 at_) % 5) + 1) b) ([] : List (Int × Bs)) ((IntKind.wrap .u64 at_) % 5)) (readS (Pw.mk false false 0 0) (putA (putA (List.replicate 6 blankS) ((IntKind.wrap .u64 at_) % 5) a) (((IntKind.wrap .u64 at_) % 5) + 1) b) ([] : List (Int × Bs)) (((IntKind.wrap .u64 at_) % 5) + 1))).2) rfl rfl ?_)
            refine s_op (o_pick_f (u := (.bool (decide (ldE (Pw.mk false false 0 0) (putA (putA (List.replicate 6 blankS) ((IntKind.wrap .u64 at_) % 5) a) (((IntKind.wrap .u64 at_) % 5) + 1) b) ((IntKind.wrap .u64 at_) % 5) ≠ (ldD (readS (Pw.mk false false 0 0) (putA (putA (List.replicate 6 blankS) ((IntKind.wrap .u64 at_) % 5) a) (((IntKind.wrap .u64 at_) % 5) + 1) b) ([] : List (Int × Bs)) ((IntKind.wrap .u64 at_) % 5)) (readS (Pw.mk false false 0 0) (putA (putA (List.replicate 6 blankS) ((IntKind.wrap .u64 at_) % 5) a) (((IntKind.wrap .u64 at_) % 5) + 1) b) ([] : List (Int × Bs)) (((IntKind.wrap .u64 at_) % 5) + 1))).2)))) ((rfl : _ = _).trans (congrArg Value.bool h69)) rfl ?_)
            refine s_nil ?_
            refine t_norm (hK68 _ _ ?_)
            refine c_cond rfl (fun h70 => ?_) (fun h70 => ?_)
            · -- ldE (Pw.mk false false 0 0) (putA (putA (List.replicate 6 blankS) ((IntKind.wrap .u64 at_) % 5) a) (((IntKind.wrap .u64 at_) % 5) + 1) b) ((IntKind.wrap .u64 at_) % 5) ≠ (ldD (readS (Pw.mk false false 0 0) (putA (putA (List.replicate 6 blankS) ((IntKind.wrap .u64 at_) % 5) a) (((IntKind.wrap .u64 at_) % 5) + 1) b) ([] : List (Int × Bs)) ((IntKind.wrap .u64 at_) % 5)) (readS (Pw.mk false false 0 0) (putA (putA (List.replicate 6 blankS) ((IntKind.wrap .u64 at_) % 5) a) (((IntKind.wrap .u64 at_) % 5) + 1) b) ([] : List (Int × Bs)) (((IntKind.wrap .u64 at_) % 5) + 1))).2
              exact absurd hl2_ h70
            · -- not: ldE (Pw.mk false false 0 0) (putA (putA (List.replicate 6 blankS) ((IntKind.wrap .u64 at_) % 5) a) (((IntKind.wrap .u64 at_) % 5) + 1) b) ((IntKind.wrap .u64 at_) % 5) ≠ (ldD (readS (Pw.mk false false 0 0) (putA (putA (List.replicate 6 blankS) ((IntKind.wrap .u64 at_) % 5) a) (((IntKind.wrap .u64 at_) % 5) + 1) b) ([] : List (Int × Bs)) ((IntKind.wrap .u64 at_) % 5)) (readS (Pw.mk false false 0 0) (putA (putA (List.replicate 6 blankS) ((IntKind.wrap .u64 at_) % 5) a) (((IntKind.wrap .u64 at_) % 5) + 1) b) ([] : List (Int × Bs)) (((IntKind.wrap .u64 at_) % 5) + 1))).2
              refine wp_skip ?_
              refine t_norm (hK67 _ _ ?_)
              refine wp_seq_k fun K71 hK71 => ?_
              refine c_region ?_
              refine s_op (o_move (v := (.pointer (some ⟨db18, 0, none⟩))) rfl ?_)
              refine s_op (o_move (v := (.int .i64 at_)) rfl ?_)
              refine s_op (o_callf (vs := #[(.pointer (some ⟨db18, 0, none⟩)), (.int .i64 at_)]) ca19 rfl (args2 rfl rfl) (hload_c (p := (Pw.mk false false 0 0)) (la := (putA (putA (List.replicate 6 blankS) ((IntKind.wrap .u64 at_) % 5) a) (((IntKind.wrap .u64 at_) % 5) + 1) b)) ((hH66.front 2 rfl).front 2 rfl).all2 hd36 (hg.mono (seg_sub 2 rfl)) (putA_64 (putA_64 (full_blank _))) (by rw [putA_len, putA_len, List.length_replicate]; decide) at_) ?_)
              rintro _ w74 ⟨rfl, hX72⟩
              refine ⟨_, rfl, ?_⟩
              have hH73 : Has E w74 [sg35, [Hp.one pb19 (.cells #[(.bool (Pw.mk false false 0 0).off), (.bool (Pw.mk false false 0 0).armed), (.int .i64 (Pw.mk false false 0 0).left), (.int .i64 (Pw.mk false false 0 0).uses)] 78 (0, 0))], [Hp.one b62 (.cells #[(.int .i64 (ldH (Pw.mk false false 0 0) (putA (putA (List.replicate 6 blankS) ((IntKind.wrap .u64 at_) % 5) a) (((IntKind.wrap .u64 at_) % 5) + 1) b) ((IntKind.wrap .u64 at_) % 5)).seq), (.int .i64 (ldH (Pw.mk false false 0 0) (putA (putA (List.replicate 6 blankS) ((IntKind.wrap .u64 at_) % 5) a) (((IntKind.wrap .u64 at_) % 5) + 1) b) ((IntKind.wrap .u64 at_) % 5)).ep), (.int .i64 (ldH (Pw.mk false false 0 0) (putA (putA (List.replicate 6 blankS) ((IntKind.wrap .u64 at_) % 5) a) (((IntKind.wrap .u64 at_) % 5) + 1) b) ((IntKind.wrap .u64 at_) % 5)).cut), (.int .i64 (ldH (Pw.mk false false 0 0) (putA (putA (List.replicate 6 blankS) ((IntKind.wrap .u64 at_) % 5) a) (((IntKind.wrap .u64 at_) % 5) + 1) b) ((IntKind.wrap .u64 at_) % 5)).st), (.int .i64 (ldH (Pw.mk false false 0 0) (putA (putA (List.replicate 6 blankS) ((IntKind.wrap .u64 at_) % 5) a) (((IntKind.wrap .u64 at_) % 5) + 1) b) ((IntKind.wrap .u64 at_) % 5)).mrk)] 27 (0, 0))], [Hp.one b53 (.cells #[(.int .i64 ((ldD (readS (Pw.mk false false 0 0) (putA (putA (List.replicate 6 blankS) ((IntKind.wrap .u64 at_) % 5) a) (((IntKind.wrap .u64 at_) % 5) + 1) b) ([] : List (Int × Bs)) ((IntKind.wrap .u64 at_) % 5)) (readS (Pw.mk false false 0 0) (putA (putA (List.replicate 6 blankS) ((IntKind.wrap .u64 at_) % 5) a) (((IntKind.wrap .u64 at_) % 5) + 1) b) ([] : List (Int × Bs)) (((IntKind.wrap .u64 at_) % 5) + 1))).1).seq), (.int .i64 ((ldD (readS (Pw.mk false false 0 0) (putA (putA (List.replicate 6 blankS) ((IntKind.wrap .u64 at_) % 5) a) (((IntKind.wrap .u64 at_) % 5) + 1) b) ([] : List (Int × Bs)) ((IntKind.wrap .u64 at_) % 5)) (readS (Pw.mk false false 0 0) (putA (putA (List.replicate 6 blankS) ((IntKind.wrap .u64 at_) % 5) a) (((IntKind.wrap .u64 at_) % 5) + 1) b) ([] : List (Int × Bs)) (((IntKind.wrap .u64 at_) % 5) + 1))).1).ep), (.int .i64 ((ldD (readS (Pw.mk false false 0 0) (putA (putA (List.replicate 6 blankS) ((IntKind.wrap .u64 at_) % 5) a) (((IntKind.wrap .u64 at_) % 5) + 1) b) ([] : List (Int × Bs)) ((IntKind.wrap .u64 at_) % 5)) (readS (Pw.mk false false 0 0) (putA (putA (List.replicate 6 blankS) ((IntKind.wrap .u64 at_) % 5) a) (((IntKind.wrap .u64 at_) % 5) + 1) b) ([] : List (Int × Bs)) (((IntKind.wrap .u64 at_) % 5) + 1))).1).cut), (.int .i64 ((ldD (readS (Pw.mk false false 0 0) (putA (putA (List.replicate 6 blankS) ((IntKind.wrap .u64 at_) % 5) a) (((IntKind.wrap .u64 at_) % 5) + 1) b) ([] : List (Int × Bs)) ((IntKind.wrap .u64 at_) % 5)) (readS (Pw.mk false false 0 0) (putA (putA (List.replicate 6 blankS) ((IntKind.wrap .u64 at_) % 5) a) (((IntKind.wrap .u64 at_) % 5) + 1) b) ([] : List (Int × Bs)) (((IntKind.wrap .u64 at_) % 5) + 1))).1).st), (.int .i64 ((ldD (readS (Pw.mk false false 0 0) (putA (putA (List.replicate 6 blankS) ((IntKind.wrap .u64 at_) % 5) a) (((IntKind.wrap .u64 at_) % 5) + 1) b) ([] : List (Int × Bs)) ((IntKind.wrap .u64 at_) % 5)) (readS (Pw.mk false false 0 0) (putA (putA (List.replicate 6 blankS) ((IntKind.wrap .u64 at_) % 5) a) (((IntKind.wrap .u64 at_) % 5) + 1) b) ([] : List (Int × Bs)) (((IntKind.wrap .u64 at_) % 5) + 1))).1).mrk)] 23 (0, 0))], R] := hX72.of_all2
              refine s_op (o_move (v := (.tuple #[(.agg #[(.int .i64 (ldH (Pw.mk false false 0 0) (putA (putA (List.replicate 6 blankS) ((IntKind.wrap .u64 at_) % 5) a) (((IntKind.wrap .u64 at_) % 5) + 1) b) at_).seq), (.int .i64 (ldH (Pw.mk false false 0 0) (putA (putA (List.replicate 6 blankS) ((IntKind.wrap .u64 at_) % 5) a) (((IntKind.wrap .u64 at_) % 5) + 1) b) at_).ep), (.int .i64 (ldH (Pw.mk false false 0 0) (putA (putA (List.replicate 6 blankS) ((IntKind.wrap .u64 at_) % 5) a) (((IntKind.wrap .u64 at_) % 5) + 1) b) at_).cut), (.int .i64 (ldH (Pw.mk false false 0 0) (putA (putA (List.replicate 6 blankS) ((IntKind.wrap .u64 at_) % 5) a) (((IntKind.wrap .u64 at_) % 5) + 1) b) at_).st), (.int .i64 (ldH (Pw.mk false false 0 0) (putA (putA (List.replicate 6 blankS) ((IntKind.wrap .u64 at_) % 5) a) (((IntKind.wrap .u64 at_) % 5) + 1) b) at_).mrk)]), (.int .i64 (ldE (Pw.mk false false 0 0) (putA (putA (List.replicate 6 blankS) ((IntKind.wrap .u64 at_) % 5) a) (((IntKind.wrap .u64 at_) % 5) + 1) b) at_))])) rfl ?_)
              refine s_op (o_extract (v := (.agg #[(.int .i64 (ldH (Pw.mk false false 0 0) (putA (putA (List.replicate 6 blankS) ((IntKind.wrap .u64 at_) % 5) a) (((IntKind.wrap .u64 at_) % 5) + 1) b) at_).seq), (.int .i64 (ldH (Pw.mk false false 0 0) (putA (putA (List.replicate 6 blankS) ((IntKind.wrap .u64 at_) % 5) a) (((IntKind.wrap .u64 at_) % 5) + 1) b) at_).ep), (.int .i64 (ldH (Pw.mk false false 0 0) (putA (putA (List.replicate 6 blankS) ((IntKind.wrap .u64 at_) % 5) a) (((IntKind.wrap .u64 at_) % 5) + 1) b) at_).cut), (.int .i64 (ldH (Pw.mk false false 0 0) (putA (putA (List.replicate 6 blankS) ((IntKind.wrap .u64 at_) % 5) a) (((IntKind.wrap .u64 at_) % 5) + 1) b) at_).st), (.int .i64 (ldH (Pw.mk false false 0 0) (putA (putA (List.replicate 6 blankS) ((IntKind.wrap .u64 at_) % 5) a) (((IntKind.wrap .u64 at_) % 5) + 1) b) at_).mrk)])) rfl rfl ?_)
              refine s_op (o_extract (v := (.int .i64 (ldE (Pw.mk false false 0 0) (putA (putA (List.replicate 6 blankS) ((IntKind.wrap .u64 at_) % 5) a) (((IntKind.wrap .u64 at_) % 5) + 1) b) at_))) rfl rfl ?_)
              refine s_op (o_alloc (cs := #[(.int .i64 0), (.int .i64 0), (.int .i64 0), (.int .i64 0), (.int .i64 0)]) ti27 rfl hH73 fun b75 w76 hH77 => ?_)
              refine s_eff (o_storeN (vs := [(.int .i64 (ldH (Pw.mk false false 0 0) (putA (putA (List.replicate 6 blankS) ((IntKind.wrap .u64 at_) % 5) a) (((IntKind.wrap .u64 at_) % 5) + 1) b) at_).seq), (.int .i64 (ldH (Pw.mk false false 0 0) (putA (putA (List.replicate 6 blankS) ((IntKind.wrap .u64 at_) % 5) a) (((IntKind.wrap .u64 at_) % 5) + 1) b) at_).ep), (.int .i64 (ldH (Pw.mk false false 0 0) (putA (putA (List.replicate 6 blankS) ((IntKind.wrap .u64 at_) % 5) a) (((IntKind.wrap .u64 at_) % 5) + 1) b) at_).cut), (.int .i64 (ldH (Pw.mk false false 0 0) (putA (putA (List.replicate 6 blankS) ((IntKind.wrap .u64 at_) % 5) a) (((IntKind.wrap .u64 at_) % 5) + 1) b) at_).st), (.int .i64 (ldH (Pw.mk false false 0 0) (putA (putA (List.replicate 6 blankS) ((IntKind.wrap .u64 at_) % 5) a) (((IntKind.wrap .u64 at_) % 5) + 1) b) at_).mrk)]) (c' := #[(.int .i64 (ldH (Pw.mk false false 0 0) (putA (putA (List.replicate 6 blankS) ((IntKind.wrap .u64 at_) % 5) a) (((IntKind.wrap .u64 at_) % 5) + 1) b) at_).seq), (.int .i64 (ldH (Pw.mk false false 0 0) (putA (putA (List.replicate 6 blankS) ((IntKind.wrap .u64 at_) % 5) a) (((IntKind.wrap .u64 at_) % 5) + 1) b) at_).ep), (.int .i64 (ldH (Pw.mk false false 0 0) (putA (putA (List.replicate 6 blankS) ((IntKind.wrap .u64 at_) % 5) a) (((IntKind.wrap .u64 at_) % 5) + 1) b) at_).cut), (.int .i64 (ldH (Pw.mk false false 0 0) (putA (putA (List.replicate 6 blankS) ((IntKind.wrap .u64 at_) % 5) a) (((IntKind.wrap .u64 at_) % 5) + 1) b) at_).st), (.int .i64 (ldH (Pw.mk false false 0 0) (putA (putA (List.replicate 6 blankS) ((IntKind.wrap .u64 at_) % 5) a) (((IntKind.wrap .u64 at_) % 5) + 1) b) at_).mrk)]) ti27 rfl rfl rfl rfl (by intro u hu; simp only [List.mem_cons, List.not_mem_nil, or_false] at hu; rcases hu with rfl | rfl | rfl | rfl | rfl <;> first | rfl) (by simp) (by kernel_rfl) (hH77.front 0 rfl) fun w78 hH79 => ?_)
              refine s_op (o_assign (v := (.int .i64 (ldE (Pw.mk false false 0 0) (putA (putA (List.replicate 6 blankS) ((IntKind.wrap .u64 at_) % 5) a) (((IntKind.wrap .u64 at_) % 5) + 1) b) at_))) rfl ?_)
              refine s_nil ?_
              refine t_norm (hK71 _ _ ?_)
              refine wp_seq_k fun K80 hK80 => ?_
              refine c_region ?_
              refine s_op (o_move (v := (.int .i64 at_)) rfl ?_)
              refine s_op (o_geq (a := at_) (b := 0) rfl rfl ?_)
              refine s_op (o_move (v := (.bool (decide (0 ≤ at_)))) rfl ?_)
              by_cases h81 : 0 ≤ at_
              · -- 0 ≤ at_
                refine s_on 91 rfl (congrArg Value.bool (decide_eq_true h81)) (o_move (v := (.int .i64 at_)) rfl ?_)
                refine s_on 91 rfl (congrArg Value.bool (decide_eq_true h81)) (o_lss (a := at_) (b := 5) rfl rfl ?_)
                refine s_op (o_pick_t (u := (.bool (decide (at_ < 5)))) ((rfl : _ = _).trans (congrArg Value.bool (decide_eq_true h81))) rfl ?_)
                refine s_op (o_move (v := (.int .i64 (ldE (Pw.mk false false 0 0) (putA (putA (List.replicate 6 blankS) ((IntKind.wrap .u64 at_) % 5) a) (((IntKind.wrap .u64 at_) % 5) + 1) b) at_))) rfl ?_)
                refine s_op (o_neq (a := ldE (Pw.mk false false 0 0) (putA (putA (List.replicate 6 blankS) ((IntKind.wrap .u64 at_) % 5) a) (((IntKind.wrap .u64 at_) % 5) + 1) b) at_) (b := 1) rfl rfl ?_)
                refine s_op (o_eqlb Tryz.underlying4 rfl rfl ?_)
                refine s_op (o_assign (v := (.bool ((decide (at_ < 5)) == (decide (ldE (Pw.mk false false 0 0) (putA (putA (List.replicate 6 blankS) ((IntKind.wrap .u64 at_) % 5) a) (((IntKind.wrap .u64 at_) % 5) + 1) b) at_ ≠ 1))))) rfl ?_)
                refine s_nil ?_
                refine t_norm (hK80 _ _ ?_)
                refine wp_ret ?_
                refine c_ret1 Tryz.results4  (v := (.bool ((decide (at_ < 5)) == (decide (ldE (Pw.mk false false 0 0) (putA (putA (List.replicate 6 blankS) ((IntKind.wrap .u64 at_) % 5) a) (((IntKind.wrap .u64 at_) % 5) + 1) b) at_ ≠ 1))))) rfl ?_
                have hH82 : Has E w78 [R] := (hH79.front 5 rfl).first 1 rfl
                have hb_ := ldE_arg (p := Pw.mk false false 0 0) (la := (putA (putA (List.replicate 6 blankS) ((IntKind.wrap .u64 at_) % 5) a) (((IntKind.wrap .u64 at_) % 5) + 1) b)) (x := at_) rfl
                have hln_ : (putA (putA (List.replicate 6 blankS) ((IntKind.wrap .u64 at_) % 5) a) (((IntKind.wrap .u64 at_) % 5) + 1) b).length = 6 := by rw [putA_len, putA_len, List.length_replicate]
                unfold atOk at hb_
                rw [hln_] at hb_
                exact ⟨by rw [show ((decide (at_ < 5)) == (decide (ldE (Pw.mk false false 0 0) (putA (putA (List.replicate 6 blankS) ((IntKind.wrap .u64 at_) % 5) a) (((IntKind.wrap .u64 at_) % 5) + 1) b) at_ ≠ 1))) = true by rw [beq_iff_eq, decide_eq_decide, hb_]; omega], hH82⟩
              · -- not: 0 ≤ at_
                refine s_off (b' := false) 91 rfl (congrArg Value.bool (decide_eq_false h81)) rfl ?_
                refine s_off (b' := false) 91 rfl (congrArg Value.bool (decide_eq_false h81)) rfl ?_
                refine s_op (o_pick_f (u := (.bool false)) ((rfl : _ = _).trans (congrArg Value.bool (decide_eq_false h81))) rfl ?_)
                refine s_op (o_move (v := (.int .i64 (ldE (Pw.mk false false 0 0) (putA (putA (List.replicate 6 blankS) ((IntKind.wrap .u64 at_) % 5) a) (((IntKind.wrap .u64 at_) % 5) + 1) b) at_))) rfl ?_)
                refine s_op (o_neq (a := ldE (Pw.mk false false 0 0) (putA (putA (List.replicate 6 blankS) ((IntKind.wrap .u64 at_) % 5) a) (((IntKind.wrap .u64 at_) % 5) + 1) b) at_) (b := 1) rfl rfl ?_)
                refine s_op (o_eqlb Tryz.underlying4 rfl rfl ?_)
                refine s_op (o_assign (v := (.bool (false == (decide (ldE (Pw.mk false false 0 0) (putA (putA (List.replicate 6 blankS) ((IntKind.wrap .u64 at_) % 5) a) (((IntKind.wrap .u64 at_) % 5) + 1) b) at_ ≠ 1))))) rfl ?_)
                refine s_nil ?_
                refine t_norm (hK80 _ _ ?_)
                refine wp_ret ?_
                refine c_ret1 Tryz.results4  (v := (.bool (false == (decide (ldE (Pw.mk false false 0 0) (putA (putA (List.replicate 6 blankS) ((IntKind.wrap .u64 at_) % 5) a) (((IntKind.wrap .u64 at_) % 5) + 1) b) at_ ≠ 1))))) rfl ?_
                have hH83 : Has E w78 [R] := (hH79.front 5 rfl).first 1 rfl
                have hb_ := ldE_arg (p := Pw.mk false false 0 0) (la := (putA (putA (List.replicate 6 blankS) ((IntKind.wrap .u64 at_) % 5) a) (((IntKind.wrap .u64 at_) % 5) + 1) b)) (x := at_) rfl
                have hln_ : (putA (putA (List.replicate 6 blankS) ((IntKind.wrap .u64 at_) % 5) a) (((IntKind.wrap .u64 at_) % 5) + 1) b).length = 6 := by rw [putA_len, putA_len, List.length_replicate]
                unfold atOk at hb_
                rw [hln_] at hb_
                exact ⟨by rw [show (false == (decide (ldE (Pw.mk false false 0 0) (putA (putA (List.replicate 6 blankS) ((IntKind.wrap .u64 at_) % 5) a) (((IntKind.wrap .u64 at_) % 5) + 1) b) at_ ≠ 1))) = true by rw [beq_iff_eq, eq_comm, decide_eq_false_iff_not, hb_]; omega], hH83⟩
end Go.Q
namespace Go.Q
theorem arr_cells {H : Type} {enc : TypeId × Value → H} {P : Program} {w : World} {base : Nat} {spare : Nat → Bool} {held : Bool} {fuel n : Nat} {t e : TypeId} {k : IntKind} {cs : List Value} {l : List Int} {p : List MemPlace}
    (ht : P.underlying t = some (.array n e)) (he : P.underlying e = some (.int k)) (hc : P.cellsOf e = 1) (hl : l.length = n)
    (h : DataW.trod enc P w base spare held fuel t cs = some (.agg (l.map fun z => (DataW.lit (Lit.int k z) : DataW H)), p)) : ∀ (i : Nat) (z : Int), l[i]? = some z → cs[i]? = some (Value.int k z) := by
  intro i z hz
  obtain ⟨xs, m, _, hx, _, hn, hel⟩ := DataW.trod_array ht h
  simp only [Prod.mk.injEq, DataW.agg.injEq] at hx
  have hi : i < n := by rw [← hl]; exact (List.getElem?_eq_some_iff.1 hz).1
  have h1 := hel i hi
  rw [hc, Nat.mul_one, List.getElem?_eq_getElem (by omega)] at h1
  obtain ⟨r, e1, e2, _⟩ := DataW.trod_int he h1
  have e3 : (xs.map (·.1))[i]? = some (DataW.lit (Lit.int k z)) := by rw [← hx.1, List.getElem?_map, hz]; rfl
  rw [List.getElem?_map, List.getElem?_eq_getElem (by omega), Option.map_some] at e3
  rw [e2] at e3
  have e4 : r = z := by simpa using e3
  subst e4
  have e5 : (List.take 1 (List.drop i cs))[0]? = some (.int k r) := by rw [e1]; rfl
  rw [List.getElem?_take, if_pos (by omega), List.getElem?_drop] at e5
  simpa using e5
theorem rd_u32 {H : Type} {enc : TypeId × Value → H} {P : Program} {w : World} {t : TypeId} {cs : List Value} (ht : P.underlying t = some (.int .u32)) (h : Rd enc P w t cs) : ∃ x : BitVec 32, cs = [.int .u32 (x.toNat : Int)] ∧ True := by
  obtain ⟨n, h1, h2⟩ := rd_int ht h
  have hb : 0 ≤ n ∧ n < 4294967296 := by
    simp [Lit.wf, IntKind.min, IntKind.max, IntKind.signed, IntKind.bits] at h2
    omega
  refine ⟨BitVec.ofNat 32 n.toNat, ?_, trivial⟩
  rw [h1, BitVec.toNat_ofNat, Nat.mod_eq_of_lt (by omega), Int.toNat_of_nonneg hb.1]
end Go.Q
namespace Go.Q
open Go.Proofs
set_option linter.unusedVariables false
set_option maxRecDepth 100000
attribute [local irreducible] wpList OK Code.wp
theorem rd_rhead {H : Type} {enc : TypeId × Value → H} {w : World} {cs : List Value} (h : Rd enc Tryz.prog w 23 cs) : ∃ a : Hd, cs = hdC a ∧ True := by
  obtain ⟨hl, hf⟩ := rd_struct Tryz.underlying23 h
  have hl : cs.length = 5 := hl.trans (by kernel_rfl)
  obtain ⟨c0, c1, c2, c3, c4, rfl⟩ : ∃ c0 c1 c2 c3 c4, cs = [c0, c1, c2, c3, c4] := by
    match cs, hl with
    | [c0, c1, c2, c3, c4], _ => exact ⟨c0, c1, c2, c3, c4, rfl⟩
  have f0_6 : Rd enc Tryz.prog w 3 [c0] := rd_field (i := 0) (k := 1) hf rfl rfl (by kernel_rfl) rfl
  obtain ⟨n0, e0, b0⟩ := rd_i64 Tryz.underlying3 f0_6
  obtain rfl := (List.cons.inj e0).1
  have f1_9 : Rd enc Tryz.prog w 3 [c1] := rd_field (i := 1) (k := 1) hf rfl rfl (by kernel_rfl) rfl
  obtain ⟨n1, e1, b1⟩ := rd_i64 Tryz.underlying3 f1_9
  obtain rfl := (List.cons.inj e1).1
  have f2_12 : Rd enc Tryz.prog w 3 [c2] := rd_field (i := 2) (k := 1) hf rfl rfl (by kernel_rfl) rfl
  obtain ⟨n2, e2, b2⟩ := rd_i64 Tryz.underlying3 f2_12
  obtain rfl := (List.cons.inj e2).1
  have f3_15 : Rd enc Tryz.prog w 3 [c3] := rd_field (i := 3) (k := 1) hf rfl rfl (by kernel_rfl) rfl
  obtain ⟨n3, e3, b3⟩ := rd_i64 Tryz.underlying3 f3_15
  obtain rfl := (List.cons.inj e3).1
  have f4_18 : Rd enc Tryz.prog w 3 [c4] := rd_field (i := 4) (k := 1) hf rfl rfl (by kernel_rfl) rfl
  obtain ⟨n4, e4, b4⟩ := rd_i64 Tryz.underlying3 f4_18
  obtain rfl := (List.cons.inj e4).1
  exact ⟨⟨n0, n1, n2, n3, n4⟩, rfl, trivial⟩
theorem rd_head {H : Type} {enc : TypeId × Value → H} {w : World} {cs : List Value} (h : Rd enc Tryz.prog w 27 cs) : ∃ a : Hd, cs = hdC a ∧ True := by
  obtain ⟨hl, hf⟩ := rd_struct Tryz.underlying27 h
  have hl : cs.length = 5 := hl.trans (by kernel_rfl)
  obtain ⟨c0, c1, c2, c3, c4, rfl⟩ : ∃ c0 c1 c2 c3 c4, cs = [c0, c1, c2, c3, c4] := by
    match cs, hl with
    | [c0, c1, c2, c3, c4], _ => exact ⟨c0, c1, c2, c3, c4, rfl⟩
  have f0_6 : Rd enc Tryz.prog w 3 [c0] := rd_field (i := 0) (k := 1) hf rfl rfl (by kernel_rfl) rfl
  obtain ⟨n0, e0, b0⟩ := rd_i64 Tryz.underlying3 f0_6
  obtain rfl := (List.cons.inj e0).1
  have f1_9 : Rd enc Tryz.prog w 3 [c1] := rd_field (i := 1) (k := 1) hf rfl rfl (by kernel_rfl) rfl
  obtain ⟨n1, e1, b1⟩ := rd_i64 Tryz.underlying3 f1_9
  obtain rfl := (List.cons.inj e1).1
  have f2_12 : Rd enc Tryz.prog w 3 [c2] := rd_field (i := 2) (k := 1) hf rfl rfl (by kernel_rfl) rfl
  obtain ⟨n2, e2, b2⟩ := rd_i64 Tryz.underlying3 f2_12
  obtain rfl := (List.cons.inj e2).1
  have f3_15 : Rd enc Tryz.prog w 3 [c3] := rd_field (i := 3) (k := 1) hf rfl rfl (by kernel_rfl) rfl
  obtain ⟨n3, e3, b3⟩ := rd_i64 Tryz.underlying3 f3_15
  obtain rfl := (List.cons.inj e3).1
  have f4_18 : Rd enc Tryz.prog w 3 [c4] := rd_field (i := 4) (k := 1) hf rfl rfl (by kernel_rfl) rfl
  obtain ⟨n4, e4, b4⟩ := rd_i64 Tryz.underlying3 f4_18
  obtain rfl := (List.cons.inj e4).1
  exact ⟨⟨n0, n1, n2, n3, n4⟩, rfl, trivial⟩
end Go.Q
