/-
  Parts of a walk: what functions of the program compute, each told by a theorem (Qsf3, Qsf4, Qsh5, Qsm13).
-/
import Derived.Test.YtmfppdpfljpphaaGreatDoorB4
set_option linter.unusedVariables false
set_option linter.unusedSimpArgs false
set_option linter.unnecessarySimpa false
namespace Go.Q
open Go.Proofs
set_option linter.unusedVariables false
set_option maxRecDepth 100000
attribute [local irreducible] wpList OK Code.wp
set_option maxHeartbeats 4000000 in
theorem fopen_c {E w : World} {R : List Hp} (hH : Has E w [R]) (hg : CellsAt R 0 0 nibV) (s : List UInt8) (hsl : s.length ≤ 9000000000000000000) :
    Calls Tryz.prog 193 #[(S s)] w fun e w' => e = .returned (.tuple #[(.agg #[(.int .i64 (oF s).ep), (.int .i64 (oF s).pl), (.int .i64 (oF s).gsn), (S (oF s).data)]), .int .i64 (oN s), .bool (opensB s)]) ∧ Has E w' [R] := by
  have ht1 := take_one s
  refine c_enter (args := [(S s)]) Tryz.func193 rfl Tryz.ntmps193 (by simp) ?_
  refine wp_seq_k fun K1 hK1 => ?_
  refine c_region ?_
  refine s_op (o_alloc (cs := #[(.int .i64 0), (.int .i64 0), (.int .i64 0), (S ([] : List UInt8))]) ti176 rfl hH fun b2 w3 hH4 => ?_)
  refine s_op (o_assign (v := (.int .i64 0)) rfl ?_)
  refine s_op (o_assign (v := (.bool false)) rfl ?_)
  refine s_nil ?_
  refine t_norm (hK1 _ _ ?_)
  refine wp_seq_k fun K5 hK5 => ?_
  refine c_region ?_
  refine s_op (o_move (v := (S s)) rfl ?_)
  refine s_op (o_callf (vs := #[(S s), (.int .i64 1)]) ca276 rfl (args2 rfl rfl) (take_c hH4.all 1 s (by first | omega | exact rest_le1 hsl | exact rest_le2 hsl | exact rest_le3 hsl)) ?_)
  rintro _ w8 ⟨rfl, hX6⟩
  refine ⟨_, rfl, ?_⟩
  have hH7 := hX6.of_all
  refine s_op (o_move (v := (.tuple #[(.int .i64 ((takeS s 1).1)), (S ((takeS s 1).2.1)), (.bool ((takeS s 1).2.2))])) rfl ?_)
  refine s_op (o_extract (v := (.int .i64 ((takeS s 1).1))) rfl rfl ?_)
  refine s_op (o_extract (v := (S ((takeS s 1).2.1))) rfl rfl ?_)
  refine s_op (o_extract (v := (.bool ((takeS s 1).2.2))) rfl rfl ?_)
  refine s_op (o_assign (v := (.int .i64 ((takeS s 1).1))) rfl ?_)
  refine s_op (o_assign (v := (S ((takeS s 1).2.1))) rfl ?_)
  refine s_op (o_assign (v := (.bool ((takeS s 1).2.2))) rfl ?_)
  refine s_nil ?_
  refine t_norm (hK5 _ _ ?_)
  refine wp_seq_k fun K9 hK9 => ?_
  refine wp_seq_k fun K10 hK10 => ?_
  refine c_region ?_
  refine s_op (o_move (v := (.bool ((takeS s 1).2.2))) rfl ?_)
  refine s_op (o_not rfl ?_)
  refine s_op (o_move (v := (.bool (!((takeS s 1).2.2)))) rfl ?_)
  rcases Bool.eq_false_or_eq_true (!((takeS s 1).2.2)) with h11 | h11
  · -- !((takeS s 1).2.2)
    refine s_off (b' := true) 17 rfl (congrArg Value.bool h11) rfl ?_
    refine s_off (b' := true) 17 rfl (congrArg Value.bool h11) rfl ?_
    refine s_off (b' := true) 17 rfl (congrArg Value.bool h11) rfl ?_
    refine s_off (b' := true) 17 rfl (congrArg Value.bool h11) rfl ?_
    refine s_off (b' := true) 17 rfl (congrArg Value.bool h11) rfl ?_
    refine s_op (o_pick_t (u := (.bool true)) ((rfl : _ = _).trans (congrArg Value.bool h11)) rfl ?_)
    refine s_nil ?_
    refine t_norm (hK10 _ _ ?_)
    refine c_true rfl rfl ?_
    refine wp_seq_k fun K12 hK12 => ?_
    refine c_region ?_
    refine s_op (o_sight (v := (.agg #[(.int .i64 0), (.int .i64 0), (.int .i64 0), (S ([] : List UInt8))])) (fun _ => by kernel_rfl) ?_)
    refine s_eff (o_storeN (vs := [(.int .i64 0), (.int .i64 0), (.int .i64 0), (S ([] : List UInt8))]) (c' := #[(.int .i64 0), (.int .i64 0), (.int .i64 0), (S ([] : List UInt8))]) ti176 rfl rfl rfl rfl (by intro u hu; simp only [List.mem_cons, List.not_mem_nil, or_false] at hu; rcases hu with rfl | rfl | rfl | rfl <;> first | rfl) (by simp) (by kernel_rfl) (hH7.front 0 rfl) fun w13 hH14 => ?_)
    refine s_op (o_assign (v := (.int .i64 0)) rfl ?_)
    refine s_op (o_assign (v := (.bool false)) rfl ?_)
    refine s_nil ?_
    refine t_norm (hK12 _ _ ?_)
    refine wp_ret ?_
    refine t_ret (c_retC3 Tryz.results193 rfl (run_loadVarN (cs := [(.int .i64 0), (.int .i64 0), (.int .i64 0), (S ([] : List UInt8))]) Tryz.underlying176 rfl ti176 hH14 (seg_sub 0 rfl) (CellsAt.one rfl)) (x := (.int .i64 0)) rfl (y := (.bool false)) rfl ?_)
    have hH15 : Has E w13 [R] := (hH14.front 1 rfl).first 1 rfl
    have ho : opensB s = false := opens_no1 (not_t h11)
    exact ⟨by unfold oF oN; rw [ho]; rfl, hH15⟩
  · -- not: !((takeS s 1).2.2)
    refine s_on 17 rfl (congrArg Value.bool h11) (o_move (v := (S s)) rfl ?_)
    refine s_on 17 rfl (congrArg Value.bool h11) (o_slen Tryz.underlying9 rfl ?_)
    refine s_on 17 rfl (congrArg Value.bool h11) (o_move (v := (.int .i64 ((takeS s 1).1))) rfl ?_)
    refine s_on 17 rfl (congrArg Value.bool h11) (o_add (a := (takeS s 1).1) (b := 25) rfl rfl (w64 (by omega) (by omega)) ?_)
    refine s_on 17 rfl (congrArg Value.bool h11) (o_lss (a := (s.length : Int)) (b := ((takeS s 1).1) + 25) rfl rfl ?_)
    refine s_op (o_pick_f (u := (.bool (decide ((s.length : Int) < ((takeS s 1).1) + 25)))) ((rfl : _ = _).trans (congrArg Value.bool h11)) rfl ?_)
    refine s_nil ?_
    refine t_norm (hK10 _ _ ?_)
    refine c_cond rfl (fun h16 => ?_) (fun h16 => ?_)
    · -- (s.length : Int) < ((takeS s 1).1) + 25
      refine wp_seq_k fun K17 hK17 => ?_
      refine c_region ?_
      refine s_op (o_sight (v := (.agg #[(.int .i64 0), (.int .i64 0), (.int .i64 0), (S ([] : List UInt8))])) (fun _ => by kernel_rfl) ?_)
      refine s_eff (o_storeN (vs := [(.int .i64 0), (.int .i64 0), (.int .i64 0), (S ([] : List UInt8))]) (c' := #[(.int .i64 0), (.int .i64 0), (.int .i64 0), (S ([] : List UInt8))]) ti176 rfl rfl rfl rfl (by intro u hu; simp only [List.mem_cons, List.not_mem_nil, or_false] at hu; rcases hu with rfl | rfl | rfl | rfl <;> first | rfl) (by simp) (by kernel_rfl) (hH7.front 0 rfl) fun w18 hH19 => ?_)
      refine s_op (o_assign (v := (.int .i64 0)) rfl ?_)
      refine s_op (o_assign (v := (.bool false)) rfl ?_)
      refine s_nil ?_
      refine t_norm (hK17 _ _ ?_)
      refine wp_ret ?_
      refine t_ret (c_retC3 Tryz.results193 rfl (run_loadVarN (cs := [(.int .i64 0), (.int .i64 0), (.int .i64 0), (S ([] : List UInt8))]) Tryz.underlying176 rfl ti176 hH19 (seg_sub 0 rfl) (CellsAt.one rfl)) (x := (.int .i64 0)) rfl (y := (.bool false)) rfl ?_)
      have hH20 : Has E w18 [R] := (hH19.front 1 rfl).first 1 rfl
      have ho : opensB s = false := opens_no2 (by omega)
      exact ⟨by unfold oF oN; rw [ho]; rfl, hH20⟩
    · -- not: (s.length : Int) < ((takeS s 1).1) + 25
      refine wp_skip ?_
      refine t_norm (hK9 _ _ ?_)
      refine wp_seq_k fun K21 hK21 => ?_
      refine c_region ?_
      refine s_op (o_alloc (cs := #[(.int .i64 0), (.int .i64 0), (.int .i64 0), (S ([] : List UInt8))]) ti176 rfl hH7 fun b22 w23 hH24 => ?_)
      refine s_nil ?_
      refine t_norm (hK21 _ _ ?_)
      refine wp_seq_k fun K25 hK25 => ?_
      refine c_region ?_
      refine s_op (o_move (v := (S ((takeS s 1).2.1))) rfl ?_)
      refine s_op (o_callf (vs := #[(S ((takeS s 1).2.1)), (.int .i64 4)]) ca276 rfl (args2 rfl rfl) (take_c hH24.all 4 ((takeS s 1).2.1) (by first | omega | exact rest_le1 hsl | exact rest_le2 hsl | exact rest_le3 hsl)) ?_)
      rintro _ w28 ⟨rfl, hX26⟩
      refine ⟨_, rfl, ?_⟩
      have hH27 := hX26.of_all
      refine s_op (o_move (v := (.tuple #[(.int .i64 ((takeS ((takeS s 1).2.1) 4).1)), (S ((takeS ((takeS s 1).2.1) 4).2.1)), (.bool ((takeS ((takeS s 1).2.1) 4).2.2))])) rfl ?_)
      refine s_op (o_extract (v := (.int .i64 ((takeS ((takeS s 1).2.1) 4).1))) rfl rfl ?_)
      refine s_op (o_extract (v := (S ((takeS ((takeS s 1).2.1) 4).2.1))) rfl rfl ?_)
      refine s_op (o_extract (v := (.bool ((takeS ((takeS s 1).2.1) 4).2.2))) rfl rfl ?_)
      refine s_op (o_fieldAddr (k := 0) (fun _ => by kernel_rfl) rfl ?_)
      refine s_eff (o_store1 (c' := #[(.int .i64 ((takeS ((takeS s 1).2.1) 4).1)), (.int .i64 0), (.int .i64 0), (S ([] : List UInt8))]) ti3 rfl rfl rfl (by simp) rfl (hH27.front 0 rfl) fun w29 hH30 => ?_)
      refine s_op (o_assign (v := (S ((takeS ((takeS s 1).2.1) 4).2.1))) rfl ?_)
      refine s_nil ?_
      refine t_norm (hK25 _ _ ?_)
      refine wp_seq_k fun K31 hK31 => ?_
      refine c_region ?_
      refine s_op (o_move (v := (S ((takeS ((takeS s 1).2.1) 4).2.1))) rfl ?_)
      refine s_op (o_callf (vs := #[(S ((takeS ((takeS s 1).2.1) 4).2.1)), (.int .i64 8)]) ca276 rfl (args2 rfl rfl) (take_c hH30.all 8 ((takeS ((takeS s 1).2.1) 4).2.1) (by first | omega | exact rest_le1 hsl | exact rest_le2 hsl | exact rest_le3 hsl)) ?_)
      rintro _ w34 ⟨rfl, hX32⟩
      refine ⟨_, rfl, ?_⟩
      have hH33 := hX32.of_all
      refine s_op (o_move (v := (.tuple #[(.int .i64 ((takeS ((takeS ((takeS s 1).2.1) 4).2.1) 8).1)), (S ((takeS ((takeS ((takeS s 1).2.1) 4).2.1) 8).2.1)), (.bool ((takeS ((takeS ((takeS s 1).2.1) 4).2.1) 8).2.2))])) rfl ?_)
      refine s_op (o_extract (v := (.int .i64 ((takeS ((takeS ((takeS s 1).2.1) 4).2.1) 8).1))) rfl rfl ?_)
      refine s_op (o_extract (v := (S ((takeS ((takeS ((takeS s 1).2.1) 4).2.1) 8).2.1))) rfl rfl ?_)
      refine s_op (o_extract (v := (.bool ((takeS ((takeS ((takeS s 1).2.1) 4).2.1) 8).2.2))) rfl rfl ?_)
      refine s_op (o_fieldAddr (k := 1) (fun _ => by kernel_rfl) rfl ?_)
      refine s_eff (o_store1 (c' := #[(.int .i64 ((takeS ((takeS s 1).2.1) 4).1)), (.int .i64 ((takeS ((takeS ((takeS s 1).2.1) 4).2.1) 8).1)), (.int .i64 0), (S ([] : List UInt8))]) ti3 rfl rfl rfl (by simp) rfl (hH33.front 0 rfl) fun w35 hH36 => ?_)
      refine s_op (o_assign (v := (S ((takeS ((takeS ((takeS s 1).2.1) 4).2.1) 8).2.1))) rfl ?_)
      refine s_nil ?_
      refine t_norm (hK31 _ _ ?_)
      refine wp_seq_k fun K37 hK37 => ?_
      refine c_region ?_
      refine s_op (o_move (v := (S ((takeS ((takeS ((takeS s 1).2.1) 4).2.1) 8).2.1))) rfl ?_)
      refine s_op (o_callf (vs := #[(S ((takeS ((takeS ((takeS s 1).2.1) 4).2.1) 8).2.1)), (.int .i64 8)]) ca276 rfl (args2 rfl rfl) (take_c hH36.all 8 ((takeS ((takeS ((takeS s 1).2.1) 4).2.1) 8).2.1) (by first | omega | exact rest_le1 hsl | exact rest_le2 hsl | exact rest_le3 hsl)) ?_)
      rintro _ w40 ⟨rfl, hX38⟩
      refine ⟨_, rfl, ?_⟩
      have hH39 := hX38.of_all
      refine s_op (o_move (v := (.tuple #[(.int .i64 ((takeS ((takeS ((takeS ((takeS s 1).2.1) 4).2.1) 8).2.1) 8).1)), (S ((takeS ((takeS ((takeS ((takeS s 1).2.1) 4).2.1) 8).2.1) 8).2.1)), (.bool ((takeS ((takeS ((takeS ((takeS s 1).2.1) 4).2.1) 8).2.1) 8).2.2))])) rfl ?_)
      refine s_op (o_extract (v := (.int .i64 ((takeS ((takeS ((takeS ((takeS s 1).2.1) 4).2.1) 8).2.1) 8).1))) rfl rfl ?_)
      refine s_op (o_extract (v := (S ((takeS ((takeS ((takeS ((takeS s 1).2.1) 4).2.1) 8).2.1) 8).2.1))) rfl rfl ?_)
      refine s_op (o_extract (v := (.bool ((takeS ((takeS ((takeS ((takeS s 1).2.1) 4).2.1) 8).2.1) 8).2.2))) rfl rfl ?_)
      refine s_op (o_fieldAddr (k := 2) (fun _ => by kernel_rfl) rfl ?_)
      refine s_eff (o_store1 (c' := #[(.int .i64 ((takeS ((takeS s 1).2.1) 4).1)), (.int .i64 ((takeS ((takeS ((takeS s 1).2.1) 4).2.1) 8).1)), (.int .i64 ((takeS ((takeS ((takeS ((takeS s 1).2.1) 4).2.1) 8).2.1) 8).1)), (S ([] : List UInt8))]) ti3 rfl rfl rfl (by simp) rfl (hH39.front 0 rfl) fun w41 hH42 => ?_)
      refine s_op (o_assign (v := (S ((takeS ((takeS ((takeS ((takeS s 1).2.1) 4).2.1) 8).2.1) 8).2.1))) rfl ?_)
      refine s_nil ?_
      refine t_norm (hK37 _ _ ?_)
      refine wp_seq_k fun K43 hK43 => ?_
      refine c_region ?_
      refine s_op (o_move (v := (S s)) rfl ?_)
      refine s_op (o_move (v := (.int .i64 ((takeS s 1).1))) rfl ?_)
      refine s_op (o_add (a := 21) (b := (takeS s 1).1) rfl rfl (w64 (by omega) (by omega)) ?_)
      refine s_op (o_ssl Tryz.underlying9 rfl rfl rfl (by omega) (by omega) (by omega) ?_)
      refine s_op (o_fieldAddr (k := 3) (fun _ => by kernel_rfl) rfl ?_)
      refine s_eff (o_store1 (c' := #[(.int .i64 ((takeS ((takeS s 1).2.1) 4).1)), (.int .i64 ((takeS ((takeS ((takeS s 1).2.1) 4).2.1) 8).1)), (.int .i64 ((takeS ((takeS ((takeS ((takeS s 1).2.1) 4).2.1) 8).2.1) 8).1)), (S ((s.take (21 + ((takeS s 1).1)).toNat).drop 21))]) ti9 rfl rfl rfl (by simp) rfl (hH42.front 0 rfl) fun w44 hH45 => ?_)
      refine s_nil ?_
      refine t_norm (hK43 _ _ ?_)
      refine wp_seq_k fun K46 hK46 => ?_
      refine wp_seq_k fun K47 hK47 => ?_
      refine Rest.region mixed (by kernel_rfl) ?_
      have hH48 : Has E { w44 with drawn := w44.drawn + 1 } [[Hp.one b22 (.cells #[(.int .i64 ((takeS ((takeS s 1).2.1) 4).1)), (.int .i64 ((takeS ((takeS ((takeS s 1).2.1) 4).2.1) 8).1)), (.int .i64 ((takeS ((takeS ((takeS ((takeS s 1).2.1) 4).2.1) 8).2.1) 8).1)), (S ((s.take (21 + ((takeS s 1).1)).toNat).drop 21))] 176 (0, 0))], [Hp.one b2 (.cells #[(.int .i64 0), (.int .i64 0), (.int .i64 0), (S ([] : List UInt8))] 176 (0, 0))], R] := Has0.drew hH45 _
      refine r_op 0 rfl (by kernel_rfl) (o_loadN (cs := [(.int .i64 ((takeS ((takeS s 1).2.1) 4).1)), (.int .i64 ((takeS ((takeS ((takeS s 1).2.1) 4).2.1) 8).1)), (.int .i64 ((takeS ((takeS ((takeS ((takeS s 1).2.1) 4).2.1) 8).2.1) 8).1)), (S ((s.take (21 + ((takeS s 1).1)).toNat).drop 21))]) Tryz.underlying176 rfl ti176 rfl hH48 (seg_sub 0 rfl) (CellsAt.one rfl) ?_)
      refine r_op 1 rfl (by kernel_rfl) (o_callf (vs := #[(.agg #[(.int .i64 ((takeS ((takeS s 1).2.1) 4).1)), (.int .i64 ((takeS ((takeS ((takeS s 1).2.1) 4).2.1) 8).1)), (.int .i64 ((takeS ((takeS ((takeS ((takeS s 1).2.1) 4).2.1) 8).2.1) 8).1)), (S ((s.take (21 + ((takeS s 1).1)).toNat).drop 21))])]) ca197 rfl (args1 rfl) (right_c hH48.all (Fr.mk ((takeS ((takeS s 1).2.1) 4).1) ((takeS ((takeS ((takeS s 1).2.1) 4).2.1) 8).1) ((takeS ((takeS ((takeS ((takeS s 1).2.1) 4).2.1) 8).2.1) 8).1) ((s.take (21 + ((takeS s 1).1)).toNat).drop 21)) (by simp only [List.length_drop, List.length_take]; omega)) ?_)
      rintro _ w51 ⟨rfl, hX49⟩
      refine ⟨_, rfl, ?_⟩
      have hH50 := hX49.of_all
      refine r_op 2 rfl (by kernel_rfl) (o_not rfl ?_)
      refine r_op 3 rfl (by kernel_rfl) (o_move (v := (.bool (!(rightS (Fr.mk ((takeS ((takeS s 1).2.1) 4).1) ((takeS ((takeS ((takeS s 1).2.1) 4).2.1) 8).1) ((takeS ((takeS ((takeS ((takeS s 1).2.1) 4).2.1) 8).2.1) 8).1) ((s.take (21 + ((takeS s 1).1)).toNat).drop 21)))))) rfl ?_)
      refine Rest.phaseA (fun w_ => Has E w_ [[Hp.one b22 (.cells #[(.int .i64 ((takeS ((takeS s 1).2.1) 4).1)), (.int .i64 ((takeS ((takeS ((takeS s 1).2.1) 4).2.1) 8).1)), (.int .i64 ((takeS ((takeS ((takeS ((takeS s 1).2.1) 4).2.1) 8).2.1) 8).1)), (S ((s.take (21 + ((takeS s 1).1)).toNat).drop 21))] 176 (0, 0))]]) 4 10 6 rfl (by decide) (by kernel_rfl) ?_
      rcases Bool.eq_false_or_eq_true (!(rightS (Fr.mk ((takeS ((takeS s 1).2.1) 4).1) ((takeS ((takeS ((takeS s 1).2.1) 4).2.1) 8).1) ((takeS ((takeS ((takeS ((takeS s 1).2.1) 4).2.1) 8).2.1) 8).1) ((s.take (21 + ((takeS s 1).1)).toNat).drop 21)))) with h52 | h52
      · -- !(rightS (Fr.mk ((takeS ((takeS s 1).2.1) 4).1) ((takeS ((takeS ((takeS s 1).2.1) 4).2.1) 8).1) ((takeS ((takeS ((takeS ((takeS s 1).2.1) 4).2.1) 8).2.1) 8).1) ((s.take (21 + ((takeS s 1).1)).toNat).drop 21)))
        refine a_off (b' := true) 4 rfl (by kernel_rfl) 54 rfl (congrArg Value.bool h52) rfl ?_
        refine a_off (b' := true) 6 rfl (by kernel_rfl) 54 rfl (congrArg Value.bool h52) rfl ?_
        refine a_off (b' := true) 7 rfl (by kernel_rfl) 54 rfl (congrArg Value.bool h52) rfl ?_
        refine a_off (b' := true) 8 rfl (by kernel_rfl) 54 rfl (congrArg Value.bool h52) rfl ?_
        refine a_off (b' := true) 9 rfl (by kernel_rfl) 54 rfl (congrArg Value.bool h52) rfl ?_
        refine a_off (b' := true) 5 rfl (by kernel_rfl) 54 rfl (congrArg Value.bool h52) rfl ?_
        have hH53 : Has E w51 [[Hp.one b22 (.cells #[(.int .i64 ((takeS ((takeS s 1).2.1) 4).1)), (.int .i64 ((takeS ((takeS ((takeS s 1).2.1) 4).2.1) 8).1)), (.int .i64 ((takeS ((takeS ((takeS ((takeS s 1).2.1) 4).2.1) 8).2.1) 8).1)), (S ((s.take (21 + ((takeS s 1).1)).toNat).drop 21))] 176 (0, 0))]] := hH50.first 1 rfl
        refine a_done (by kernel_rfl) hH53 ?_
        refine r_off (b' := true) 10 rfl (by kernel_rfl) 54 rfl (congrArg Value.bool h52) rfl ?_
        refine r_op 11 rfl (by kernel_rfl) (o_pick_t (u := (.bool true)) ((rfl : _ = _).trans (congrArg Value.bool h52)) rfl ?_)
        refine Rest.done (by kernel_rfl) ?_
        refine t_norm (hK47 _ _ ?_)
        refine c_true rfl rfl ?_
        refine wp_seq_k fun K54 hK54 => ?_
        refine c_region ?_
        refine s_op (o_sight (v := (.agg #[(.int .i64 0), (.int .i64 0), (.int .i64 0), (S ([] : List UInt8))])) (fun _ => by kernel_rfl) ?_)
        refine s_eff (o_storeN (vs := [(.int .i64 0), (.int .i64 0), (.int .i64 0), (S ([] : List UInt8))]) (c' := #[(.int .i64 0), (.int .i64 0), (.int .i64 0), (S ([] : List UInt8))]) ti176 rfl rfl rfl rfl (by intro u hu; simp only [List.mem_cons, List.not_mem_nil, or_false] at hu; rcases hu with rfl | rfl | rfl | rfl <;> first | rfl) (by simp) (by kernel_rfl) (hH50.front 1 rfl) fun w55 hH56 => ?_)
        refine s_op (o_assign (v := (.int .i64 0)) rfl ?_)
        refine s_op (o_assign (v := (.bool false)) rfl ?_)
        refine s_nil ?_
        refine t_norm (hK54 _ _ ?_)
        refine wp_ret ?_
        refine t_ret (c_retC3 Tryz.results193 rfl (run_loadVarN (cs := [(.int .i64 0), (.int .i64 0), (.int .i64 0), (S ([] : List UInt8))]) Tryz.underlying176 rfl ti176 hH56 (seg_sub 0 rfl) (CellsAt.one rfl)) (x := (.int .i64 0)) rfl (y := (.bool false)) rfl ?_)
        have hH57 : Has E w55 [R] := (hH56.front 2 rfl).first 1 rfl
        have ho : opensB s = false := opens_no3 (not_t h52)
        exact ⟨by unfold oF oN; rw [ho]; rfl, hH57⟩
      · -- not: !(rightS (Fr.mk ((takeS ((takeS s 1).2.1) 4).1) ((takeS ((takeS ((takeS s 1).2.1) 4).2.1) 8).1) ((takeS ((takeS ((takeS ((takeS s 1).2.1) 4).2.1) 8).2.1) 8).1) ((s.take (21 + ((takeS s 1).1)).toNat).drop 21)))
        refine a_on 4 rfl (by kernel_rfl) 54 rfl (congrArg Value.bool h52) (fun w_ h_ => o_loadN (cs := [(.int .i64 ((takeS ((takeS s 1).2.1) 4).1)), (.int .i64 ((takeS ((takeS ((takeS s 1).2.1) 4).2.1) 8).1)), (.int .i64 ((takeS ((takeS ((takeS ((takeS s 1).2.1) 4).2.1) 8).2.1) 8).1)), (S ((s.take (21 + ((takeS s 1).1)).toNat).drop 21))]) Tryz.underlying176 rfl ti176 rfl h_ (seg_sub 0 rfl) (CellsAt.one rfl) ⟨rfl, rfl⟩) ?_
        refine a_on 6 rfl (by kernel_rfl) 54 rfl (congrArg Value.bool h52) (fun w_ h_ => o_move (v := (S s)) rfl ⟨rfl, rfl⟩) ?_
        refine a_on 7 rfl (by kernel_rfl) 54 rfl (congrArg Value.bool h52) (fun w_ h_ => o_move (v := (.int .i64 ((takeS s 1).1))) rfl ⟨rfl, rfl⟩) ?_
        refine a_on 8 rfl (by kernel_rfl) 54 rfl (congrArg Value.bool h52) (fun w_ h_ => o_add (a := (takeS s 1).1) (b := 25) rfl rfl (w64 (by omega) (by omega)) ⟨rfl, rfl⟩) ?_
        refine a_on 9 rfl (by kernel_rfl) 54 rfl (congrArg Value.bool h52) (fun w_ h_ => o_ssl_h Tryz.underlying9 rfl rfl (by omega) (by omega) ⟨rfl, rfl⟩) ?_
        have hH58 : Has E w51 [[Hp.one b22 (.cells #[(.int .i64 ((takeS ((takeS s 1).2.1) 4).1)), (.int .i64 ((takeS ((takeS ((takeS s 1).2.1) 4).2.1) 8).1)), (.int .i64 ((takeS ((takeS ((takeS ((takeS s 1).2.1) 4).2.1) 8).2.1) 8).1)), (S ((s.take (21 + ((takeS s 1).1)).toNat).drop 21))] 176 (0, 0))]] := hH50.first 1 rfl
        refine a_won 5 rfl (by kernel_rfl) hH58 54 rfl (congrArg Value.bool h52) (o_callf (vs := #[(.agg #[(.int .i64 ((takeS ((takeS s 1).2.1) 4).1)), (.int .i64 ((takeS ((takeS ((takeS s 1).2.1) 4).2.1) 8).1)), (.int .i64 ((takeS ((takeS ((takeS ((takeS s 1).2.1) 4).2.1) 8).2.1) 8).1)), (S ((s.take (21 + ((takeS s 1).1)).toNat).drop 21))]), (.slice none 0 0)]) ca107 rfl (args2 rfl rfl) (make1_c hH50.all (hg.mono (seg_sub 2 rfl)) (Fr.mk ((takeS ((takeS s 1).2.1) 4).1) ((takeS ((takeS ((takeS s 1).2.1) 4).2.1) 8).1) ((takeS ((takeS ((takeS ((takeS s 1).2.1) 4).2.1) 8).2.1) 8).1) ((s.take (21 + ((takeS s 1).1)).toNat).drop 21)) (by simp only [List.length_drop, List.length_take]; omega)) ?_)
        rintro _ w61 ⟨rfl, hX59⟩
        refine ⟨_, rfl, ?_⟩
        have hH60 := hX59.of_all
        have hH62 : Has E w61 [[Hp.one b22 (.cells #[(.int .i64 ((takeS ((takeS s 1).2.1) 4).1)), (.int .i64 ((takeS ((takeS ((takeS s 1).2.1) 4).2.1) 8).1)), (.int .i64 ((takeS ((takeS ((takeS ((takeS s 1).2.1) 4).2.1) 8).2.1) 8).1)), (S ((s.take (21 + ((takeS s 1).1)).toNat).drop 21))] 176 (0, 0))]] := hH60.first 1 rfl
        refine a_done (by kernel_rfl) hH62 ?_
        refine r_on 10 rfl (by kernel_rfl) 54 rfl (congrArg Value.bool h52) (o_sneq (a := (makeS (Fr.mk ((takeS ((takeS s 1).2.1) 4).1) ((takeS ((takeS ((takeS s 1).2.1) 4).2.1) 8).1) ((takeS ((takeS ((takeS ((takeS s 1).2.1) 4).2.1) 8).2.1) 8).1) ((s.take (21 + ((takeS s 1).1)).toNat).drop 21)))) (b := s.take (((takeS s 1).1) + 25).toNat) rfl rfl ?_)
        refine r_op 11 rfl (by kernel_rfl) (o_pick_f (u := (.bool (decide ((makeS (Fr.mk ((takeS ((takeS s 1).2.1) 4).1) ((takeS ((takeS ((takeS s 1).2.1) 4).2.1) 8).1) ((takeS ((takeS ((takeS ((takeS s 1).2.1) 4).2.1) 8).2.1) 8).1) ((s.take (21 + ((takeS s 1).1)).toNat).drop 21))) ≠ s.take (((takeS s 1).1) + 25).toNat)))) ((rfl : _ = _).trans (congrArg Value.bool h52)) rfl ?_)
        refine Rest.done (by kernel_rfl) ?_
        refine t_norm (hK47 _ _ ?_)
        refine c_cond rfl (fun h63 => ?_) (fun h63 => ?_)
        · -- (makeS (Fr.mk ((takeS ((takeS s 1).2.1) 4).1) ((takeS ((takeS ((takeS s 1).2.1) 4).2.1) 8).1) ((takeS ((takeS ((takeS ((takeS s 1).2.1) 4).2.1) 8).2.1) 8).1) ((s.take (21 + ((takeS s 1).1)).toNat).drop 21))) ≠ s.take (((takeS s 1).1) + 25).toNat
          refine wp_seq_k fun K64 hK64 => ?_
          refine c_region ?_
          refine s_op (o_sight (v := (.agg #[(.int .i64 0), (.int .i64 0), (.int .i64 0), (S ([] : List UInt8))])) (fun _ => by kernel_rfl) ?_)
          refine s_eff (o_storeN (vs := [(.int .i64 0), (.int .i64 0), (.int .i64 0), (S ([] : List UInt8))]) (c' := #[(.int .i64 0), (.int .i64 0), (.int .i64 0), (S ([] : List UInt8))]) ti176 rfl rfl rfl rfl (by intro u hu; simp only [List.mem_cons, List.not_mem_nil, or_false] at hu; rcases hu with rfl | rfl | rfl | rfl <;> first | rfl) (by simp) (by kernel_rfl) (hH60.front 1 rfl) fun w65 hH66 => ?_)
          refine s_op (o_assign (v := (.int .i64 0)) rfl ?_)
          refine s_op (o_assign (v := (.bool false)) rfl ?_)
          refine s_nil ?_
          refine t_norm (hK64 _ _ ?_)
          refine wp_ret ?_
          refine t_ret (c_retC3 Tryz.results193 rfl (run_loadVarN (cs := [(.int .i64 0), (.int .i64 0), (.int .i64 0), (S ([] : List UInt8))]) Tryz.underlying176 rfl ti176 hH66 (seg_sub 0 rfl) (CellsAt.one rfl)) (x := (.int .i64 0)) rfl (y := (.bool false)) rfl ?_)
          have hH67 : Has E w65 [R] := (hH66.front 2 rfl).first 1 rfl
          have ho : opensB s = false := opens_no4 h63
          exact ⟨by unfold oF oN; rw [ho]; rfl, hH67⟩
        · -- not: (makeS (Fr.mk ((takeS ((takeS s 1).2.1) 4).1) ((takeS ((takeS ((takeS s 1).2.1) 4).2.1) 8).1) ((takeS ((takeS ((takeS ((takeS s 1).2.1) 4).2.1) 8).2.1) 8).1) ((s.take (21 + ((takeS s 1).1)).toNat).drop 21))) ≠ s.take (((takeS s 1).1) + 25).toNat
          refine wp_skip ?_
          refine t_norm (hK46 _ _ ?_)
          refine wp_seq_k fun K68 hK68 => ?_
          refine c_region ?_
          refine s_op (o_loadN (cs := [(.int .i64 ((takeS ((takeS s 1).2.1) 4).1)), (.int .i64 ((takeS ((takeS ((takeS s 1).2.1) 4).2.1) 8).1)), (.int .i64 ((takeS ((takeS ((takeS ((takeS s 1).2.1) 4).2.1) 8).2.1) 8).1)), (S ((s.take (21 + ((takeS s 1).1)).toNat).drop 21))]) Tryz.underlying176 rfl ti176 rfl hH60 (seg_sub 0 rfl) (CellsAt.one rfl) ?_)
          refine s_op (o_move (v := (.int .i64 ((takeS s 1).1))) rfl ?_)
          refine s_op (o_add (a := (takeS s 1).1) (b := 25) rfl rfl (w64 (by omega) (by omega)) ?_)
          refine s_eff (o_storeN (vs := [(.int .i64 ((takeS ((takeS s 1).2.1) 4).1)), (.int .i64 ((takeS ((takeS ((takeS s 1).2.1) 4).2.1) 8).1)), (.int .i64 ((takeS ((takeS ((takeS ((takeS s 1).2.1) 4).2.1) 8).2.1) 8).1)), (S ((s.take (21 + ((takeS s 1).1)).toNat).drop 21))]) (c' := #[(.int .i64 ((takeS ((takeS s 1).2.1) 4).1)), (.int .i64 ((takeS ((takeS ((takeS s 1).2.1) 4).2.1) 8).1)), (.int .i64 ((takeS ((takeS ((takeS ((takeS s 1).2.1) 4).2.1) 8).2.1) 8).1)), (S ((s.take (21 + ((takeS s 1).1)).toNat).drop 21))]) ti176 rfl rfl rfl rfl (by intro u hu; simp only [List.mem_cons, List.not_mem_nil, or_false] at hu; rcases hu with rfl | rfl | rfl | rfl <;> first | rfl) (by simp) (by kernel_rfl) (hH60.front 1 rfl) fun w69 hH70 => ?_)
          refine s_op (o_assign (v := (.int .i64 (((takeS s 1).1) + 25))) rfl ?_)
          refine s_op (o_assign (v := (.bool true)) rfl ?_)
          refine s_nil ?_
          refine t_norm (hK68 _ _ ?_)
          refine wp_ret ?_
          refine c_retC3 Tryz.results193 rfl (run_loadVarN (cs := [(.int .i64 ((takeS ((takeS s 1).2.1) 4).1)), (.int .i64 ((takeS ((takeS ((takeS s 1).2.1) 4).2.1) 8).1)), (.int .i64 ((takeS ((takeS ((takeS ((takeS s 1).2.1) 4).2.1) 8).2.1) 8).1)), (S ((s.take (21 + ((takeS s 1).1)).toNat).drop 21))]) Tryz.underlying176 rfl ti176 hH70 (seg_sub 0 rfl) (CellsAt.one rfl)) (x := (.int .i64 (((takeS s 1).1) + 25))) rfl (y := (.bool true)) rfl ?_
          have hH71 : Has E w69 [R] := (hH70.front 2 rfl).first 1 rfl
          have ho : opensB s = true := opens_yes (not_f h11) (by omega) (not_f h52) (Classical.not_not.1 h63)
          exact ⟨by unfold oF oN; rw [if_pos ho, if_pos ho, ho]; rfl, hH71⟩
set_option maxHeartbeats 4000000 in
theorem ffits_c {E w : World} {R : List Hp} (hH : Has E w [R]) (f : Fr) (hfl : f.data.length ≤ 9223372036854775807) (re rc pl ab : Int) :
    Calls Tryz.prog 194 #[(.agg #[(.int .i64 re), (.int .i64 rc)]), (.agg #[(.int .i64 f.ep), (.int .i64 f.pl), (.int .i64 f.gsn), (S f.data)]), (.int .i64 pl), (.int .i64 ab)] w fun e w' => e = .returned (.bool (fitsF re rc pl ab f)) ∧ Has E w' [R] := by
  refine c_enter (args := [(.agg #[(.int .i64 re), (.int .i64 rc)]), (.agg #[(.int .i64 f.ep), (.int .i64 f.pl), (.int .i64 f.gsn), (S f.data)]), (.int .i64 pl), (.int .i64 ab)]) Tryz.func194 rfl Tryz.ntmps194 (by simp) ?_
  refine wp_seq_k fun K1 hK1 => ?_
  refine c_region ?_
  refine s_op (o_box (cs := #[(.int .i64 re), (.int .i64 rc)]) rfl rfl hH fun b2 w3 hH4 => ?_)
  refine s_op (o_box (cs := #[(.int .i64 f.ep), (.int .i64 f.pl), (.int .i64 f.gsn), (S f.data)]) rfl rfl hH4 fun b5 w6 hH7 => ?_)
  refine s_op (o_assign (v := (.bool false)) rfl ?_)
  refine s_nil ?_
  refine t_norm (hK1 _ _ ?_)
  refine wp_seq_k fun K8 hK8 => ?_
  refine c_region ?_
  refine s_op (o_loadN (cs := [(.int .i64 f.ep), (.int .i64 f.pl), (.int .i64 f.gsn), (S f.data)]) Tryz.underlying176 rfl ti176 rfl hH7 (seg_sub 0 rfl) (CellsAt.one rfl) ?_)
  refine s_op (o_callf (vs := #[(.agg #[(.int .i64 f.ep), (.int .i64 f.pl), (.int .i64 f.gsn), (S f.data)])]) ca197 rfl (args1 rfl) (right_c hH7.all f (by omega)) ?_)
  rintro _ w11 ⟨rfl, hX9⟩
  refine ⟨_, rfl, ?_⟩
  have hH10 := hX9.of_all
  refine s_op (o_move (v := (.bool (rightS f))) rfl ?_)
  rcases Bool.eq_false_or_eq_true (rightS f) with h12 | h12
  · -- (rightS f)
    refine s_on 11 rfl (congrArg Value.bool h12) (o_fieldAddr (k := 1) (fun _ => by kernel_rfl) rfl ?_)
    refine s_on 11 rfl (congrArg Value.bool h12) (o_load1 (v := (.int .i64 f.pl)) Tryz.underlying3 rfl rfl hH10 (seg_sub 0 rfl) (CellsAt.one rfl) ?_)
    refine s_on 11 rfl (congrArg Value.bool h12) (o_move (v := (.int .i64 pl)) rfl ?_)
    refine s_on 11 rfl (congrArg Value.bool h12) (o_eql (a := f.pl) (b := pl) rfl rfl ?_)
    refine s_op (o_pick_t (u := (.bool (decide (f.pl = pl)))) ((rfl : _ = _).trans (congrArg Value.bool h12)) rfl ?_)
    refine s_op (o_move (v := (.bool (decide (f.pl = pl)))) rfl ?_)
    by_cases h13 : f.pl = pl
    · -- f.pl = pl
      refine s_on 17 rfl (congrArg Value.bool (decide_eq_true h13)) (o_fieldAddr (k := 2) (fun _ => by kernel_rfl) rfl ?_)
      refine s_on 17 rfl (congrArg Value.bool (decide_eq_true h13)) (o_load1 (v := (.int .i64 f.gsn)) Tryz.underlying3 rfl rfl hH10 (seg_sub 0 rfl) (CellsAt.one rfl) ?_)
      refine s_on 17 rfl (congrArg Value.bool (decide_eq_true h13)) (o_move (v := (.int .i64 ab)) rfl ?_)
      refine s_on 17 rfl (congrArg Value.bool (decide_eq_true h13)) (o_gtr (a := f.gsn) (b := ab) rfl rfl ?_)
      refine s_op (o_pick_t (u := (.bool (decide (ab < f.gsn)))) ((rfl : _ = _).trans (congrArg Value.bool (decide_eq_true h13))) rfl ?_)
      refine s_op (o_move (v := (.bool (decide (ab < f.gsn)))) rfl ?_)
      by_cases h14 : ab < f.gsn
      · -- ab < f.gsn
        refine s_on 23 rfl (congrArg Value.bool (decide_eq_true h14)) (o_fieldAddr (k := 0) (fun _ => by kernel_rfl) rfl ?_)
        refine s_on 23 rfl (congrArg Value.bool (decide_eq_true h14)) (o_load1 (v := (.int .i64 f.ep)) Tryz.underlying3 rfl rfl hH10 (seg_sub 0 rfl) (CellsAt.one rfl) ?_)
        refine s_on 23 rfl (congrArg Value.bool (decide_eq_true h14)) (o_fieldAddr (k := 0) (fun _ => by kernel_rfl) rfl ?_)
        refine s_on 23 rfl (congrArg Value.bool (decide_eq_true h14)) (o_load1 (v := (.int .i64 re)) Tryz.underlying3 rfl rfl hH10 (seg_sub 1 rfl) (CellsAt.one rfl) ?_)
        refine s_on 23 rfl (congrArg Value.bool (decide_eq_true h14)) (o_leq (a := f.ep) (b := re) rfl rfl ?_)
        refine s_op (o_pick_t (u := (.bool (decide (f.ep ≤ re)))) ((rfl : _ = _).trans (congrArg Value.bool (decide_eq_true h14))) rfl ?_)
        refine s_op (o_move (v := (.bool (decide (f.ep ≤ re)))) rfl ?_)
        by_cases h15 : f.ep ≤ re
        · -- f.ep ≤ re
          refine s_on 30 rfl (congrArg Value.bool (decide_eq_true h15)) (o_fieldAddr (k := 1) (fun _ => by kernel_rfl) rfl ?_)
          refine s_on 30 rfl (congrArg Value.bool (decide_eq_true h15)) (o_load1 (v := (.int .i64 f.pl)) Tryz.underlying3 rfl rfl hH10 (seg_sub 0 rfl) (CellsAt.one rfl) ?_)
          refine s_on 30 rfl (congrArg Value.bool (decide_eq_true h15)) (o_fieldAddr (k := 1) (fun _ => by kernel_rfl) rfl ?_)
          refine s_on 30 rfl (congrArg Value.bool (decide_eq_true h15)) (o_load1 (v := (.int .i64 rc)) Tryz.underlying3 rfl rfl hH10 (seg_sub 1 rfl) (CellsAt.one rfl) ?_)
          refine s_on 30 rfl (congrArg Value.bool (decide_eq_true h15)) (o_lss (a := f.pl) (b := rc) rfl rfl ?_)
          refine s_on 30 rfl (congrArg Value.bool (decide_eq_true h15)) (o_move (v := (.bool (decide (f.pl < rc)))) rfl ?_)
          by_cases h16 : f.pl < rc
          · -- f.pl < rc
            refine s_off (b' := true) 36 rfl (congrArg Value.bool (decide_eq_true h16)) rfl ?_
            refine s_off (b' := true) 36 rfl (congrArg Value.bool (decide_eq_true h16)) rfl ?_
            refine s_off (b' := true) 36 rfl (congrArg Value.bool (decide_eq_true h16)) rfl ?_
            refine s_off (b' := true) 36 rfl (congrArg Value.bool (decide_eq_true h16)) rfl ?_
            refine s_off (b' := true) 36 rfl (congrArg Value.bool (decide_eq_true h16)) rfl ?_
            refine s_on 30 rfl (congrArg Value.bool (decide_eq_true h15)) (o_pick_t (u := (.bool true)) ((rfl : _ = _).trans (congrArg Value.bool (decide_eq_true h16))) rfl ?_)
            refine s_op (o_pick_t (u := (.bool true)) ((rfl : _ = _).trans (congrArg Value.bool (decide_eq_true h15))) rfl ?_)
            refine s_op (o_assign (v := (.bool true)) rfl ?_)
            refine s_nil ?_
            refine t_norm (hK8 _ _ ?_)
            refine wp_ret ?_
            refine c_ret1 Tryz.results194  (v := (.bool true)) rfl ?_
            have hH17 : Has E w11 [R] := (hH10.front 2 rfl).first 1 rfl
            exact ⟨by rw [fitsF, h12, Bool.true_and]; exact congrArg (fun b => Ending.returned (.bool b)) ((decide_eq_true (by omega)).symm), hH17⟩
          · -- not: f.pl < rc
            refine s_on 36 rfl (congrArg Value.bool (decide_eq_false h16)) (o_fieldAddr (k := 0) (fun _ => by kernel_rfl) rfl ?_)
            refine s_on 36 rfl (congrArg Value.bool (decide_eq_false h16)) (o_load1 (v := (.int .i64 f.ep)) Tryz.underlying3 rfl rfl hH10 (seg_sub 0 rfl) (CellsAt.one rfl) ?_)
            refine s_on 36 rfl (congrArg Value.bool (decide_eq_false h16)) (o_fieldAddr (k := 0) (fun _ => by kernel_rfl) rfl ?_)
            refine s_on 36 rfl (congrArg Value.bool (decide_eq_false h16)) (o_load1 (v := (.int .i64 re)) Tryz.underlying3 rfl rfl hH10 (seg_sub 1 rfl) (CellsAt.one rfl) ?_)
            refine s_on 36 rfl (congrArg Value.bool (decide_eq_false h16)) (o_eql (a := f.ep) (b := re) rfl rfl ?_)
            refine s_on 30 rfl (congrArg Value.bool (decide_eq_true h15)) (o_pick_f (u := (.bool (decide (f.ep = re)))) ((rfl : _ = _).trans (congrArg Value.bool (decide_eq_false h16))) rfl ?_)
            refine s_op (o_pick_t (u := (.bool (decide (f.ep = re)))) ((rfl : _ = _).trans (congrArg Value.bool (decide_eq_true h15))) rfl ?_)
            refine s_op (o_assign (v := (.bool (decide (f.ep = re)))) rfl ?_)
            refine s_nil ?_
            refine t_norm (hK8 _ _ ?_)
            refine wp_ret ?_
            refine c_ret1 Tryz.results194  (v := (.bool (decide (f.ep = re)))) rfl ?_
            have hH18 : Has E w11 [R] := (hH10.front 2 rfl).first 1 rfl
            exact ⟨by rw [fitsF, h12, Bool.true_and]; exact congrArg (fun b => Ending.returned (.bool b)) (decide_eq_decide.2 (by omega)), hH18⟩
        · -- not: f.ep ≤ re
          refine s_off (b' := false) 30 rfl (congrArg Value.bool (decide_eq_false h15)) rfl ?_
          refine s_off (b' := false) 30 rfl (congrArg Value.bool (decide_eq_false h15)) rfl ?_
          refine s_off (b' := false) 30 rfl (congrArg Value.bool (decide_eq_false h15)) rfl ?_
          refine s_off (b' := false) 30 rfl (congrArg Value.bool (decide_eq_false h15)) rfl ?_
          refine s_off (b' := false) 30 rfl (congrArg Value.bool (decide_eq_false h15)) rfl ?_
          refine s_off (b' := false) 30 rfl (congrArg Value.bool (decide_eq_false h15)) rfl ?_
          refine s_offu 36 rfl rfl ?_
          refine s_offu 36 rfl rfl ?_
          refine s_offu 36 rfl rfl ?_
          refine s_offu 36 rfl rfl ?_
          refine s_offu 36 rfl rfl ?_
          refine s_off (b' := false) 30 rfl (congrArg Value.bool (decide_eq_false h15)) rfl ?_
          refine s_op (o_pick_f (u := (.bool false)) ((rfl : _ = _).trans (congrArg Value.bool (decide_eq_false h15))) rfl ?_)
          refine s_op (o_assign (v := (.bool false)) rfl ?_)
          refine s_nil ?_
          refine t_norm (hK8 _ _ ?_)
          refine wp_ret ?_
          refine c_ret1 Tryz.results194  (v := (.bool false)) rfl ?_
          have hH19 : Has E w11 [R] := (hH10.front 2 rfl).first 1 rfl
          exact ⟨by rw [fitsF, h12, Bool.true_and]; exact congrArg (fun b => Ending.returned (.bool b)) ((decide_eq_false (by omega)).symm), hH19⟩
      · -- not: ab < f.gsn
        refine s_off (b' := false) 23 rfl (congrArg Value.bool (decide_eq_false h14)) rfl ?_
        refine s_off (b' := false) 23 rfl (congrArg Value.bool (decide_eq_false h14)) rfl ?_
        refine s_off (b' := false) 23 rfl (congrArg Value.bool (decide_eq_false h14)) rfl ?_
        refine s_off (b' := false) 23 rfl (congrArg Value.bool (decide_eq_false h14)) rfl ?_
        refine s_off (b' := false) 23 rfl (congrArg Value.bool (decide_eq_false h14)) rfl ?_
        refine s_op (o_pick_f (u := (.bool false)) ((rfl : _ = _).trans (congrArg Value.bool (decide_eq_false h14))) rfl ?_)
        refine s_op (o_move (v := (.bool false)) rfl ?_)
        refine s_off (b' := false) 30 rfl rfl rfl ?_
        refine s_off (b' := false) 30 rfl rfl rfl ?_
        refine s_off (b' := false) 30 rfl rfl rfl ?_
        refine s_off (b' := false) 30 rfl rfl rfl ?_
        refine s_off (b' := false) 30 rfl rfl rfl ?_
        refine s_off (b' := false) 30 rfl rfl rfl ?_
        refine s_offu 36 rfl rfl ?_
        refine s_offu 36 rfl rfl ?_
        refine s_offu 36 rfl rfl ?_
        refine s_offu 36 rfl rfl ?_
        refine s_offu 36 rfl rfl ?_
        refine s_off (b' := false) 30 rfl rfl rfl ?_
        refine s_op (o_pick_f (u := (.bool false)) rfl rfl ?_)
        refine s_op (o_assign (v := (.bool false)) rfl ?_)
        refine s_nil ?_
        refine t_norm (hK8 _ _ ?_)
        refine wp_ret ?_
        refine c_ret1 Tryz.results194  (v := (.bool false)) rfl ?_
        have hH20 : Has E w11 [R] := (hH10.front 2 rfl).first 1 rfl
        exact ⟨by rw [fitsF, h12, Bool.true_and]; exact congrArg (fun b => Ending.returned (.bool b)) ((decide_eq_false (by omega)).symm), hH20⟩
    · -- not: f.pl = pl
      refine s_off (b' := false) 17 rfl (congrArg Value.bool (decide_eq_false h13)) rfl ?_
      refine s_off (b' := false) 17 rfl (congrArg Value.bool (decide_eq_false h13)) rfl ?_
      refine s_off (b' := false) 17 rfl (congrArg Value.bool (decide_eq_false h13)) rfl ?_
      refine s_off (b' := false) 17 rfl (congrArg Value.bool (decide_eq_false h13)) rfl ?_
      refine s_op (o_pick_f (u := (.bool false)) ((rfl : _ = _).trans (congrArg Value.bool (decide_eq_false h13))) rfl ?_)
      refine s_op (o_move (v := (.bool false)) rfl ?_)
      refine s_off (b' := false) 23 rfl rfl rfl ?_
      refine s_off (b' := false) 23 rfl rfl rfl ?_
      refine s_off (b' := false) 23 rfl rfl rfl ?_
      refine s_off (b' := false) 23 rfl rfl rfl ?_
      refine s_off (b' := false) 23 rfl rfl rfl ?_
      refine s_op (o_pick_f (u := (.bool false)) rfl rfl ?_)
      refine s_op (o_move (v := (.bool false)) rfl ?_)
      refine s_off (b' := false) 30 rfl rfl rfl ?_
      refine s_off (b' := false) 30 rfl rfl rfl ?_
      refine s_off (b' := false) 30 rfl rfl rfl ?_
      refine s_off (b' := false) 30 rfl rfl rfl ?_
      refine s_off (b' := false) 30 rfl rfl rfl ?_
      refine s_off (b' := false) 30 rfl rfl rfl ?_
      refine s_offu 36 rfl rfl ?_
      refine s_offu 36 rfl rfl ?_
      refine s_offu 36 rfl rfl ?_
      refine s_offu 36 rfl rfl ?_
      refine s_offu 36 rfl rfl ?_
      refine s_off (b' := false) 30 rfl rfl rfl ?_
      refine s_op (o_pick_f (u := (.bool false)) rfl rfl ?_)
      refine s_op (o_assign (v := (.bool false)) rfl ?_)
      refine s_nil ?_
      refine t_norm (hK8 _ _ ?_)
      refine wp_ret ?_
      refine c_ret1 Tryz.results194  (v := (.bool false)) rfl ?_
      have hH21 : Has E w11 [R] := (hH10.front 2 rfl).first 1 rfl
      exact ⟨by rw [fitsF, h12, Bool.true_and]; exact congrArg (fun b => Ending.returned (.bool b)) ((decide_eq_false (by omega)).symm), hH21⟩
  · -- not: (rightS f)
    refine s_off (b' := false) 11 rfl (congrArg Value.bool h12) rfl ?_
    refine s_off (b' := false) 11 rfl (congrArg Value.bool h12) rfl ?_
    refine s_off (b' := false) 11 rfl (congrArg Value.bool h12) rfl ?_
    refine s_off (b' := false) 11 rfl (congrArg Value.bool h12) rfl ?_
    refine s_op (o_pick_f (u := (.bool false)) ((rfl : _ = _).trans (congrArg Value.bool h12)) rfl ?_)
    refine s_op (o_move (v := (.bool false)) rfl ?_)
    refine s_off (b' := false) 17 rfl rfl rfl ?_
    refine s_off (b' := false) 17 rfl rfl rfl ?_
    refine s_off (b' := false) 17 rfl rfl rfl ?_
    refine s_off (b' := false) 17 rfl rfl rfl ?_
    refine s_op (o_pick_f (u := (.bool false)) rfl rfl ?_)
    refine s_op (o_move (v := (.bool false)) rfl ?_)
    refine s_off (b' := false) 23 rfl rfl rfl ?_
    refine s_off (b' := false) 23 rfl rfl rfl ?_
    refine s_off (b' := false) 23 rfl rfl rfl ?_
    refine s_off (b' := false) 23 rfl rfl rfl ?_
    refine s_off (b' := false) 23 rfl rfl rfl ?_
    refine s_op (o_pick_f (u := (.bool false)) rfl rfl ?_)
    refine s_op (o_move (v := (.bool false)) rfl ?_)
    refine s_off (b' := false) 30 rfl rfl rfl ?_
    refine s_off (b' := false) 30 rfl rfl rfl ?_
    refine s_off (b' := false) 30 rfl rfl rfl ?_
    refine s_off (b' := false) 30 rfl rfl rfl ?_
    refine s_off (b' := false) 30 rfl rfl rfl ?_
    refine s_off (b' := false) 30 rfl rfl rfl ?_
    refine s_offu 36 rfl rfl ?_
    refine s_offu 36 rfl rfl ?_
    refine s_offu 36 rfl rfl ?_
    refine s_offu 36 rfl rfl ?_
    refine s_offu 36 rfl rfl ?_
    refine s_off (b' := false) 30 rfl rfl rfl ?_
    refine s_op (o_pick_f (u := (.bool false)) rfl rfl ?_)
    refine s_op (o_assign (v := (.bool false)) rfl ?_)
    refine s_nil ?_
    refine t_norm (hK8 _ _ ?_)
    refine wp_ret ?_
    refine c_ret1 Tryz.results194  (v := (.bool false)) rfl ?_
    have hH22 : Has E w11 [R] := (hH10.front 2 rfl).first 1 rfl
    exact ⟨by rw [fitsF, h12]; rfl, hH22⟩
end Go.Q
namespace Go.Q
open Go.Proofs
set_option linter.unusedVariables false
set_option maxRecDepth 100000
attribute [local irreducible] wpList OK Code.wp
set_option maxHeartbeats 4000000 in
theorem chain_c {E w : World} {R : List Hp} (hH : Has E w [R]) (hg : CellsAt R 0 0 nibV) (t : List UInt8) (htl : t.length ≤ 1000000) (re rc pl ab : Int) (hpl0 : -9000000000000000000 ≤ pl ∧ pl ≤ 9000000000000000000) :
    Calls Tryz.prog 100 #[(.agg #[(.int .i64 re), (.int .i64 rc)]), (S t), (.int .i64 pl), (.int .i64 ab)] w fun e w' => ∃ v' hs', e = .returned (.tuple #[v', .int .i64 (chainS re rc (t.length + 1) t pl ab).2]) ∧ Own 176 4 v' (chainS re rc (t.length + 1) t pl ab).1.length ((chainS re rc (t.length + 1) t pl ab).1.flatMap frC) hs' ∧ Has E w' [hs', R] := by
  refine c_enter (args := [(.agg #[(.int .i64 re), (.int .i64 rc)]), (S t), (.int .i64 pl), (.int .i64 ab)]) Tryz.func100 rfl Tryz.ntmps100 (by simp) ?_
  refine wp_seq_k fun K1 hK1 => ?_
  refine c_region ?_
  refine s_op (o_box (cs := #[(.int .i64 re), (.int .i64 rc)]) rfl rfl hH fun b2 w3 hH4 => ?_)
  refine s_op (o_assign (v := (.slice none 0 0)) rfl ?_)
  refine s_op (o_assign (v := (.int .i64 0)) rfl ?_)
  refine s_nil ?_
  refine t_norm (hK1 _ _ ?_)
  refine wp_seq_k fun K5 hK5 => ?_
  refine c_region ?_
  refine s_op (o_assign (v := (.slice none 0 0)) rfl ?_)
  refine s_nil ?_
  refine t_norm (hK5 _ _ ?_)
  refine wp_seq_k fun K6 hK6 => ?_
  refine wp_block ?_
  let I8 : Nat → (Nat → Value) → World → Prop := fun n__ r__ w__ => ∃ (n : Nat) (cur : List UInt8) (pl2 : Int) (ab2 : Int) (va : Value) (ha : List Hp) (acc : List Fr), n__ = n + 1 ∧ Has E w__ [ha, [Hp.one b2 (.cells #[(.int .i64 re), (.int .i64 rc)] 170 (0, 0))], R] ∧ (cur.length < n) ∧ (Own 176 4 va acc.length (acc.flatMap frC) ha) ∧ (pl2 + (cur.length : Int) = pl + (t.length : Int)) ∧ (25 * acc.length + cur.length ≤ t.length) ∧ ((chainS re rc (t.length + 1) t pl ab) = (acc ++ (chainS re rc n cur pl2 ab2).1, (chainS re rc n cur pl2 ab2).2)) ∧ r__ 0 = (.agg #[(.int .i64 re), (.int .i64 rc)]) ∧ r__ 1 = (S cur) ∧ r__ 2 = (.int .i64 pl2) ∧ r__ 3 = (.int .i64 ab2) ∧ r__ 4 = (.pointer (some ⟨b2, 0, none⟩)) ∧ r__ 8 = (.slice none 0 0) ∧ r__ 9 = (.int .i64 0) ∧ r__ 10 = va
  have hH9 : Has E w3 [[], [Hp.one b2 (.cells #[(.int .i64 re), (.int .i64 rc)] 170 (0, 0))], R] := (Has.nil ((hH4.front 1 rfl).front 1 rfl)).first 3 rfl
  refine c_loop I8 _ ⟨(t.length + 1), t, pl, ab, (.slice none 0 0), [], [], rfl, hH9, (by omega), Own.nil 176 4, rfl, (by simp), (by simp), rfl, rfl, rfl, rfl, rfl, rfl, rfl, rfl⟩ ?_
  rintro n_ r12 w10 ⟨n, cur, pl2, ab2, va, ha, acc, rfl, hH11, hn, hoa, hpl, hal, hch, e7_0, e7_1, e7_2, e7_3, e7_4, e7_8, e7_9, e7_10⟩
  refine wp_seq_k fun K13 hK13 => ?_
  refine wp_seq_k fun K14 hK14 => ?_
  refine c_region ?_
  refine s_op (o_move (v := (S cur)) e7_1 ?_)
  refine s_op (o_sneq (a := cur) (b := ([] : List UInt8)) rfl rfl ?_)
  refine s_nil ?_
  refine t_norm (hK14 _ _ ?_)
  refine c_cond rfl (fun h15 => ?_) (fun h15 => ?_)
  · -- cur ≠ ([] : List UInt8)
    refine wp_skip ?_
    refine t_norm (hK13 _ _ ?_)
    refine wp_block ?_
    refine wp_seq_k fun K16 hK16 => ?_
    refine c_region ?_
    refine s_op (o_move (v := (S cur)) e7_1 ?_)
    refine s_op (o_callf (vs := #[(S cur)]) ca193 rfl (args1 rfl) (fopen_c hH11.all (hg.mono (seg_sub 2 rfl)) cur (by omega)) ?_)
    rintro _ w19 ⟨rfl, hX17⟩
    refine ⟨_, rfl, ?_⟩
    have hH18 := hX17.of_all
    refine s_op (o_move (v := (.tuple #[(.agg #[(.int .i64 ((oF cur).ep)), (.int .i64 ((oF cur).pl)), (.int .i64 ((oF cur).gsn)), (S ((oF cur).data))]), (.int .i64 (oN cur)), (.bool (opensB cur))])) rfl ?_)
    refine s_op (o_extract (v := (.agg #[(.int .i64 ((oF cur).ep)), (.int .i64 ((oF cur).pl)), (.int .i64 ((oF cur).gsn)), (S ((oF cur).data))])) rfl rfl ?_)
    refine s_op (o_extract (v := (.int .i64 (oN cur))) rfl rfl ?_)
    refine s_op (o_extract (v := (.bool (opensB cur))) rfl rfl ?_)
    refine s_op (o_alloc (cs := #[(.int .i64 0), (.int .i64 0), (.int .i64 0), (S ([] : List UInt8))]) ti176 rfl hH18 fun b20 w21 hH22 => ?_)
    refine s_eff (o_storeN (vs := [(.int .i64 ((oF cur).ep)), (.int .i64 ((oF cur).pl)), (.int .i64 ((oF cur).gsn)), (S ((oF cur).data))]) (c' := #[(.int .i64 ((oF cur).ep)), (.int .i64 ((oF cur).pl)), (.int .i64 ((oF cur).gsn)), (S ((oF cur).data))]) ti176 rfl rfl rfl rfl (by intro u hu; simp only [List.mem_cons, List.not_mem_nil, or_false] at hu; rcases hu with rfl | rfl | rfl | rfl <;> first | rfl) (by simp) (by kernel_rfl) (hH22.front 0 rfl) fun w23 hH24 => ?_)
    refine s_op (o_assign (v := (.int .i64 (oN cur))) rfl ?_)
    refine s_op (o_assign (v := (.bool (opensB cur))) rfl ?_)
    refine s_nil ?_
    refine t_norm (hK16 _ _ ?_)
    refine wp_seq_k fun K25 hK25 => ?_
    refine wp_seq_k fun K26 hK26 => ?_
    refine c_region ?_
    refine s_op (o_move (v := (.bool (opensB cur))) rfl ?_)
    refine s_op (o_not rfl ?_)
    refine s_op (o_move (v := (.bool (!(opensB cur)))) rfl ?_)
    rcases Bool.eq_false_or_eq_true (!(opensB cur)) with h27 | h27
    · -- !(opensB cur)
      refine s_off (b' := true) 24 rfl (congrArg Value.bool h27) rfl ?_
      refine s_off (b' := true) 24 rfl (congrArg Value.bool h27) rfl ?_
      refine s_off (b' := true) 24 rfl (congrArg Value.bool h27) rfl ?_
      refine s_off (b' := true) 24 rfl (congrArg Value.bool h27) rfl ?_
      refine s_off (b' := true) 24 rfl (congrArg Value.bool h27) rfl ?_
      refine s_off (b' := true) 24 rfl (congrArg Value.bool h27) rfl ?_
      refine s_op (o_pick_t (u := (.bool true)) ((rfl : _ = _).trans (congrArg Value.bool h27)) rfl ?_)
      refine s_nil ?_
      refine t_norm (hK26 _ _ ?_)
      refine c_true rfl rfl ?_
      refine wp_exit ?_
      refine t_exit (x_out rfl (t_exit (x_in (?_))))
      refine t_norm (hK6 _ _ ?_)
      refine wp_seq_k fun K28 hK28 => ?_
      refine c_region ?_
      refine s_op (o_move (v := va) e7_10 ?_)
      refine s_op (o_move (v := (.int .i64 pl2)) e7_2 ?_)
      refine s_op (o_assign (v := va) rfl ?_)
      refine s_op (o_assign (v := (.int .i64 pl2)) rfl ?_)
      refine s_nil ?_
      refine t_norm (hK28 _ _ ?_)
      refine wp_ret ?_
      refine c_ret2 Tryz.results100  (v := va) rfl (x := (.int .i64 pl2)) rfl ?_
      have hH29 : Has E w23 [ha, R] := ((hH24.front 3 rfl).front 2 rfl).first 2 rfl
      have he := chain_end (.inl (not_t h27)) hch
      exact ⟨_, _, by rw [he], by rw [he]; exact hoa, hH29⟩
    · -- not: !(opensB cur)
      have hle := oN_le (not_f h27)
      have hny := oN_yes (not_f h27)
      refine s_on 24 rfl (congrArg Value.bool h27) (o_loadN (cs := [(.int .i64 re), (.int .i64 rc)]) Tryz.underlying170 rfl ti170 e7_4 hH24 (seg_sub 2 rfl) (CellsAt.one rfl) ?_)
      refine s_on 24 rfl (congrArg Value.bool h27) (o_loadN (cs := [(.int .i64 ((oF cur).ep)), (.int .i64 ((oF cur).pl)), (.int .i64 ((oF cur).gsn)), (S ((oF cur).data))]) Tryz.underlying176 rfl ti176 rfl hH24 (seg_sub 0 rfl) (CellsAt.one rfl) ?_)
      refine s_on 24 rfl (congrArg Value.bool h27) (o_move (v := (.int .i64 pl2)) e7_2 ?_)
      refine s_on 24 rfl (congrArg Value.bool h27) (o_move (v := (.int .i64 ab2)) e7_3 ?_)
      refine s_on 24 rfl (congrArg Value.bool h27) (o_callf (vs := #[(.agg #[(.int .i64 re), (.int .i64 rc)]), (.agg #[(.int .i64 ((oF cur).ep)), (.int .i64 ((oF cur).pl)), (.int .i64 ((oF cur).gsn)), (S ((oF cur).data))]), (.int .i64 pl2), (.int .i64 ab2)]) ca194 rfl (args4 rfl rfl rfl rfl) (ffits_c hH24.all (oF cur) (Nat.le_trans (oF_le cur) (by omega)) re rc pl2 ab2) ?_)
      rintro _ w32 ⟨rfl, hX30⟩
      refine ⟨_, rfl, ?_⟩
      have hH31 := hX30.of_all
      refine s_on 24 rfl (congrArg Value.bool h27) (o_not rfl ?_)
      refine s_op (o_pick_f (u := (.bool (!(fitsF re rc pl2 ab2 (oF cur))))) ((rfl : _ = _).trans (congrArg Value.bool h27)) rfl ?_)
      refine s_nil ?_
      refine t_norm (hK26 _ _ ?_)
      refine c_condb rfl (fun h33 => ?_) (fun h33 => ?_)
      · -- !(fitsF re rc pl2 ab2 (oF cur))
        have h33_n : (fitsF re rc pl2 ab2 (oF cur)) = false := by first | simpa using h33 | exact Bool.of_not_eq_true (fun g_ => by rw [g_] at h33; cases h33)
        refine wp_exit ?_
        refine t_exit (x_out rfl (t_exit (x_in (?_))))
        refine t_norm (hK6 _ _ ?_)
        refine wp_seq_k fun K34 hK34 => ?_
        refine c_region ?_
        refine s_op (o_move (v := va) e7_10 ?_)
        refine s_op (o_move (v := (.int .i64 pl2)) e7_2 ?_)
        refine s_op (o_assign (v := va) rfl ?_)
        refine s_op (o_assign (v := (.int .i64 pl2)) rfl ?_)
        refine s_nil ?_
        refine t_norm (hK34 _ _ ?_)
        refine wp_ret ?_
        refine c_ret2 Tryz.results100  (v := va) rfl (x := (.int .i64 pl2)) rfl ?_
        have hH35 : Has E w32 [ha, R] := ((hH31.front 3 rfl).front 2 rfl).first 2 rfl
        have he := chain_end (.inr (not_t h33)) hch
        exact ⟨_, _, by rw [he], by rw [he]; exact hoa, hH35⟩
      · -- not: !(fitsF re rc pl2 ab2 (oF cur))
        have h33_n : (fitsF re rc pl2 ab2 (oF cur)) = true := by first | simpa using h33 | exact Bool.of_not_eq_false (fun g_ => by rw [g_] at h33; cases h33)
        refine wp_skip ?_
        refine t_norm (hK25 _ _ ?_)
        refine wp_seq_k fun K36 hK36 => ?_
        refine c_region ?_
        refine s_op (o_move (v := va) e7_10 ?_)
        refine s_op (o_loadN (cs := [(.int .i64 ((oF cur).ep)), (.int .i64 ((oF cur).pl)), (.int .i64 ((oF cur).gsn)), (S ((oF cur).data))]) Tryz.underlying176 rfl ti176 rfl hH31 (seg_sub 0 rfl) (CellsAt.one rfl) ?_)
        refine s_op (o_buildSlice (ps := #[(0, (.agg #[(.int .i64 ((oF cur).ep)), (.int .i64 ((oF cur).pl)), (.int .i64 ((oF cur).gsn)), (S ((oF cur).data))]))]) (cells := #[(.int .i64 ((oF cur).ep)), (.int .i64 ((oF cur).pl)), (.int .i64 ((oF cur).gsn)), (S ((oF cur).data))]) Tryz.underlying167 ti176 (by decide) (parts1 rfl) (by kernel_rfl) hH31 fun b37 w38 hH39 => ?_)
        refine s_op (o_append Tryz.underlying167 ti176 rfl (by decide) rfl hoa rfl (sl_litF (f := frC) (l := [(oF cur)]) frC_len rfl rfl (by simp)) (hH39.front 2 rfl) (seg_sub 0 rfl) (one_fr _) (by simp; omega) (by simp; omega) fun v40 s41 w43 ho42 hH44 => ?_)
        have ho42 : Own 176 4 v40 (acc ++ [(oF cur)]).length ((acc ++ [(oF cur)]).flatMap frC) s41 := ho42.appF
        refine s_op (o_assign (v := v40) rfl ?_)
        refine s_nil ?_
        refine t_norm (hK36 _ _ ?_)
        refine Rest.region mixed (by kernel_rfl) ?_
        have hH45 : Has E { w43 with drawn := w43.drawn + 1 } [s41, [Hp.one b37 (.cells #[(.int .i64 ((oF cur).ep)), (.int .i64 ((oF cur).pl)), (.int .i64 ((oF cur).gsn)), (S ((oF cur).data))] 176 (0, 0))], [Hp.one b20 (.cells #[(.int .i64 ((oF cur).ep)), (.int .i64 ((oF cur).pl)), (.int .i64 ((oF cur).gsn)), (S ((oF cur).data))] 176 (0, 0))], [Hp.one b2 (.cells #[(.int .i64 re), (.int .i64 rc)] 170 (0, 0))], R] := Has0.drew hH44 _
        refine Rest.phaseA (fun w_ => Has E w_ [[Hp.one b20 (.cells #[(.int .i64 ((oF cur).ep)), (.int .i64 ((oF cur).pl)), (.int .i64 ((oF cur).gsn)), (S ((oF cur).data))] 176 (0, 0))]]) 0 10 10 rfl (by decide) (by kernel_rfl) ?_
        refine a_op 0 rfl (by kernel_rfl) (fun w_ h_ => o_move (v := (S cur)) e7_1 ⟨rfl, rfl⟩) ?_
        refine a_op 1 rfl (by kernel_rfl) (fun w_ h_ => o_move (v := (.int .i64 (oN cur))) rfl ⟨rfl, rfl⟩) ?_
        refine a_op 2 rfl (by kernel_rfl) (fun w_ h_ => o_ssl_l Tryz.underlying9 rfl rfl (by omega) (by omega) ⟨rfl, rfl⟩) ?_
        refine a_op 3 rfl (by kernel_rfl) (fun w_ h_ => o_move (v := (.int .i64 pl2)) e7_2 ⟨rfl, rfl⟩) ?_
        refine a_op 4 rfl (by kernel_rfl) (fun w_ h_ => o_move (v := (.int .i64 (oN cur))) rfl ⟨rfl, rfl⟩) ?_
        refine a_op 5 rfl (by kernel_rfl) (fun w_ h_ => o_add (a := pl2) (b := (oN cur)) rfl rfl (w64 (by omega) (by omega)) ⟨rfl, rfl⟩) ?_
        refine a_op 6 rfl (by kernel_rfl) (fun w_ h_ => o_fieldAddr (k := 2) (fun _ => by kernel_rfl) rfl ⟨rfl, rfl⟩) ?_
        refine a_op 7 rfl (by kernel_rfl) (fun w_ h_ => o_load1 (v := (.int .i64 ((oF cur).gsn))) Tryz.underlying3 rfl rfl h_ (seg_sub 0 rfl) (CellsAt.one rfl) ⟨rfl, rfl⟩) ?_
        refine a_op 8 rfl (by kernel_rfl) (fun w_ h_ => o_assign (v := (S (cur.drop ((oN cur)).toNat))) rfl ⟨rfl, rfl⟩) ?_
        refine a_op 9 rfl (by kernel_rfl) (fun w_ h_ => o_assign (v := (.int .i64 (pl2 + (oN cur)))) rfl ⟨rfl, rfl⟩) ?_
        have hH46 : Has E { w43 with drawn := w43.drawn + 1 } [[Hp.one b20 (.cells #[(.int .i64 ((oF cur).ep)), (.int .i64 ((oF cur).pl)), (.int .i64 ((oF cur).gsn)), (S ((oF cur).data))] 176 (0, 0))]] := (hH45.front 2 rfl).first 1 rfl
        refine a_done (by kernel_rfl) hH46 ?_
        refine r_op 10 rfl (by kernel_rfl) (o_assign (v := (.int .i64 ((oF cur).gsn))) rfl ?_)
        refine Rest.done (by kernel_rfl) ?_
        refine b_norm ?_
        have hH47 : Has E { w43 with drawn := w43.drawn + 1 } [s41, [Hp.one b2 (.cells #[(.int .i64 re), (.int .i64 rc)] 170 (0, 0))], R] := (((hH45.front 4 rfl).front 4 rfl).front 2 rfl).first 3 rfl
        refine t_norm ⟨(n - 1) + 1, _, rfl, ?_, ?_⟩
        · omega
        · exact ⟨(n - 1), (cur.drop ((oN cur)).toNat), (pl2 + (oN cur)), ((oF cur).gsn), v40, s41, (acc ++ [(oF cur)]), rfl, hH47, (by simp only [List.length_drop]; omega), (ho42), (by simp only [List.length_drop]; omega), (by simp only [List.length_append, List.length_cons, List.length_nil, List.length_drop]; omega), (by exact chain_step (by omega) (not_f h27) (not_f h33) hch), e7_0, rfl, rfl, rfl, e7_4, e7_8, e7_9, rfl⟩
  · -- not: cur ≠ ([] : List UInt8)
    refine wp_exit ?_
    refine t_exit (t_exit (x_in (?_)))
    refine t_norm (hK6 _ _ ?_)
    refine wp_seq_k fun K48 hK48 => ?_
    refine c_region ?_
    refine s_op (o_move (v := va) e7_10 ?_)
    refine s_op (o_move (v := (.int .i64 pl2)) e7_2 ?_)
    refine s_op (o_assign (v := va) rfl ?_)
    refine s_op (o_assign (v := (.int .i64 pl2)) rfl ?_)
    refine s_nil ?_
    refine t_norm (hK48 _ _ ?_)
    refine wp_ret ?_
    refine c_ret2 Tryz.results100  (v := va) rfl (x := (.int .i64 pl2)) rfl ?_
    have hH49 : Has E w10 [ha, R] := ((hH11.front 2 rfl).front 1 rfl).first 2 rfl
    have he := chain_end (.inl (by rw [show cur = [] from Classical.not_not.1 h15]; exact opens_nil)) hch
    exact ⟨_, _, by rw [he], by rw [he]; exact hoa, hH49⟩
end Go.Q
namespace Go.Q
open Go.Proofs
set_option linter.unusedVariables false
set_option maxRecDepth 100000
attribute [local irreducible] wpList OK Code.wp
theorem blG_step {la : List Bs} {x : Int} {i : Nat} {bl : Bool} {rd : Bs} (h : blG la x i = bl) (hs : rd = sec la (x + (i : Int))) (hl : rd.length = 64) : blG la x (i + 1) = (bl && decide (Lib.trimB rd 0 = [])) := by
  show (blG la x i && blankB (sec la (x + (i : Int)))) = _
  rw [h, ← hs]
  congr 1
  unfold blankB
  rw [decide_eq_decide, trim_zero, hl]
set_option maxHeartbeats 4000000 in
theorem hload_c {E w : World} {R sg : List Hp} {pb db : Nat} {p : Pw} {la : List Bs} (hH : Has E w [sg, [Hp.one pb (.cells #[(.bool p.off), (.bool p.armed), (.int .i64 p.left), (.int .i64 p.uses)] 145 (0, 0))], R]) (hd : DevAt pb sg db la []) (hg : CellsAt R 0 0 nibV) (h64 : Full64 la) (hla : la.length ≤ 4096) (x : Int) :
    Calls Tryz.prog 97 #[(.pointer (some ⟨db, 0, none⟩)), (.int .i64 x)] w fun e w' => e = .returned (.tuple #[.agg #[(.int .i64 (ldH p la x).seq), (.int .i64 (ldH p la x).ep), (.int .i64 (ldH p la x).cut), (.int .i64 (ldH p la x).st), (.int .i64 (ldH p la x).mrk)], .int .i64 (ldE p la x)]) ∧ Has E w' [sg, [Hp.one pb (.cells #[(.bool p.off), (.bool p.armed), (.int .i64 p.left), (.int .i64 p.uses)] 145 (0, 0))], R] := by
  refine c_enter (args := [(.pointer (some ⟨db, 0, none⟩)), (.int .i64 x)]) Tryz.func97 rfl Tryz.ntmps97 (by simp) ?_
  refine wp_seq_k fun K1 hK1 => ?_
  refine c_region ?_
  refine s_op (o_alloc (cs := #[(.int .i64 0), (.int .i64 0), (.int .i64 0), (.int .i64 0), (.int .i64 0)]) ti23 rfl hH fun b2 w3 hH4 => ?_)
  refine s_op (o_assign (v := (.int .i64 0)) rfl ?_)
  refine s_nil ?_
  refine t_norm (hK1 _ _ ?_)
  refine wp_seq_k fun K5 hK5 => ?_
  refine wp_seq_k fun K6 hK6 => ?_
  refine c_region ?_
  refine s_op (o_move (v := (.pointer (some ⟨db, 0, none⟩))) rfl ?_)
  refine s_op (o_move (v := (.int .i64 x)) rfl ?_)
  refine s_op (o_callf (vs := #[(.pointer (some ⟨db, 0, none⟩)), (.int .i64 x)]) ca187 rfl (args2 rfl rfl) (there_c ((hH4.front 2 rfl).front 2 rfl).all2 hd x) ?_)
  rintro _ w9 ⟨rfl, hX7⟩
  refine ⟨_, rfl, ?_⟩
  have hH8 : Has E w9 [sg, [Hp.one pb (.cells #[(.bool p.off), (.bool p.armed), (.int .i64 p.left), (.int .i64 p.uses)] 145 (0, 0))], [Hp.one b2 (.cells #[(.int .i64 0), (.int .i64 0), (.int .i64 0), (.int .i64 0), (.int .i64 0)] 23 (0, 0))], R] := hX7.of_all2
  refine s_op (o_assign (v := (.int .i64 (thE p la.length x))) rfl ?_)
  refine s_nil ?_
  refine t_norm (hK6 _ _ ?_)
  refine wp_seq_k fun K10 hK10 => ?_
  refine c_region ?_
  refine s_op (o_move (v := (.int .i64 (thE p la.length x))) rfl ?_)
  refine s_op (o_neq (a := thE p la.length x) (b := 0) rfl rfl ?_)
  refine s_nil ?_
  refine t_norm (hK10 _ _ ?_)
  refine c_cond rfl (fun h11 => ?_) (fun h11 => ?_)
  · -- thE p la.length x ≠ 0
    refine wp_seq_k fun K12 hK12 => ?_
    refine c_region ?_
    refine s_op (o_sight (v := (.agg #[(.int .i64 0), (.int .i64 0), (.int .i64 0), (.int .i64 0), (.int .i64 0)])) (fun _ => by kernel_rfl) ?_)
    refine s_op (o_move (v := (.int .i64 (thE p la.length x))) rfl ?_)
    refine s_eff (o_storeN (vs := [(.int .i64 0), (.int .i64 0), (.int .i64 0), (.int .i64 0), (.int .i64 0)]) (c' := #[(.int .i64 0), (.int .i64 0), (.int .i64 0), (.int .i64 0), (.int .i64 0)]) ti23 rfl rfl rfl rfl (by intro u hu; simp only [List.mem_cons, List.not_mem_nil, or_false] at hu; rcases hu with rfl | rfl | rfl | rfl | rfl <;> first | rfl) (by simp) (by kernel_rfl) (hH8.front 2 rfl) fun w13 hH14 => ?_)
    refine s_op (o_assign (v := (.int .i64 (thE p la.length x))) rfl ?_)
    refine s_nil ?_
    refine t_norm (hK12 _ _ ?_)
    refine wp_ret ?_
    refine t_ret (c_retC2 Tryz.results97 rfl (run_loadVarN (cs := [(.int .i64 0), (.int .i64 0), (.int .i64 0), (.int .i64 0), (.int .i64 0)]) Tryz.underlying23 rfl ti23 hH14 (seg_sub 0 rfl) (CellsAt.one rfl)) (x := (.int .i64 (thE p la.length x))) rfl ?_)
    have hH15 : Has E w13 [sg, [Hp.one pb (.cells #[(.bool p.off), (.bool p.armed), (.int .i64 p.left), (.int .i64 p.uses)] 145 (0, 0))], R] := (((hH14.front 3 rfl).front 3 rfl).front 3 rfl).first 3 rfl
    obtain ⟨e1_, e2_⟩ := ld_th h11
    exact ⟨by rw [e1_, e2_]; rfl, hH15⟩
  · -- not: thE p la.length x ≠ 0
    have hth_ := thE_zero (Classical.not_not.1 h11)
    obtain ⟨hx1_, hx2_⟩ := hth_.1
    refine wp_skip ?_
    refine t_norm (hK5 _ _ ?_)
    refine wp_seq_k fun K16 hK16 => ?_
    refine c_region ?_
    refine s_op (o_alloc (cs := #[(.int .i64 0), (.int .i64 0), (.int .i64 0), (.int .i64 0), (.int .i64 0)]) ti23 rfl hH8 fun b17 w18 hH19 => ?_)
    refine s_nil ?_
    refine t_norm (hK16 _ _ ?_)
    refine wp_seq_k fun K20 hK20 => ?_
    refine c_region ?_
    refine s_op (o_assign (v := (.bool false)) rfl ?_)
    refine s_op (o_assign (v := (.bool true)) rfl ?_)
    refine s_nil ?_
    refine t_norm (hK20 _ _ ?_)
    refine wp_seq_k fun K21 hK21 => ?_
    refine wp_seq_k fun K22 hK22 => ?_
    refine c_region ?_
    refine s_op (o_move (v := (.int .i64 0)) rfl ?_)
    refine s_nil ?_
    refine t_norm (hK22 _ _ ?_)
    refine wp_block ?_
    have hH23 : Has E w18 [[Hp.one b17 (.cells #[(.int .i64 hdZ.seq), (.int .i64 hdZ.ep), (.int .i64 hdZ.cut), (.int .i64 hdZ.st), (.int .i64 hdZ.mrk)] 23 (0, 0))], sg, [Hp.one pb (.cells #[(.bool p.off), (.bool p.armed), (.int .i64 p.left), (.int .i64 p.uses)] 145 (0, 0))], [Hp.one b2 (.cells #[(.int .i64 0), (.int .i64 0), (.int .i64 0), (.int .i64 0), (.int .i64 0)] 23 (0, 0))], R] := hH19
    let I25 : Nat → (Nat → Value) → World → Prop := fun n__ r__ w__ => ∃ (i : Nat) (bh : Hd) (fd : Bool) (bl : Bool), n__ = 2 - i ∧ Has E w__ [[Hp.one b17 (.cells #[(.int .i64 bh.seq), (.int .i64 bh.ep), (.int .i64 bh.cut), (.int .i64 bh.st), (.int .i64 bh.mrk)] 23 (0, 0))], sg, [Hp.one pb (.cells #[(.bool p.off), (.bool p.armed), (.int .i64 p.left), (.int .i64 p.uses)] 145 (0, 0))], [Hp.one b2 (.cells #[(.int .i64 0), (.int .i64 0), (.int .i64 0), (.int .i64 0), (.int .i64 0)] 23 (0, 0))], R] ∧ (i ≤ 2) ∧ (ldG la x i = (bh, fd)) ∧ (blG la x i = bl) ∧ r__ 0 = (.pointer (some ⟨db, 0, none⟩)) ∧ r__ 1 = (.int .i64 x) ∧ r__ 4 = (.pointer (some ⟨b2, 0, none⟩)) ∧ r__ 6 = (.int .i64 (thE p la.length x)) ∧ r__ 7 = (.pointer (some ⟨b17, 0, none⟩)) ∧ r__ 8 = (.bool fd) ∧ r__ 9 = (.bool bl) ∧ r__ 19 = (.bool (decide (thE p la.length x ≠ 0))) ∧ r__ 22 = (.int .i64 (i : Int))
    refine c_loop I25 _ ⟨0, hdZ, false, true, rfl, hH23, (by omega), rfl, rfl, rfl, rfl, rfl, rfl, rfl, rfl, rfl, rfl, rfl⟩ ?_
    rintro n_ r28 w26 ⟨i, bh, fd, bl, rfl, hH27, hi, hld, hbl, e24_0, e24_1, e24_4, e24_6, e24_7, e24_8, e24_9, e24_19, e24_22⟩
    have hsi_ : i < 2 → inS (x + (i : Int)) la.length := fun h_ => ⟨by omega, by omega⟩
    refine wp_seq_k fun K29 hK29 => ?_
    refine c_region ?_
    refine s_op (o_lss (a := (i : Int)) (b := 2) e24_22 rfl ?_)
    refine s_nil ?_
    refine t_norm (hK29 _ _ ?_)
    refine wp_seq_k fun K30 hK30 => ?_
    refine c_cond rfl (fun h31 => ?_) (fun h31 => ?_)
    · -- (i : Int) < 2
      refine wp_skip ?_
      refine t_norm (hK30 _ _ ?_)
      refine wp_seq_k fun K32 hK32 => ?_
      refine wp_block ?_
      refine wp_seq_k fun K33 hK33 => ?_
      refine c_region ?_
      refine s_op (o_move (v := (.int .i64 (i : Int))) e24_22 ?_)
      refine s_op (o_assign (v := (.int .i64 (i : Int))) rfl ?_)
      refine s_nil ?_
      refine t_norm (hK33 _ _ ?_)
      refine wp_seq_k fun K34 hK34 => ?_
      refine c_region ?_
      refine s_op (o_move (v := (.pointer (some ⟨db, 0, none⟩))) e24_0 ?_)
      refine s_op (o_move (v := (.int .i64 x)) e24_1 ?_)
      refine s_op (o_move (v := (.int .i64 (i : Int))) rfl ?_)
      refine s_op (o_add (a := x) (b := (i : Int)) rfl rfl (w64 (by omega) (by omega)) ?_)
      refine s_op (o_callf (vs := #[(.pointer (some ⟨db, 0, none⟩)), (.int .i64 (x + (i : Int)))]) ca188 rfl (args2 rfl rfl) (read_d (p := p) (la := la) (lo := ([] : List (Int × Bs))) ((hH27.front 2 rfl).front 2 rfl).all2 hd (x + (i : Int))) ?_)
      rintro _ w37 ⟨rfl, hX35⟩
      refine ⟨_, rfl, ?_⟩
      have hH36 : Has E w37 [sg, [Hp.one pb (.cells #[(.bool p.off), (.bool p.armed), (.int .i64 p.left), (.int .i64 p.uses)] 145 (0, 0))], [Hp.one b17 (.cells #[(.int .i64 bh.seq), (.int .i64 bh.ep), (.int .i64 bh.cut), (.int .i64 bh.st), (.int .i64 bh.mrk)] 23 (0, 0))], [Hp.one b2 (.cells #[(.int .i64 0), (.int .i64 0), (.int .i64 0), (.int .i64 0), (.int .i64 0)] 23 (0, 0))], R] := hX35.of_all2
      refine s_op (o_move (v := (.tuple #[(S (readS p la ([] : List (Int × Bs)) (x + (i : Int)))), (.int .i64 (readE p la (x + (i : Int))))])) rfl ?_)
      refine s_op (o_extract (v := (S (readS p la ([] : List (Int × Bs)) (x + (i : Int))))) rfl rfl ?_)
      refine s_op (o_extract (v := (.int .i64 (readE p la (x + (i : Int))))) rfl rfl ?_)
      refine s_op (o_assign (v := (S (readS p la ([] : List (Int × Bs)) (x + (i : Int))))) rfl ?_)
      refine s_op (o_assign (v := (.int .i64 (readE p la (x + (i : Int))))) rfl ?_)
      refine s_nil ?_
      refine t_norm (hK34 _ _ ?_)
      refine wp_seq_k fun K38 hK38 => ?_
      refine wp_seq_k fun K39 hK39 => ?_
      refine c_region ?_
      refine s_op (o_move (v := (.int .i64 (readE p la (x + (i : Int))))) rfl ?_)
      refine s_op (o_neq (a := readE p la (x + (i : Int))) (b := 0) rfl rfl ?_)
      refine s_nil ?_
      refine t_norm (hK39 _ _ ?_)
      refine c_cond rfl (fun h40 => ?_) (fun h40 => ?_)
      · -- readE p la (x + (i : Int)) ≠ 0
        obtain ⟨hsec_, hre_⟩ := read_sec (p := p) (la := la) (n := x + (i : Int)) hth_.2 (hsi_ (by omega))
        have hsl_ : (readS p la [] (x + (i : Int))).length = 64 := by rw [hsec_]; exact sec_len h64 (hsi_ (by omega))
        exact absurd hre_ h40
      · -- not: readE p la (x + (i : Int)) ≠ 0
        obtain ⟨hsec_, hre_⟩ := read_sec (p := p) (la := la) (n := x + (i : Int)) hth_.2 (hsi_ (by omega))
        have hsl_ : (readS p la [] (x + (i : Int))).length = 64 := by rw [hsec_]; exact sec_len h64 (hsi_ (by omega))
        refine wp_skip ?_
        refine t_norm (hK38 _ _ ?_)
        refine wp_seq_k fun K41 hK41 => ?_
        refine c_region ?_
        refine s_op (o_move (v := (.bool bl)) e24_9 ?_)
        refine s_op (o_move (v := (.bool bl)) rfl ?_)
        rcases Bool.eq_false_or_eq_true bl with h42 | h42
        · -- bl
          refine s_on 38 rfl (congrArg Value.bool h42) (o_move (v := (S (readS p la ([] : List (Int × Bs)) (x + (i : Int))))) rfl ?_)
          refine s_on 38 rfl (congrArg Value.bool h42) (o_callf (vs := #[(S (readS p la ([] : List (Int × Bs)) (x + (i : Int)))), (S [0])]) ca189 rfl (args2 rfl rfl) (strim_c hH36.all (readS p la ([] : List (Int × Bs)) (x + (i : Int))) (by omega)) ?_)
          rintro _ w45 ⟨rfl, hX43⟩
          refine ⟨_, rfl, ?_⟩
          have hH44 := hX43.of_all
          refine s_on 38 rfl (congrArg Value.bool h42) (o_seql (a := (Lib.trimB (readS p la ([] : List (Int × Bs)) (x + (i : Int))) 0)) (b := ([] : List UInt8)) rfl rfl ?_)
          refine s_op (o_pick_t (u := (.bool (decide ((Lib.trimB (readS p la ([] : List (Int × Bs)) (x + (i : Int))) 0) = ([] : List UInt8))))) ((rfl : _ = _).trans (congrArg Value.bool h42)) rfl ?_)
          refine s_op (o_assign (v := (.bool (decide ((Lib.trimB (readS p la ([] : List (Int × Bs)) (x + (i : Int))) 0) = ([] : List UInt8))))) rfl ?_)
          refine s_nil ?_
          refine t_norm (hK41 _ _ ?_)
          refine wp_seq_k fun K46 hK46 => ?_
          refine c_region ?_
          refine s_op (o_move (v := (S (readS p la ([] : List (Int × Bs)) (x + (i : Int))))) rfl ?_)
          refine s_op (o_callf (vs := #[(S (readS p la ([] : List (Int × Bs)) (x + (i : Int))))]) ca190 rfl (args1 rfl) (hread_c (s := (readS p la ([] : List (Int × Bs)) (x + (i : Int)))) hH44.all (hg.mono (seg_sub 4 rfl)) (by first | omega | (simp only []; omega) | (simp; done) | (simp; omega))) ?_)
          rintro _ w49 ⟨rfl, hX47⟩
          refine ⟨_, rfl, ?_⟩
          have hH48 := hX47.of_all
          have hnn_ := hdP_nn (readS p la ([] : List (Int × Bs)) (x + (i : Int)))
          refine s_op (o_move (v := (.tuple #[(.agg #[(.int .i64 ((hdP (readS p la ([] : List (Int × Bs)) (x + (i : Int)))).1).seq), (.int .i64 ((hdP (readS p la ([] : List (Int × Bs)) (x + (i : Int)))).1).ep), (.int .i64 ((hdP (readS p la ([] : List (Int × Bs)) (x + (i : Int)))).1).cut), (.int .i64 ((hdP (readS p la ([] : List (Int × Bs)) (x + (i : Int)))).1).st), (.int .i64 ((hdP (readS p la ([] : List (Int × Bs)) (x + (i : Int)))).1).mrk)]), (.bool ((hdP (readS p la ([] : List (Int × Bs)) (x + (i : Int)))).2))])) rfl ?_)
          refine s_op (o_extract (v := (.agg #[(.int .i64 ((hdP (readS p la ([] : List (Int × Bs)) (x + (i : Int)))).1).seq), (.int .i64 ((hdP (readS p la ([] : List (Int × Bs)) (x + (i : Int)))).1).ep), (.int .i64 ((hdP (readS p la ([] : List (Int × Bs)) (x + (i : Int)))).1).cut), (.int .i64 ((hdP (readS p la ([] : List (Int × Bs)) (x + (i : Int)))).1).st), (.int .i64 ((hdP (readS p la ([] : List (Int × Bs)) (x + (i : Int)))).1).mrk)])) rfl rfl ?_)
          refine s_op (o_extract (v := (.bool ((hdP (readS p la ([] : List (Int × Bs)) (x + (i : Int)))).2))) rfl rfl ?_)
          refine s_op (o_alloc (cs := #[(.int .i64 0), (.int .i64 0), (.int .i64 0), (.int .i64 0), (.int .i64 0)]) ti23 rfl hH48 fun b50 w51 hH52 => ?_)
          refine s_eff (o_storeN (vs := [(.int .i64 ((hdP (readS p la ([] : List (Int × Bs)) (x + (i : Int)))).1).seq), (.int .i64 ((hdP (readS p la ([] : List (Int × Bs)) (x + (i : Int)))).1).ep), (.int .i64 ((hdP (readS p la ([] : List (Int × Bs)) (x + (i : Int)))).1).cut), (.int .i64 ((hdP (readS p la ([] : List (Int × Bs)) (x + (i : Int)))).1).st), (.int .i64 ((hdP (readS p la ([] : List (Int × Bs)) (x + (i : Int)))).1).mrk)]) (c' := #[(.int .i64 ((hdP (readS p la ([] : List (Int × Bs)) (x + (i : Int)))).1).seq), (.int .i64 ((hdP (readS p la ([] : List (Int × Bs)) (x + (i : Int)))).1).ep), (.int .i64 ((hdP (readS p la ([] : List (Int × Bs)) (x + (i : Int)))).1).cut), (.int .i64 ((hdP (readS p la ([] : List (Int × Bs)) (x + (i : Int)))).1).st), (.int .i64 ((hdP (readS p la ([] : List (Int × Bs)) (x + (i : Int)))).1).mrk)]) ti23 rfl rfl rfl rfl (by intro u hu; simp only [List.mem_cons, List.not_mem_nil, or_false] at hu; rcases hu with rfl | rfl | rfl | rfl | rfl <;> first | rfl) (by simp) (by kernel_rfl) (hH52.front 0 rfl) fun w53 hH54 => ?_)
          refine s_op (o_assign (v := (.bool ((hdP (readS p la ([] : List (Int × Bs)) (x + (i : Int)))).2))) rfl ?_)
          refine s_nil ?_
          refine t_norm (hK46 _ _ ?_)
          refine wp_seq_k fun K55 hK55 => ?_
          refine c_region ?_
          refine s_op (o_move (v := (.bool ((hdP (readS p la ([] : List (Int × Bs)) (x + (i : Int)))).2))) rfl ?_)
          refine s_op (o_move (v := (.bool ((hdP (readS p la ([] : List (Int × Bs)) (x + (i : Int)))).2))) rfl ?_)
          rcases Bool.eq_false_or_eq_true ((hdP (readS p la ([] : List (Int × Bs)) (x + (i : Int)))).2) with h56 | h56
          · -- (hdP (readS p la ([] : List (Int × Bs)) (x + (i : Int)))).2
            refine s_on 49 rfl (congrArg Value.bool h56) (o_fieldAddr (k := 0) (fun _ => by kernel_rfl) rfl ?_)
            refine s_on 49 rfl (congrArg Value.bool h56) (o_load1 (v := (.int .i64 ((hdP (readS p la ([] : List (Int × Bs)) (x + (i : Int)))).1).seq)) Tryz.underlying3 rfl rfl hH54 (seg_sub 0 rfl) (CellsAt.one rfl) ?_)
            refine s_on 49 rfl (congrArg Value.bool h56) (o_rem (a := ((hdP (readS p la ([] : List (Int × Bs)) (x + (i : Int)))).1).seq) (b := 2) (c := (((hdP (readS p la ([] : List (Int × Bs)) (x + (i : Int)))).1).seq) % 2) rfl rfl (by omega) ((Int.tmod_eq_emod_of_nonneg (by first | exact Int.natCast_nonneg _ | omega))) ?_)
            refine s_on 49 rfl (congrArg Value.bool h56) (o_move (v := (.int .i64 (i : Int))) rfl ?_)
            refine s_on 49 rfl (congrArg Value.bool h56) (o_eql (a := (((hdP (readS p la ([] : List (Int × Bs)) (x + (i : Int)))).1).seq) % 2) (b := (i : Int)) rfl rfl ?_)
            refine s_op (o_pick_t (u := (.bool (decide ((((hdP (readS p la ([] : List (Int × Bs)) (x + (i : Int)))).1).seq) % 2 = (i : Int))))) ((rfl : _ = _).trans (congrArg Value.bool h56)) rfl ?_)
            refine s_op (o_move (v := (.bool (decide ((((hdP (readS p la ([] : List (Int × Bs)) (x + (i : Int)))).1).seq) % 2 = (i : Int))))) rfl ?_)
            by_cases h57 : (((hdP (readS p la ([] : List (Int × Bs)) (x + (i : Int)))).1).seq) % 2 = (i : Int)
            · -- (((hdP (readS p la ([] : List (Int × Bs)) (x + (i : Int)))).1).seq) % 2 = (i : Int)
              refine s_on 56 rfl (congrArg Value.bool (decide_eq_true h57)) (o_move (v := (.bool fd)) e24_8 ?_)
              refine s_on 56 rfl (congrArg Value.bool (decide_eq_true h57)) (o_not rfl ?_)
              refine s_on 56 rfl (congrArg Value.bool (decide_eq_true h57)) (o_move (v := (.bool (!fd))) rfl ?_)
              rcases Bool.eq_false_or_eq_true (!fd) with h58 | h58
              · -- !fd
                have h58_n : fd = false := by first | simpa using h58 | exact Bool.of_not_eq_true (fun g_ => by rw [g_] at h58; cases h58)
                refine s_off (b' := true) 59 rfl (congrArg Value.bool h58) rfl ?_
                refine s_off (b' := true) 59 rfl (congrArg Value.bool h58) rfl ?_
                refine s_off (b' := true) 59 rfl (congrArg Value.bool h58) rfl ?_
                refine s_off (b' := true) 59 rfl (congrArg Value.bool h58) rfl ?_
                refine s_off (b' := true) 59 rfl (congrArg Value.bool h58) rfl ?_
                refine s_on 56 rfl (congrArg Value.bool (decide_eq_true h57)) (o_pick_t (u := (.bool true)) ((rfl : _ = _).trans (congrArg Value.bool h58)) rfl ?_)
                refine s_op (o_pick_t (u := (.bool true)) ((rfl : _ = _).trans (congrArg Value.bool (decide_eq_true h57))) rfl ?_)
                refine s_nil ?_
                refine t_norm (hK55 _ _ ?_)
                refine c_true rfl rfl ?_
                refine c_region ?_
                refine s_op (o_loadN (cs := [(.int .i64 ((hdP (readS p la ([] : List (Int × Bs)) (x + (i : Int)))).1).seq), (.int .i64 ((hdP (readS p la ([] : List (Int × Bs)) (x + (i : Int)))).1).ep), (.int .i64 ((hdP (readS p la ([] : List (Int × Bs)) (x + (i : Int)))).1).cut), (.int .i64 ((hdP (readS p la ([] : List (Int × Bs)) (x + (i : Int)))).1).st), (.int .i64 ((hdP (readS p la ([] : List (Int × Bs)) (x + (i : Int)))).1).mrk)]) Tryz.underlying23 rfl ti23 rfl hH54 (seg_sub 0 rfl) (CellsAt.one rfl) ?_)
                refine s_eff (o_storeN (vs := [(.int .i64 ((hdP (readS p la ([] : List (Int × Bs)) (x + (i : Int)))).1).seq), (.int .i64 ((hdP (readS p la ([] : List (Int × Bs)) (x + (i : Int)))).1).ep), (.int .i64 ((hdP (readS p la ([] : List (Int × Bs)) (x + (i : Int)))).1).cut), (.int .i64 ((hdP (readS p la ([] : List (Int × Bs)) (x + (i : Int)))).1).st), (.int .i64 ((hdP (readS p la ([] : List (Int × Bs)) (x + (i : Int)))).1).mrk)]) (c' := #[(.int .i64 ((hdP (readS p la ([] : List (Int × Bs)) (x + (i : Int)))).1).seq), (.int .i64 ((hdP (readS p la ([] : List (Int × Bs)) (x + (i : Int)))).1).ep), (.int .i64 ((hdP (readS p la ([] : List (Int × Bs)) (x + (i : Int)))).1).cut), (.int .i64 ((hdP (readS p la ([] : List (Int × Bs)) (x + (i : Int)))).1).st), (.int .i64 ((hdP (readS p la ([] : List (Int × Bs)) (x + (i : Int)))).1).mrk)]) ti23 e24_7 rfl rfl rfl (by intro u hu; simp only [List.mem_cons, List.not_mem_nil, or_false] at hu; rcases hu with rfl | rfl | rfl | rfl | rfl <;> first | rfl) (by simp) (by kernel_rfl) (hH54.front 3 rfl) fun w59 hH60 => ?_)
                refine s_op (o_assign (v := (.bool true)) rfl ?_)
                refine s_nil ?_
                refine b_norm ?_
                refine t_norm (hK32 _ _ ?_)
                refine c_region ?_
                refine s_op (o_add (a := (i : Int)) (b := 1) e24_22 rfl (w64 (by omega) (by omega)) ?_)
                refine s_op (o_move (v := (.int .i64 ((i : Int) + 1))) rfl ?_)
                refine s_nil ?_
                have hH61 : Has E w59 [[Hp.one b17 (.cells #[(.int .i64 ((hdP (readS p la ([] : List (Int × Bs)) (x + (i : Int)))).1).seq), (.int .i64 ((hdP (readS p la ([] : List (Int × Bs)) (x + (i : Int)))).1).ep), (.int .i64 ((hdP (readS p la ([] : List (Int × Bs)) (x + (i : Int)))).1).cut), (.int .i64 ((hdP (readS p la ([] : List (Int × Bs)) (x + (i : Int)))).1).st), (.int .i64 ((hdP (readS p la ([] : List (Int × Bs)) (x + (i : Int)))).1).mrk)] 23 (0, 0))], sg, [Hp.one pb (.cells #[(.bool p.off), (.bool p.armed), (.int .i64 p.left), (.int .i64 p.uses)] 145 (0, 0))], [Hp.one b2 (.cells #[(.int .i64 0), (.int .i64 0), (.int .i64 0), (.int .i64 0), (.int .i64 0)] 23 (0, 0))], R] := (((((hH60.front 5 rfl).front 5 rfl).front 5 rfl).front 5 rfl).front 4 rfl).first 5 rfl
                refine t_norm ⟨2 - (i + 1), _, rfl, ?_, ?_⟩
                · omega
                · exact ⟨(i + 1), ((hdP (readS p la ([] : List (Int × Bs)) (x + (i : Int)))).1), true, (decide ((Lib.trimB (readS p la ([] : List (Int × Bs)) (x + (i : Int))) 0) = ([] : List UInt8))), rfl, hH61, (by omega), (ldG_yes hld hsec_ (by first | (simpa using h11) | (simpa using h31) | (simpa using h40) | (simpa using h42) | (simpa using h56) | (simpa using h57) | (simpa using h58) | (simpa using h58_n)) (by first | exact h11 | exact h31 | exact h40 | exact h42 | exact h56 | exact h57 | exact h58 | exact h58_n) (by first | exact .inr (by omega) | exact .inl (by simpa using h11) | exact .inl (by simpa using h31) | exact .inl (by simpa using h40) | exact .inl (by simpa using h42) | exact .inl (by simpa using h56) | exact .inl (by simpa using h57) | exact .inl (by simpa using h58) | exact .inl (by simpa using h58_n))), ((blG_step hbl hsec_ hsl_).trans (by first | rfl | (rw [h42]; rfl) | simp [h42])), e24_0, e24_1, e24_4, e24_6, e24_7, rfl, rfl, e24_19, rfl⟩
              · -- not: !fd
                have h58_n : fd = true := by first | simpa using h58 | exact Bool.of_not_eq_false (fun g_ => by rw [g_] at h58; cases h58)
                refine s_on 59 rfl (congrArg Value.bool h58) (o_fieldAddr (k := 0) (fun _ => by kernel_rfl) rfl ?_)
                refine s_on 59 rfl (congrArg Value.bool h58) (o_load1 (v := (.int .i64 ((hdP (readS p la ([] : List (Int × Bs)) (x + (i : Int)))).1).seq)) Tryz.underlying3 rfl rfl hH54 (seg_sub 0 rfl) (CellsAt.one rfl) ?_)
                refine s_on 59 rfl (congrArg Value.bool h58) (o_fieldAddr (k := 0) (fun _ => by kernel_rfl) e24_7 ?_)
                refine s_on 59 rfl (congrArg Value.bool h58) (o_load1 (v := (.int .i64 bh.seq)) Tryz.underlying3 rfl rfl hH54 (seg_sub 3 rfl) (CellsAt.one rfl) ?_)
                refine s_on 59 rfl (congrArg Value.bool h58) (o_gtr (a := ((hdP (readS p la ([] : List (Int × Bs)) (x + (i : Int)))).1).seq) (b := bh.seq) rfl rfl ?_)
                refine s_on 56 rfl (congrArg Value.bool (decide_eq_true h57)) (o_pick_f (u := (.bool (decide (bh.seq < ((hdP (readS p la ([] : List (Int × Bs)) (x + (i : Int)))).1).seq)))) ((rfl : _ = _).trans (congrArg Value.bool h58)) rfl ?_)
                refine s_op (o_pick_t (u := (.bool (decide (bh.seq < ((hdP (readS p la ([] : List (Int × Bs)) (x + (i : Int)))).1).seq)))) ((rfl : _ = _).trans (congrArg Value.bool (decide_eq_true h57))) rfl ?_)
                refine s_nil ?_
                refine t_norm (hK55 _ _ ?_)
                refine c_cond rfl (fun h62 => ?_) (fun h62 => ?_)
                · -- bh.seq < ((hdP (readS p la ([] : List (Int × Bs)) (x + (i : Int)))).1).seq
                  refine c_region ?_
                  refine s_op (o_loadN (cs := [(.int .i64 ((hdP (readS p la ([] : List (Int × Bs)) (x + (i : Int)))).1).seq), (.int .i64 ((hdP (readS p la ([] : List (Int × Bs)) (x + (i : Int)))).1).ep), (.int .i64 ((hdP (readS p la ([] : List (Int × Bs)) (x + (i : Int)))).1).cut), (.int .i64 ((hdP (readS p la ([] : List (Int × Bs)) (x + (i : Int)))).1).st), (.int .i64 ((hdP (readS p la ([] : List (Int × Bs)) (x + (i : Int)))).1).mrk)]) Tryz.underlying23 rfl ti23 rfl hH54 (seg_sub 0 rfl) (CellsAt.one rfl) ?_)
                  refine s_eff (o_storeN (vs := [(.int .i64 ((hdP (readS p la ([] : List (Int × Bs)) (x + (i : Int)))).1).seq), (.int .i64 ((hdP (readS p la ([] : List (Int × Bs)) (x + (i : Int)))).1).ep), (.int .i64 ((hdP (readS p la ([] : List (Int × Bs)) (x + (i : Int)))).1).cut), (.int .i64 ((hdP (readS p la ([] : List (Int × Bs)) (x + (i : Int)))).1).st), (.int .i64 ((hdP (readS p la ([] : List (Int × Bs)) (x + (i : Int)))).1).mrk)]) (c' := #[(.int .i64 ((hdP (readS p la ([] : List (Int × Bs)) (x + (i : Int)))).1).seq), (.int .i64 ((hdP (readS p la ([] : List (Int × Bs)) (x + (i : Int)))).1).ep), (.int .i64 ((hdP (readS p la ([] : List (Int × Bs)) (x + (i : Int)))).1).cut), (.int .i64 ((hdP (readS p la ([] : List (Int × Bs)) (x + (i : Int)))).1).st), (.int .i64 ((hdP (readS p la ([] : List (Int × Bs)) (x + (i : Int)))).1).mrk)]) ti23 e24_7 rfl rfl rfl (by intro u hu; simp only [List.mem_cons, List.not_mem_nil, or_false] at hu; rcases hu with rfl | rfl | rfl | rfl | rfl <;> first | rfl) (by simp) (by kernel_rfl) (hH54.front 3 rfl) fun w63 hH64 => ?_)
                  refine s_op (o_assign (v := (.bool true)) rfl ?_)
                  refine s_nil ?_
                  refine b_norm ?_
                  refine t_norm (hK32 _ _ ?_)
                  refine c_region ?_
                  refine s_op (o_add (a := (i : Int)) (b := 1) e24_22 rfl (w64 (by omega) (by omega)) ?_)
                  refine s_op (o_move (v := (.int .i64 ((i : Int) + 1))) rfl ?_)
                  refine s_nil ?_
                  have hH65 : Has E w63 [[Hp.one b17 (.cells #[(.int .i64 ((hdP (readS p la ([] : List (Int × Bs)) (x + (i : Int)))).1).seq), (.int .i64 ((hdP (readS p la ([] : List (Int × Bs)) (x + (i : Int)))).1).ep), (.int .i64 ((hdP (readS p la ([] : List (Int × Bs)) (x + (i : Int)))).1).cut), (.int .i64 ((hdP (readS p la ([] : List (Int × Bs)) (x + (i : Int)))).1).st), (.int .i64 ((hdP (readS p la ([] : List (Int × Bs)) (x + (i : Int)))).1).mrk)] 23 (0, 0))], sg, [Hp.one pb (.cells #[(.bool p.off), (.bool p.armed), (.int .i64 p.left), (.int .i64 p.uses)] 145 (0, 0))], [Hp.one b2 (.cells #[(.int .i64 0), (.int .i64 0), (.int .i64 0), (.int .i64 0), (.int .i64 0)] 23 (0, 0))], R] := (((((hH64.front 5 rfl).front 5 rfl).front 5 rfl).front 5 rfl).front 4 rfl).first 5 rfl
                  refine t_norm ⟨2 - (i + 1), _, rfl, ?_, ?_⟩
                  · omega
                  · exact ⟨(i + 1), ((hdP (readS p la ([] : List (Int × Bs)) (x + (i : Int)))).1), true, (decide ((Lib.trimB (readS p la ([] : List (Int × Bs)) (x + (i : Int))) 0) = ([] : List UInt8))), rfl, hH65, (by omega), (ldG_yes hld hsec_ (by first | (simpa using h11) | (simpa using h31) | (simpa using h40) | (simpa using h42) | (simpa using h56) | (simpa using h57) | (simpa using h58) | (simpa using h58_n) | (simpa using h62)) (by first | exact h11 | exact h31 | exact h40 | exact h42 | exact h56 | exact h57 | exact h58 | exact h58_n | exact h62) (by first | exact .inr (by omega) | exact .inl (by simpa using h11) | exact .inl (by simpa using h31) | exact .inl (by simpa using h40) | exact .inl (by simpa using h42) | exact .inl (by simpa using h56) | exact .inl (by simpa using h57) | exact .inl (by simpa using h58) | exact .inl (by simpa using h58_n) | exact .inl (by simpa using h62))), ((blG_step hbl hsec_ hsl_).trans (by first | rfl | (rw [h42]; rfl) | simp [h42])), e24_0, e24_1, e24_4, e24_6, e24_7, rfl, rfl, e24_19, rfl⟩
                · -- not: bh.seq < ((hdP (readS p la ([] : List (Int × Bs)) (x + (i : Int)))).1).seq
                  refine wp_skip ?_
                  refine b_norm ?_
                  refine t_norm (hK32 _ _ ?_)
                  refine c_region ?_
                  refine s_op (o_add (a := (i : Int)) (b := 1) e24_22 rfl (w64 (by omega) (by omega)) ?_)
                  refine s_op (o_move (v := (.int .i64 ((i : Int) + 1))) rfl ?_)
                  refine s_nil ?_
                  have hH66 : Has E w53 [[Hp.one b17 (.cells #[(.int .i64 bh.seq), (.int .i64 bh.ep), (.int .i64 bh.cut), (.int .i64 bh.st), (.int .i64 bh.mrk)] 23 (0, 0))], sg, [Hp.one pb (.cells #[(.bool p.off), (.bool p.armed), (.int .i64 p.left), (.int .i64 p.uses)] 145 (0, 0))], [Hp.one b2 (.cells #[(.int .i64 0), (.int .i64 0), (.int .i64 0), (.int .i64 0), (.int .i64 0)] 23 (0, 0))], R] := (((((hH54.front 5 rfl).front 5 rfl).front 4 rfl).front 4 rfl).front 5 rfl).first 5 rfl
                  refine t_norm ⟨2 - (i + 1), _, rfl, ?_, ?_⟩
                  · omega
                  · exact ⟨(i + 1), bh, fd, (decide ((Lib.trimB (readS p la ([] : List (Int × Bs)) (x + (i : Int))) 0) = ([] : List UInt8))), rfl, hH66, (by omega), (ldG_no hld hsec_ (.inr (.inr ⟨by first | (simpa using h11) | (simpa using h31) | (simpa using h40) | (simpa using h42) | (simpa using h56) | (simpa using h57) | (simpa using h58) | (simpa using h58_n) | (simpa using h62), by omega⟩))), ((blG_step hbl hsec_ hsl_).trans (by first | rfl | (rw [h42]; rfl) | simp [h42])), e24_0, e24_1, e24_4, e24_6, e24_7, e24_8, rfl, e24_19, rfl⟩
            · -- not: (((hdP (readS p la ([] : List (Int × Bs)) (x + (i : Int)))).1).seq) % 2 = (i : Int)
              refine s_off (b' := false) 56 rfl (congrArg Value.bool (decide_eq_false h57)) rfl ?_
              refine s_off (b' := false) 56 rfl (congrArg Value.bool (decide_eq_false h57)) rfl ?_
              refine s_off (b' := false) 56 rfl (congrArg Value.bool (decide_eq_false h57)) rfl ?_
              refine s_offu 59 rfl rfl ?_
              refine s_offu 59 rfl rfl ?_
              refine s_offu 59 rfl rfl ?_
              refine s_offu 59 rfl rfl ?_
              refine s_offu 59 rfl rfl ?_
              refine s_off (b' := false) 56 rfl (congrArg Value.bool (decide_eq_false h57)) rfl ?_
              refine s_op (o_pick_f (u := (.bool false)) ((rfl : _ = _).trans (congrArg Value.bool (decide_eq_false h57))) rfl ?_)
              refine s_nil ?_
              refine t_norm (hK55 _ _ ?_)
              refine c_false rfl rfl ?_
              refine wp_skip ?_
              refine b_norm ?_
              refine t_norm (hK32 _ _ ?_)
              refine c_region ?_
              refine s_op (o_add (a := (i : Int)) (b := 1) e24_22 rfl (w64 (by omega) (by omega)) ?_)
              refine s_op (o_move (v := (.int .i64 ((i : Int) + 1))) rfl ?_)
              refine s_nil ?_
              have hH67 : Has E w53 [[Hp.one b17 (.cells #[(.int .i64 bh.seq), (.int .i64 bh.ep), (.int .i64 bh.cut), (.int .i64 bh.st), (.int .i64 bh.mrk)] 23 (0, 0))], sg, [Hp.one pb (.cells #[(.bool p.off), (.bool p.armed), (.int .i64 p.left), (.int .i64 p.uses)] 145 (0, 0))], [Hp.one b2 (.cells #[(.int .i64 0), (.int .i64 0), (.int .i64 0), (.int .i64 0), (.int .i64 0)] 23 (0, 0))], R] := (((((hH54.front 5 rfl).front 5 rfl).front 4 rfl).front 4 rfl).front 5 rfl).first 5 rfl
              refine t_norm ⟨2 - (i + 1), _, rfl, ?_, ?_⟩
              · omega
              · exact ⟨(i + 1), bh, fd, (decide ((Lib.trimB (readS p la ([] : List (Int × Bs)) (x + (i : Int))) 0) = ([] : List UInt8))), rfl, hH67, (by omega), (ldG_no hld hsec_ (by first | exact .inl (by simpa using h11) | exact .inr (.inl h11) | exact .inl (by simpa using h31) | exact .inr (.inl h31) | exact .inl (by simpa using h40) | exact .inr (.inl h40) | exact .inl (by simpa using h42) | exact .inr (.inl h42) | exact .inl (by simpa using h56) | exact .inr (.inl h56) | exact .inl (by simpa using h57) | exact .inr (.inl h57))), ((blG_step hbl hsec_ hsl_).trans (by first | rfl | (rw [h42]; rfl) | simp [h42])), e24_0, e24_1, e24_4, e24_6, e24_7, e24_8, rfl, e24_19, rfl⟩
          · -- not: (hdP (readS p la ([] : List (Int × Bs)) (x + (i : Int)))).2
            refine s_off (b' := false) 49 rfl (congrArg Value.bool h56) rfl ?_
            refine s_off (b' := false) 49 rfl (congrArg Value.bool h56) rfl ?_
            refine s_off (b' := false) 49 rfl (congrArg Value.bool h56) rfl ?_
            refine s_off (b' := false) 49 rfl (congrArg Value.bool h56) rfl ?_
            refine s_off (b' := false) 49 rfl (congrArg Value.bool h56) rfl ?_
            refine s_op (o_pick_f (u := (.bool false)) ((rfl : _ = _).trans (congrArg Value.bool h56)) rfl ?_)
            refine s_op (o_move (v := (.bool false)) rfl ?_)
            refine s_off (b' := false) 56 rfl rfl rfl ?_
            refine s_off (b' := false) 56 rfl rfl rfl ?_
            refine s_off (b' := false) 56 rfl rfl rfl ?_
            refine s_offu 59 rfl rfl ?_
            refine s_offu 59 rfl rfl ?_
            refine s_offu 59 rfl rfl ?_
            refine s_offu 59 rfl rfl ?_
            refine s_offu 59 rfl rfl ?_
            refine s_off (b' := false) 56 rfl rfl rfl ?_
            refine s_op (o_pick_f (u := (.bool false)) rfl rfl ?_)
            refine s_nil ?_
            refine t_norm (hK55 _ _ ?_)
            refine c_false rfl rfl ?_
            refine wp_skip ?_
            refine b_norm ?_
            refine t_norm (hK32 _ _ ?_)
            refine c_region ?_
            refine s_op (o_add (a := (i : Int)) (b := 1) e24_22 rfl (w64 (by omega) (by omega)) ?_)
            refine s_op (o_move (v := (.int .i64 ((i : Int) + 1))) rfl ?_)
            refine s_nil ?_
            have hH68 : Has E w53 [[Hp.one b17 (.cells #[(.int .i64 bh.seq), (.int .i64 bh.ep), (.int .i64 bh.cut), (.int .i64 bh.st), (.int .i64 bh.mrk)] 23 (0, 0))], sg, [Hp.one pb (.cells #[(.bool p.off), (.bool p.armed), (.int .i64 p.left), (.int .i64 p.uses)] 145 (0, 0))], [Hp.one b2 (.cells #[(.int .i64 0), (.int .i64 0), (.int .i64 0), (.int .i64 0), (.int .i64 0)] 23 (0, 0))], R] := (((((hH54.front 5 rfl).front 5 rfl).front 4 rfl).front 4 rfl).front 5 rfl).first 5 rfl
            refine t_norm ⟨2 - (i + 1), _, rfl, ?_, ?_⟩
            · omega
            · exact ⟨(i + 1), bh, fd, (decide ((Lib.trimB (readS p la ([] : List (Int × Bs)) (x + (i : Int))) 0) = ([] : List UInt8))), rfl, hH68, (by omega), (ldG_no hld hsec_ (by first | exact .inl (by simpa using h11) | exact .inr (.inl h11) | exact .inl (by simpa using h31) | exact .inr (.inl h31) | exact .inl (by simpa using h40) | exact .inr (.inl h40) | exact .inl (by simpa using h42) | exact .inr (.inl h42) | exact .inl (by simpa using h56) | exact .inr (.inl h56))), ((blG_step hbl hsec_ hsl_).trans (by first | rfl | (rw [h42]; rfl) | simp [h42])), e24_0, e24_1, e24_4, e24_6, e24_7, e24_8, rfl, e24_19, rfl⟩
        · -- not: bl
          refine s_off (b' := false) 38 rfl (congrArg Value.bool h42) rfl ?_
          refine s_off (b' := false) 38 rfl (congrArg Value.bool h42) rfl ?_
          refine s_off (b' := false) 38 rfl (congrArg Value.bool h42) rfl ?_
          refine s_op (o_pick_f (u := (.bool false)) ((rfl : _ = _).trans (congrArg Value.bool h42)) rfl ?_)
          refine s_op (o_assign (v := (.bool false)) rfl ?_)
          refine s_nil ?_
          refine t_norm (hK41 _ _ ?_)
          refine wp_seq_k fun K69 hK69 => ?_
          refine c_region ?_
          refine s_op (o_move (v := (S (readS p la ([] : List (Int × Bs)) (x + (i : Int))))) rfl ?_)
          refine s_op (o_callf (vs := #[(S (readS p la ([] : List (Int × Bs)) (x + (i : Int))))]) ca190 rfl (args1 rfl) (hread_c (s := (readS p la ([] : List (Int × Bs)) (x + (i : Int)))) hH36.all (hg.mono (seg_sub 4 rfl)) (by first | omega | (simp only []; omega) | (simp; done) | (simp; omega))) ?_)
          rintro _ w72 ⟨rfl, hX70⟩
          refine ⟨_, rfl, ?_⟩
          have hH71 := hX70.of_all
          have hnn_ := hdP_nn (readS p la ([] : List (Int × Bs)) (x + (i : Int)))
          refine s_op (o_move (v := (.tuple #[(.agg #[(.int .i64 ((hdP (readS p la ([] : List (Int × Bs)) (x + (i : Int)))).1).seq), (.int .i64 ((hdP (readS p la ([] : List (Int × Bs)) (x + (i : Int)))).1).ep), (.int .i64 ((hdP (readS p la ([] : List (Int × Bs)) (x + (i : Int)))).1).cut), (.int .i64 ((hdP (readS p la ([] : List (Int × Bs)) (x + (i : Int)))).1).st), (.int .i64 ((hdP (readS p la ([] : List (Int × Bs)) (x + (i : Int)))).1).mrk)]), (.bool ((hdP (readS p la ([] : List (Int × Bs)) (x + (i : Int)))).2))])) rfl ?_)
          refine s_op (o_extract (v := (.agg #[(.int .i64 ((hdP (readS p la ([] : List (Int × Bs)) (x + (i : Int)))).1).seq), (.int .i64 ((hdP (readS p la ([] : List (Int × Bs)) (x + (i : Int)))).1).ep), (.int .i64 ((hdP (readS p la ([] : List (Int × Bs)) (x + (i : Int)))).1).cut), (.int .i64 ((hdP (readS p la ([] : List (Int × Bs)) (x + (i : Int)))).1).st), (.int .i64 ((hdP (readS p la ([] : List (Int × Bs)) (x + (i : Int)))).1).mrk)])) rfl rfl ?_)
          refine s_op (o_extract (v := (.bool ((hdP (readS p la ([] : List (Int × Bs)) (x + (i : Int)))).2))) rfl rfl ?_)
          refine s_op (o_alloc (cs := #[(.int .i64 0), (.int .i64 0), (.int .i64 0), (.int .i64 0), (.int .i64 0)]) ti23 rfl hH71 fun b73 w74 hH75 => ?_)
          refine s_eff (o_storeN (vs := [(.int .i64 ((hdP (readS p la ([] : List (Int × Bs)) (x + (i : Int)))).1).seq), (.int .i64 ((hdP (readS p la ([] : List (Int × Bs)) (x + (i : Int)))).1).ep), (.int .i64 ((hdP (readS p la ([] : List (Int × Bs)) (x + (i : Int)))).1).cut), (.int .i64 ((hdP (readS p la ([] : List (Int × Bs)) (x + (i : Int)))).1).st), (.int .i64 ((hdP (readS p la ([] : List (Int × Bs)) (x + (i : Int)))).1).mrk)]) (c' := #[(.int .i64 ((hdP (readS p la ([] : List (Int × Bs)) (x + (i : Int)))).1).seq), (.int .i64 ((hdP (readS p la ([] : List (Int × Bs)) (x + (i : Int)))).1).ep), (.int .i64 ((hdP (readS p la ([] : List (Int × Bs)) (x + (i : Int)))).1).cut), (.int .i64 ((hdP (readS p la ([] : List (Int × Bs)) (x + (i : Int)))).1).st), (.int .i64 ((hdP (readS p la ([] : List (Int × Bs)) (x + (i : Int)))).1).mrk)]) ti23 rfl rfl rfl rfl (by intro u hu; simp only [List.mem_cons, List.not_mem_nil, or_false] at hu; rcases hu with rfl | rfl | rfl | rfl | rfl <;> first | rfl) (by simp) (by kernel_rfl) (hH75.front 0 rfl) fun w76 hH77 => ?_)
          refine s_op (o_assign (v := (.bool ((hdP (readS p la ([] : List (Int × Bs)) (x + (i : Int)))).2))) rfl ?_)
          refine s_nil ?_
          refine t_norm (hK69 _ _ ?_)
          refine wp_seq_k fun K78 hK78 => ?_
          refine c_region ?_
          refine s_op (o_move (v := (.bool ((hdP (readS p la ([] : List (Int × Bs)) (x + (i : Int)))).2))) rfl ?_)
          refine s_op (o_move (v := (.bool ((hdP (readS p la ([] : List (Int × Bs)) (x + (i : Int)))).2))) rfl ?_)
          rcases Bool.eq_false_or_eq_true ((hdP (readS p la ([] : List (Int × Bs)) (x + (i : Int)))).2) with h79 | h79
          · -- (hdP (readS p la ([] : List (Int × Bs)) (x + (i : Int)))).2
            refine s_on 49 rfl (congrArg Value.bool h79) (o_fieldAddr (k := 0) (fun _ => by kernel_rfl) rfl ?_)
            refine s_on 49 rfl (congrArg Value.bool h79) (o_load1 (v := (.int .i64 ((hdP (readS p la ([] : List (Int × Bs)) (x + (i : Int)))).1).seq)) Tryz.underlying3 rfl rfl hH77 (seg_sub 0 rfl) (CellsAt.one rfl) ?_)
            refine s_on 49 rfl (congrArg Value.bool h79) (o_rem (a := ((hdP (readS p la ([] : List (Int × Bs)) (x + (i : Int)))).1).seq) (b := 2) (c := (((hdP (readS p la ([] : List (Int × Bs)) (x + (i : Int)))).1).seq) % 2) rfl rfl (by omega) ((Int.tmod_eq_emod_of_nonneg (by first | exact Int.natCast_nonneg _ | omega))) ?_)
            refine s_on 49 rfl (congrArg Value.bool h79) (o_move (v := (.int .i64 (i : Int))) rfl ?_)
            refine s_on 49 rfl (congrArg Value.bool h79) (o_eql (a := (((hdP (readS p la ([] : List (Int × Bs)) (x + (i : Int)))).1).seq) % 2) (b := (i : Int)) rfl rfl ?_)
            refine s_op (o_pick_t (u := (.bool (decide ((((hdP (readS p la ([] : List (Int × Bs)) (x + (i : Int)))).1).seq) % 2 = (i : Int))))) ((rfl : _ = _).trans (congrArg Value.bool h79)) rfl ?_)
            refine s_op (o_move (v := (.bool (decide ((((hdP (readS p la ([] : List (Int × Bs)) (x + (i : Int)))).1).seq) % 2 = (i : Int))))) rfl ?_)
            by_cases h80 : (((hdP (readS p la ([] : List (Int × Bs)) (x + (i : Int)))).1).seq) % 2 = (i : Int)
            · -- (((hdP (readS p la ([] : List (Int × Bs)) (x + (i : Int)))).1).seq) % 2 = (i : Int)
              refine s_on 56 rfl (congrArg Value.bool (decide_eq_true h80)) (o_move (v := (.bool fd)) e24_8 ?_)
              refine s_on 56 rfl (congrArg Value.bool (decide_eq_true h80)) (o_not rfl ?_)
              refine s_on 56 rfl (congrArg Value.bool (decide_eq_true h80)) (o_move (v := (.bool (!fd))) rfl ?_)
              rcases Bool.eq_false_or_eq_true (!fd) with h81 | h81
              · -- !fd
                have h81_n : fd = false := by first | simpa using h81 | exact Bool.of_not_eq_true (fun g_ => by rw [g_] at h81; cases h81)
                refine s_off (b' := true) 59 rfl (congrArg Value.bool h81) rfl ?_
                refine s_off (b' := true) 59 rfl (congrArg Value.bool h81) rfl ?_
                refine s_off (b' := true) 59 rfl (congrArg Value.bool h81) rfl ?_
                refine s_off (b' := true) 59 rfl (congrArg Value.bool h81) rfl ?_
                refine s_off (b' := true) 59 rfl (congrArg Value.bool h81) rfl ?_
                refine s_on 56 rfl (congrArg Value.bool (decide_eq_true h80)) (o_pick_t (u := (.bool true)) ((rfl : _ = _).trans (congrArg Value.bool h81)) rfl ?_)
                refine s_op (o_pick_t (u := (.bool true)) ((rfl : _ = _).trans (congrArg Value.bool (decide_eq_true h80))) rfl ?_)
                refine s_nil ?_
                refine t_norm (hK78 _ _ ?_)
                refine c_true rfl rfl ?_
                refine c_region ?_
                refine s_op (o_loadN (cs := [(.int .i64 ((hdP (readS p la ([] : List (Int × Bs)) (x + (i : Int)))).1).seq), (.int .i64 ((hdP (readS p la ([] : List (Int × Bs)) (x + (i : Int)))).1).ep), (.int .i64 ((hdP (readS p la ([] : List (Int × Bs)) (x + (i : Int)))).1).cut), (.int .i64 ((hdP (readS p la ([] : List (Int × Bs)) (x + (i : Int)))).1).st), (.int .i64 ((hdP (readS p la ([] : List (Int × Bs)) (x + (i : Int)))).1).mrk)]) Tryz.underlying23 rfl ti23 rfl hH77 (seg_sub 0 rfl) (CellsAt.one rfl) ?_)
                refine s_eff (o_storeN (vs := [(.int .i64 ((hdP (readS p la ([] : List (Int × Bs)) (x + (i : Int)))).1).seq), (.int .i64 ((hdP (readS p la ([] : List (Int × Bs)) (x + (i : Int)))).1).ep), (.int .i64 ((hdP (readS p la ([] : List (Int × Bs)) (x + (i : Int)))).1).cut), (.int .i64 ((hdP (readS p la ([] : List (Int × Bs)) (x + (i : Int)))).1).st), (.int .i64 ((hdP (readS p la ([] : List (Int × Bs)) (x + (i : Int)))).1).mrk)]) (c' := #[(.int .i64 ((hdP (readS p la ([] : List (Int × Bs)) (x + (i : Int)))).1).seq), (.int .i64 ((hdP (readS p la ([] : List (Int × Bs)) (x + (i : Int)))).1).ep), (.int .i64 ((hdP (readS p la ([] : List (Int × Bs)) (x + (i : Int)))).1).cut), (.int .i64 ((hdP (readS p la ([] : List (Int × Bs)) (x + (i : Int)))).1).st), (.int .i64 ((hdP (readS p la ([] : List (Int × Bs)) (x + (i : Int)))).1).mrk)]) ti23 e24_7 rfl rfl rfl (by intro u hu; simp only [List.mem_cons, List.not_mem_nil, or_false] at hu; rcases hu with rfl | rfl | rfl | rfl | rfl <;> first | rfl) (by simp) (by kernel_rfl) (hH77.front 3 rfl) fun w82 hH83 => ?_)
                refine s_op (o_assign (v := (.bool true)) rfl ?_)
                refine s_nil ?_
                refine b_norm ?_
                refine t_norm (hK32 _ _ ?_)
                refine c_region ?_
                refine s_op (o_add (a := (i : Int)) (b := 1) e24_22 rfl (w64 (by omega) (by omega)) ?_)
                refine s_op (o_move (v := (.int .i64 ((i : Int) + 1))) rfl ?_)
                refine s_nil ?_
                have hH84 : Has E w82 [[Hp.one b17 (.cells #[(.int .i64 ((hdP (readS p la ([] : List (Int × Bs)) (x + (i : Int)))).1).seq), (.int .i64 ((hdP (readS p la ([] : List (Int × Bs)) (x + (i : Int)))).1).ep), (.int .i64 ((hdP (readS p la ([] : List (Int × Bs)) (x + (i : Int)))).1).cut), (.int .i64 ((hdP (readS p la ([] : List (Int × Bs)) (x + (i : Int)))).1).st), (.int .i64 ((hdP (readS p la ([] : List (Int × Bs)) (x + (i : Int)))).1).mrk)] 23 (0, 0))], sg, [Hp.one pb (.cells #[(.bool p.off), (.bool p.armed), (.int .i64 p.left), (.int .i64 p.uses)] 145 (0, 0))], [Hp.one b2 (.cells #[(.int .i64 0), (.int .i64 0), (.int .i64 0), (.int .i64 0), (.int .i64 0)] 23 (0, 0))], R] := (((((hH83.front 5 rfl).front 5 rfl).front 5 rfl).front 5 rfl).front 4 rfl).first 5 rfl
                refine t_norm ⟨2 - (i + 1), _, rfl, ?_, ?_⟩
                · omega
                · exact ⟨(i + 1), ((hdP (readS p la ([] : List (Int × Bs)) (x + (i : Int)))).1), true, false, rfl, hH84, (by omega), (ldG_yes hld hsec_ (by first | (simpa using h11) | (simpa using h31) | (simpa using h40) | (simpa using h42) | (simpa using h79) | (simpa using h80) | (simpa using h81) | (simpa using h81_n)) (by first | exact h11 | exact h31 | exact h40 | exact h42 | exact h79 | exact h80 | exact h81 | exact h81_n) (by first | exact .inr (by omega) | exact .inl (by simpa using h11) | exact .inl (by simpa using h31) | exact .inl (by simpa using h40) | exact .inl (by simpa using h42) | exact .inl (by simpa using h79) | exact .inl (by simpa using h80) | exact .inl (by simpa using h81) | exact .inl (by simpa using h81_n))), ((blG_step hbl hsec_ hsl_).trans (by first | rfl | (rw [h42]; rfl) | simp [h42])), e24_0, e24_1, e24_4, e24_6, e24_7, rfl, rfl, e24_19, rfl⟩
              · -- not: !fd
                have h81_n : fd = true := by first | simpa using h81 | exact Bool.of_not_eq_false (fun g_ => by rw [g_] at h81; cases h81)
                refine s_on 59 rfl (congrArg Value.bool h81) (o_fieldAddr (k := 0) (fun _ => by kernel_rfl) rfl ?_)
                refine s_on 59 rfl (congrArg Value.bool h81) (o_load1 (v := (.int .i64 ((hdP (readS p la ([] : List (Int × Bs)) (x + (i : Int)))).1).seq)) Tryz.underlying3 rfl rfl hH77 (seg_sub 0 rfl) (CellsAt.one rfl) ?_)
                refine s_on 59 rfl (congrArg Value.bool h81) (o_fieldAddr (k := 0) (fun _ => by kernel_rfl) e24_7 ?_)
                refine s_on 59 rfl (congrArg Value.bool h81) (o_load1 (v := (.int .i64 bh.seq)) Tryz.underlying3 rfl rfl hH77 (seg_sub 3 rfl) (CellsAt.one rfl) ?_)
                refine s_on 59 rfl (congrArg Value.bool h81) (o_gtr (a := ((hdP (readS p la ([] : List (Int × Bs)) (x + (i : Int)))).1).seq) (b := bh.seq) rfl rfl ?_)
                refine s_on 56 rfl (congrArg Value.bool (decide_eq_true h80)) (o_pick_f (u := (.bool (decide (bh.seq < ((hdP (readS p la ([] : List (Int × Bs)) (x + (i : Int)))).1).seq)))) ((rfl : _ = _).trans (congrArg Value.bool h81)) rfl ?_)
                refine s_op (o_pick_t (u := (.bool (decide (bh.seq < ((hdP (readS p la ([] : List (Int × Bs)) (x + (i : Int)))).1).seq)))) ((rfl : _ = _).trans (congrArg Value.bool (decide_eq_true h80))) rfl ?_)
                refine s_nil ?_
                refine t_norm (hK78 _ _ ?_)
                refine c_cond rfl (fun h85 => ?_) (fun h85 => ?_)
                · -- bh.seq < ((hdP (readS p la ([] : List (Int × Bs)) (x + (i : Int)))).1).seq
                  refine c_region ?_
                  refine s_op (o_loadN (cs := [(.int .i64 ((hdP (readS p la ([] : List (Int × Bs)) (x + (i : Int)))).1).seq), (.int .i64 ((hdP (readS p la ([] : List (Int × Bs)) (x + (i : Int)))).1).ep), (.int .i64 ((hdP (readS p la ([] : List (Int × Bs)) (x + (i : Int)))).1).cut), (.int .i64 ((hdP (readS p la ([] : List (Int × Bs)) (x + (i : Int)))).1).st), (.int .i64 ((hdP (readS p la ([] : List (Int × Bs)) (x + (i : Int)))).1).mrk)]) Tryz.underlying23 rfl ti23 rfl hH77 (seg_sub 0 rfl) (CellsAt.one rfl) ?_)
                  refine s_eff (o_storeN (vs := [(.int .i64 ((hdP (readS p la ([] : List (Int × Bs)) (x + (i : Int)))).1).seq), (.int .i64 ((hdP (readS p la ([] : List (Int × Bs)) (x + (i : Int)))).1).ep), (.int .i64 ((hdP (readS p la ([] : List (Int × Bs)) (x + (i : Int)))).1).cut), (.int .i64 ((hdP (readS p la ([] : List (Int × Bs)) (x + (i : Int)))).1).st), (.int .i64 ((hdP (readS p la ([] : List (Int × Bs)) (x + (i : Int)))).1).mrk)]) (c' := #[(.int .i64 ((hdP (readS p la ([] : List (Int × Bs)) (x + (i : Int)))).1).seq), (.int .i64 ((hdP (readS p la ([] : List (Int × Bs)) (x + (i : Int)))).1).ep), (.int .i64 ((hdP (readS p la ([] : List (Int × Bs)) (x + (i : Int)))).1).cut), (.int .i64 ((hdP (readS p la ([] : List (Int × Bs)) (x + (i : Int)))).1).st), (.int .i64 ((hdP (readS p la ([] : List (Int × Bs)) (x + (i : Int)))).1).mrk)]) ti23 e24_7 rfl rfl rfl (by intro u hu; simp only [List.mem_cons, List.not_mem_nil, or_false] at hu; rcases hu with rfl | rfl | rfl | rfl | rfl <;> first | rfl) (by simp) (by kernel_rfl) (hH77.front 3 rfl) fun w86 hH87 => ?_)
                  refine s_op (o_assign (v := (.bool true)) rfl ?_)
                  refine s_nil ?_
                  refine b_norm ?_
                  refine t_norm (hK32 _ _ ?_)
                  refine c_region ?_
                  refine s_op (o_add (a := (i : Int)) (b := 1) e24_22 rfl (w64 (by omega) (by omega)) ?_)
                  refine s_op (o_move (v := (.int .i64 ((i : Int) + 1))) rfl ?_)
                  refine s_nil ?_
                  have hH88 : Has E w86 [[Hp.one b17 (.cells #[(.int .i64 ((hdP (readS p la ([] : List (Int × Bs)) (x + (i : Int)))).1).seq), (.int .i64 ((hdP (readS p la ([] : List (Int × Bs)) (x + (i : Int)))).1).ep), (.int .i64 ((hdP (readS p la ([] : List (Int × Bs)) (x + (i : Int)))).1).cut), (.int .i64 ((hdP (readS p la ([] : List (Int × Bs)) (x + (i : Int)))).1).st), (.int .i64 ((hdP (readS p la ([] : List (Int × Bs)) (x + (i : Int)))).1).mrk)] 23 (0, 0))], sg, [Hp.one pb (.cells #[(.bool p.off), (.bool p.armed), (.int .i64 p.left), (.int .i64 p.uses)] 145 (0, 0))], [Hp.one b2 (.cells #[(.int .i64 0), (.int .i64 0), (.int .i64 0), (.int .i64 0), (.int .i64 0)] 23 (0, 0))], R] := (((((hH87.front 5 rfl).front 5 rfl).front 5 rfl).front 5 rfl).front 4 rfl).first 5 rfl
                  refine t_norm ⟨2 - (i + 1), _, rfl, ?_, ?_⟩
                  · omega
                  · exact ⟨(i + 1), ((hdP (readS p la ([] : List (Int × Bs)) (x + (i : Int)))).1), true, false, rfl, hH88, (by omega), (ldG_yes hld hsec_ (by first | (simpa using h11) | (simpa using h31) | (simpa using h40) | (simpa using h42) | (simpa using h79) | (simpa using h80) | (simpa using h81) | (simpa using h81_n) | (simpa using h85)) (by first | exact h11 | exact h31 | exact h40 | exact h42 | exact h79 | exact h80 | exact h81 | exact h81_n | exact h85) (by first | exact .inr (by omega) | exact .inl (by simpa using h11) | exact .inl (by simpa using h31) | exact .inl (by simpa using h40) | exact .inl (by simpa using h42) | exact .inl (by simpa using h79) | exact .inl (by simpa using h80) | exact .inl (by simpa using h81) | exact .inl (by simpa using h81_n) | exact .inl (by simpa using h85))), ((blG_step hbl hsec_ hsl_).trans (by first | rfl | (rw [h42]; rfl) | simp [h42])), e24_0, e24_1, e24_4, e24_6, e24_7, rfl, rfl, e24_19, rfl⟩
                · -- not: bh.seq < ((hdP (readS p la ([] : List (Int × Bs)) (x + (i : Int)))).1).seq
                  refine wp_skip ?_
                  refine b_norm ?_
                  refine t_norm (hK32 _ _ ?_)
                  refine c_region ?_
                  refine s_op (o_add (a := (i : Int)) (b := 1) e24_22 rfl (w64 (by omega) (by omega)) ?_)
                  refine s_op (o_move (v := (.int .i64 ((i : Int) + 1))) rfl ?_)
                  refine s_nil ?_
                  have hH89 : Has E w76 [[Hp.one b17 (.cells #[(.int .i64 bh.seq), (.int .i64 bh.ep), (.int .i64 bh.cut), (.int .i64 bh.st), (.int .i64 bh.mrk)] 23 (0, 0))], sg, [Hp.one pb (.cells #[(.bool p.off), (.bool p.armed), (.int .i64 p.left), (.int .i64 p.uses)] 145 (0, 0))], [Hp.one b2 (.cells #[(.int .i64 0), (.int .i64 0), (.int .i64 0), (.int .i64 0), (.int .i64 0)] 23 (0, 0))], R] := (((((hH77.front 5 rfl).front 5 rfl).front 4 rfl).front 4 rfl).front 5 rfl).first 5 rfl
                  refine t_norm ⟨2 - (i + 1), _, rfl, ?_, ?_⟩
                  · omega
                  · exact ⟨(i + 1), bh, fd, false, rfl, hH89, (by omega), (ldG_no hld hsec_ (.inr (.inr ⟨by first | (simpa using h11) | (simpa using h31) | (simpa using h40) | (simpa using h42) | (simpa using h79) | (simpa using h80) | (simpa using h81) | (simpa using h81_n) | (simpa using h85), by omega⟩))), ((blG_step hbl hsec_ hsl_).trans (by first | rfl | (rw [h42]; rfl) | simp [h42])), e24_0, e24_1, e24_4, e24_6, e24_7, e24_8, rfl, e24_19, rfl⟩
            · -- not: (((hdP (readS p la ([] : List (Int × Bs)) (x + (i : Int)))).1).seq) % 2 = (i : Int)
              refine s_off (b' := false) 56 rfl (congrArg Value.bool (decide_eq_false h80)) rfl ?_
              refine s_off (b' := false) 56 rfl (congrArg Value.bool (decide_eq_false h80)) rfl ?_
              refine s_off (b' := false) 56 rfl (congrArg Value.bool (decide_eq_false h80)) rfl ?_
              refine s_offu 59 rfl rfl ?_
              refine s_offu 59 rfl rfl ?_
              refine s_offu 59 rfl rfl ?_
              refine s_offu 59 rfl rfl ?_
              refine s_offu 59 rfl rfl ?_
              refine s_off (b' := false) 56 rfl (congrArg Value.bool (decide_eq_false h80)) rfl ?_
              refine s_op (o_pick_f (u := (.bool false)) ((rfl : _ = _).trans (congrArg Value.bool (decide_eq_false h80))) rfl ?_)
              refine s_nil ?_
              refine t_norm (hK78 _ _ ?_)
              refine c_false rfl rfl ?_
              refine wp_skip ?_
              refine b_norm ?_
              refine t_norm (hK32 _ _ ?_)
              refine c_region ?_
              refine s_op (o_add (a := (i : Int)) (b := 1) e24_22 rfl (w64 (by omega) (by omega)) ?_)
              refine s_op (o_move (v := (.int .i64 ((i : Int) + 1))) rfl ?_)
              refine s_nil ?_
              have hH90 : Has E w76 [[Hp.one b17 (.cells #[(.int .i64 bh.seq), (.int .i64 bh.ep), (.int .i64 bh.cut), (.int .i64 bh.st), (.int .i64 bh.mrk)] 23 (0, 0))], sg, [Hp.one pb (.cells #[(.bool p.off), (.bool p.armed), (.int .i64 p.left), (.int .i64 p.uses)] 145 (0, 0))], [Hp.one b2 (.cells #[(.int .i64 0), (.int .i64 0), (.int .i64 0), (.int .i64 0), (.int .i64 0)] 23 (0, 0))], R] := (((((hH77.front 5 rfl).front 5 rfl).front 4 rfl).front 4 rfl).front 5 rfl).first 5 rfl
              refine t_norm ⟨2 - (i + 1), _, rfl, ?_, ?_⟩
              · omega
              · exact ⟨(i + 1), bh, fd, false, rfl, hH90, (by omega), (ldG_no hld hsec_ (by first | exact .inl (by simpa using h11) | exact .inr (.inl h11) | exact .inl (by simpa using h31) | exact .inr (.inl h31) | exact .inl (by simpa using h40) | exact .inr (.inl h40) | exact .inl (by simpa using h42) | exact .inr (.inl h42) | exact .inl (by simpa using h79) | exact .inr (.inl h79) | exact .inl (by simpa using h80) | exact .inr (.inl h80))), ((blG_step hbl hsec_ hsl_).trans (by first | rfl | (rw [h42]; rfl) | simp [h42])), e24_0, e24_1, e24_4, e24_6, e24_7, e24_8, rfl, e24_19, rfl⟩
          · -- not: (hdP (readS p la ([] : List (Int × Bs)) (x + (i : Int)))).2
            refine s_off (b' := false) 49 rfl (congrArg Value.bool h79) rfl ?_
            refine s_off (b' := false) 49 rfl (congrArg Value.bool h79) rfl ?_
            refine s_off (b' := false) 49 rfl (congrArg Value.bool h79) rfl ?_
            refine s_off (b' := false) 49 rfl (congrArg Value.bool h79) rfl ?_
            refine s_off (b' := false) 49 rfl (congrArg Value.bool h79) rfl ?_
            refine s_op (o_pick_f (u := (.bool false)) ((rfl : _ = _).trans (congrArg Value.bool h79)) rfl ?_)
            refine s_op (o_move (v := (.bool false)) rfl ?_)
            refine s_off (b' := false) 56 rfl rfl rfl ?_
            refine s_off (b' := false) 56 rfl rfl rfl ?_
            refine s_off (b' := false) 56 rfl rfl rfl ?_
            refine s_offu 59 rfl rfl ?_
            refine s_offu 59 rfl rfl ?_
            refine s_offu 59 rfl rfl ?_
            refine s_offu 59 rfl rfl ?_
            refine s_offu 59 rfl rfl ?_
            refine s_off (b' := false) 56 rfl rfl rfl ?_
            refine s_op (o_pick_f (u := (.bool false)) rfl rfl ?_)
            refine s_nil ?_
            refine t_norm (hK78 _ _ ?_)
            refine c_false rfl rfl ?_
            refine wp_skip ?_
            refine b_norm ?_
            refine t_norm (hK32 _ _ ?_)
            refine c_region ?_
            refine s_op (o_add (a := (i : Int)) (b := 1) e24_22 rfl (w64 (by omega) (by omega)) ?_)
            refine s_op (o_move (v := (.int .i64 ((i : Int) + 1))) rfl ?_)
            refine s_nil ?_
            have hH91 : Has E w76 [[Hp.one b17 (.cells #[(.int .i64 bh.seq), (.int .i64 bh.ep), (.int .i64 bh.cut), (.int .i64 bh.st), (.int .i64 bh.mrk)] 23 (0, 0))], sg, [Hp.one pb (.cells #[(.bool p.off), (.bool p.armed), (.int .i64 p.left), (.int .i64 p.uses)] 145 (0, 0))], [Hp.one b2 (.cells #[(.int .i64 0), (.int .i64 0), (.int .i64 0), (.int .i64 0), (.int .i64 0)] 23 (0, 0))], R] := (((((hH77.front 5 rfl).front 5 rfl).front 4 rfl).front 4 rfl).front 5 rfl).first 5 rfl
            refine t_norm ⟨2 - (i + 1), _, rfl, ?_, ?_⟩
            · omega
            · exact ⟨(i + 1), bh, fd, false, rfl, hH91, (by omega), (ldG_no hld hsec_ (by first | exact .inl (by simpa using h11) | exact .inr (.inl h11) | exact .inl (by simpa using h31) | exact .inr (.inl h31) | exact .inl (by simpa using h40) | exact .inr (.inl h40) | exact .inl (by simpa using h42) | exact .inr (.inl h42) | exact .inl (by simpa using h79) | exact .inr (.inl h79))), ((blG_step hbl hsec_ hsl_).trans (by first | rfl | (rw [h42]; rfl) | simp [h42])), e24_0, e24_1, e24_4, e24_6, e24_7, e24_8, rfl, e24_19, rfl⟩
    · -- not: (i : Int) < 2
      refine wp_exit ?_
      refine t_exit (t_exit (x_in (?_)))
      refine t_norm (hK21 _ _ ?_)
      refine wp_seq_k fun K92 hK92 => ?_
      refine wp_block ?_
      refine wp_seq_k fun K93 hK93 => ?_
      refine c_region ?_
      refine s_op (o_move (v := (.bool fd)) e24_8 ?_)
      refine s_op (o_assign (v := (.bool fd)) rfl ?_)
      refine s_nil ?_
      refine t_norm (hK93 _ _ ?_)
      refine c_condb rfl (fun h94 => ?_) (fun h94 => ?_)
      · -- fd
        refine wp_seq_k fun K95 hK95 => ?_
        refine c_region ?_
        refine s_op (o_loadN (cs := [(.int .i64 bh.seq), (.int .i64 bh.ep), (.int .i64 bh.cut), (.int .i64 bh.st), (.int .i64 bh.mrk)]) Tryz.underlying23 rfl ti23 e24_7 hH27 (seg_sub 0 rfl) (CellsAt.one rfl) ?_)
        refine s_eff (o_storeN (vs := [(.int .i64 bh.seq), (.int .i64 bh.ep), (.int .i64 bh.cut), (.int .i64 bh.st), (.int .i64 bh.mrk)]) (c' := #[(.int .i64 bh.seq), (.int .i64 bh.ep), (.int .i64 bh.cut), (.int .i64 bh.st), (.int .i64 bh.mrk)]) ti23 e24_4 rfl rfl rfl (by intro u hu; simp only [List.mem_cons, List.not_mem_nil, or_false] at hu; rcases hu with rfl | rfl | rfl | rfl | rfl <;> first | rfl) (by simp) (by kernel_rfl) (hH27.front 3 rfl) fun w96 hH97 => ?_)
        refine s_op (o_assign (v := (.int .i64 0)) rfl ?_)
        refine s_nil ?_
        refine t_norm (hK95 _ _ ?_)
        refine wp_ret ?_
        refine b_ret (t_ret (c_retC2 Tryz.results97 e24_4 (run_loadVarN (cs := [(.int .i64 bh.seq), (.int .i64 bh.ep), (.int .i64 bh.cut), (.int .i64 bh.st), (.int .i64 bh.mrk)]) Tryz.underlying23 rfl ti23 hH97 (seg_sub 0 rfl) (CellsAt.one rfl)) (x := (.int .i64 0)) rfl ?_))
        have hH98 : Has E w96 [sg, [Hp.one pb (.cells #[(.bool p.off), (.bool p.armed), (.int .i64 p.left), (.int .i64 p.uses)] 145 (0, 0))], R] := (((hH97.front 4 rfl).front 4 rfl).front 4 rfl).first 3 rfl
        have ei_ : i = 2 := by omega
        subst ei_
        obtain ⟨e1_, e2_⟩ := ld_two hth_.1 hth_.2
        rw [hld] at e1_ e2_
        rw [hbl] at e2_
        exact ⟨by rw [e1_, e2_]; simp only [h94]; rfl, hH98⟩
      · -- not: fd
        refine wp_seq_k fun K99 hK99 => ?_
        refine c_region ?_
        refine s_op (o_move (v := (.bool bl)) e24_9 ?_)
        refine s_op (o_assign (v := (.bool bl)) rfl ?_)
        refine s_nil ?_
        refine t_norm (hK99 _ _ ?_)
        refine c_condb rfl (fun h100 => ?_) (fun h100 => ?_)
        · -- bl
          refine wp_seq_k fun K101 hK101 => ?_
          refine c_region ?_
          refine s_op (o_sight (v := (.agg #[(.int .i64 0), (.int .i64 0), (.int .i64 0), (.int .i64 0), (.int .i64 0)])) (fun _ => by kernel_rfl) ?_)
          refine s_eff (o_storeN (vs := [(.int .i64 0), (.int .i64 0), (.int .i64 0), (.int .i64 0), (.int .i64 0)]) (c' := #[(.int .i64 0), (.int .i64 0), (.int .i64 0), (.int .i64 0), (.int .i64 0)]) ti23 e24_4 rfl rfl rfl (by intro u hu; simp only [List.mem_cons, List.not_mem_nil, or_false] at hu; rcases hu with rfl | rfl | rfl | rfl | rfl <;> first | rfl) (by simp) (by kernel_rfl) (hH27.front 3 rfl) fun w102 hH103 => ?_)
          refine s_op (o_assign (v := (.int .i64 7)) rfl ?_)
          refine s_nil ?_
          refine t_norm (hK101 _ _ ?_)
          refine wp_ret ?_
          refine b_ret (t_ret (c_retC2 Tryz.results97 e24_4 (run_loadVarN (cs := [(.int .i64 0), (.int .i64 0), (.int .i64 0), (.int .i64 0), (.int .i64 0)]) Tryz.underlying23 rfl ti23 hH103 (seg_sub 0 rfl) (CellsAt.one rfl)) (x := (.int .i64 7)) rfl ?_))
          have hH104 : Has E w102 [sg, [Hp.one pb (.cells #[(.bool p.off), (.bool p.armed), (.int .i64 p.left), (.int .i64 p.uses)] 145 (0, 0))], R] := (((hH103.front 4 rfl).front 4 rfl).front 4 rfl).first 3 rfl
          have ei_ : i = 2 := by omega
          subst ei_
          obtain ⟨e1_, e2_⟩ := ld_two hth_.1 hth_.2
          rw [hld] at e1_ e2_
          rw [hbl] at e2_
          exact ⟨by rw [e1_, e2_]; simp only [h94, h100]; rfl, hH104⟩
        · -- not: bl
          refine wp_skip ?_
          refine b_norm ?_
          refine t_norm (hK92 _ _ ?_)
          refine wp_seq_k fun K105 hK105 => ?_
          refine c_region ?_
          refine s_op (o_sight (v := (.agg #[(.int .i64 0), (.int .i64 0), (.int .i64 0), (.int .i64 0), (.int .i64 0)])) (fun _ => by kernel_rfl) ?_)
          refine s_eff (o_storeN (vs := [(.int .i64 0), (.int .i64 0), (.int .i64 0), (.int .i64 0), (.int .i64 0)]) (c' := #[(.int .i64 0), (.int .i64 0), (.int .i64 0), (.int .i64 0), (.int .i64 0)]) ti23 e24_4 rfl rfl rfl (by intro u hu; simp only [List.mem_cons, List.not_mem_nil, or_false] at hu; rcases hu with rfl | rfl | rfl | rfl | rfl <;> first | rfl) (by simp) (by kernel_rfl) (hH27.front 3 rfl) fun w106 hH107 => ?_)
          refine s_op (o_assign (v := (.int .i64 9)) rfl ?_)
          refine s_nil ?_
          refine t_norm (hK105 _ _ ?_)
          refine wp_ret ?_
          refine c_retC2 Tryz.results97 e24_4 (run_loadVarN (cs := [(.int .i64 0), (.int .i64 0), (.int .i64 0), (.int .i64 0), (.int .i64 0)]) Tryz.underlying23 rfl ti23 hH107 (seg_sub 0 rfl) (CellsAt.one rfl)) (x := (.int .i64 9)) rfl ?_
          have hH108 : Has E w106 [sg, [Hp.one pb (.cells #[(.bool p.off), (.bool p.armed), (.int .i64 p.left), (.int .i64 p.uses)] 145 (0, 0))], R] := (((hH107.front 4 rfl).front 4 rfl).front 4 rfl).first 3 rfl
          have ei_ : i = 2 := by omega
          subst ei_
          obtain ⟨e1_, e2_⟩ := ld_two hth_.1 hth_.2
          rw [hld] at e1_ e2_
          rw [hbl] at e2_
          exact ⟨by rw [e1_, e2_]; simp only [h94, h100]; rfl, hH108⟩
end Go.Q
namespace Go.Q
open Go.Proofs
set_option linter.unusedVariables false
set_option maxRecDepth 100000
attribute [local irreducible] wpList OK Code.wp
set_option maxHeartbeats 4000000 in
theorem sopen_ok {E w : World} {R sg : List Hp} {pb db : Nat} {d : Dv} (hH : Has E w [sg, [Hp.one pb (.cells #[(.bool d.p.off), (.bool d.p.armed), (.int .i64 d.p.left), (.int .i64 d.p.uses)] 145 (0, 0))], R]) (hd : DevAt pb sg db d.la d.lo) (h4 : d.la.length ≤ 4096) (h3 : 3 ≤ d.la.length) (hon : d.p.off = false) (h64 : Full64 d.la) (hlo : d.lo = []) (hg : CellsAt R 0 0 nibV) (hm : opE d (((d.la.length : Nat) : Int) - 2) = 0) :
    Calls Tryz.prog 16 #[(.pointer (some ⟨db, 0, none⟩))] w fun e w' => ∃ sb ab sg' ss, e = .returned (.tuple #[.pointer (some ⟨sb, 0, none⟩), .int .i64 0]) ∧ DevAt pb sg' db d.la d.lo ∧ StmAt db ab sb ss (opS d (((d.la.length : Nat) : Int) - 2)) ∧ Has E w' [ss, [Hp.one ab (.cells #[(.pointer (some ⟨db, 0, none⟩)), (.int .i64 2), (.int .i64 (((d.la.length : Nat) : Int) - 2))] 265 (0, 0))], sg', [Hp.one pb (.cells #[(.bool d.p.off), (.bool d.p.armed), (.int .i64 d.p.left), (.int .i64 d.p.uses)] 145 (0, 0))], R] := by
  have hd0_ : DevAt pb sg db d.la [] := by rw [← hlo]; exact hd
  have hlk : LoOk d.lo d.la.length := by rw [hlo]; exact LoOk.nil _
  refine c_enter (args := [(.pointer (some ⟨db, 0, none⟩))]) Tryz.func16 rfl Tryz.ntmps16 (by simp) ?_
  refine wp_seq_k fun K1 hK1 => ?_
  refine c_region ?_
  refine s_op (o_assign (v := (.pointer none)) rfl ?_)
  refine s_op (o_assign (v := (.int .i64 0)) rfl ?_)
  refine s_nil ?_
  refine t_norm (hK1 _ _ ?_)
  refine wp_seq_k fun K2 hK2 => ?_
  refine c_region ?_
  refine s_op (o_move (v := (.pointer (some ⟨db, 0, none⟩))) rfl ?_)
  refine s_op (o_callf (vs := #[(.pointer (some ⟨db, 0, none⟩))]) ca96 rfl (args1 rfl) (sbegin_ok ((hH.front 1 rfl).front 1 rfl).all2 hd h4 h3 hon) ?_)
  rintro _ w6 ⟨ab3, rfl, hX4⟩
  refine ⟨_, rfl, ?_⟩
  have hH5 : Has E w6 [[Hp.one ab3 (.cells #[(.pointer (some ⟨db, 0, none⟩)), (.int .i64 2), (.int .i64 (((d.la.length : Nat) : Int) - 2))] 265 (0, 0))], sg, [Hp.one pb (.cells #[(.bool d.p.off), (.bool d.p.armed), (.int .i64 d.p.left), (.int .i64 d.p.uses)] 145 (0, 0))], R] := hX4.of_all3
  refine s_op (o_move (v := (.tuple #[(.pointer (some ⟨ab3, 0, none⟩)), (.int .i64 (0 : Int))])) rfl ?_)
  refine s_op (o_extract (v := (.pointer (some ⟨ab3, 0, none⟩))) rfl rfl ?_)
  refine s_op (o_extract (v := (.int .i64 (0 : Int))) rfl rfl ?_)
  refine s_op (o_assign (v := (.pointer (some ⟨ab3, 0, none⟩))) rfl ?_)
  refine s_op (o_assign (v := (.int .i64 (0 : Int))) rfl ?_)
  refine s_nil ?_
  refine t_norm (hK2 _ _ ?_)
  refine wp_seq_k fun K7 hK7 => ?_
  refine wp_seq_k fun K8 hK8 => ?_
  refine c_region ?_
  refine s_op (o_move (v := (.int .i64 (0 : Int))) rfl ?_)
  refine s_op (o_neq (a := (0 : Int)) (b := 0) rfl rfl ?_)
  refine s_nil ?_
  refine t_norm (hK8 _ _ ?_)
  refine c_cond rfl (fun h9 => ?_) (fun h9 => ?_)
  · -- (0 : Int) ≠ 0
    exact absurd h9 (by decide)
  · -- not: (0 : Int) ≠ 0
    refine wp_skip ?_
    refine t_norm (hK7 _ _ ?_)
    refine wp_seq_k fun K10 hK10 => ?_
    refine c_region ?_
    refine s_op (o_move (v := (.pointer (some ⟨db, 0, none⟩))) rfl ?_)
    refine s_op (o_callf (vs := #[(.pointer (some ⟨db, 0, none⟩)), (.int .i64 0)]) ca97 rfl (args2 rfl rfl) (hload_c (p := d.p) (la := d.la) ((hH5.front 2 rfl).front 2 rfl).all2 hd0_ (hg.mono (seg_sub 1 rfl)) h64 h4 0) ?_)
    rintro _ w13 ⟨rfl, hX11⟩
    refine ⟨_, rfl, ?_⟩
    have hH12 : Has E w13 [sg, [Hp.one pb (.cells #[(.bool d.p.off), (.bool d.p.armed), (.int .i64 d.p.left), (.int .i64 d.p.uses)] 145 (0, 0))], [Hp.one ab3 (.cells #[(.pointer (some ⟨db, 0, none⟩)), (.int .i64 2), (.int .i64 (((d.la.length : Nat) : Int) - 2))] 265 (0, 0))], R] := hX11.of_all2
    refine s_op (o_move (v := (.tuple #[(.agg #[(.int .i64 (ldH d.p d.la 0).seq), (.int .i64 (ldH d.p d.la 0).ep), (.int .i64 (ldH d.p d.la 0).cut), (.int .i64 (ldH d.p d.la 0).st), (.int .i64 (ldH d.p d.la 0).mrk)]), (.int .i64 (ldE d.p d.la 0))])) rfl ?_)
    refine s_op (o_extract (v := (.agg #[(.int .i64 (ldH d.p d.la 0).seq), (.int .i64 (ldH d.p d.la 0).ep), (.int .i64 (ldH d.p d.la 0).cut), (.int .i64 (ldH d.p d.la 0).st), (.int .i64 (ldH d.p d.la 0).mrk)])) rfl rfl ?_)
    refine s_op (o_extract (v := (.int .i64 (ldE d.p d.la 0))) rfl rfl ?_)
    refine s_op (o_alloc (cs := #[(.int .i64 0), (.int .i64 0), (.int .i64 0), (.int .i64 0), (.int .i64 0)]) ti23 rfl hH12 fun b14 w15 hH16 => ?_)
    refine s_eff (o_storeN (vs := [(.int .i64 (ldH d.p d.la 0).seq), (.int .i64 (ldH d.p d.la 0).ep), (.int .i64 (ldH d.p d.la 0).cut), (.int .i64 (ldH d.p d.la 0).st), (.int .i64 (ldH d.p d.la 0).mrk)]) (c' := #[(.int .i64 (ldH d.p d.la 0).seq), (.int .i64 (ldH d.p d.la 0).ep), (.int .i64 (ldH d.p d.la 0).cut), (.int .i64 (ldH d.p d.la 0).st), (.int .i64 (ldH d.p d.la 0).mrk)]) ti23 rfl rfl rfl rfl (by intro u hu; simp only [List.mem_cons, List.not_mem_nil, or_false] at hu; rcases hu with rfl | rfl | rfl | rfl | rfl <;> first | rfl) (by simp) (by kernel_rfl) (hH16.front 0 rfl) fun w17 hH18 => ?_)
    refine s_op (o_assign (v := (.int .i64 (ldE d.p d.la 0))) rfl ?_)
    refine s_nil ?_
    refine t_norm (hK10 _ _ ?_)
    refine wp_seq_k fun K19 hK19 => ?_
    refine wp_seq_k fun K20 hK20 => ?_
    refine c_region ?_
    refine s_op (o_move (v := (.int .i64 (ldE d.p d.la 0))) rfl ?_)
    refine s_op (o_neq (a := ldE d.p d.la 0) (b := 0) rfl rfl ?_)
    refine s_nil ?_
    refine t_norm (hK20 _ _ ?_)
    refine c_cond rfl (fun h21 => ?_) (fun h21 => ?_)
    · -- ldE d.p d.la 0 ≠ 0
      exact absurd hm (by rw [opE_ld h21]; exact h21)
    · -- not: ldE d.p d.la 0 ≠ 0
      refine wp_skip ?_
      refine t_norm (hK19 _ _ ?_)
      refine wp_seq_k fun K22 hK22 => ?_
      refine Rest.region mixed (by kernel_rfl) ?_
      have hH23 : Has E { w17 with drawn := w17.drawn + 1 } [[Hp.one b14 (.cells #[(.int .i64 (ldH d.p d.la 0).seq), (.int .i64 (ldH d.p d.la 0).ep), (.int .i64 (ldH d.p d.la 0).cut), (.int .i64 (ldH d.p d.la 0).st), (.int .i64 (ldH d.p d.la 0).mrk)] 23 (0, 0))], sg, [Hp.one pb (.cells #[(.bool d.p.off), (.bool d.p.armed), (.int .i64 d.p.left), (.int .i64 d.p.uses)] 145 (0, 0))], [Hp.one ab3 (.cells #[(.pointer (some ⟨db, 0, none⟩)), (.int .i64 2), (.int .i64 (((d.la.length : Nat) : Int) - 2))] 265 (0, 0))], R] := Has0.drew hH18 _
      refine Rest.phaseA (fun w_ => Has E w_ [[Hp.one b14 (.cells #[(.int .i64 (ldH d.p d.la 0).seq), (.int .i64 (ldH d.p d.la 0).ep), (.int .i64 (ldH d.p d.la 0).cut), (.int .i64 (ldH d.p d.la 0).st), (.int .i64 (ldH d.p d.la 0).mrk)] 23 (0, 0))]]) 0 5 5 rfl (by decide) (by kernel_rfl) ?_
      refine a_op 0 rfl (by kernel_rfl) (fun w_ h_ => o_move (v := (.pointer (some ⟨ab3, 0, none⟩))) rfl ⟨rfl, rfl⟩) ?_
      refine a_op 1 rfl (by kernel_rfl) (fun w_ h_ => o_fieldAddr (k := 3) (fun _ => by kernel_rfl) rfl ⟨rfl, rfl⟩) ?_
      refine a_op 2 rfl (by kernel_rfl) (fun w_ h_ => o_load1 (v := (.int .i64 (ldH d.p d.la 0).st)) Tryz.underlying3 rfl rfl h_ (seg_sub 0 rfl) (CellsAt.one rfl) ⟨rfl, rfl⟩) ?_
      refine a_op 3 rfl (by kernel_rfl) (fun w_ h_ => o_move (v := (.pointer (some ⟨ab3, 0, none⟩))) rfl ⟨rfl, rfl⟩) ?_
      have hH24 : Has E { w17 with drawn := w17.drawn + 1 } [[Hp.one b14 (.cells #[(.int .i64 (ldH d.p d.la 0).seq), (.int .i64 (ldH d.p d.la 0).ep), (.int .i64 (ldH d.p d.la 0).cut), (.int .i64 (ldH d.p d.la 0).st), (.int .i64 (ldH d.p d.la 0).mrk)] 23 (0, 0))]] := hH23.first 1 rfl
      refine a_w 4 rfl (by kernel_rfl) hH24 (o_callf (vs := #[(.pointer (some ⟨ab3, 0, none⟩))]) ca99 rfl (args1 rfl) (alen_c (hH23.front 3 rfl).all1 ⟨by omega, by omega⟩) ?_)
      rintro _ w27 ⟨rfl, hX25⟩
      refine ⟨_, rfl, ?_⟩
      have hH26 : Has E w27 [[Hp.one ab3 (.cells #[(.pointer (some ⟨db, 0, none⟩)), (.int .i64 2), (.int .i64 (((d.la.length : Nat) : Int) - 2))] 265 (0, 0))], [Hp.one b14 (.cells #[(.int .i64 (ldH d.p d.la 0).seq), (.int .i64 (ldH d.p d.la 0).ep), (.int .i64 (ldH d.p d.la 0).cut), (.int .i64 (ldH d.p d.la 0).st), (.int .i64 (ldH d.p d.la 0).mrk)] 23 (0, 0))], sg, [Hp.one pb (.cells #[(.bool d.p.off), (.bool d.p.armed), (.int .i64 d.p.left), (.int .i64 d.p.uses)] 145 (0, 0))], R] := hX25.of_all1
      have hH28 : Has E w27 [[Hp.one b14 (.cells #[(.int .i64 (ldH d.p d.la 0).seq), (.int .i64 (ldH d.p d.la 0).ep), (.int .i64 (ldH d.p d.la 0).cut), (.int .i64 (ldH d.p d.la 0).st), (.int .i64 (ldH d.p d.la 0).mrk)] 23 (0, 0))]] := (hH26.front 1 rfl).first 1 rfl
      refine a_done (by kernel_rfl) hH28 ?_
      obtain ⟨hR1_, hR2_, hR3_, hR4_, hR5_⟩ := of_decide_eq_true (ld_R (Classical.not_not.1 h21))
      have hbl_ : (ringB d (((d.la.length : Nat) : Int) - 2) (ldH d.p d.la 0).st).length = ((((d.la.length : Nat) : Int) - 2) * 64).toNat := ringB_len h64 hlk (by omega) (by omega)
      refine r_op 5 rfl (by kernel_rfl) (o_callf (vs := #[(.pointer (some ⟨ab3, 0, none⟩)), (.int .i64 (ldH d.p d.la 0).st), (.int .i64 ((((d.la.length : Nat) : Int) - 2) * 64))]) ca98 rfl (args3 rfl rfl rfl) (dget_c (d := d) (fr := 2) (n := ((d.la.length : Nat) : Int) - 2) ((hH26.front 3 rfl).front 3 rfl).all3 hd h4 h64 hlk (by omega) (by omega) (by omega) hon (at_ := (ldH d.p d.la 0).st) ⟨by omega, by omega⟩ (size := (((d.la.length : Nat) : Int) - 2) * 64) ⟨by omega, by omega⟩) ?_)
      rintro _ w31 ⟨rfl, hX29⟩
      refine ⟨_, rfl, ?_⟩
      have hH30 : Has E w31 [sg, [Hp.one pb (.cells #[(.bool d.p.off), (.bool d.p.armed), (.int .i64 d.p.left), (.int .i64 d.p.uses)] 145 (0, 0))], [Hp.one ab3 (.cells #[(.pointer (some ⟨db, 0, none⟩)), (.int .i64 2), (.int .i64 (((d.la.length : Nat) : Int) - 2))] 265 (0, 0))], [Hp.one b14 (.cells #[(.int .i64 (ldH d.p d.la 0).seq), (.int .i64 (ldH d.p d.la 0).ep), (.int .i64 (ldH d.p d.la 0).cut), (.int .i64 (ldH d.p d.la 0).st), (.int .i64 (ldH d.p d.la 0).mrk)] 23 (0, 0))], R] := hX29.of_all3
      refine r_op 6 rfl (by kernel_rfl) (o_move (v := (.tuple #[(S (ringB d (((d.la.length : Nat) : Int) - 2) (ldH d.p d.la 0).st)), (.int .i64 (0 : Int))])) rfl ?_)
      refine Rest.phaseA (fun w_ => Has E w_ []) 7 10 3 rfl (by decide) (by kernel_rfl) ?_
      refine a_op 7 rfl (by kernel_rfl) (fun w_ h_ => o_extract (v := (S (ringB d (((d.la.length : Nat) : Int) - 2) (ldH d.p d.la 0).st))) rfl rfl ⟨rfl, rfl⟩) ?_
      refine a_op 8 rfl (by kernel_rfl) (fun w_ h_ => o_extract (v := (.int .i64 (0 : Int))) rfl rfl ⟨rfl, rfl⟩) ?_
      refine a_op 9 rfl (by kernel_rfl) (fun w_ h_ => o_assign (v := (S (ringB d (((d.la.length : Nat) : Int) - 2) (ldH d.p d.la 0).st))) rfl ⟨rfl, rfl⟩) ?_
      have hH32 : Has E w31 [] := hH30.first 0 rfl
      refine a_done (by kernel_rfl) hH32 ?_
      refine r_op 10 rfl (by kernel_rfl) (o_assign (v := (.int .i64 (0 : Int))) rfl ?_)
      refine Rest.done (by kernel_rfl) ?_
      refine t_norm (hK22 _ _ ?_)
      refine wp_seq_k fun K33 hK33 => ?_
      refine wp_seq_k fun K34 hK34 => ?_
      refine c_region ?_
      refine s_op (o_move (v := (.int .i64 (0 : Int))) rfl ?_)
      refine s_op (o_neq (a := (0 : Int)) (b := 0) rfl rfl ?_)
      refine s_nil ?_
      refine t_norm (hK34 _ _ ?_)
      refine c_false rfl (decide_eq_false h9) ?_
      refine wp_skip ?_
      refine t_norm (hK33 _ _ ?_)
      refine wp_seq_k fun K35 hK35 => ?_
      refine c_region ?_
      refine s_op (o_fieldAddr (k := 1) (fun _ => by kernel_rfl) rfl ?_)
      refine s_op (o_load1 (v := (.int .i64 (ldH d.p d.la 0).ep)) Tryz.underlying3 rfl rfl hH30 (seg_sub 3 rfl) (CellsAt.one rfl) ?_)
      refine s_op (o_fieldAddr (k := 2) (fun _ => by kernel_rfl) rfl ?_)
      refine s_op (o_load1 (v := (.int .i64 (ldH d.p d.la 0).cut)) Tryz.underlying3 rfl rfl hH30 (seg_sub 3 rfl) (CellsAt.one rfl) ?_)
      refine s_op (o_sight (v := (.agg #[(.int .i64 (ldH d.p d.la 0).ep), (.int .i64 (ldH d.p d.la 0).cut)])) (fun _ => by kernel_rfl) ?_)
      refine s_op (o_move (v := (S (ringB d (((d.la.length : Nat) : Int) - 2) (ldH d.p d.la 0).st))) rfl ?_)
      refine s_op (o_fieldAddr (k := 3) (fun _ => by kernel_rfl) rfl ?_)
      refine s_op (o_load1 (v := (.int .i64 (ldH d.p d.la 0).st)) Tryz.underlying3 rfl rfl hH30 (seg_sub 3 rfl) (CellsAt.one rfl) ?_)
      refine s_op (o_callf (vs := #[(.agg #[(.int .i64 (ldH d.p d.la 0).ep), (.int .i64 (ldH d.p d.la 0).cut)]), (S (ringB d (((d.la.length : Nat) : Int) - 2) (ldH d.p d.la 0).st)), (.int .i64 (ldH d.p d.la 0).st), (.int .i64 (-1))]) ca100 rfl (args4 rfl rfl rfl rfl) (chain_c hH30.all (hg.mono (seg_sub 4 rfl)) (ringB d (((d.la.length : Nat) : Int) - 2) (ldH d.p d.la 0).st) (by omega) ((ldH d.p d.la 0).ep) ((ldH d.p d.la 0).cut) ((ldH d.p d.la 0).st) (-1) (by omega)) ?_)
      rintro _ w41 ⟨v36, s37, rfl, ho38, hX39⟩
      refine ⟨_, rfl, ?_⟩
      have hH40 : Has E w41 [s37, sg, [Hp.one pb (.cells #[(.bool d.p.off), (.bool d.p.armed), (.int .i64 d.p.left), (.int .i64 d.p.uses)] 145 (0, 0))], [Hp.one ab3 (.cells #[(.pointer (some ⟨db, 0, none⟩)), (.int .i64 2), (.int .i64 (((d.la.length : Nat) : Int) - 2))] 265 (0, 0))], [Hp.one b14 (.cells #[(.int .i64 (ldH d.p d.la 0).seq), (.int .i64 (ldH d.p d.la 0).ep), (.int .i64 (ldH d.p d.la 0).cut), (.int .i64 (ldH d.p d.la 0).st), (.int .i64 (ldH d.p d.la 0).mrk)] 23 (0, 0))], R] := hX39.of_all1
      refine s_op (o_move (v := (.tuple #[v36, (.int .i64 ((chainS ((ldH d.p d.la 0).ep) ((ldH d.p d.la 0).cut) ((ringB d (((d.la.length : Nat) : Int) - 2) (ldH d.p d.la 0).st).length + 1) (ringB d (((d.la.length : Nat) : Int) - 2) (ldH d.p d.la 0).st) ((ldH d.p d.la 0).st) (-1)).2))])) rfl ?_)
      refine s_op (o_extract (v := v36) rfl rfl ?_)
      refine s_op (o_extract (v := (.int .i64 ((chainS ((ldH d.p d.la 0).ep) ((ldH d.p d.la 0).cut) ((ringB d (((d.la.length : Nat) : Int) - 2) (ldH d.p d.la 0).st).length + 1) (ringB d (((d.la.length : Nat) : Int) - 2) (ldH d.p d.la 0).st) ((ldH d.p d.la 0).st) (-1)).2))) rfl rfl ?_)
      refine s_op (o_assign (v := v36) rfl ?_)
      refine s_op (o_assign (v := (.int .i64 ((chainS ((ldH d.p d.la 0).ep) ((ldH d.p d.la 0).cut) ((ringB d (((d.la.length : Nat) : Int) - 2) (ldH d.p d.la 0).st).length + 1) (ringB d (((d.la.length : Nat) : Int) - 2) (ldH d.p d.la 0).st) ((ldH d.p d.la 0).st) (-1)).2))) rfl ?_)
      refine s_nil ?_
      refine t_norm (hK35 _ _ ?_)
      refine wp_seq_k fun K42 hK42 => ?_
      refine wp_seq_k fun K43 hK43 => ?_
      refine c_region ?_
      refine s_op (o_fieldAddr (k := 1) (fun _ => by kernel_rfl) rfl ?_)
      refine s_op (o_load1 (v := (.int .i64 (ldH d.p d.la 0).ep)) Tryz.underlying3 rfl rfl hH40 (seg_sub 4 rfl) (CellsAt.one rfl) ?_)
      refine s_op (o_eql (a := (ldH d.p d.la 0).ep) (b := 0) rfl rfl ?_)
      refine s_op (o_move (v := (.bool (decide ((ldH d.p d.la 0).ep = 0)))) rfl ?_)
      by_cases h44 : (ldH d.p d.la 0).ep = 0
      · -- (ldH d.p d.la 0).ep = 0
        refine s_off (b' := true) 56 rfl (congrArg Value.bool (decide_eq_true h44)) rfl ?_
        refine s_off (b' := true) 56 rfl (congrArg Value.bool (decide_eq_true h44)) rfl ?_
        refine s_off (b' := true) 56 rfl (congrArg Value.bool (decide_eq_true h44)) rfl ?_
        refine s_off (b' := true) 56 rfl (congrArg Value.bool (decide_eq_true h44)) rfl ?_
        refine s_off (b' := true) 56 rfl (congrArg Value.bool (decide_eq_true h44)) rfl ?_
        refine s_op (o_pick_t (u := (.bool true)) ((rfl : _ = _).trans (congrArg Value.bool (decide_eq_true h44))) rfl ?_)
        refine s_op (o_move (v := (.bool true)) rfl ?_)
        refine s_off (b' := true) 63 rfl rfl rfl ?_
        refine s_off (b' := true) 63 rfl rfl rfl ?_
        refine s_off (b' := true) 63 rfl rfl rfl ?_
        refine s_off (b' := true) 63 rfl rfl rfl ?_
        refine s_op (o_pick_t (u := (.bool true)) rfl rfl ?_)
        refine s_nil ?_
        refine t_norm (hK43 _ _ ?_)
        refine c_true rfl rfl ?_
        refine wp_seq_k fun K45 hK45 => ?_
        refine c_region ?_
        refine s_op (o_assign (v := (.pointer none)) rfl ?_)
        refine s_op (o_assign (v := (.int .i64 9)) rfl ?_)
        refine s_nil ?_
        refine t_norm (hK45 _ _ ?_)
        refine wp_ret ?_
        refine t_ret (c_ret2 Tryz.results16  (v := (.pointer none)) rfl (x := (.int .i64 9)) rfl ?_)
        have ho_ : opE d (((d.la.length : Nat) : Int) - 2) = 9 := opE_bad (Classical.not_not.1 h21) (by first | exact .inl h44 | exact .inr (.inl h44) | exact .inr (.inr h44))
        rw [ho_] at hm
        exact absurd hm (by decide)
      · -- not: (ldH d.p d.la 0).ep = 0
        refine s_on 56 rfl (congrArg Value.bool (decide_eq_false h44)) (o_fieldAddr (k := 3) (fun _ => by kernel_rfl) rfl ?_)
        refine s_on 56 rfl (congrArg Value.bool (decide_eq_false h44)) (o_load1 (v := (.int .i64 (ldH d.p d.la 0).st)) Tryz.underlying3 rfl rfl hH40 (seg_sub 4 rfl) (CellsAt.one rfl) ?_)
        refine s_on 56 rfl (congrArg Value.bool (decide_eq_false h44)) (o_fieldAddr (k := 2) (fun _ => by kernel_rfl) rfl ?_)
        refine s_on 56 rfl (congrArg Value.bool (decide_eq_false h44)) (o_load1 (v := (.int .i64 (ldH d.p d.la 0).cut)) Tryz.underlying3 rfl rfl hH40 (seg_sub 4 rfl) (CellsAt.one rfl) ?_)
        refine s_on 56 rfl (congrArg Value.bool (decide_eq_false h44)) (o_gtr (a := (ldH d.p d.la 0).st) (b := (ldH d.p d.la 0).cut) rfl rfl ?_)
        refine s_op (o_pick_f (u := (.bool (decide ((ldH d.p d.la 0).cut < (ldH d.p d.la 0).st)))) ((rfl : _ = _).trans (congrArg Value.bool (decide_eq_false h44))) rfl ?_)
        refine s_op (o_move (v := (.bool (decide ((ldH d.p d.la 0).cut < (ldH d.p d.la 0).st)))) rfl ?_)
        by_cases h46 : (ldH d.p d.la 0).cut < (ldH d.p d.la 0).st
        · -- (ldH d.p d.la 0).cut < (ldH d.p d.la 0).st
          refine s_off (b' := true) 63 rfl (congrArg Value.bool (decide_eq_true h46)) rfl ?_
          refine s_off (b' := true) 63 rfl (congrArg Value.bool (decide_eq_true h46)) rfl ?_
          refine s_off (b' := true) 63 rfl (congrArg Value.bool (decide_eq_true h46)) rfl ?_
          refine s_off (b' := true) 63 rfl (congrArg Value.bool (decide_eq_true h46)) rfl ?_
          refine s_op (o_pick_t (u := (.bool true)) ((rfl : _ = _).trans (congrArg Value.bool (decide_eq_true h46))) rfl ?_)
          refine s_nil ?_
          refine t_norm (hK43 _ _ ?_)
          refine c_true rfl rfl ?_
          refine wp_seq_k fun K47 hK47 => ?_
          refine c_region ?_
          refine s_op (o_assign (v := (.pointer none)) rfl ?_)
          refine s_op (o_assign (v := (.int .i64 9)) rfl ?_)
          refine s_nil ?_
          refine t_norm (hK47 _ _ ?_)
          refine wp_ret ?_
          refine t_ret (c_ret2 Tryz.results16  (v := (.pointer none)) rfl (x := (.int .i64 9)) rfl ?_)
          have ho_ : opE d (((d.la.length : Nat) : Int) - 2) = 9 := opE_bad (Classical.not_not.1 h21) (by first | exact .inl h46 | exact .inr (.inl h46) | exact .inr (.inr h46))
          rw [ho_] at hm
          exact absurd hm (by decide)
        · -- not: (ldH d.p d.la 0).cut < (ldH d.p d.la 0).st
          refine s_on 63 rfl (congrArg Value.bool (decide_eq_false h46)) (o_move (v := (.int .i64 ((chainS ((ldH d.p d.la 0).ep) ((ldH d.p d.la 0).cut) ((ringB d (((d.la.length : Nat) : Int) - 2) (ldH d.p d.la 0).st).length + 1) (ringB d (((d.la.length : Nat) : Int) - 2) (ldH d.p d.la 0).st) ((ldH d.p d.la 0).st) (-1)).2))) rfl ?_)
          refine s_on 63 rfl (congrArg Value.bool (decide_eq_false h46)) (o_fieldAddr (k := 2) (fun _ => by kernel_rfl) rfl ?_)
          refine s_on 63 rfl (congrArg Value.bool (decide_eq_false h46)) (o_load1 (v := (.int .i64 (ldH d.p d.la 0).cut)) Tryz.underlying3 rfl rfl hH40 (seg_sub 4 rfl) (CellsAt.one rfl) ?_)
          refine s_on 63 rfl (congrArg Value.bool (decide_eq_false h46)) (o_lss (a := (chainS ((ldH d.p d.la 0).ep) ((ldH d.p d.la 0).cut) ((ringB d (((d.la.length : Nat) : Int) - 2) (ldH d.p d.la 0).st).length + 1) (ringB d (((d.la.length : Nat) : Int) - 2) (ldH d.p d.la 0).st) ((ldH d.p d.la 0).st) (-1)).2) (b := (ldH d.p d.la 0).cut) rfl rfl ?_)
          refine s_op (o_pick_f (u := (.bool (decide ((chainS ((ldH d.p d.la 0).ep) ((ldH d.p d.la 0).cut) ((ringB d (((d.la.length : Nat) : Int) - 2) (ldH d.p d.la 0).st).length + 1) (ringB d (((d.la.length : Nat) : Int) - 2) (ldH d.p d.la 0).st) ((ldH d.p d.la 0).st) (-1)).2 < (ldH d.p d.la 0).cut)))) ((rfl : _ = _).trans (congrArg Value.bool (decide_eq_false h46))) rfl ?_)
          refine s_nil ?_
          refine t_norm (hK43 _ _ ?_)
          refine c_cond rfl (fun h48 => ?_) (fun h48 => ?_)
          · -- (chainS ((ldH d.p d.la 0).ep) ((ldH d.p d.la 0).cut) ((ringB d (((d.la.length : Nat) : Int) - 2) (ldH d.p d.la 0).st).length + 1) (ringB d (((d.la.length : Nat) : Int) - 2) (ldH d.p d.la 0).st) ((ldH d.p d.la 0).st) (-1)).2 < (ldH d.p d.la 0).cut
            refine wp_seq_k fun K49 hK49 => ?_
            refine c_region ?_
            refine s_op (o_assign (v := (.pointer none)) rfl ?_)
            refine s_op (o_assign (v := (.int .i64 9)) rfl ?_)
            refine s_nil ?_
            refine t_norm (hK49 _ _ ?_)
            refine wp_ret ?_
            refine t_ret (c_ret2 Tryz.results16  (v := (.pointer none)) rfl (x := (.int .i64 9)) rfl ?_)
            have ho_ : opE d (((d.la.length : Nat) : Int) - 2) = 9 := opE_bad (Classical.not_not.1 h21) (by first | exact .inl h48 | exact .inr (.inl h48) | exact .inr (.inr h48))
            rw [ho_] at hm
            exact absurd hm (by decide)
          · -- not: (chainS ((ldH d.p d.la 0).ep) ((ldH d.p d.la 0).cut) ((ringB d (((d.la.length : Nat) : Int) - 2) (ldH d.p d.la 0).st).length + 1) (ringB d (((d.la.length : Nat) : Int) - 2) (ldH d.p d.la 0).st) ((ldH d.p d.la 0).st) (-1)).2 < (ldH d.p d.la 0).cut
            refine wp_skip ?_
            refine t_norm (hK42 _ _ ?_)
            refine wp_seq_k fun K50 hK50 => ?_
            refine c_region ?_
            refine s_op (o_loadN (cs := [(.int .i64 (ldH d.p d.la 0).seq), (.int .i64 (ldH d.p d.la 0).ep), (.int .i64 (ldH d.p d.la 0).cut), (.int .i64 (ldH d.p d.la 0).st), (.int .i64 (ldH d.p d.la 0).mrk)]) Tryz.underlying23 rfl ti23 rfl hH40 (seg_sub 4 rfl) (CellsAt.one rfl) ?_)
            refine s_op (o_sight (v := (.agg #[(.int .i64 (ldH d.p d.la 0).seq), (.int .i64 (ldH d.p d.la 0).ep), (.int .i64 (ldH d.p d.la 0).cut), (.int .i64 (ldH d.p d.la 0).st), (.int .i64 (ldH d.p d.la 0).mrk)])) (fun _ => by kernel_rfl) ?_)
            refine s_op (o_move (v := (.pointer (some ⟨db, 0, none⟩))) rfl ?_)
            refine s_op (o_move (v := (.pointer (some ⟨ab3, 0, none⟩))) rfl ?_)
            refine s_op (o_move (v := (.int .i64 ((chainS ((ldH d.p d.la 0).ep) ((ldH d.p d.la 0).cut) ((ringB d (((d.la.length : Nat) : Int) - 2) (ldH d.p d.la 0).st).length + 1) (ringB d (((d.la.length : Nat) : Int) - 2) (ldH d.p d.la 0).st) ((ldH d.p d.la 0).st) (-1)).2))) rfl ?_)
            refine s_op (o_move (v := v36) rfl ?_)
            refine s_op (o_lenS Tryz.underlying167 rfl ho38.sl ?_)
            refine s_op (o_sight (v := (.agg #[(.int .i64 (ldH d.p d.la 0).seq), (.int .i64 (ldH d.p d.la 0).ep), (.int .i64 (ldH d.p d.la 0).cut), (.int .i64 (ldH d.p d.la 0).st), (.int .i64 (ldH d.p d.la 0).mrk), (.pointer (some ⟨db, 0, none⟩)), (.pointer (some ⟨ab3, 0, none⟩)), (.slice none 0 0), (.int .i64 ((chainS ((ldH d.p d.la 0).ep) ((ldH d.p d.la 0).cut) ((ringB d (((d.la.length : Nat) : Int) - 2) (ldH d.p d.la 0).st).length + 1) (ringB d (((d.la.length : Nat) : Int) - 2) (ldH d.p d.la 0).st) ((ldH d.p d.la 0).st) (-1)).2)), (.int .i64 ((((chainS ((ldH d.p d.la 0).ep) ((ldH d.p d.la 0).cut) ((ringB d (((d.la.length : Nat) : Int) - 2) (ldH d.p d.la 0).st).length + 1) (ringB d (((d.la.length : Nat) : Int) - 2) (ldH d.p d.la 0).st) ((ldH d.p d.la 0).st) (-1)).1).length : Nat) : Int)), (.int .i64 0), (.bool false), (.int .i64 0)])) (fun _ => by kernel_rfl) ?_)
            refine s_op (o_box (cs := #[(.int .i64 (ldH d.p d.la 0).seq), (.int .i64 (ldH d.p d.la 0).ep), (.int .i64 (ldH d.p d.la 0).cut), (.int .i64 (ldH d.p d.la 0).st), (.int .i64 (ldH d.p d.la 0).mrk), (.pointer (some ⟨db, 0, none⟩)), (.pointer (some ⟨ab3, 0, none⟩)), (.slice none 0 0), (.int .i64 ((chainS ((ldH d.p d.la 0).ep) ((ldH d.p d.la 0).cut) ((ringB d (((d.la.length : Nat) : Int) - 2) (ldH d.p d.la 0).st).length + 1) (ringB d (((d.la.length : Nat) : Int) - 2) (ldH d.p d.la 0).st) ((ldH d.p d.la 0).st) (-1)).2)), (.int .i64 ((((chainS ((ldH d.p d.la 0).ep) ((ldH d.p d.la 0).cut) ((ringB d (((d.la.length : Nat) : Int) - 2) (ldH d.p d.la 0).st).length + 1) (ringB d (((d.la.length : Nat) : Int) - 2) (ldH d.p d.la 0).st) ((ldH d.p d.la 0).st) (-1)).1).length : Nat) : Int)), (.int .i64 0), (.bool false), (.int .i64 0)]) rfl rfl hH40 fun b51 w52 hH53 => ?_)
            refine s_op (o_assign (v := (.pointer (some ⟨b51, 0, none⟩))) rfl ?_)
            refine s_nil ?_
            refine t_norm (hK50 _ _ ?_)
            refine wp_seq_k fun K54 hK54 => ?_
            refine wp_seq_k fun K55 hK55 => ?_
            refine c_region ?_
            refine s_op (o_move (v := v36) rfl ?_)
            refine s_op (o_lenS Tryz.underlying167 rfl ho38.sl ?_)
            refine s_op (o_move (v := (.int .i64 0)) rfl ?_)
            refine s_nil ?_
            refine t_norm (hK55 _ _ ?_)
            refine wp_block ?_
            have hcc_ := chain_count (ldH d.p d.la 0).ep (ldH d.p d.la 0).cut ((ringB d (((d.la.length : Nat) : Int) - 2) (ldH d.p d.la 0).st).length + 1) (ringB d (((d.la.length : Nat) : Int) - 2) (ldH d.p d.la 0).st) (ldH d.p d.la 0).st (-1)
            have hF_ : (chainS ((ldH d.p d.la 0).ep) ((ldH d.p d.la 0).cut) ((ringB d (((d.la.length : Nat) : Int) - 2) (ldH d.p d.la 0).st).length + 1) (ringB d (((d.la.length : Nat) : Int) - 2) (ldH d.p d.la 0).st) ((ldH d.p d.la 0).st) (-1)).1.length = ((opC d (((d.la.length : Nat) : Int) - 2)).1).length := rfl
            let I57 : Nat → (Nat → Value) → World → Prop := fun n__ r__ w__ => ∃ (j : Nat) (va : Value) (ha : List Hp) (acc : List LEnt), n__ = ((chainS ((ldH d.p d.la 0).ep) ((ldH d.p d.la 0).cut) ((ringB d (((d.la.length : Nat) : Int) - 2) (ldH d.p d.la 0).st).length + 1) (ringB d (((d.la.length : Nat) : Int) - 2) (ldH d.p d.la 0).st) ((ldH d.p d.la 0).st) (-1)).1).length - j ∧ Has E w__ [ha, [Hp.one b51 (.cells #[(.int .i64 (ldH d.p d.la 0).seq), (.int .i64 (ldH d.p d.la 0).ep), (.int .i64 (ldH d.p d.la 0).cut), (.int .i64 (ldH d.p d.la 0).st), (.int .i64 (ldH d.p d.la 0).mrk), (.pointer (some ⟨db, 0, none⟩)), (.pointer (some ⟨ab3, 0, none⟩)), va, (.int .i64 ((chainS ((ldH d.p d.la 0).ep) ((ldH d.p d.la 0).cut) ((ringB d (((d.la.length : Nat) : Int) - 2) (ldH d.p d.la 0).st).length + 1) (ringB d (((d.la.length : Nat) : Int) - 2) (ldH d.p d.la 0).st) ((ldH d.p d.la 0).st) (-1)).2)), (.int .i64 ((((chainS ((ldH d.p d.la 0).ep) ((ldH d.p d.la 0).cut) ((ringB d (((d.la.length : Nat) : Int) - 2) (ldH d.p d.la 0).st).length + 1) (ringB d (((d.la.length : Nat) : Int) - 2) (ldH d.p d.la 0).st) ((ldH d.p d.la 0).st) (-1)).1).length : Nat) : Int)), (.int .i64 0), (.bool false), (.int .i64 0)] 175 (0, 0))], s37, sg, [Hp.one pb (.cells #[(.bool d.p.off), (.bool d.p.armed), (.int .i64 d.p.left), (.int .i64 d.p.uses)] 145 (0, 0))], [Hp.one ab3 (.cells #[(.pointer (some ⟨db, 0, none⟩)), (.int .i64 2), (.int .i64 (((d.la.length : Nat) : Int) - 2))] 265 (0, 0))], [Hp.one b14 (.cells #[(.int .i64 (ldH d.p d.la 0).seq), (.int .i64 (ldH d.p d.la 0).ep), (.int .i64 (ldH d.p d.la 0).cut), (.int .i64 (ldH d.p d.la 0).st), (.int .i64 (ldH d.p d.la 0).mrk)] 23 (0, 0))], R] ∧ (j ≤ ((chainS ((ldH d.p d.la 0).ep) ((ldH d.p d.la 0).cut) ((ringB d (((d.la.length : Nat) : Int) - 2) (ldH d.p d.la 0).st).length + 1) (ringB d (((d.la.length : Nat) : Int) - 2) (ldH d.p d.la 0).st) ((ldH d.p d.la 0).st) (-1)).1).length) ∧ (Own 42 3 va acc.length (acc.flatMap enC) ha) ∧ (acc = (((chainS ((ldH d.p d.la 0).ep) ((ldH d.p d.la 0).cut) ((ringB d (((d.la.length : Nat) : Int) - 2) (ldH d.p d.la 0).st).length + 1) (ringB d (((d.la.length : Nat) : Int) - 2) (ldH d.p d.la 0).st) ((ldH d.p d.la 0).st) (-1)).1).take j).map entF) ∧ (acc.length ≤ j) ∧ r__ 0 = (.pointer (some ⟨db, 0, none⟩)) ∧ r__ 2 = (.pointer none) ∧ r__ 3 = (.int .i64 0) ∧ r__ 4 = (.pointer (some ⟨ab3, 0, none⟩)) ∧ r__ 5 = (.int .i64 (0 : Int)) ∧ r__ 6 = (.pointer (some ⟨b14, 0, none⟩)) ∧ r__ 7 = (S (ringB d (((d.la.length : Nat) : Int) - 2) (ldH d.p d.la 0).st)) ∧ r__ 8 = v36 ∧ r__ 9 = (.int .i64 ((chainS ((ldH d.p d.la 0).ep) ((ldH d.p d.la 0).cut) ((ringB d (((d.la.length : Nat) : Int) - 2) (ldH d.p d.la 0).st).length + 1) (ringB d (((d.la.length : Nat) : Int) - 2) (ldH d.p d.la 0).st) ((ldH d.p d.la 0).st) (-1)).2)) ∧ r__ 10 = (.pointer (some ⟨b51, 0, none⟩)) ∧ r__ 19 = (.bool (decide ((0 : Int) ≠ 0))) ∧ r__ 27 = (.bool (decide (ldE d.p d.la 0 ≠ 0))) ∧ r__ 39 = (.bool (decide ((0 : Int) ≠ 0))) ∧ r__ 68 = (.bool (decide ((chainS ((ldH d.p d.la 0).ep) ((ldH d.p d.la 0).cut) ((ringB d (((d.la.length : Nat) : Int) - 2) (ldH d.p d.la 0).st).length + 1) (ringB d (((d.la.length : Nat) : Int) - 2) (ldH d.p d.la 0).st) ((ldH d.p d.la 0).st) (-1)).2 < (ldH d.p d.la 0).cut))) ∧ r__ 78 = v36 ∧ r__ 79 = (.int .i64 ((((chainS ((ldH d.p d.la 0).ep) ((ldH d.p d.la 0).cut) ((ringB d (((d.la.length : Nat) : Int) - 2) (ldH d.p d.la 0).st).length + 1) (ringB d (((d.la.length : Nat) : Int) - 2) (ldH d.p d.la 0).st) ((ldH d.p d.la 0).st) (-1)).1).length : Nat) : Int)) ∧ r__ 80 = (.int .i64 (j : Int))
            have hH58 : Has E w52 [[], [Hp.one b51 (.cells #[(.int .i64 (ldH d.p d.la 0).seq), (.int .i64 (ldH d.p d.la 0).ep), (.int .i64 (ldH d.p d.la 0).cut), (.int .i64 (ldH d.p d.la 0).st), (.int .i64 (ldH d.p d.la 0).mrk), (.pointer (some ⟨db, 0, none⟩)), (.pointer (some ⟨ab3, 0, none⟩)), (.slice none 0 0), (.int .i64 ((chainS ((ldH d.p d.la 0).ep) ((ldH d.p d.la 0).cut) ((ringB d (((d.la.length : Nat) : Int) - 2) (ldH d.p d.la 0).st).length + 1) (ringB d (((d.la.length : Nat) : Int) - 2) (ldH d.p d.la 0).st) ((ldH d.p d.la 0).st) (-1)).2)), (.int .i64 ((((chainS ((ldH d.p d.la 0).ep) ((ldH d.p d.la 0).cut) ((ringB d (((d.la.length : Nat) : Int) - 2) (ldH d.p d.la 0).st).length + 1) (ringB d (((d.la.length : Nat) : Int) - 2) (ldH d.p d.la 0).st) ((ldH d.p d.la 0).st) (-1)).1).length : Nat) : Int)), (.int .i64 0), (.bool false), (.int .i64 0)] 175 (0, 0))], s37, sg, [Hp.one pb (.cells #[(.bool d.p.off), (.bool d.p.armed), (.int .i64 d.p.left), (.int .i64 d.p.uses)] 145 (0, 0))], [Hp.one ab3 (.cells #[(.pointer (some ⟨db, 0, none⟩)), (.int .i64 2), (.int .i64 (((d.la.length : Nat) : Int) - 2))] 265 (0, 0))], [Hp.one b14 (.cells #[(.int .i64 (ldH d.p d.la 0).seq), (.int .i64 (ldH d.p d.la 0).ep), (.int .i64 (ldH d.p d.la 0).cut), (.int .i64 (ldH d.p d.la 0).st), (.int .i64 (ldH d.p d.la 0).mrk)] 23 (0, 0))], R] := Has.pick (Has.nil hH53) [0, 0, 0, 0, 0, 0, 0, 0] (by kernel_rfl)
            refine c_loop I57 _ ⟨0, (.slice none 0 0), [], ([] : List LEnt), rfl, hH58, Nat.zero_le _, Own.nil 42 3, rfl, (by simp), rfl, rfl, rfl, rfl, rfl, rfl, rfl, rfl, rfl, rfl, rfl, rfl, rfl, rfl, rfl, rfl, rfl⟩ ?_
            rintro n_ r61 w59 ⟨j, va, ha, acc, rfl, hH60, hj, hoa, hac, hal, e56_0, e56_2, e56_3, e56_4, e56_5, e56_6, e56_7, e56_8, e56_9, e56_10, e56_19, e56_27, e56_39, e56_68, e56_78, e56_79, e56_80⟩
            refine wp_seq_k fun K62 hK62 => ?_
            refine c_region ?_
            refine s_op (o_lss (a := (j : Int)) (b := ((((chainS ((ldH d.p d.la 0).ep) ((ldH d.p d.la 0).cut) ((ringB d (((d.la.length : Nat) : Int) - 2) (ldH d.p d.la 0).st).length + 1) (ringB d (((d.la.length : Nat) : Int) - 2) (ldH d.p d.la 0).st) ((ldH d.p d.la 0).st) (-1)).1).length : Nat) : Int)) e56_80 e56_79 ?_)
            refine s_nil ?_
            refine t_norm (hK62 _ _ ?_)
            refine wp_seq_k fun K63 hK63 => ?_
            refine c_cond rfl (fun h64 => ?_) (fun h64 => ?_)
            · -- (j : Int) < ((((chainS ((ldH d.p d.la 0).ep) ((ldH d.p d.la 0).cut) ((ringB d (((d.la.length : Nat) : Int) - 2) (ldH d.p d.la 0).st).length + 1) (ringB d (((d.la.length : Nat) : Int) - 2) (ldH d.p d.la 0).st) ((ldH d.p d.la 0).st) (-1)).1).length : Nat) : Int)
              refine wp_skip ?_
              refine t_norm (hK63 _ _ ?_)
              refine wp_seq_k fun K65 hK65 => ?_
              refine wp_block ?_
              refine wp_seq_k fun K66 hK66 => ?_
              refine c_region ?_
              obtain ⟨x70, hx71⟩ : ∃ x_, ((chainS ((ldH d.p d.la 0).ep) ((ldH d.p d.la 0).cut) ((ringB d (((d.la.length : Nat) : Int) - 2) (ldH d.p d.la 0).st).length + 1) (ringB d (((d.la.length : Nat) : Int) - 2) (ldH d.p d.la 0).st) ((ldH d.p d.la 0).st) (-1)).1)[((j : Int)).toNat]? = some x_ := get_some (by omega)
              refine s_op (o_indexF frC_len Tryz.underlying167 ti176 e56_78 ho38.sl rfl e56_80 (by omega) hx71 fun b67 o68 hc69 => ?_)
              refine s_op (o_loadN (cs := [(.int .i64 x70.ep), (.int .i64 x70.pl), (.int .i64 x70.gsn), (S x70.data)]) Tryz.underlying176 rfl ti176 rfl hH60 (seg_sub 2 rfl) hc69 ?_)
              refine s_op (o_alloc (cs := #[(.int .i64 0), (.int .i64 0), (.int .i64 0), (S ([] : List UInt8))]) ti176 rfl hH60 fun b72 w73 hH74 => ?_)
              refine s_eff (o_storeN (vs := [(.int .i64 x70.ep), (.int .i64 x70.pl), (.int .i64 x70.gsn), (S x70.data)]) (c' := #[(.int .i64 x70.ep), (.int .i64 x70.pl), (.int .i64 x70.gsn), (S x70.data)]) ti176 rfl rfl rfl rfl (by intro u hu; simp only [List.mem_cons, List.not_mem_nil, or_false] at hu; rcases hu with rfl | rfl | rfl | rfl <;> first | rfl) (by simp) (by kernel_rfl) (hH74.front 0 rfl) fun w75 hH76 => ?_)
              refine s_nil ?_
              refine t_norm (hK66 _ _ ?_)
              refine Rest.region mixed (by kernel_rfl) ?_
              have hH77 : Has E { w75 with drawn := w75.drawn + 1 } [[Hp.one b72 (.cells #[(.int .i64 x70.ep), (.int .i64 x70.pl), (.int .i64 x70.gsn), (S x70.data)] 176 (0, 0))], ha, [Hp.one b51 (.cells #[(.int .i64 (ldH d.p d.la 0).seq), (.int .i64 (ldH d.p d.la 0).ep), (.int .i64 (ldH d.p d.la 0).cut), (.int .i64 (ldH d.p d.la 0).st), (.int .i64 (ldH d.p d.la 0).mrk), (.pointer (some ⟨db, 0, none⟩)), (.pointer (some ⟨ab3, 0, none⟩)), va, (.int .i64 ((chainS ((ldH d.p d.la 0).ep) ((ldH d.p d.la 0).cut) ((ringB d (((d.la.length : Nat) : Int) - 2) (ldH d.p d.la 0).st).length + 1) (ringB d (((d.la.length : Nat) : Int) - 2) (ldH d.p d.la 0).st) ((ldH d.p d.la 0).st) (-1)).2)), (.int .i64 ((((chainS ((ldH d.p d.la 0).ep) ((ldH d.p d.la 0).cut) ((ringB d (((d.la.length : Nat) : Int) - 2) (ldH d.p d.la 0).st).length + 1) (ringB d (((d.la.length : Nat) : Int) - 2) (ldH d.p d.la 0).st) ((ldH d.p d.la 0).st) (-1)).1).length : Nat) : Int)), (.int .i64 0), (.bool false), (.int .i64 0)] 175 (0, 0))], s37, sg, [Hp.one pb (.cells #[(.bool d.p.off), (.bool d.p.armed), (.int .i64 d.p.left), (.int .i64 d.p.uses)] 145 (0, 0))], [Hp.one ab3 (.cells #[(.pointer (some ⟨db, 0, none⟩)), (.int .i64 2), (.int .i64 (((d.la.length : Nat) : Int) - 2))] 265 (0, 0))], [Hp.one b14 (.cells #[(.int .i64 (ldH d.p d.la 0).seq), (.int .i64 (ldH d.p d.la 0).ep), (.int .i64 (ldH d.p d.la 0).cut), (.int .i64 (ldH d.p d.la 0).st), (.int .i64 (ldH d.p d.la 0).mrk)] 23 (0, 0))], R] := Has0.drew hH76 _
              refine Rest.phaseA (fun w_ => Has E w_ [[Hp.one b72 (.cells #[(.int .i64 x70.ep), (.int .i64 x70.pl), (.int .i64 x70.gsn), (S x70.data)] 176 (0, 0))], [Hp.one b51 (.cells #[(.int .i64 (ldH d.p d.la 0).seq), (.int .i64 (ldH d.p d.la 0).ep), (.int .i64 (ldH d.p d.la 0).cut), (.int .i64 (ldH d.p d.la 0).st), (.int .i64 (ldH d.p d.la 0).mrk), (.pointer (some ⟨db, 0, none⟩)), (.pointer (some ⟨ab3, 0, none⟩)), va, (.int .i64 ((chainS ((ldH d.p d.la 0).ep) ((ldH d.p d.la 0).cut) ((ringB d (((d.la.length : Nat) : Int) - 2) (ldH d.p d.la 0).st).length + 1) (ringB d (((d.la.length : Nat) : Int) - 2) (ldH d.p d.la 0).st) ((ldH d.p d.la 0).st) (-1)).2)), (.int .i64 ((((chainS ((ldH d.p d.la 0).ep) ((ldH d.p d.la 0).cut) ((ringB d (((d.la.length : Nat) : Int) - 2) (ldH d.p d.la 0).st).length + 1) (ringB d (((d.la.length : Nat) : Int) - 2) (ldH d.p d.la 0).st) ((ldH d.p d.la 0).st) (-1)).1).length : Nat) : Int)), (.int .i64 0), (.bool false), (.int .i64 0)] 175 (0, 0))]]) 0 14 14 rfl (by decide) (by kernel_rfl) ?_
              refine a_op 0 rfl (by kernel_rfl) (fun w_ h_ => o_move (v := (.pointer (some ⟨b51, 0, none⟩))) e56_10 ⟨rfl, rfl⟩) ?_
              refine a_op 1 rfl (by kernel_rfl) (fun w_ h_ => o_move (v := (.pointer (some ⟨b51, 0, none⟩))) e56_10 ⟨rfl, rfl⟩) ?_
              refine a_op 2 rfl (by kernel_rfl) (fun w_ h_ => o_nilCheck rfl ⟨rfl, rfl⟩) ?_
              refine a_op 3 rfl (by kernel_rfl) (fun w_ h_ => o_fieldAddr (k := 7) (fun _ => by kernel_rfl) rfl ⟨rfl, rfl⟩) ?_
              refine a_op 4 rfl (by kernel_rfl) (fun w_ h_ => o_load1 (v := va) Tryz.underlying37 rfl rfl h_ (seg_sub 1 rfl) (CellsAt.one rfl) ⟨rfl, rfl⟩) ?_
              refine a_op 5 rfl (by kernel_rfl) (fun w_ h_ => o_fieldAddr (k := 2) (fun _ => by kernel_rfl) rfl ⟨rfl, rfl⟩) ?_
              refine a_op 6 rfl (by kernel_rfl) (fun w_ h_ => o_load1 (v := (.int .i64 x70.gsn)) Tryz.underlying3 rfl rfl h_ (seg_sub 0 rfl) (CellsAt.one rfl) ⟨rfl, rfl⟩) ?_
              refine a_op 7 rfl (by kernel_rfl) (fun w_ h_ => o_fieldAddr (k := 1) (fun _ => by kernel_rfl) rfl ⟨rfl, rfl⟩) ?_
              refine a_op 8 rfl (by kernel_rfl) (fun w_ h_ => o_load1 (v := (.int .i64 x70.pl)) Tryz.underlying3 rfl rfl h_ (seg_sub 0 rfl) (CellsAt.one rfl) ⟨rfl, rfl⟩) ?_
              refine a_op 9 rfl (by kernel_rfl) (fun w_ h_ => o_fieldAddr (k := 3) (fun _ => by kernel_rfl) rfl ⟨rfl, rfl⟩) ?_
              refine a_op 10 rfl (by kernel_rfl) (fun w_ h_ => o_load1 (v := (S x70.data)) Tryz.underlying9 rfl rfl h_ (seg_sub 0 rfl) (CellsAt.one rfl) ⟨rfl, rfl⟩) ?_
              refine a_op 11 rfl (by kernel_rfl) (fun w_ h_ => o_sight (v := (.agg #[(.int .i64 x70.gsn), (.int .i64 x70.pl), (S x70.data)])) (fun _ => by kernel_rfl) ⟨rfl, rfl⟩) ?_
              have hH78 : Has E { w75 with drawn := w75.drawn + 1 } [[Hp.one b72 (.cells #[(.int .i64 x70.ep), (.int .i64 x70.pl), (.int .i64 x70.gsn), (S x70.data)] 176 (0, 0))], [Hp.one b51 (.cells #[(.int .i64 (ldH d.p d.la 0).seq), (.int .i64 (ldH d.p d.la 0).ep), (.int .i64 (ldH d.p d.la 0).cut), (.int .i64 (ldH d.p d.la 0).st), (.int .i64 (ldH d.p d.la 0).mrk), (.pointer (some ⟨db, 0, none⟩)), (.pointer (some ⟨ab3, 0, none⟩)), va, (.int .i64 ((chainS ((ldH d.p d.la 0).ep) ((ldH d.p d.la 0).cut) ((ringB d (((d.la.length : Nat) : Int) - 2) (ldH d.p d.la 0).st).length + 1) (ringB d (((d.la.length : Nat) : Int) - 2) (ldH d.p d.la 0).st) ((ldH d.p d.la 0).st) (-1)).2)), (.int .i64 ((((chainS ((ldH d.p d.la 0).ep) ((ldH d.p d.la 0).cut) ((ringB d (((d.la.length : Nat) : Int) - 2) (ldH d.p d.la 0).st).length + 1) (ringB d (((d.la.length : Nat) : Int) - 2) (ldH d.p d.la 0).st) ((ldH d.p d.la 0).st) (-1)).1).length : Nat) : Int)), (.int .i64 0), (.bool false), (.int .i64 0)] 175 (0, 0))]] := ((hH77.front 2 rfl).front 1 rfl).first 2 rfl
              refine a_w 12 rfl (by kernel_rfl) hH78 (o_buildSlice (ps := #[(0, (.agg #[(.int .i64 x70.gsn), (.int .i64 x70.pl), (S x70.data)]))]) (cells := #[(.int .i64 x70.gsn), (.int .i64 x70.pl), (S x70.data)]) Tryz.underlying37 ti42 (by decide) (parts1 rfl) (by kernel_rfl) hH77 fun b79 w80 hH81 => ?_)
              have hH82 : Has E w80 [[Hp.one b72 (.cells #[(.int .i64 x70.ep), (.int .i64 x70.pl), (.int .i64 x70.gsn), (S x70.data)] 176 (0, 0))], [Hp.one b51 (.cells #[(.int .i64 (ldH d.p d.la 0).seq), (.int .i64 (ldH d.p d.la 0).ep), (.int .i64 (ldH d.p d.la 0).cut), (.int .i64 (ldH d.p d.la 0).st), (.int .i64 (ldH d.p d.la 0).mrk), (.pointer (some ⟨db, 0, none⟩)), (.pointer (some ⟨ab3, 0, none⟩)), va, (.int .i64 ((chainS ((ldH d.p d.la 0).ep) ((ldH d.p d.la 0).cut) ((ringB d (((d.la.length : Nat) : Int) - 2) (ldH d.p d.la 0).st).length + 1) (ringB d (((d.la.length : Nat) : Int) - 2) (ldH d.p d.la 0).st) ((ldH d.p d.la 0).st) (-1)).2)), (.int .i64 ((((chainS ((ldH d.p d.la 0).ep) ((ldH d.p d.la 0).cut) ((ringB d (((d.la.length : Nat) : Int) - 2) (ldH d.p d.la 0).st).length + 1) (ringB d (((d.la.length : Nat) : Int) - 2) (ldH d.p d.la 0).st) ((ldH d.p d.la 0).st) (-1)).1).length : Nat) : Int)), (.int .i64 0), (.bool false), (.int .i64 0)] 175 (0, 0))]] := ((hH81.front 3 rfl).front 2 rfl).first 2 rfl
              refine a_w 13 rfl (by kernel_rfl) hH82 (o_append Tryz.underlying37 ti42 rfl (by decide) rfl hoa rfl (sl_litF (f := enC) (l := [(LEnt.mk x70.gsn x70.pl x70.data)]) enC_len rfl rfl (by simp)) (hH81.front 2 rfl) (seg_sub 0 rfl) (one_enC _) (by simp only [List.length_cons, List.length_nil]; omega) (by simp only [List.length_cons, List.length_nil]; omega) fun v83 s84 w86 ho85 hH87 => ?_)
              have ho85 : Own 42 3 v83 (acc ++ [(LEnt.mk x70.gsn x70.pl x70.data)]).length ((acc ++ [(LEnt.mk x70.gsn x70.pl x70.data)]).flatMap enC) s84 := ho85.appF
              have hH88 : Has E w86 [[Hp.one b72 (.cells #[(.int .i64 x70.ep), (.int .i64 x70.pl), (.int .i64 x70.gsn), (S x70.data)] 176 (0, 0))], [Hp.one b51 (.cells #[(.int .i64 (ldH d.p d.la 0).seq), (.int .i64 (ldH d.p d.la 0).ep), (.int .i64 (ldH d.p d.la 0).cut), (.int .i64 (ldH d.p d.la 0).st), (.int .i64 (ldH d.p d.la 0).mrk), (.pointer (some ⟨db, 0, none⟩)), (.pointer (some ⟨ab3, 0, none⟩)), va, (.int .i64 ((chainS ((ldH d.p d.la 0).ep) ((ldH d.p d.la 0).cut) ((ringB d (((d.la.length : Nat) : Int) - 2) (ldH d.p d.la 0).st).length + 1) (ringB d (((d.la.length : Nat) : Int) - 2) (ldH d.p d.la 0).st) ((ldH d.p d.la 0).st) (-1)).2)), (.int .i64 ((((chainS ((ldH d.p d.la 0).ep) ((ldH d.p d.la 0).cut) ((ringB d (((d.la.length : Nat) : Int) - 2) (ldH d.p d.la 0).st).length + 1) (ringB d (((d.la.length : Nat) : Int) - 2) (ldH d.p d.la 0).st) ((ldH d.p d.la 0).st) (-1)).1).length : Nat) : Int)), (.int .i64 0), (.bool false), (.int .i64 0)] 175 (0, 0))]] := ((hH87.front 3 rfl).front 3 rfl).first 2 rfl
              refine a_done (by kernel_rfl) hH88 ?_
              refine r_op 14 rfl (by kernel_rfl) (o_nilCheck rfl ?_)
              refine r_op 15 rfl (by kernel_rfl) (o_fieldAddr (k := 7) (fun _ => by kernel_rfl) rfl ?_)
              refine r_eff 16 rfl (by kernel_rfl) (o_store1 (c' := #[(.int .i64 (ldH d.p d.la 0).seq), (.int .i64 (ldH d.p d.la 0).ep), (.int .i64 (ldH d.p d.la 0).cut), (.int .i64 (ldH d.p d.la 0).st), (.int .i64 (ldH d.p d.la 0).mrk), (.pointer (some ⟨db, 0, none⟩)), (.pointer (some ⟨ab3, 0, none⟩)), v83, (.int .i64 ((chainS ((ldH d.p d.la 0).ep) ((ldH d.p d.la 0).cut) ((ringB d (((d.la.length : Nat) : Int) - 2) (ldH d.p d.la 0).st).length + 1) (ringB d (((d.la.length : Nat) : Int) - 2) (ldH d.p d.la 0).st) ((ldH d.p d.la 0).st) (-1)).2)), (.int .i64 ((((chainS ((ldH d.p d.la 0).ep) ((ldH d.p d.la 0).cut) ((ringB d (((d.la.length : Nat) : Int) - 2) (ldH d.p d.la 0).st).length + 1) (ringB d (((d.la.length : Nat) : Int) - 2) (ldH d.p d.la 0).st) ((ldH d.p d.la 0).st) (-1)).1).length : Nat) : Int)), (.int .i64 0), (.bool false), (.int .i64 0)]) ti37 rfl rfl ho85.one (by simp) rfl (hH87.front 3 rfl) fun w89 hH90 => ?_)
              refine Rest.done (by kernel_rfl) ?_
              refine b_norm ?_
              refine t_norm (hK65 _ _ ?_)
              refine c_region ?_
              refine s_op (o_add (a := (j : Int)) (b := 1) e56_80 rfl (w64 (by omega) (by omega)) ?_)
              refine s_op (o_move (v := (.int .i64 ((j : Int) + 1))) rfl ?_)
              refine s_nil ?_
              have hH91 : Has E w89 [s84, [Hp.one b51 (.cells #[(.int .i64 (ldH d.p d.la 0).seq), (.int .i64 (ldH d.p d.la 0).ep), (.int .i64 (ldH d.p d.la 0).cut), (.int .i64 (ldH d.p d.la 0).st), (.int .i64 (ldH d.p d.la 0).mrk), (.pointer (some ⟨db, 0, none⟩)), (.pointer (some ⟨ab3, 0, none⟩)), v83, (.int .i64 ((chainS ((ldH d.p d.la 0).ep) ((ldH d.p d.la 0).cut) ((ringB d (((d.la.length : Nat) : Int) - 2) (ldH d.p d.la 0).st).length + 1) (ringB d (((d.la.length : Nat) : Int) - 2) (ldH d.p d.la 0).st) ((ldH d.p d.la 0).st) (-1)).2)), (.int .i64 ((((chainS ((ldH d.p d.la 0).ep) ((ldH d.p d.la 0).cut) ((ringB d (((d.la.length : Nat) : Int) - 2) (ldH d.p d.la 0).st).length + 1) (ringB d (((d.la.length : Nat) : Int) - 2) (ldH d.p d.la 0).st) ((ldH d.p d.la 0).st) (-1)).1).length : Nat) : Int)), (.int .i64 0), (.bool false), (.int .i64 0)] 175 (0, 0))], s37, sg, [Hp.one pb (.cells #[(.bool d.p.off), (.bool d.p.armed), (.int .i64 d.p.left), (.int .i64 d.p.uses)] 145 (0, 0))], [Hp.one ab3 (.cells #[(.pointer (some ⟨db, 0, none⟩)), (.int .i64 2), (.int .i64 (((d.la.length : Nat) : Int) - 2))] 265 (0, 0))], [Hp.one b14 (.cells #[(.int .i64 (ldH d.p d.la 0).seq), (.int .i64 (ldH d.p d.la 0).ep), (.int .i64 (ldH d.p d.la 0).cut), (.int .i64 (ldH d.p d.la 0).st), (.int .i64 (ldH d.p d.la 0).mrk)] 23 (0, 0))], R] := Has.pick hH90 [1, 0, 2, 2, 2, 2, 2, 2] (by kernel_rfl)
              refine t_norm ⟨((chainS ((ldH d.p d.la 0).ep) ((ldH d.p d.la 0).cut) ((ringB d (((d.la.length : Nat) : Int) - 2) (ldH d.p d.la 0).st).length + 1) (ringB d (((d.la.length : Nat) : Int) - 2) (ldH d.p d.la 0).st) ((ldH d.p d.la 0).st) (-1)).1).length - (j + 1), _, rfl, ?_, ?_⟩
              · omega
              · exact ⟨(j + 1), v83, s84, (acc ++ [(LEnt.mk x70.gsn x70.pl x70.data)]), rfl, hH91, (by omega), (ho85), (by rw [take_succ_of (show (chainS ((ldH d.p d.la 0).ep) ((ldH d.p d.la 0).cut) ((ringB d (((d.la.length : Nat) : Int) - 2) (ldH d.p d.la 0).st).length + 1) (ringB d (((d.la.length : Nat) : Int) - 2) (ldH d.p d.la 0).st) ((ldH d.p d.la 0).st) (-1)).1[j]? = some _ from hx71), ent_snoc, ← hac]; rfl), (by simp only [List.length_append, List.length_cons, List.length_nil]; omega), e56_0, e56_2, e56_3, e56_4, e56_5, e56_6, e56_7, e56_8, e56_9, e56_10, e56_19, e56_27, e56_39, e56_68, e56_78, e56_79, rfl⟩
            · -- not: (j : Int) < ((((chainS ((ldH d.p d.la 0).ep) ((ldH d.p d.la 0).cut) ((ringB d (((d.la.length : Nat) : Int) - 2) (ldH d.p d.la 0).st).length + 1) (ringB d (((d.la.length : Nat) : Int) - 2) (ldH d.p d.la 0).st) ((ldH d.p d.la 0).st) (-1)).1).length : Nat) : Int)
              refine wp_exit ?_
              refine t_exit (t_exit (x_in (?_)))
              refine t_norm (hK54 _ _ ?_)
              refine wp_seq_k fun K92 hK92 => ?_
              refine c_region ?_
              refine s_op (o_move (v := (.pointer (some ⟨b51, 0, none⟩))) e56_10 ?_)
              refine s_op (o_assign (v := (.pointer (some ⟨b51, 0, none⟩))) rfl ?_)
              refine s_op (o_assign (v := (.int .i64 0)) rfl ?_)
              refine s_nil ?_
              refine t_norm (hK92 _ _ ?_)
              refine wp_ret ?_
              refine c_ret2 Tryz.results16  (v := (.pointer (some ⟨b51, 0, none⟩))) rfl (x := (.int .i64 0)) rfl ?_
              have hH93 : Has E w59 [([Hp.one b51 (.cells #[(.int .i64 (ldH d.p d.la 0).seq), (.int .i64 (ldH d.p d.la 0).ep), (.int .i64 (ldH d.p d.la 0).cut), (.int .i64 (ldH d.p d.la 0).st), (.int .i64 (ldH d.p d.la 0).mrk), (.pointer (some ⟨db, 0, none⟩)), (.pointer (some ⟨ab3, 0, none⟩)), va, (.int .i64 ((chainS ((ldH d.p d.la 0).ep) ((ldH d.p d.la 0).cut) ((ringB d (((d.la.length : Nat) : Int) - 2) (ldH d.p d.la 0).st).length + 1) (ringB d (((d.la.length : Nat) : Int) - 2) (ldH d.p d.la 0).st) ((ldH d.p d.la 0).st) (-1)).2)), (.int .i64 ((((chainS ((ldH d.p d.la 0).ep) ((ldH d.p d.la 0).cut) ((ringB d (((d.la.length : Nat) : Int) - 2) (ldH d.p d.la 0).st).length + 1) (ringB d (((d.la.length : Nat) : Int) - 2) (ldH d.p d.la 0).st) ((ldH d.p d.la 0).st) (-1)).1).length : Nat) : Int)), (.int .i64 0), (.bool false), (.int .i64 0)] 175 (0, 0))] ++ ha), s37, sg, [Hp.one pb (.cells #[(.bool d.p.off), (.bool d.p.armed), (.int .i64 d.p.left), (.int .i64 d.p.uses)] 145 (0, 0))], [Hp.one ab3 (.cells #[(.pointer (some ⟨db, 0, none⟩)), (.int .i64 2), (.int .i64 (((d.la.length : Nat) : Int) - 2))] 265 (0, 0))], [Hp.one b14 (.cells #[(.int .i64 (ldH d.p d.la 0).seq), (.int .i64 (ldH d.p d.la 0).ep), (.int .i64 (ldH d.p d.la 0).cut), (.int .i64 (ldH d.p d.la 0).st), (.int .i64 (ldH d.p d.la 0).mrk)] 23 (0, 0))], R] := Has.cl2 (hH60.front 1 rfl)
              have hd94 : StmAt db ab3 b51 ([Hp.one b51 (.cells #[(.int .i64 (ldH d.p d.la 0).seq), (.int .i64 (ldH d.p d.la 0).ep), (.int .i64 (ldH d.p d.la 0).cut), (.int .i64 (ldH d.p d.la 0).st), (.int .i64 (ldH d.p d.la 0).mrk), (.pointer (some ⟨db, 0, none⟩)), (.pointer (some ⟨ab3, 0, none⟩)), va, (.int .i64 ((chainS ((ldH d.p d.la 0).ep) ((ldH d.p d.la 0).cut) ((ringB d (((d.la.length : Nat) : Int) - 2) (ldH d.p d.la 0).st).length + 1) (ringB d (((d.la.length : Nat) : Int) - 2) (ldH d.p d.la 0).st) ((ldH d.p d.la 0).st) (-1)).2)), (.int .i64 ((((chainS ((ldH d.p d.la 0).ep) ((ldH d.p d.la 0).cut) ((ringB d (((d.la.length : Nat) : Int) - 2) (ldH d.p d.la 0).st).length + 1) (ringB d (((d.la.length : Nat) : Int) - 2) (ldH d.p d.la 0).st) ((ldH d.p d.la 0).st) (-1)).1).length : Nat) : Int)), (.int .i64 0), (.bool false), (.int .i64 0)] 175 (0, 0))] ++ ha) (⟨(ldH d.p d.la 0).seq, (ldH d.p d.la 0).ep, (ldH d.p d.la 0).cut, (ldH d.p d.la 0).st, (ldH d.p d.la 0).mrk, acc, (chainS ((ldH d.p d.la 0).ep) ((ldH d.p d.la 0).cut) ((ringB d (((d.la.length : Nat) : Int) - 2) (ldH d.p d.la 0).st).length + 1) (ringB d (((d.la.length : Nat) : Int) - 2) (ldH d.p d.la 0).st) ((ldH d.p d.la 0).st) (-1)).2, ((((chainS ((ldH d.p d.la 0).ep) ((ldH d.p d.la 0).cut) ((ringB d (((d.la.length : Nat) : Int) - 2) (ldH d.p d.la 0).st).length + 1) (ringB d (((d.la.length : Nat) : Int) - 2) (ldH d.p d.la 0).st) ((ldH d.p d.la 0).st) (-1)).1).length : Nat) : Int), 0, false, 0⟩ : StmS) := StmAt.mk (v := (⟨(ldH d.p d.la 0).seq, (ldH d.p d.la 0).ep, (ldH d.p d.la 0).cut, (ldH d.p d.la 0).st, (ldH d.p d.la 0).mrk, acc, (chainS ((ldH d.p d.la 0).ep) ((ldH d.p d.la 0).cut) ((ringB d (((d.la.length : Nat) : Int) - 2) (ldH d.p d.la 0).st).length + 1) (ringB d (((d.la.length : Nat) : Int) - 2) (ldH d.p d.la 0).st) ((ldH d.p d.la 0).st) (-1)).2, ((((chainS ((ldH d.p d.la 0).ep) ((ldH d.p d.la 0).cut) ((ringB d (((d.la.length : Nat) : Int) - 2) (ldH d.p d.la 0).st).length + 1) (ringB d (((d.la.length : Nat) : Int) - 2) (ldH d.p d.la 0).st) ((ldH d.p d.la 0).st) (-1)).1).length : Nat) : Int), 0, false, 0⟩ : StmS)) (.inl hoa)
              have hH95 : Has E w59 [([Hp.one b51 (.cells #[(.int .i64 (ldH d.p d.la 0).seq), (.int .i64 (ldH d.p d.la 0).ep), (.int .i64 (ldH d.p d.la 0).cut), (.int .i64 (ldH d.p d.la 0).st), (.int .i64 (ldH d.p d.la 0).mrk), (.pointer (some ⟨db, 0, none⟩)), (.pointer (some ⟨ab3, 0, none⟩)), va, (.int .i64 ((chainS ((ldH d.p d.la 0).ep) ((ldH d.p d.la 0).cut) ((ringB d (((d.la.length : Nat) : Int) - 2) (ldH d.p d.la 0).st).length + 1) (ringB d (((d.la.length : Nat) : Int) - 2) (ldH d.p d.la 0).st) ((ldH d.p d.la 0).st) (-1)).2)), (.int .i64 ((((chainS ((ldH d.p d.la 0).ep) ((ldH d.p d.la 0).cut) ((ringB d (((d.la.length : Nat) : Int) - 2) (ldH d.p d.la 0).st).length + 1) (ringB d (((d.la.length : Nat) : Int) - 2) (ldH d.p d.la 0).st) ((ldH d.p d.la 0).st) (-1)).1).length : Nat) : Int)), (.int .i64 0), (.bool false), (.int .i64 0)] 175 (0, 0))] ++ ha), [Hp.one ab3 (.cells #[(.pointer (some ⟨db, 0, none⟩)), (.int .i64 2), (.int .i64 (((d.la.length : Nat) : Int) - 2))] 265 (0, 0))], sg, [Hp.one pb (.cells #[(.bool d.p.off), (.bool d.p.armed), (.int .i64 d.p.left), (.int .i64 d.p.uses)] 145 (0, 0))], R] := (((((hH93.front 6 rfl).front 4 rfl).front 4 rfl).front 5 rfl).front 4 rfl).first 5 rfl
              have ho_ : opE d (((d.la.length : Nat) : Int) - 2) = 0 := opE_ok (Classical.not_not.1 h21) (fun k_ => by rcases k_ with k_ | k_ | k_; exact h44 k_; exact h46 k_; exact h48 k_)
              have hac2_ : acc = ((chainS ((ldH d.p d.la 0).ep) ((ldH d.p d.la 0).cut) ((ringB d (((d.la.length : Nat) : Int) - 2) (ldH d.p d.la 0).st).length + 1) (ringB d (((d.la.length : Nat) : Int) - 2) (ldH d.p d.la 0).st) ((ldH d.p d.la 0).st) (-1)).1).map entF := by rw [hac, List.take_of_length_le (by omega)]
              subst hac2_
              exact ⟨_, _, _, _, rfl, hd, hd94, hH95⟩
set_option maxHeartbeats 4000000 in
theorem sopen_err {E w : World} {R sg : List Hp} {pb db : Nat} {d : Dv} (hH : Has E w [sg, [Hp.one pb (.cells #[(.bool d.p.off), (.bool d.p.armed), (.int .i64 d.p.left), (.int .i64 d.p.uses)] 145 (0, 0))], R]) (hd : DevAt pb sg db d.la d.lo) (h4 : d.la.length ≤ 4096) (h3 : 3 ≤ d.la.length) (hon : d.p.off = false) (h64 : Full64 d.la) (hlo : d.lo = []) (hg : CellsAt R 0 0 nibV) (hm : opE d (((d.la.length : Nat) : Int) - 2) ≠ 0) :
    Calls Tryz.prog 16 #[(.pointer (some ⟨db, 0, none⟩))] w fun e w' => e = .returned (.tuple #[.pointer none, .int .i64 (opE d (((d.la.length : Nat) : Int) - 2))]) ∧ Has E w' [sg, [Hp.one pb (.cells #[(.bool d.p.off), (.bool d.p.armed), (.int .i64 d.p.left), (.int .i64 d.p.uses)] 145 (0, 0))], R] := by
  have hd0_ : DevAt pb sg db d.la [] := by rw [← hlo]; exact hd
  have hlk : LoOk d.lo d.la.length := by rw [hlo]; exact LoOk.nil _
  refine c_enter (args := [(.pointer (some ⟨db, 0, none⟩))]) Tryz.func16 rfl Tryz.ntmps16 (by simp) ?_
  refine wp_seq_k fun K1 hK1 => ?_
  refine c_region ?_
  refine s_op (o_assign (v := (.pointer none)) rfl ?_)
  refine s_op (o_assign (v := (.int .i64 0)) rfl ?_)
  refine s_nil ?_
  refine t_norm (hK1 _ _ ?_)
  refine wp_seq_k fun K2 hK2 => ?_
  refine c_region ?_
  refine s_op (o_move (v := (.pointer (some ⟨db, 0, none⟩))) rfl ?_)
  refine s_op (o_callf (vs := #[(.pointer (some ⟨db, 0, none⟩))]) ca96 rfl (args1 rfl) (sbegin_ok ((hH.front 1 rfl).front 1 rfl).all2 hd h4 h3 hon) ?_)
  rintro _ w6 ⟨ab3, rfl, hX4⟩
  refine ⟨_, rfl, ?_⟩
  have hH5 : Has E w6 [[Hp.one ab3 (.cells #[(.pointer (some ⟨db, 0, none⟩)), (.int .i64 2), (.int .i64 (((d.la.length : Nat) : Int) - 2))] 265 (0, 0))], sg, [Hp.one pb (.cells #[(.bool d.p.off), (.bool d.p.armed), (.int .i64 d.p.left), (.int .i64 d.p.uses)] 145 (0, 0))], R] := hX4.of_all3
  refine s_op (o_move (v := (.tuple #[(.pointer (some ⟨ab3, 0, none⟩)), (.int .i64 (0 : Int))])) rfl ?_)
  refine s_op (o_extract (v := (.pointer (some ⟨ab3, 0, none⟩))) rfl rfl ?_)
  refine s_op (o_extract (v := (.int .i64 (0 : Int))) rfl rfl ?_)
  refine s_op (o_assign (v := (.pointer (some ⟨ab3, 0, none⟩))) rfl ?_)
  refine s_op (o_assign (v := (.int .i64 (0 : Int))) rfl ?_)
  refine s_nil ?_
  refine t_norm (hK2 _ _ ?_)
  refine wp_seq_k fun K7 hK7 => ?_
  refine wp_seq_k fun K8 hK8 => ?_
  refine c_region ?_
  refine s_op (o_move (v := (.int .i64 (0 : Int))) rfl ?_)
  refine s_op (o_neq (a := (0 : Int)) (b := 0) rfl rfl ?_)
  refine s_nil ?_
  refine t_norm (hK8 _ _ ?_)
  refine c_cond rfl (fun h9 => ?_) (fun h9 => ?_)
  · -- (0 : Int) ≠ 0
    exact absurd h9 (by decide)
  · -- not: (0 : Int) ≠ 0
    refine wp_skip ?_
    refine t_norm (hK7 _ _ ?_)
    refine wp_seq_k fun K10 hK10 => ?_
    refine c_region ?_
    refine s_op (o_move (v := (.pointer (some ⟨db, 0, none⟩))) rfl ?_)
    refine s_op (o_callf (vs := #[(.pointer (some ⟨db, 0, none⟩)), (.int .i64 0)]) ca97 rfl (args2 rfl rfl) (hload_c (p := d.p) (la := d.la) ((hH5.front 2 rfl).front 2 rfl).all2 hd0_ (hg.mono (seg_sub 1 rfl)) h64 h4 0) ?_)
    rintro _ w13 ⟨rfl, hX11⟩
    refine ⟨_, rfl, ?_⟩
    have hH12 : Has E w13 [sg, [Hp.one pb (.cells #[(.bool d.p.off), (.bool d.p.armed), (.int .i64 d.p.left), (.int .i64 d.p.uses)] 145 (0, 0))], [Hp.one ab3 (.cells #[(.pointer (some ⟨db, 0, none⟩)), (.int .i64 2), (.int .i64 (((d.la.length : Nat) : Int) - 2))] 265 (0, 0))], R] := hX11.of_all2
    refine s_op (o_move (v := (.tuple #[(.agg #[(.int .i64 (ldH d.p d.la 0).seq), (.int .i64 (ldH d.p d.la 0).ep), (.int .i64 (ldH d.p d.la 0).cut), (.int .i64 (ldH d.p d.la 0).st), (.int .i64 (ldH d.p d.la 0).mrk)]), (.int .i64 (ldE d.p d.la 0))])) rfl ?_)
    refine s_op (o_extract (v := (.agg #[(.int .i64 (ldH d.p d.la 0).seq), (.int .i64 (ldH d.p d.la 0).ep), (.int .i64 (ldH d.p d.la 0).cut), (.int .i64 (ldH d.p d.la 0).st), (.int .i64 (ldH d.p d.la 0).mrk)])) rfl rfl ?_)
    refine s_op (o_extract (v := (.int .i64 (ldE d.p d.la 0))) rfl rfl ?_)
    refine s_op (o_alloc (cs := #[(.int .i64 0), (.int .i64 0), (.int .i64 0), (.int .i64 0), (.int .i64 0)]) ti23 rfl hH12 fun b14 w15 hH16 => ?_)
    refine s_eff (o_storeN (vs := [(.int .i64 (ldH d.p d.la 0).seq), (.int .i64 (ldH d.p d.la 0).ep), (.int .i64 (ldH d.p d.la 0).cut), (.int .i64 (ldH d.p d.la 0).st), (.int .i64 (ldH d.p d.la 0).mrk)]) (c' := #[(.int .i64 (ldH d.p d.la 0).seq), (.int .i64 (ldH d.p d.la 0).ep), (.int .i64 (ldH d.p d.la 0).cut), (.int .i64 (ldH d.p d.la 0).st), (.int .i64 (ldH d.p d.la 0).mrk)]) ti23 rfl rfl rfl rfl (by intro u hu; simp only [List.mem_cons, List.not_mem_nil, or_false] at hu; rcases hu with rfl | rfl | rfl | rfl | rfl <;> first | rfl) (by simp) (by kernel_rfl) (hH16.front 0 rfl) fun w17 hH18 => ?_)
    refine s_op (o_assign (v := (.int .i64 (ldE d.p d.la 0))) rfl ?_)
    refine s_nil ?_
    refine t_norm (hK10 _ _ ?_)
    refine wp_seq_k fun K19 hK19 => ?_
    refine wp_seq_k fun K20 hK20 => ?_
    refine c_region ?_
    refine s_op (o_move (v := (.int .i64 (ldE d.p d.la 0))) rfl ?_)
    refine s_op (o_neq (a := ldE d.p d.la 0) (b := 0) rfl rfl ?_)
    refine s_nil ?_
    refine t_norm (hK20 _ _ ?_)
    refine c_cond rfl (fun h21 => ?_) (fun h21 => ?_)
    · -- ldE d.p d.la 0 ≠ 0
      refine wp_seq_k fun K22 hK22 => ?_
      refine c_region ?_
      refine s_op (o_move (v := (.int .i64 (ldE d.p d.la 0))) rfl ?_)
      refine s_op (o_assign (v := (.pointer none)) rfl ?_)
      refine s_op (o_assign (v := (.int .i64 (ldE d.p d.la 0))) rfl ?_)
      refine s_nil ?_
      refine t_norm (hK22 _ _ ?_)
      refine wp_ret ?_
      refine t_ret (c_ret2 Tryz.results16  (v := (.pointer none)) rfl (x := (.int .i64 (ldE d.p d.la 0))) rfl ?_)
      have hH23 : Has E w17 [sg, [Hp.one pb (.cells #[(.bool d.p.off), (.bool d.p.armed), (.int .i64 d.p.left), (.int .i64 d.p.uses)] 145 (0, 0))], R] := (((hH18.front 4 rfl).front 3 rfl).front 3 rfl).first 3 rfl
      have ho_ : opE d (((d.la.length : Nat) : Int) - 2) = ldE d.p d.la 0 := opE_ld h21
      exact ⟨by rw [ho_], hH23⟩
    · -- not: ldE d.p d.la 0 ≠ 0
      refine wp_skip ?_
      refine t_norm (hK19 _ _ ?_)
      refine wp_seq_k fun K24 hK24 => ?_
      refine Rest.region mixed (by kernel_rfl) ?_
      have hH25 : Has E { w17 with drawn := w17.drawn + 1 } [[Hp.one b14 (.cells #[(.int .i64 (ldH d.p d.la 0).seq), (.int .i64 (ldH d.p d.la 0).ep), (.int .i64 (ldH d.p d.la 0).cut), (.int .i64 (ldH d.p d.la 0).st), (.int .i64 (ldH d.p d.la 0).mrk)] 23 (0, 0))], sg, [Hp.one pb (.cells #[(.bool d.p.off), (.bool d.p.armed), (.int .i64 d.p.left), (.int .i64 d.p.uses)] 145 (0, 0))], [Hp.one ab3 (.cells #[(.pointer (some ⟨db, 0, none⟩)), (.int .i64 2), (.int .i64 (((d.la.length : Nat) : Int) - 2))] 265 (0, 0))], R] := Has0.drew hH18 _
      refine Rest.phaseA (fun w_ => Has E w_ [[Hp.one b14 (.cells #[(.int .i64 (ldH d.p d.la 0).seq), (.int .i64 (ldH d.p d.la 0).ep), (.int .i64 (ldH d.p d.la 0).cut), (.int .i64 (ldH d.p d.la 0).st), (.int .i64 (ldH d.p d.la 0).mrk)] 23 (0, 0))]]) 0 5 5 rfl (by decide) (by kernel_rfl) ?_
      refine a_op 0 rfl (by kernel_rfl) (fun w_ h_ => o_move (v := (.pointer (some ⟨ab3, 0, none⟩))) rfl ⟨rfl, rfl⟩) ?_
      refine a_op 1 rfl (by kernel_rfl) (fun w_ h_ => o_fieldAddr (k := 3) (fun _ => by kernel_rfl) rfl ⟨rfl, rfl⟩) ?_
      refine a_op 2 rfl (by kernel_rfl) (fun w_ h_ => o_load1 (v := (.int .i64 (ldH d.p d.la 0).st)) Tryz.underlying3 rfl rfl h_ (seg_sub 0 rfl) (CellsAt.one rfl) ⟨rfl, rfl⟩) ?_
      refine a_op 3 rfl (by kernel_rfl) (fun w_ h_ => o_move (v := (.pointer (some ⟨ab3, 0, none⟩))) rfl ⟨rfl, rfl⟩) ?_
      have hH26 : Has E { w17 with drawn := w17.drawn + 1 } [[Hp.one b14 (.cells #[(.int .i64 (ldH d.p d.la 0).seq), (.int .i64 (ldH d.p d.la 0).ep), (.int .i64 (ldH d.p d.la 0).cut), (.int .i64 (ldH d.p d.la 0).st), (.int .i64 (ldH d.p d.la 0).mrk)] 23 (0, 0))]] := hH25.first 1 rfl
      refine a_w 4 rfl (by kernel_rfl) hH26 (o_callf (vs := #[(.pointer (some ⟨ab3, 0, none⟩))]) ca99 rfl (args1 rfl) (alen_c (hH25.front 3 rfl).all1 ⟨by omega, by omega⟩) ?_)
      rintro _ w29 ⟨rfl, hX27⟩
      refine ⟨_, rfl, ?_⟩
      have hH28 : Has E w29 [[Hp.one ab3 (.cells #[(.pointer (some ⟨db, 0, none⟩)), (.int .i64 2), (.int .i64 (((d.la.length : Nat) : Int) - 2))] 265 (0, 0))], [Hp.one b14 (.cells #[(.int .i64 (ldH d.p d.la 0).seq), (.int .i64 (ldH d.p d.la 0).ep), (.int .i64 (ldH d.p d.la 0).cut), (.int .i64 (ldH d.p d.la 0).st), (.int .i64 (ldH d.p d.la 0).mrk)] 23 (0, 0))], sg, [Hp.one pb (.cells #[(.bool d.p.off), (.bool d.p.armed), (.int .i64 d.p.left), (.int .i64 d.p.uses)] 145 (0, 0))], R] := hX27.of_all1
      have hH30 : Has E w29 [[Hp.one b14 (.cells #[(.int .i64 (ldH d.p d.la 0).seq), (.int .i64 (ldH d.p d.la 0).ep), (.int .i64 (ldH d.p d.la 0).cut), (.int .i64 (ldH d.p d.la 0).st), (.int .i64 (ldH d.p d.la 0).mrk)] 23 (0, 0))]] := (hH28.front 1 rfl).first 1 rfl
      refine a_done (by kernel_rfl) hH30 ?_
      obtain ⟨hR1_, hR2_, hR3_, hR4_, hR5_⟩ := of_decide_eq_true (ld_R (Classical.not_not.1 h21))
      have hbl_ : (ringB d (((d.la.length : Nat) : Int) - 2) (ldH d.p d.la 0).st).length = ((((d.la.length : Nat) : Int) - 2) * 64).toNat := ringB_len h64 hlk (by omega) (by omega)
      refine r_op 5 rfl (by kernel_rfl) (o_callf (vs := #[(.pointer (some ⟨ab3, 0, none⟩)), (.int .i64 (ldH d.p d.la 0).st), (.int .i64 ((((d.la.length : Nat) : Int) - 2) * 64))]) ca98 rfl (args3 rfl rfl rfl) (dget_c (d := d) (fr := 2) (n := ((d.la.length : Nat) : Int) - 2) ((hH28.front 3 rfl).front 3 rfl).all3 hd h4 h64 hlk (by omega) (by omega) (by omega) hon (at_ := (ldH d.p d.la 0).st) ⟨by omega, by omega⟩ (size := (((d.la.length : Nat) : Int) - 2) * 64) ⟨by omega, by omega⟩) ?_)
      rintro _ w33 ⟨rfl, hX31⟩
      refine ⟨_, rfl, ?_⟩
      have hH32 : Has E w33 [sg, [Hp.one pb (.cells #[(.bool d.p.off), (.bool d.p.armed), (.int .i64 d.p.left), (.int .i64 d.p.uses)] 145 (0, 0))], [Hp.one ab3 (.cells #[(.pointer (some ⟨db, 0, none⟩)), (.int .i64 2), (.int .i64 (((d.la.length : Nat) : Int) - 2))] 265 (0, 0))], [Hp.one b14 (.cells #[(.int .i64 (ldH d.p d.la 0).seq), (.int .i64 (ldH d.p d.la 0).ep), (.int .i64 (ldH d.p d.la 0).cut), (.int .i64 (ldH d.p d.la 0).st), (.int .i64 (ldH d.p d.la 0).mrk)] 23 (0, 0))], R] := hX31.of_all3
      refine r_op 6 rfl (by kernel_rfl) (o_move (v := (.tuple #[(S (ringB d (((d.la.length : Nat) : Int) - 2) (ldH d.p d.la 0).st)), (.int .i64 (0 : Int))])) rfl ?_)
      refine Rest.phaseA (fun w_ => Has E w_ []) 7 10 3 rfl (by decide) (by kernel_rfl) ?_
      refine a_op 7 rfl (by kernel_rfl) (fun w_ h_ => o_extract (v := (S (ringB d (((d.la.length : Nat) : Int) - 2) (ldH d.p d.la 0).st))) rfl rfl ⟨rfl, rfl⟩) ?_
      refine a_op 8 rfl (by kernel_rfl) (fun w_ h_ => o_extract (v := (.int .i64 (0 : Int))) rfl rfl ⟨rfl, rfl⟩) ?_
      refine a_op 9 rfl (by kernel_rfl) (fun w_ h_ => o_assign (v := (S (ringB d (((d.la.length : Nat) : Int) - 2) (ldH d.p d.la 0).st))) rfl ⟨rfl, rfl⟩) ?_
      have hH34 : Has E w33 [] := hH32.first 0 rfl
      refine a_done (by kernel_rfl) hH34 ?_
      refine r_op 10 rfl (by kernel_rfl) (o_assign (v := (.int .i64 (0 : Int))) rfl ?_)
      refine Rest.done (by kernel_rfl) ?_
      refine t_norm (hK24 _ _ ?_)
      refine wp_seq_k fun K35 hK35 => ?_
      refine wp_seq_k fun K36 hK36 => ?_
      refine c_region ?_
      refine s_op (o_move (v := (.int .i64 (0 : Int))) rfl ?_)
      refine s_op (o_neq (a := (0 : Int)) (b := 0) rfl rfl ?_)
      refine s_nil ?_
      refine t_norm (hK36 _ _ ?_)
      refine c_false rfl (decide_eq_false h9) ?_
      refine wp_skip ?_
      refine t_norm (hK35 _ _ ?_)
      refine wp_seq_k fun K37 hK37 => ?_
      refine c_region ?_
      refine s_op (o_fieldAddr (k := 1) (fun _ => by kernel_rfl) rfl ?_)
      refine s_op (o_load1 (v := (.int .i64 (ldH d.p d.la 0).ep)) Tryz.underlying3 rfl rfl hH32 (seg_sub 3 rfl) (CellsAt.one rfl) ?_)
      refine s_op (o_fieldAddr (k := 2) (fun _ => by kernel_rfl) rfl ?_)
      refine s_op (o_load1 (v := (.int .i64 (ldH d.p d.la 0).cut)) Tryz.underlying3 rfl rfl hH32 (seg_sub 3 rfl) (CellsAt.one rfl) ?_)
      refine s_op (o_sight (v := (.agg #[(.int .i64 (ldH d.p d.la 0).ep), (.int .i64 (ldH d.p d.la 0).cut)])) (fun _ => by kernel_rfl) ?_)
      refine s_op (o_move (v := (S (ringB d (((d.la.length : Nat) : Int) - 2) (ldH d.p d.la 0).st))) rfl ?_)
      refine s_op (o_fieldAddr (k := 3) (fun _ => by kernel_rfl) rfl ?_)
      refine s_op (o_load1 (v := (.int .i64 (ldH d.p d.la 0).st)) Tryz.underlying3 rfl rfl hH32 (seg_sub 3 rfl) (CellsAt.one rfl) ?_)
      refine s_op (o_callf (vs := #[(.agg #[(.int .i64 (ldH d.p d.la 0).ep), (.int .i64 (ldH d.p d.la 0).cut)]), (S (ringB d (((d.la.length : Nat) : Int) - 2) (ldH d.p d.la 0).st)), (.int .i64 (ldH d.p d.la 0).st), (.int .i64 (-1))]) ca100 rfl (args4 rfl rfl rfl rfl) (chain_c hH32.all (hg.mono (seg_sub 4 rfl)) (ringB d (((d.la.length : Nat) : Int) - 2) (ldH d.p d.la 0).st) (by omega) ((ldH d.p d.la 0).ep) ((ldH d.p d.la 0).cut) ((ldH d.p d.la 0).st) (-1) (by omega)) ?_)
      rintro _ w43 ⟨v38, s39, rfl, ho40, hX41⟩
      refine ⟨_, rfl, ?_⟩
      have hH42 : Has E w43 [s39, sg, [Hp.one pb (.cells #[(.bool d.p.off), (.bool d.p.armed), (.int .i64 d.p.left), (.int .i64 d.p.uses)] 145 (0, 0))], [Hp.one ab3 (.cells #[(.pointer (some ⟨db, 0, none⟩)), (.int .i64 2), (.int .i64 (((d.la.length : Nat) : Int) - 2))] 265 (0, 0))], [Hp.one b14 (.cells #[(.int .i64 (ldH d.p d.la 0).seq), (.int .i64 (ldH d.p d.la 0).ep), (.int .i64 (ldH d.p d.la 0).cut), (.int .i64 (ldH d.p d.la 0).st), (.int .i64 (ldH d.p d.la 0).mrk)] 23 (0, 0))], R] := hX41.of_all1
      refine s_op (o_move (v := (.tuple #[v38, (.int .i64 ((chainS ((ldH d.p d.la 0).ep) ((ldH d.p d.la 0).cut) ((ringB d (((d.la.length : Nat) : Int) - 2) (ldH d.p d.la 0).st).length + 1) (ringB d (((d.la.length : Nat) : Int) - 2) (ldH d.p d.la 0).st) ((ldH d.p d.la 0).st) (-1)).2))])) rfl ?_)
      refine s_op (o_extract (v := v38) rfl rfl ?_)
      refine s_op (o_extract (v := (.int .i64 ((chainS ((ldH d.p d.la 0).ep) ((ldH d.p d.la 0).cut) ((ringB d (((d.la.length : Nat) : Int) - 2) (ldH d.p d.la 0).st).length + 1) (ringB d (((d.la.length : Nat) : Int) - 2) (ldH d.p d.la 0).st) ((ldH d.p d.la 0).st) (-1)).2))) rfl rfl ?_)
      refine s_op (o_assign (v := v38) rfl ?_)
      refine s_op (o_assign (v := (.int .i64 ((chainS ((ldH d.p d.la 0).ep) ((ldH d.p d.la 0).cut) ((ringB d (((d.la.length : Nat) : Int) - 2) (ldH d.p d.la 0).st).length + 1) (ringB d (((d.la.length : Nat) : Int) - 2) (ldH d.p d.la 0).st) ((ldH d.p d.la 0).st) (-1)).2))) rfl ?_)
      refine s_nil ?_
      refine t_norm (hK37 _ _ ?_)
      refine wp_seq_k fun K44 hK44 => ?_
      refine wp_seq_k fun K45 hK45 => ?_
      refine c_region ?_
      refine s_op (o_fieldAddr (k := 1) (fun _ => by kernel_rfl) rfl ?_)
      refine s_op (o_load1 (v := (.int .i64 (ldH d.p d.la 0).ep)) Tryz.underlying3 rfl rfl hH42 (seg_sub 4 rfl) (CellsAt.one rfl) ?_)
      refine s_op (o_eql (a := (ldH d.p d.la 0).ep) (b := 0) rfl rfl ?_)
      refine s_op (o_move (v := (.bool (decide ((ldH d.p d.la 0).ep = 0)))) rfl ?_)
      by_cases h46 : (ldH d.p d.la 0).ep = 0
      · -- (ldH d.p d.la 0).ep = 0
        refine s_off (b' := true) 56 rfl (congrArg Value.bool (decide_eq_true h46)) rfl ?_
        refine s_off (b' := true) 56 rfl (congrArg Value.bool (decide_eq_true h46)) rfl ?_
        refine s_off (b' := true) 56 rfl (congrArg Value.bool (decide_eq_true h46)) rfl ?_
        refine s_off (b' := true) 56 rfl (congrArg Value.bool (decide_eq_true h46)) rfl ?_
        refine s_off (b' := true) 56 rfl (congrArg Value.bool (decide_eq_true h46)) rfl ?_
        refine s_op (o_pick_t (u := (.bool true)) ((rfl : _ = _).trans (congrArg Value.bool (decide_eq_true h46))) rfl ?_)
        refine s_op (o_move (v := (.bool true)) rfl ?_)
        refine s_off (b' := true) 63 rfl rfl rfl ?_
        refine s_off (b' := true) 63 rfl rfl rfl ?_
        refine s_off (b' := true) 63 rfl rfl rfl ?_
        refine s_off (b' := true) 63 rfl rfl rfl ?_
        refine s_op (o_pick_t (u := (.bool true)) rfl rfl ?_)
        refine s_nil ?_
        refine t_norm (hK45 _ _ ?_)
        refine c_true rfl rfl ?_
        refine wp_seq_k fun K47 hK47 => ?_
        refine c_region ?_
        refine s_op (o_assign (v := (.pointer none)) rfl ?_)
        refine s_op (o_assign (v := (.int .i64 9)) rfl ?_)
        refine s_nil ?_
        refine t_norm (hK47 _ _ ?_)
        refine wp_ret ?_
        refine t_ret (c_ret2 Tryz.results16  (v := (.pointer none)) rfl (x := (.int .i64 9)) rfl ?_)
        have hH48 : Has E w43 [sg, [Hp.one pb (.cells #[(.bool d.p.off), (.bool d.p.armed), (.int .i64 d.p.left), (.int .i64 d.p.uses)] 145 (0, 0))], R] := (((hH42.front 5 rfl).front 3 rfl).front 3 rfl).first 3 rfl
        have ho_ : opE d (((d.la.length : Nat) : Int) - 2) = 9 := opE_bad (Classical.not_not.1 h21) (by first | exact .inl h46 | exact .inr (.inl h46) | exact .inr (.inr h46))
        exact ⟨by rw [ho_], hH48⟩
      · -- not: (ldH d.p d.la 0).ep = 0
        refine s_on 56 rfl (congrArg Value.bool (decide_eq_false h46)) (o_fieldAddr (k := 3) (fun _ => by kernel_rfl) rfl ?_)
        refine s_on 56 rfl (congrArg Value.bool (decide_eq_false h46)) (o_load1 (v := (.int .i64 (ldH d.p d.la 0).st)) Tryz.underlying3 rfl rfl hH42 (seg_sub 4 rfl) (CellsAt.one rfl) ?_)
        refine s_on 56 rfl (congrArg Value.bool (decide_eq_false h46)) (o_fieldAddr (k := 2) (fun _ => by kernel_rfl) rfl ?_)
        refine s_on 56 rfl (congrArg Value.bool (decide_eq_false h46)) (o_load1 (v := (.int .i64 (ldH d.p d.la 0).cut)) Tryz.underlying3 rfl rfl hH42 (seg_sub 4 rfl) (CellsAt.one rfl) ?_)
        refine s_on 56 rfl (congrArg Value.bool (decide_eq_false h46)) (o_gtr (a := (ldH d.p d.la 0).st) (b := (ldH d.p d.la 0).cut) rfl rfl ?_)
        refine s_op (o_pick_f (u := (.bool (decide ((ldH d.p d.la 0).cut < (ldH d.p d.la 0).st)))) ((rfl : _ = _).trans (congrArg Value.bool (decide_eq_false h46))) rfl ?_)
        refine s_op (o_move (v := (.bool (decide ((ldH d.p d.la 0).cut < (ldH d.p d.la 0).st)))) rfl ?_)
        by_cases h49 : (ldH d.p d.la 0).cut < (ldH d.p d.la 0).st
        · -- (ldH d.p d.la 0).cut < (ldH d.p d.la 0).st
          refine s_off (b' := true) 63 rfl (congrArg Value.bool (decide_eq_true h49)) rfl ?_
          refine s_off (b' := true) 63 rfl (congrArg Value.bool (decide_eq_true h49)) rfl ?_
          refine s_off (b' := true) 63 rfl (congrArg Value.bool (decide_eq_true h49)) rfl ?_
          refine s_off (b' := true) 63 rfl (congrArg Value.bool (decide_eq_true h49)) rfl ?_
          refine s_op (o_pick_t (u := (.bool true)) ((rfl : _ = _).trans (congrArg Value.bool (decide_eq_true h49))) rfl ?_)
          refine s_nil ?_
          refine t_norm (hK45 _ _ ?_)
          refine c_true rfl rfl ?_
          refine wp_seq_k fun K50 hK50 => ?_
          refine c_region ?_
          refine s_op (o_assign (v := (.pointer none)) rfl ?_)
          refine s_op (o_assign (v := (.int .i64 9)) rfl ?_)
          refine s_nil ?_
          refine t_norm (hK50 _ _ ?_)
          refine wp_ret ?_
          refine t_ret (c_ret2 Tryz.results16  (v := (.pointer none)) rfl (x := (.int .i64 9)) rfl ?_)
          have hH51 : Has E w43 [sg, [Hp.one pb (.cells #[(.bool d.p.off), (.bool d.p.armed), (.int .i64 d.p.left), (.int .i64 d.p.uses)] 145 (0, 0))], R] := (((hH42.front 5 rfl).front 3 rfl).front 3 rfl).first 3 rfl
          have ho_ : opE d (((d.la.length : Nat) : Int) - 2) = 9 := opE_bad (Classical.not_not.1 h21) (by first | exact .inl h49 | exact .inr (.inl h49) | exact .inr (.inr h49))
          exact ⟨by rw [ho_], hH51⟩
        · -- not: (ldH d.p d.la 0).cut < (ldH d.p d.la 0).st
          refine s_on 63 rfl (congrArg Value.bool (decide_eq_false h49)) (o_move (v := (.int .i64 ((chainS ((ldH d.p d.la 0).ep) ((ldH d.p d.la 0).cut) ((ringB d (((d.la.length : Nat) : Int) - 2) (ldH d.p d.la 0).st).length + 1) (ringB d (((d.la.length : Nat) : Int) - 2) (ldH d.p d.la 0).st) ((ldH d.p d.la 0).st) (-1)).2))) rfl ?_)
          refine s_on 63 rfl (congrArg Value.bool (decide_eq_false h49)) (o_fieldAddr (k := 2) (fun _ => by kernel_rfl) rfl ?_)
          refine s_on 63 rfl (congrArg Value.bool (decide_eq_false h49)) (o_load1 (v := (.int .i64 (ldH d.p d.la 0).cut)) Tryz.underlying3 rfl rfl hH42 (seg_sub 4 rfl) (CellsAt.one rfl) ?_)
          refine s_on 63 rfl (congrArg Value.bool (decide_eq_false h49)) (o_lss (a := (chainS ((ldH d.p d.la 0).ep) ((ldH d.p d.la 0).cut) ((ringB d (((d.la.length : Nat) : Int) - 2) (ldH d.p d.la 0).st).length + 1) (ringB d (((d.la.length : Nat) : Int) - 2) (ldH d.p d.la 0).st) ((ldH d.p d.la 0).st) (-1)).2) (b := (ldH d.p d.la 0).cut) rfl rfl ?_)
          refine s_op (o_pick_f (u := (.bool (decide ((chainS ((ldH d.p d.la 0).ep) ((ldH d.p d.la 0).cut) ((ringB d (((d.la.length : Nat) : Int) - 2) (ldH d.p d.la 0).st).length + 1) (ringB d (((d.la.length : Nat) : Int) - 2) (ldH d.p d.la 0).st) ((ldH d.p d.la 0).st) (-1)).2 < (ldH d.p d.la 0).cut)))) ((rfl : _ = _).trans (congrArg Value.bool (decide_eq_false h49))) rfl ?_)
          refine s_nil ?_
          refine t_norm (hK45 _ _ ?_)
          refine c_cond rfl (fun h52 => ?_) (fun h52 => ?_)
          · -- (chainS ((ldH d.p d.la 0).ep) ((ldH d.p d.la 0).cut) ((ringB d (((d.la.length : Nat) : Int) - 2) (ldH d.p d.la 0).st).length + 1) (ringB d (((d.la.length : Nat) : Int) - 2) (ldH d.p d.la 0).st) ((ldH d.p d.la 0).st) (-1)).2 < (ldH d.p d.la 0).cut
            refine wp_seq_k fun K53 hK53 => ?_
            refine c_region ?_
            refine s_op (o_assign (v := (.pointer none)) rfl ?_)
            refine s_op (o_assign (v := (.int .i64 9)) rfl ?_)
            refine s_nil ?_
            refine t_norm (hK53 _ _ ?_)
            refine wp_ret ?_
            refine t_ret (c_ret2 Tryz.results16  (v := (.pointer none)) rfl (x := (.int .i64 9)) rfl ?_)
            have hH54 : Has E w43 [sg, [Hp.one pb (.cells #[(.bool d.p.off), (.bool d.p.armed), (.int .i64 d.p.left), (.int .i64 d.p.uses)] 145 (0, 0))], R] := (((hH42.front 5 rfl).front 3 rfl).front 3 rfl).first 3 rfl
            have ho_ : opE d (((d.la.length : Nat) : Int) - 2) = 9 := opE_bad (Classical.not_not.1 h21) (by first | exact .inl h52 | exact .inr (.inl h52) | exact .inr (.inr h52))
            exact ⟨by rw [ho_], hH54⟩
          · -- not: (chainS ((ldH d.p d.la 0).ep) ((ldH d.p d.la 0).cut) ((ringB d (((d.la.length : Nat) : Int) - 2) (ldH d.p d.la 0).st).length + 1) (ringB d (((d.la.length : Nat) : Int) - 2) (ldH d.p d.la 0).st) ((ldH d.p d.la 0).st) (-1)).2 < (ldH d.p d.la 0).cut
            refine wp_skip ?_
            refine t_norm (hK44 _ _ ?_)
            refine wp_seq_k fun K55 hK55 => ?_
            refine c_region ?_
            refine s_op (o_loadN (cs := [(.int .i64 (ldH d.p d.la 0).seq), (.int .i64 (ldH d.p d.la 0).ep), (.int .i64 (ldH d.p d.la 0).cut), (.int .i64 (ldH d.p d.la 0).st), (.int .i64 (ldH d.p d.la 0).mrk)]) Tryz.underlying23 rfl ti23 rfl hH42 (seg_sub 4 rfl) (CellsAt.one rfl) ?_)
            refine s_op (o_sight (v := (.agg #[(.int .i64 (ldH d.p d.la 0).seq), (.int .i64 (ldH d.p d.la 0).ep), (.int .i64 (ldH d.p d.la 0).cut), (.int .i64 (ldH d.p d.la 0).st), (.int .i64 (ldH d.p d.la 0).mrk)])) (fun _ => by kernel_rfl) ?_)
            refine s_op (o_move (v := (.pointer (some ⟨db, 0, none⟩))) rfl ?_)
            refine s_op (o_move (v := (.pointer (some ⟨ab3, 0, none⟩))) rfl ?_)
            refine s_op (o_move (v := (.int .i64 ((chainS ((ldH d.p d.la 0).ep) ((ldH d.p d.la 0).cut) ((ringB d (((d.la.length : Nat) : Int) - 2) (ldH d.p d.la 0).st).length + 1) (ringB d (((d.la.length : Nat) : Int) - 2) (ldH d.p d.la 0).st) ((ldH d.p d.la 0).st) (-1)).2))) rfl ?_)
            refine s_op (o_move (v := v38) rfl ?_)
            refine s_op (o_lenS Tryz.underlying167 rfl ho40.sl ?_)
            refine s_op (o_sight (v := (.agg #[(.int .i64 (ldH d.p d.la 0).seq), (.int .i64 (ldH d.p d.la 0).ep), (.int .i64 (ldH d.p d.la 0).cut), (.int .i64 (ldH d.p d.la 0).st), (.int .i64 (ldH d.p d.la 0).mrk), (.pointer (some ⟨db, 0, none⟩)), (.pointer (some ⟨ab3, 0, none⟩)), (.slice none 0 0), (.int .i64 ((chainS ((ldH d.p d.la 0).ep) ((ldH d.p d.la 0).cut) ((ringB d (((d.la.length : Nat) : Int) - 2) (ldH d.p d.la 0).st).length + 1) (ringB d (((d.la.length : Nat) : Int) - 2) (ldH d.p d.la 0).st) ((ldH d.p d.la 0).st) (-1)).2)), (.int .i64 ((((chainS ((ldH d.p d.la 0).ep) ((ldH d.p d.la 0).cut) ((ringB d (((d.la.length : Nat) : Int) - 2) (ldH d.p d.la 0).st).length + 1) (ringB d (((d.la.length : Nat) : Int) - 2) (ldH d.p d.la 0).st) ((ldH d.p d.la 0).st) (-1)).1).length : Nat) : Int)), (.int .i64 0), (.bool false), (.int .i64 0)])) (fun _ => by kernel_rfl) ?_)
            refine s_op (o_box (cs := #[(.int .i64 (ldH d.p d.la 0).seq), (.int .i64 (ldH d.p d.la 0).ep), (.int .i64 (ldH d.p d.la 0).cut), (.int .i64 (ldH d.p d.la 0).st), (.int .i64 (ldH d.p d.la 0).mrk), (.pointer (some ⟨db, 0, none⟩)), (.pointer (some ⟨ab3, 0, none⟩)), (.slice none 0 0), (.int .i64 ((chainS ((ldH d.p d.la 0).ep) ((ldH d.p d.la 0).cut) ((ringB d (((d.la.length : Nat) : Int) - 2) (ldH d.p d.la 0).st).length + 1) (ringB d (((d.la.length : Nat) : Int) - 2) (ldH d.p d.la 0).st) ((ldH d.p d.la 0).st) (-1)).2)), (.int .i64 ((((chainS ((ldH d.p d.la 0).ep) ((ldH d.p d.la 0).cut) ((ringB d (((d.la.length : Nat) : Int) - 2) (ldH d.p d.la 0).st).length + 1) (ringB d (((d.la.length : Nat) : Int) - 2) (ldH d.p d.la 0).st) ((ldH d.p d.la 0).st) (-1)).1).length : Nat) : Int)), (.int .i64 0), (.bool false), (.int .i64 0)]) rfl rfl hH42 fun b56 w57 hH58 => ?_)
            refine s_op (o_assign (v := (.pointer (some ⟨b56, 0, none⟩))) rfl ?_)
            refine s_nil ?_
            refine t_norm (hK55 _ _ ?_)
            refine wp_seq_k fun K59 hK59 => ?_
            refine wp_seq_k fun K60 hK60 => ?_
            refine c_region ?_
            refine s_op (o_move (v := v38) rfl ?_)
            refine s_op (o_lenS Tryz.underlying167 rfl ho40.sl ?_)
            refine s_op (o_move (v := (.int .i64 0)) rfl ?_)
            refine s_nil ?_
            refine t_norm (hK60 _ _ ?_)
            refine wp_block ?_
            have hcc_ := chain_count (ldH d.p d.la 0).ep (ldH d.p d.la 0).cut ((ringB d (((d.la.length : Nat) : Int) - 2) (ldH d.p d.la 0).st).length + 1) (ringB d (((d.la.length : Nat) : Int) - 2) (ldH d.p d.la 0).st) (ldH d.p d.la 0).st (-1)
            have hF_ : (chainS ((ldH d.p d.la 0).ep) ((ldH d.p d.la 0).cut) ((ringB d (((d.la.length : Nat) : Int) - 2) (ldH d.p d.la 0).st).length + 1) (ringB d (((d.la.length : Nat) : Int) - 2) (ldH d.p d.la 0).st) ((ldH d.p d.la 0).st) (-1)).1.length = ((opC d (((d.la.length : Nat) : Int) - 2)).1).length := rfl
            let I62 : Nat → (Nat → Value) → World → Prop := fun n__ r__ w__ => ∃ (j : Nat) (va : Value) (ha : List Hp) (acc : List LEnt), n__ = ((chainS ((ldH d.p d.la 0).ep) ((ldH d.p d.la 0).cut) ((ringB d (((d.la.length : Nat) : Int) - 2) (ldH d.p d.la 0).st).length + 1) (ringB d (((d.la.length : Nat) : Int) - 2) (ldH d.p d.la 0).st) ((ldH d.p d.la 0).st) (-1)).1).length - j ∧ Has E w__ [ha, [Hp.one b56 (.cells #[(.int .i64 (ldH d.p d.la 0).seq), (.int .i64 (ldH d.p d.la 0).ep), (.int .i64 (ldH d.p d.la 0).cut), (.int .i64 (ldH d.p d.la 0).st), (.int .i64 (ldH d.p d.la 0).mrk), (.pointer (some ⟨db, 0, none⟩)), (.pointer (some ⟨ab3, 0, none⟩)), va, (.int .i64 ((chainS ((ldH d.p d.la 0).ep) ((ldH d.p d.la 0).cut) ((ringB d (((d.la.length : Nat) : Int) - 2) (ldH d.p d.la 0).st).length + 1) (ringB d (((d.la.length : Nat) : Int) - 2) (ldH d.p d.la 0).st) ((ldH d.p d.la 0).st) (-1)).2)), (.int .i64 ((((chainS ((ldH d.p d.la 0).ep) ((ldH d.p d.la 0).cut) ((ringB d (((d.la.length : Nat) : Int) - 2) (ldH d.p d.la 0).st).length + 1) (ringB d (((d.la.length : Nat) : Int) - 2) (ldH d.p d.la 0).st) ((ldH d.p d.la 0).st) (-1)).1).length : Nat) : Int)), (.int .i64 0), (.bool false), (.int .i64 0)] 175 (0, 0))], s39, sg, [Hp.one pb (.cells #[(.bool d.p.off), (.bool d.p.armed), (.int .i64 d.p.left), (.int .i64 d.p.uses)] 145 (0, 0))], [Hp.one ab3 (.cells #[(.pointer (some ⟨db, 0, none⟩)), (.int .i64 2), (.int .i64 (((d.la.length : Nat) : Int) - 2))] 265 (0, 0))], [Hp.one b14 (.cells #[(.int .i64 (ldH d.p d.la 0).seq), (.int .i64 (ldH d.p d.la 0).ep), (.int .i64 (ldH d.p d.la 0).cut), (.int .i64 (ldH d.p d.la 0).st), (.int .i64 (ldH d.p d.la 0).mrk)] 23 (0, 0))], R] ∧ (j ≤ ((chainS ((ldH d.p d.la 0).ep) ((ldH d.p d.la 0).cut) ((ringB d (((d.la.length : Nat) : Int) - 2) (ldH d.p d.la 0).st).length + 1) (ringB d (((d.la.length : Nat) : Int) - 2) (ldH d.p d.la 0).st) ((ldH d.p d.la 0).st) (-1)).1).length) ∧ (Own 42 3 va acc.length (acc.flatMap enC) ha) ∧ (acc = (((chainS ((ldH d.p d.la 0).ep) ((ldH d.p d.la 0).cut) ((ringB d (((d.la.length : Nat) : Int) - 2) (ldH d.p d.la 0).st).length + 1) (ringB d (((d.la.length : Nat) : Int) - 2) (ldH d.p d.la 0).st) ((ldH d.p d.la 0).st) (-1)).1).take j).map entF) ∧ (acc.length ≤ j) ∧ r__ 0 = (.pointer (some ⟨db, 0, none⟩)) ∧ r__ 2 = (.pointer none) ∧ r__ 3 = (.int .i64 0) ∧ r__ 4 = (.pointer (some ⟨ab3, 0, none⟩)) ∧ r__ 5 = (.int .i64 (0 : Int)) ∧ r__ 6 = (.pointer (some ⟨b14, 0, none⟩)) ∧ r__ 7 = (S (ringB d (((d.la.length : Nat) : Int) - 2) (ldH d.p d.la 0).st)) ∧ r__ 8 = v38 ∧ r__ 9 = (.int .i64 ((chainS ((ldH d.p d.la 0).ep) ((ldH d.p d.la 0).cut) ((ringB d (((d.la.length : Nat) : Int) - 2) (ldH d.p d.la 0).st).length + 1) (ringB d (((d.la.length : Nat) : Int) - 2) (ldH d.p d.la 0).st) ((ldH d.p d.la 0).st) (-1)).2)) ∧ r__ 10 = (.pointer (some ⟨b56, 0, none⟩)) ∧ r__ 19 = (.bool (decide ((0 : Int) ≠ 0))) ∧ r__ 27 = (.bool (decide (ldE d.p d.la 0 ≠ 0))) ∧ r__ 39 = (.bool (decide ((0 : Int) ≠ 0))) ∧ r__ 68 = (.bool (decide ((chainS ((ldH d.p d.la 0).ep) ((ldH d.p d.la 0).cut) ((ringB d (((d.la.length : Nat) : Int) - 2) (ldH d.p d.la 0).st).length + 1) (ringB d (((d.la.length : Nat) : Int) - 2) (ldH d.p d.la 0).st) ((ldH d.p d.la 0).st) (-1)).2 < (ldH d.p d.la 0).cut))) ∧ r__ 78 = v38 ∧ r__ 79 = (.int .i64 ((((chainS ((ldH d.p d.la 0).ep) ((ldH d.p d.la 0).cut) ((ringB d (((d.la.length : Nat) : Int) - 2) (ldH d.p d.la 0).st).length + 1) (ringB d (((d.la.length : Nat) : Int) - 2) (ldH d.p d.la 0).st) ((ldH d.p d.la 0).st) (-1)).1).length : Nat) : Int)) ∧ r__ 80 = (.int .i64 (j : Int))
            have hH63 : Has E w57 [[], [Hp.one b56 (.cells #[(.int .i64 (ldH d.p d.la 0).seq), (.int .i64 (ldH d.p d.la 0).ep), (.int .i64 (ldH d.p d.la 0).cut), (.int .i64 (ldH d.p d.la 0).st), (.int .i64 (ldH d.p d.la 0).mrk), (.pointer (some ⟨db, 0, none⟩)), (.pointer (some ⟨ab3, 0, none⟩)), (.slice none 0 0), (.int .i64 ((chainS ((ldH d.p d.la 0).ep) ((ldH d.p d.la 0).cut) ((ringB d (((d.la.length : Nat) : Int) - 2) (ldH d.p d.la 0).st).length + 1) (ringB d (((d.la.length : Nat) : Int) - 2) (ldH d.p d.la 0).st) ((ldH d.p d.la 0).st) (-1)).2)), (.int .i64 ((((chainS ((ldH d.p d.la 0).ep) ((ldH d.p d.la 0).cut) ((ringB d (((d.la.length : Nat) : Int) - 2) (ldH d.p d.la 0).st).length + 1) (ringB d (((d.la.length : Nat) : Int) - 2) (ldH d.p d.la 0).st) ((ldH d.p d.la 0).st) (-1)).1).length : Nat) : Int)), (.int .i64 0), (.bool false), (.int .i64 0)] 175 (0, 0))], s39, sg, [Hp.one pb (.cells #[(.bool d.p.off), (.bool d.p.armed), (.int .i64 d.p.left), (.int .i64 d.p.uses)] 145 (0, 0))], [Hp.one ab3 (.cells #[(.pointer (some ⟨db, 0, none⟩)), (.int .i64 2), (.int .i64 (((d.la.length : Nat) : Int) - 2))] 265 (0, 0))], [Hp.one b14 (.cells #[(.int .i64 (ldH d.p d.la 0).seq), (.int .i64 (ldH d.p d.la 0).ep), (.int .i64 (ldH d.p d.la 0).cut), (.int .i64 (ldH d.p d.la 0).st), (.int .i64 (ldH d.p d.la 0).mrk)] 23 (0, 0))], R] := Has.pick (Has.nil hH58) [0, 0, 0, 0, 0, 0, 0, 0] (by kernel_rfl)
            refine c_loop I62 _ ⟨0, (.slice none 0 0), [], ([] : List LEnt), rfl, hH63, Nat.zero_le _, Own.nil 42 3, rfl, (by simp), rfl, rfl, rfl, rfl, rfl, rfl, rfl, rfl, rfl, rfl, rfl, rfl, rfl, rfl, rfl, rfl, rfl⟩ ?_
            rintro n_ r67 w65 ⟨j, va, ha, acc, rfl, hH66, hj, hoa, hac, hal, e61_0, e61_2, e61_3, e61_4, e61_5, e61_6, e61_7, e61_8, e61_9, e61_10, e61_19, e61_27, e61_39, e61_68, e61_78, e61_79, e61_80⟩
            refine wp_seq_k fun K68 hK68 => ?_
            refine c_region ?_
            refine s_op (o_lss (a := (j : Int)) (b := ((((chainS ((ldH d.p d.la 0).ep) ((ldH d.p d.la 0).cut) ((ringB d (((d.la.length : Nat) : Int) - 2) (ldH d.p d.la 0).st).length + 1) (ringB d (((d.la.length : Nat) : Int) - 2) (ldH d.p d.la 0).st) ((ldH d.p d.la 0).st) (-1)).1).length : Nat) : Int)) e61_80 e61_79 ?_)
            refine s_nil ?_
            refine t_norm (hK68 _ _ ?_)
            refine wp_seq_k fun K69 hK69 => ?_
            refine c_cond rfl (fun h70 => ?_) (fun h70 => ?_)
            · -- (j : Int) < ((((chainS ((ldH d.p d.la 0).ep) ((ldH d.p d.la 0).cut) ((ringB d (((d.la.length : Nat) : Int) - 2) (ldH d.p d.la 0).st).length + 1) (ringB d (((d.la.length : Nat) : Int) - 2) (ldH d.p d.la 0).st) ((ldH d.p d.la 0).st) (-1)).1).length : Nat) : Int)
              refine wp_skip ?_
              refine t_norm (hK69 _ _ ?_)
              refine wp_seq_k fun K71 hK71 => ?_
              refine wp_block ?_
              refine wp_seq_k fun K72 hK72 => ?_
              refine c_region ?_
              obtain ⟨x76, hx77⟩ : ∃ x_, ((chainS ((ldH d.p d.la 0).ep) ((ldH d.p d.la 0).cut) ((ringB d (((d.la.length : Nat) : Int) - 2) (ldH d.p d.la 0).st).length + 1) (ringB d (((d.la.length : Nat) : Int) - 2) (ldH d.p d.la 0).st) ((ldH d.p d.la 0).st) (-1)).1)[((j : Int)).toNat]? = some x_ := get_some (by omega)
              refine s_op (o_indexF frC_len Tryz.underlying167 ti176 e61_78 ho40.sl rfl e61_80 (by omega) hx77 fun b73 o74 hc75 => ?_)
              refine s_op (o_loadN (cs := [(.int .i64 x76.ep), (.int .i64 x76.pl), (.int .i64 x76.gsn), (S x76.data)]) Tryz.underlying176 rfl ti176 rfl hH66 (seg_sub 2 rfl) hc75 ?_)
              refine s_op (o_alloc (cs := #[(.int .i64 0), (.int .i64 0), (.int .i64 0), (S ([] : List UInt8))]) ti176 rfl hH66 fun b78 w79 hH80 => ?_)
              refine s_eff (o_storeN (vs := [(.int .i64 x76.ep), (.int .i64 x76.pl), (.int .i64 x76.gsn), (S x76.data)]) (c' := #[(.int .i64 x76.ep), (.int .i64 x76.pl), (.int .i64 x76.gsn), (S x76.data)]) ti176 rfl rfl rfl rfl (by intro u hu; simp only [List.mem_cons, List.not_mem_nil, or_false] at hu; rcases hu with rfl | rfl | rfl | rfl <;> first | rfl) (by simp) (by kernel_rfl) (hH80.front 0 rfl) fun w81 hH82 => ?_)
              refine s_nil ?_
              refine t_norm (hK72 _ _ ?_)
              refine Rest.region mixed (by kernel_rfl) ?_
              have hH83 : Has E { w81 with drawn := w81.drawn + 1 } [[Hp.one b78 (.cells #[(.int .i64 x76.ep), (.int .i64 x76.pl), (.int .i64 x76.gsn), (S x76.data)] 176 (0, 0))], ha, [Hp.one b56 (.cells #[(.int .i64 (ldH d.p d.la 0).seq), (.int .i64 (ldH d.p d.la 0).ep), (.int .i64 (ldH d.p d.la 0).cut), (.int .i64 (ldH d.p d.la 0).st), (.int .i64 (ldH d.p d.la 0).mrk), (.pointer (some ⟨db, 0, none⟩)), (.pointer (some ⟨ab3, 0, none⟩)), va, (.int .i64 ((chainS ((ldH d.p d.la 0).ep) ((ldH d.p d.la 0).cut) ((ringB d (((d.la.length : Nat) : Int) - 2) (ldH d.p d.la 0).st).length + 1) (ringB d (((d.la.length : Nat) : Int) - 2) (ldH d.p d.la 0).st) ((ldH d.p d.la 0).st) (-1)).2)), (.int .i64 ((((chainS ((ldH d.p d.la 0).ep) ((ldH d.p d.la 0).cut) ((ringB d (((d.la.length : Nat) : Int) - 2) (ldH d.p d.la 0).st).length + 1) (ringB d (((d.la.length : Nat) : Int) - 2) (ldH d.p d.la 0).st) ((ldH d.p d.la 0).st) (-1)).1).length : Nat) : Int)), (.int .i64 0), (.bool false), (.int .i64 0)] 175 (0, 0))], s39, sg, [Hp.one pb (.cells #[(.bool d.p.off), (.bool d.p.armed), (.int .i64 d.p.left), (.int .i64 d.p.uses)] 145 (0, 0))], [Hp.one ab3 (.cells #[(.pointer (some ⟨db, 0, none⟩)), (.int .i64 2), (.int .i64 (((d.la.length : Nat) : Int) - 2))] 265 (0, 0))], [Hp.one b14 (.cells #[(.int .i64 (ldH d.p d.la 0).seq), (.int .i64 (ldH d.p d.la 0).ep), (.int .i64 (ldH d.p d.la 0).cut), (.int .i64 (ldH d.p d.la 0).st), (.int .i64 (ldH d.p d.la 0).mrk)] 23 (0, 0))], R] := Has0.drew hH82 _
              refine Rest.phaseA (fun w_ => Has E w_ [[Hp.one b78 (.cells #[(.int .i64 x76.ep), (.int .i64 x76.pl), (.int .i64 x76.gsn), (S x76.data)] 176 (0, 0))], [Hp.one b56 (.cells #[(.int .i64 (ldH d.p d.la 0).seq), (.int .i64 (ldH d.p d.la 0).ep), (.int .i64 (ldH d.p d.la 0).cut), (.int .i64 (ldH d.p d.la 0).st), (.int .i64 (ldH d.p d.la 0).mrk), (.pointer (some ⟨db, 0, none⟩)), (.pointer (some ⟨ab3, 0, none⟩)), va, (.int .i64 ((chainS ((ldH d.p d.la 0).ep) ((ldH d.p d.la 0).cut) ((ringB d (((d.la.length : Nat) : Int) - 2) (ldH d.p d.la 0).st).length + 1) (ringB d (((d.la.length : Nat) : Int) - 2) (ldH d.p d.la 0).st) ((ldH d.p d.la 0).st) (-1)).2)), (.int .i64 ((((chainS ((ldH d.p d.la 0).ep) ((ldH d.p d.la 0).cut) ((ringB d (((d.la.length : Nat) : Int) - 2) (ldH d.p d.la 0).st).length + 1) (ringB d (((d.la.length : Nat) : Int) - 2) (ldH d.p d.la 0).st) ((ldH d.p d.la 0).st) (-1)).1).length : Nat) : Int)), (.int .i64 0), (.bool false), (.int .i64 0)] 175 (0, 0))]]) 0 14 14 rfl (by decide) (by kernel_rfl) ?_
              refine a_op 0 rfl (by kernel_rfl) (fun w_ h_ => o_move (v := (.pointer (some ⟨b56, 0, none⟩))) e61_10 ⟨rfl, rfl⟩) ?_
              refine a_op 1 rfl (by kernel_rfl) (fun w_ h_ => o_move (v := (.pointer (some ⟨b56, 0, none⟩))) e61_10 ⟨rfl, rfl⟩) ?_
              refine a_op 2 rfl (by kernel_rfl) (fun w_ h_ => o_nilCheck rfl ⟨rfl, rfl⟩) ?_
              refine a_op 3 rfl (by kernel_rfl) (fun w_ h_ => o_fieldAddr (k := 7) (fun _ => by kernel_rfl) rfl ⟨rfl, rfl⟩) ?_
              refine a_op 4 rfl (by kernel_rfl) (fun w_ h_ => o_load1 (v := va) Tryz.underlying37 rfl rfl h_ (seg_sub 1 rfl) (CellsAt.one rfl) ⟨rfl, rfl⟩) ?_
              refine a_op 5 rfl (by kernel_rfl) (fun w_ h_ => o_fieldAddr (k := 2) (fun _ => by kernel_rfl) rfl ⟨rfl, rfl⟩) ?_
              refine a_op 6 rfl (by kernel_rfl) (fun w_ h_ => o_load1 (v := (.int .i64 x76.gsn)) Tryz.underlying3 rfl rfl h_ (seg_sub 0 rfl) (CellsAt.one rfl) ⟨rfl, rfl⟩) ?_
              refine a_op 7 rfl (by kernel_rfl) (fun w_ h_ => o_fieldAddr (k := 1) (fun _ => by kernel_rfl) rfl ⟨rfl, rfl⟩) ?_
              refine a_op 8 rfl (by kernel_rfl) (fun w_ h_ => o_load1 (v := (.int .i64 x76.pl)) Tryz.underlying3 rfl rfl h_ (seg_sub 0 rfl) (CellsAt.one rfl) ⟨rfl, rfl⟩) ?_
              refine a_op 9 rfl (by kernel_rfl) (fun w_ h_ => o_fieldAddr (k := 3) (fun _ => by kernel_rfl) rfl ⟨rfl, rfl⟩) ?_
              refine a_op 10 rfl (by kernel_rfl) (fun w_ h_ => o_load1 (v := (S x76.data)) Tryz.underlying9 rfl rfl h_ (seg_sub 0 rfl) (CellsAt.one rfl) ⟨rfl, rfl⟩) ?_
              refine a_op 11 rfl (by kernel_rfl) (fun w_ h_ => o_sight (v := (.agg #[(.int .i64 x76.gsn), (.int .i64 x76.pl), (S x76.data)])) (fun _ => by kernel_rfl) ⟨rfl, rfl⟩) ?_
              have hH84 : Has E { w81 with drawn := w81.drawn + 1 } [[Hp.one b78 (.cells #[(.int .i64 x76.ep), (.int .i64 x76.pl), (.int .i64 x76.gsn), (S x76.data)] 176 (0, 0))], [Hp.one b56 (.cells #[(.int .i64 (ldH d.p d.la 0).seq), (.int .i64 (ldH d.p d.la 0).ep), (.int .i64 (ldH d.p d.la 0).cut), (.int .i64 (ldH d.p d.la 0).st), (.int .i64 (ldH d.p d.la 0).mrk), (.pointer (some ⟨db, 0, none⟩)), (.pointer (some ⟨ab3, 0, none⟩)), va, (.int .i64 ((chainS ((ldH d.p d.la 0).ep) ((ldH d.p d.la 0).cut) ((ringB d (((d.la.length : Nat) : Int) - 2) (ldH d.p d.la 0).st).length + 1) (ringB d (((d.la.length : Nat) : Int) - 2) (ldH d.p d.la 0).st) ((ldH d.p d.la 0).st) (-1)).2)), (.int .i64 ((((chainS ((ldH d.p d.la 0).ep) ((ldH d.p d.la 0).cut) ((ringB d (((d.la.length : Nat) : Int) - 2) (ldH d.p d.la 0).st).length + 1) (ringB d (((d.la.length : Nat) : Int) - 2) (ldH d.p d.la 0).st) ((ldH d.p d.la 0).st) (-1)).1).length : Nat) : Int)), (.int .i64 0), (.bool false), (.int .i64 0)] 175 (0, 0))]] := ((hH83.front 2 rfl).front 1 rfl).first 2 rfl
              refine a_w 12 rfl (by kernel_rfl) hH84 (o_buildSlice (ps := #[(0, (.agg #[(.int .i64 x76.gsn), (.int .i64 x76.pl), (S x76.data)]))]) (cells := #[(.int .i64 x76.gsn), (.int .i64 x76.pl), (S x76.data)]) Tryz.underlying37 ti42 (by decide) (parts1 rfl) (by kernel_rfl) hH83 fun b85 w86 hH87 => ?_)
              have hH88 : Has E w86 [[Hp.one b78 (.cells #[(.int .i64 x76.ep), (.int .i64 x76.pl), (.int .i64 x76.gsn), (S x76.data)] 176 (0, 0))], [Hp.one b56 (.cells #[(.int .i64 (ldH d.p d.la 0).seq), (.int .i64 (ldH d.p d.la 0).ep), (.int .i64 (ldH d.p d.la 0).cut), (.int .i64 (ldH d.p d.la 0).st), (.int .i64 (ldH d.p d.la 0).mrk), (.pointer (some ⟨db, 0, none⟩)), (.pointer (some ⟨ab3, 0, none⟩)), va, (.int .i64 ((chainS ((ldH d.p d.la 0).ep) ((ldH d.p d.la 0).cut) ((ringB d (((d.la.length : Nat) : Int) - 2) (ldH d.p d.la 0).st).length + 1) (ringB d (((d.la.length : Nat) : Int) - 2) (ldH d.p d.la 0).st) ((ldH d.p d.la 0).st) (-1)).2)), (.int .i64 ((((chainS ((ldH d.p d.la 0).ep) ((ldH d.p d.la 0).cut) ((ringB d (((d.la.length : Nat) : Int) - 2) (ldH d.p d.la 0).st).length + 1) (ringB d (((d.la.length : Nat) : Int) - 2) (ldH d.p d.la 0).st) ((ldH d.p d.la 0).st) (-1)).1).length : Nat) : Int)), (.int .i64 0), (.bool false), (.int .i64 0)] 175 (0, 0))]] := ((hH87.front 3 rfl).front 2 rfl).first 2 rfl
              refine a_w 13 rfl (by kernel_rfl) hH88 (o_append Tryz.underlying37 ti42 rfl (by decide) rfl hoa rfl (sl_litF (f := enC) (l := [(LEnt.mk x76.gsn x76.pl x76.data)]) enC_len rfl rfl (by simp)) (hH87.front 2 rfl) (seg_sub 0 rfl) (one_enC _) (by simp only [List.length_cons, List.length_nil]; omega) (by simp only [List.length_cons, List.length_nil]; omega) fun v89 s90 w92 ho91 hH93 => ?_)
              have ho91 : Own 42 3 v89 (acc ++ [(LEnt.mk x76.gsn x76.pl x76.data)]).length ((acc ++ [(LEnt.mk x76.gsn x76.pl x76.data)]).flatMap enC) s90 := ho91.appF
              have hH94 : Has E w92 [[Hp.one b78 (.cells #[(.int .i64 x76.ep), (.int .i64 x76.pl), (.int .i64 x76.gsn), (S x76.data)] 176 (0, 0))], [Hp.one b56 (.cells #[(.int .i64 (ldH d.p d.la 0).seq), (.int .i64 (ldH d.p d.la 0).ep), (.int .i64 (ldH d.p d.la 0).cut), (.int .i64 (ldH d.p d.la 0).st), (.int .i64 (ldH d.p d.la 0).mrk), (.pointer (some ⟨db, 0, none⟩)), (.pointer (some ⟨ab3, 0, none⟩)), va, (.int .i64 ((chainS ((ldH d.p d.la 0).ep) ((ldH d.p d.la 0).cut) ((ringB d (((d.la.length : Nat) : Int) - 2) (ldH d.p d.la 0).st).length + 1) (ringB d (((d.la.length : Nat) : Int) - 2) (ldH d.p d.la 0).st) ((ldH d.p d.la 0).st) (-1)).2)), (.int .i64 ((((chainS ((ldH d.p d.la 0).ep) ((ldH d.p d.la 0).cut) ((ringB d (((d.la.length : Nat) : Int) - 2) (ldH d.p d.la 0).st).length + 1) (ringB d (((d.la.length : Nat) : Int) - 2) (ldH d.p d.la 0).st) ((ldH d.p d.la 0).st) (-1)).1).length : Nat) : Int)), (.int .i64 0), (.bool false), (.int .i64 0)] 175 (0, 0))]] := ((hH93.front 3 rfl).front 3 rfl).first 2 rfl
              refine a_done (by kernel_rfl) hH94 ?_
              refine r_op 14 rfl (by kernel_rfl) (o_nilCheck rfl ?_)
              refine r_op 15 rfl (by kernel_rfl) (o_fieldAddr (k := 7) (fun _ => by kernel_rfl) rfl ?_)
              refine r_eff 16 rfl (by kernel_rfl) (o_store1 (c' := #[(.int .i64 (ldH d.p d.la 0).seq), (.int .i64 (ldH d.p d.la 0).ep), (.int .i64 (ldH d.p d.la 0).cut), (.int .i64 (ldH d.p d.la 0).st), (.int .i64 (ldH d.p d.la 0).mrk), (.pointer (some ⟨db, 0, none⟩)), (.pointer (some ⟨ab3, 0, none⟩)), v89, (.int .i64 ((chainS ((ldH d.p d.la 0).ep) ((ldH d.p d.la 0).cut) ((ringB d (((d.la.length : Nat) : Int) - 2) (ldH d.p d.la 0).st).length + 1) (ringB d (((d.la.length : Nat) : Int) - 2) (ldH d.p d.la 0).st) ((ldH d.p d.la 0).st) (-1)).2)), (.int .i64 ((((chainS ((ldH d.p d.la 0).ep) ((ldH d.p d.la 0).cut) ((ringB d (((d.la.length : Nat) : Int) - 2) (ldH d.p d.la 0).st).length + 1) (ringB d (((d.la.length : Nat) : Int) - 2) (ldH d.p d.la 0).st) ((ldH d.p d.la 0).st) (-1)).1).length : Nat) : Int)), (.int .i64 0), (.bool false), (.int .i64 0)]) ti37 rfl rfl ho91.one (by simp) rfl (hH93.front 3 rfl) fun w95 hH96 => ?_)
              refine Rest.done (by kernel_rfl) ?_
              refine b_norm ?_
              refine t_norm (hK71 _ _ ?_)
              refine c_region ?_
              refine s_op (o_add (a := (j : Int)) (b := 1) e61_80 rfl (w64 (by omega) (by omega)) ?_)
              refine s_op (o_move (v := (.int .i64 ((j : Int) + 1))) rfl ?_)
              refine s_nil ?_
              have hH97 : Has E w95 [s90, [Hp.one b56 (.cells #[(.int .i64 (ldH d.p d.la 0).seq), (.int .i64 (ldH d.p d.la 0).ep), (.int .i64 (ldH d.p d.la 0).cut), (.int .i64 (ldH d.p d.la 0).st), (.int .i64 (ldH d.p d.la 0).mrk), (.pointer (some ⟨db, 0, none⟩)), (.pointer (some ⟨ab3, 0, none⟩)), v89, (.int .i64 ((chainS ((ldH d.p d.la 0).ep) ((ldH d.p d.la 0).cut) ((ringB d (((d.la.length : Nat) : Int) - 2) (ldH d.p d.la 0).st).length + 1) (ringB d (((d.la.length : Nat) : Int) - 2) (ldH d.p d.la 0).st) ((ldH d.p d.la 0).st) (-1)).2)), (.int .i64 ((((chainS ((ldH d.p d.la 0).ep) ((ldH d.p d.la 0).cut) ((ringB d (((d.la.length : Nat) : Int) - 2) (ldH d.p d.la 0).st).length + 1) (ringB d (((d.la.length : Nat) : Int) - 2) (ldH d.p d.la 0).st) ((ldH d.p d.la 0).st) (-1)).1).length : Nat) : Int)), (.int .i64 0), (.bool false), (.int .i64 0)] 175 (0, 0))], s39, sg, [Hp.one pb (.cells #[(.bool d.p.off), (.bool d.p.armed), (.int .i64 d.p.left), (.int .i64 d.p.uses)] 145 (0, 0))], [Hp.one ab3 (.cells #[(.pointer (some ⟨db, 0, none⟩)), (.int .i64 2), (.int .i64 (((d.la.length : Nat) : Int) - 2))] 265 (0, 0))], [Hp.one b14 (.cells #[(.int .i64 (ldH d.p d.la 0).seq), (.int .i64 (ldH d.p d.la 0).ep), (.int .i64 (ldH d.p d.la 0).cut), (.int .i64 (ldH d.p d.la 0).st), (.int .i64 (ldH d.p d.la 0).mrk)] 23 (0, 0))], R] := Has.pick hH96 [1, 0, 2, 2, 2, 2, 2, 2] (by kernel_rfl)
              refine t_norm ⟨((chainS ((ldH d.p d.la 0).ep) ((ldH d.p d.la 0).cut) ((ringB d (((d.la.length : Nat) : Int) - 2) (ldH d.p d.la 0).st).length + 1) (ringB d (((d.la.length : Nat) : Int) - 2) (ldH d.p d.la 0).st) ((ldH d.p d.la 0).st) (-1)).1).length - (j + 1), _, rfl, ?_, ?_⟩
              · omega
              · exact ⟨(j + 1), v89, s90, (acc ++ [(LEnt.mk x76.gsn x76.pl x76.data)]), rfl, hH97, (by omega), (ho91), (by rw [take_succ_of (show (chainS ((ldH d.p d.la 0).ep) ((ldH d.p d.la 0).cut) ((ringB d (((d.la.length : Nat) : Int) - 2) (ldH d.p d.la 0).st).length + 1) (ringB d (((d.la.length : Nat) : Int) - 2) (ldH d.p d.la 0).st) ((ldH d.p d.la 0).st) (-1)).1[j]? = some _ from hx77), ent_snoc, ← hac]; rfl), (by simp only [List.length_append, List.length_cons, List.length_nil]; omega), e61_0, e61_2, e61_3, e61_4, e61_5, e61_6, e61_7, e61_8, e61_9, e61_10, e61_19, e61_27, e61_39, e61_68, e61_78, e61_79, rfl⟩
            · -- not: (j : Int) < ((((chainS ((ldH d.p d.la 0).ep) ((ldH d.p d.la 0).cut) ((ringB d (((d.la.length : Nat) : Int) - 2) (ldH d.p d.la 0).st).length + 1) (ringB d (((d.la.length : Nat) : Int) - 2) (ldH d.p d.la 0).st) ((ldH d.p d.la 0).st) (-1)).1).length : Nat) : Int)
              refine wp_exit ?_
              refine t_exit (t_exit (x_in (?_)))
              refine t_norm (hK59 _ _ ?_)
              refine wp_seq_k fun K98 hK98 => ?_
              refine c_region ?_
              refine s_op (o_move (v := (.pointer (some ⟨b56, 0, none⟩))) e61_10 ?_)
              refine s_op (o_assign (v := (.pointer (some ⟨b56, 0, none⟩))) rfl ?_)
              refine s_op (o_assign (v := (.int .i64 0)) rfl ?_)
              refine s_nil ?_
              refine t_norm (hK98 _ _ ?_)
              refine wp_ret ?_
              refine c_ret2 Tryz.results16  (v := (.pointer (some ⟨b56, 0, none⟩))) rfl (x := (.int .i64 0)) rfl ?_
              have ho_ : opE d (((d.la.length : Nat) : Int) - 2) = 0 := opE_ok (Classical.not_not.1 h21) (fun k_ => by rcases k_ with k_ | k_ | k_; exact h46 k_; exact h49 k_; exact h52 k_)
              exact absurd ho_ hm
end Go.Q
