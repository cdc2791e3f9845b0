/-
  Parts of a walk: what functions of the program compute, each told by a theorem.
-/
import Derived.Test.YtagicdbeacmffaaDoorQV7
import Derived.Test.YtagicdbeacmffaaDoorQVEq
import Derived.Test.YtagicdbeacmffaaDoorQF3
set_option linter.unusedVariables false
set_option linter.unusedSimpArgs false
namespace Go.Q
open Go.Proofs
set_option linter.unusedVariables false
set_option maxRecDepth 100000
attribute [local irreducible] wpList OK Code.wp
set_option maxHeartbeats 4000000 in
theorem fopen_c {E w : World} {R : List Hp} (hH : Has E w [R]) (hg : CellsAt R 0 0 nibV) (s : List UInt8) (hsl : s.length ≤ 9000000000000000000) :
    Calls Tryd.prog 24 #[(S s)] w fun e w' => e = .returned (.tuple #[(.agg #[(.int .i64 (oF s).ep), (.int .i64 (oF s).pl), (.int .i64 (oF s).gsn), (S (oF s).data)]), .int .i64 (oN s), .bool (opensB s)]) ∧ Has E w' [R] := by
  have ht1 := take_one s
  refine c_enter (args := [(S s)]) Tryd.func24 rfl Tryd.ntmps24 (by simp) ?_
  refine wp_seq_k fun K1 hK1 => ?_
  refine c_region ?_
  refine s_op (o_alloc (cs := #[(.int .i64 0), (.int .i64 0), (.int .i64 0), (S ([] : List UInt8))]) ti40 rfl hH fun b2 w3 hH4 => ?_)
  refine s_op (o_assign (v := (.int .i64 0)) rfl ?_)
  refine s_op (o_assign (v := (.bool false)) rfl ?_)
  refine s_nil ?_
  refine t_norm (hK1 _ _ ?_)
  refine wp_seq_k fun K5 hK5 => ?_
  refine c_region ?_
  refine s_op (o_move (v := (S s)) rfl ?_)
  refine s_op (o_callf (vs := #[(S s), (.int .i64 1)]) ca37 rfl (args2 rfl rfl) (take_c hH4.all 1 s (by first | omega | exact rest_le1 hsl | exact rest_le2 hsl | exact rest_le3 hsl)) ?_)
  rintro _ w8 ⟨rfl, hX6⟩
  refine ⟨_, rfl, ?_⟩
  have hH7 := hX6.of_all
  refine s_op (o_move (v := (.tuple #[(.int .i64 ((takeS s 1).1)), (S ((takeS s 1).2.1)), (.bool ((takeS s 1).2.2))])) rfl ?_)
  refine s_op (o_extract (v := (.int .i64 ((takeS s 1).1))) rfl rfl ?_)
  refine s_op (o_extract (v := (S ((takeS s 1).2.1))) rfl rfl ?_)
  refine s_op (o_extract (v := (.bool ((takeS s 1).2.2))) rfl rfl ?_)
  refine s_op (o_assign (v := (.int .i64 ((takeS s 1).1))) rfl ?_)
  refine s_op (o_assign (v := (S ((takeS s 1).2.1))) rfl ?_)
  refine s_op (o_assign (v := (.bool ((takeS s 1).2.2))) rfl ?_)
  refine s_nil ?_
  refine t_norm (hK5 _ _ ?_)
  refine wp_seq_k fun K9 hK9 => ?_
  refine wp_seq_k fun K10 hK10 => ?_
  refine c_region ?_
  refine s_op (o_move (v := (.bool ((takeS s 1).2.2))) rfl ?_)
  refine s_op (o_not rfl ?_)
  refine s_op (o_move (v := (.bool (!((takeS s 1).2.2)))) rfl ?_)
  rcases Bool.eq_false_or_eq_true (!((takeS s 1).2.2)) with h11 | h11
  · -- !((takeS s 1).2.2)
    refine s_off (b' := true) 17 rfl (congrArg Value.bool h11) rfl ?_
    refine s_off (b' := true) 17 rfl (congrArg Value.bool h11) rfl ?_
    refine s_off (b' := true) 17 rfl (congrArg Value.bool h11) rfl ?_
    refine s_off (b' := true) 17 rfl (congrArg Value.bool h11) rfl ?_
    refine s_off (b' := true) 17 rfl (congrArg Value.bool h11) rfl ?_
    refine s_op (o_pick_t (u := (.bool true)) ((rfl : _ = _).trans (congrArg Value.bool h11)) rfl ?_)
    refine s_nil ?_
    refine t_norm (hK10 _ _ ?_)
    refine c_true rfl rfl ?_
    refine wp_seq_k fun K12 hK12 => ?_
    refine c_region ?_
    refine s_op (o_sight (v := (.agg #[(.int .i64 0), (.int .i64 0), (.int .i64 0), (S ([] : List UInt8))])) (fun _ => by kernel_rfl) ?_)
    refine s_eff (o_storeN (vs := [(.int .i64 0), (.int .i64 0), (.int .i64 0), (S ([] : List UInt8))]) (c' := #[(.int .i64 0), (.int .i64 0), (.int .i64 0), (S ([] : List UInt8))]) ti40 rfl rfl rfl rfl (by intro u hu; simp only [List.mem_cons, List.not_mem_nil, or_false] at hu; rcases hu with rfl | rfl | rfl | rfl <;> first | rfl) (by simp) (by kernel_rfl) (hH7.front 0 rfl) fun w13 hH14 => ?_)
    refine s_op (o_assign (v := (.int .i64 0)) rfl ?_)
    refine s_op (o_assign (v := (.bool false)) rfl ?_)
    refine s_nil ?_
    refine t_norm (hK12 _ _ ?_)
    refine wp_ret ?_
    refine t_ret (c_retC3 Tryd.results24 rfl (run_loadVarN (cs := [(.int .i64 0), (.int .i64 0), (.int .i64 0), (S ([] : List UInt8))]) Tryd.underlying40 rfl ti40 hH14 (seg_sub 0 rfl) (CellsAt.one rfl)) (x := (.int .i64 0)) rfl (y := (.bool false)) rfl ?_)
    have hH15 : Has E w13 [R] := (hH14.front 1 rfl).first 1 rfl
    have ho : opensB s = false := opens_no1 (not_t h11)
    exact ⟨by unfold oF oN; rw [ho]; rfl, hH15⟩
  · -- not: !((takeS s 1).2.2)
    refine s_on 17 rfl (congrArg Value.bool h11) (o_move (v := (S s)) rfl ?_)
    refine s_on 17 rfl (congrArg Value.bool h11) (o_slen Tryd.underlying9 rfl ?_)
    refine s_on 17 rfl (congrArg Value.bool h11) (o_move (v := (.int .i64 ((takeS s 1).1))) rfl ?_)
    refine s_on 17 rfl (congrArg Value.bool h11) (o_add (a := (takeS s 1).1) (b := 25) rfl rfl (w64 (by omega) (by omega)) ?_)
    refine s_on 17 rfl (congrArg Value.bool h11) (o_lss (a := (s.length : Int)) (b := ((takeS s 1).1) + 25) rfl rfl ?_)
    refine s_op (o_pick_f (u := (.bool (decide ((s.length : Int) < ((takeS s 1).1) + 25)))) ((rfl : _ = _).trans (congrArg Value.bool h11)) rfl ?_)
    refine s_nil ?_
    refine t_norm (hK10 _ _ ?_)
    refine c_cond rfl (fun h16 => ?_) (fun h16 => ?_)
    · -- (s.length : Int) < ((takeS s 1).1) + 25
      refine wp_seq_k fun K17 hK17 => ?_
      refine c_region ?_
      refine s_op (o_sight (v := (.agg #[(.int .i64 0), (.int .i64 0), (.int .i64 0), (S ([] : List UInt8))])) (fun _ => by kernel_rfl) ?_)
      refine s_eff (o_storeN (vs := [(.int .i64 0), (.int .i64 0), (.int .i64 0), (S ([] : List UInt8))]) (c' := #[(.int .i64 0), (.int .i64 0), (.int .i64 0), (S ([] : List UInt8))]) ti40 rfl rfl rfl rfl (by intro u hu; simp only [List.mem_cons, List.not_mem_nil, or_false] at hu; rcases hu with rfl | rfl | rfl | rfl <;> first | rfl) (by simp) (by kernel_rfl) (hH7.front 0 rfl) fun w18 hH19 => ?_)
      refine s_op (o_assign (v := (.int .i64 0)) rfl ?_)
      refine s_op (o_assign (v := (.bool false)) rfl ?_)
      refine s_nil ?_
      refine t_norm (hK17 _ _ ?_)
      refine wp_ret ?_
      refine t_ret (c_retC3 Tryd.results24 rfl (run_loadVarN (cs := [(.int .i64 0), (.int .i64 0), (.int .i64 0), (S ([] : List UInt8))]) Tryd.underlying40 rfl ti40 hH19 (seg_sub 0 rfl) (CellsAt.one rfl)) (x := (.int .i64 0)) rfl (y := (.bool false)) rfl ?_)
      have hH20 : Has E w18 [R] := (hH19.front 1 rfl).first 1 rfl
      have ho : opensB s = false := opens_no2 (by omega)
      exact ⟨by unfold oF oN; rw [ho]; rfl, hH20⟩
    · -- not: (s.length : Int) < ((takeS s 1).1) + 25
      refine wp_skip ?_
      refine t_norm (hK9 _ _ ?_)
      refine wp_seq_k fun K21 hK21 => ?_
      refine c_region ?_
      refine s_op (o_alloc (cs := #[(.int .i64 0), (.int .i64 0), (.int .i64 0), (S ([] : List UInt8))]) ti40 rfl hH7 fun b22 w23 hH24 => ?_)
      refine s_nil ?_
      refine t_norm (hK21 _ _ ?_)
      refine wp_seq_k fun K25 hK25 => ?_
      refine c_region ?_
      refine s_op (o_move (v := (S ((takeS s 1).2.1))) rfl ?_)
      refine s_op (o_callf (vs := #[(S ((takeS s 1).2.1)), (.int .i64 4)]) ca37 rfl (args2 rfl rfl) (take_c hH24.all 4 ((takeS s 1).2.1) (by first | omega | exact rest_le1 hsl | exact rest_le2 hsl | exact rest_le3 hsl)) ?_)
      rintro _ w28 ⟨rfl, hX26⟩
      refine ⟨_, rfl, ?_⟩
      have hH27 := hX26.of_all
      refine s_op (o_move (v := (.tuple #[(.int .i64 ((takeS ((takeS s 1).2.1) 4).1)), (S ((takeS ((takeS s 1).2.1) 4).2.1)), (.bool ((takeS ((takeS s 1).2.1) 4).2.2))])) rfl ?_)
      refine s_op (o_extract (v := (.int .i64 ((takeS ((takeS s 1).2.1) 4).1))) rfl rfl ?_)
      refine s_op (o_extract (v := (S ((takeS ((takeS s 1).2.1) 4).2.1))) rfl rfl ?_)
      refine s_op (o_extract (v := (.bool ((takeS ((takeS s 1).2.1) 4).2.2))) rfl rfl ?_)
      refine s_op (o_fieldAddr (k := 0) (fun _ => by kernel_rfl) rfl ?_)
      refine s_eff (o_store1 (c' := #[(.int .i64 ((takeS ((takeS s 1).2.1) 4).1)), (.int .i64 0), (.int .i64 0), (S ([] : List UInt8))]) ti3 rfl rfl rfl (by simp) rfl (hH27.front 0 rfl) fun w29 hH30 => ?_)
      refine s_op (o_assign (v := (S ((takeS ((takeS s 1).2.1) 4).2.1))) rfl ?_)
      refine s_nil ?_
      refine t_norm (hK25 _ _ ?_)
      refine wp_seq_k fun K31 hK31 => ?_
      refine c_region ?_
      refine s_op (o_move (v := (S ((takeS ((takeS s 1).2.1) 4).2.1))) rfl ?_)
      refine s_op (o_callf (vs := #[(S ((takeS ((takeS s 1).2.1) 4).2.1)), (.int .i64 8)]) ca37 rfl (args2 rfl rfl) (take_c hH30.all 8 ((takeS ((takeS s 1).2.1) 4).2.1) (by first | omega | exact rest_le1 hsl | exact rest_le2 hsl | exact rest_le3 hsl)) ?_)
      rintro _ w34 ⟨rfl, hX32⟩
      refine ⟨_, rfl, ?_⟩
      have hH33 := hX32.of_all
      refine s_op (o_move (v := (.tuple #[(.int .i64 ((takeS ((takeS ((takeS s 1).2.1) 4).2.1) 8).1)), (S ((takeS ((takeS ((takeS s 1).2.1) 4).2.1) 8).2.1)), (.bool ((takeS ((takeS ((takeS s 1).2.1) 4).2.1) 8).2.2))])) rfl ?_)
      refine s_op (o_extract (v := (.int .i64 ((takeS ((takeS ((takeS s 1).2.1) 4).2.1) 8).1))) rfl rfl ?_)
      refine s_op (o_extract (v := (S ((takeS ((takeS ((takeS s 1).2.1) 4).2.1) 8).2.1))) rfl rfl ?_)
      refine s_op (o_extract (v := (.bool ((takeS ((takeS ((takeS s 1).2.1) 4).2.1) 8).2.2))) rfl rfl ?_)
      refine s_op (o_fieldAddr (k := 1) (fun _ => by kernel_rfl) rfl ?_)
      refine s_eff (o_store1 (c' := #[(.int .i64 ((takeS ((takeS s 1).2.1) 4).1)), (.int .i64 ((takeS ((takeS ((takeS s 1).2.1) 4).2.1) 8).1)), (.int .i64 0), (S ([] : List UInt8))]) ti3 rfl rfl rfl (by simp) rfl (hH33.front 0 rfl) fun w35 hH36 => ?_)
      refine s_op (o_assign (v := (S ((takeS ((takeS ((takeS s 1).2.1) 4).2.1) 8).2.1))) rfl ?_)
      refine s_nil ?_
      refine t_norm (hK31 _ _ ?_)
      refine wp_seq_k fun K37 hK37 => ?_
      refine c_region ?_
      refine s_op (o_move (v := (S ((takeS ((takeS ((takeS s 1).2.1) 4).2.1) 8).2.1))) rfl ?_)
      refine s_op (o_callf (vs := #[(S ((takeS ((takeS ((takeS s 1).2.1) 4).2.1) 8).2.1)), (.int .i64 8)]) ca37 rfl (args2 rfl rfl) (take_c hH36.all 8 ((takeS ((takeS ((takeS s 1).2.1) 4).2.1) 8).2.1) (by first | omega | exact rest_le1 hsl | exact rest_le2 hsl | exact rest_le3 hsl)) ?_)
      rintro _ w40 ⟨rfl, hX38⟩
      refine ⟨_, rfl, ?_⟩
      have hH39 := hX38.of_all
      refine s_op (o_move (v := (.tuple #[(.int .i64 ((takeS ((takeS ((takeS ((takeS s 1).2.1) 4).2.1) 8).2.1) 8).1)), (S ((takeS ((takeS ((takeS ((takeS s 1).2.1) 4).2.1) 8).2.1) 8).2.1)), (.bool ((takeS ((takeS ((takeS ((takeS s 1).2.1) 4).2.1) 8).2.1) 8).2.2))])) rfl ?_)
      refine s_op (o_extract (v := (.int .i64 ((takeS ((takeS ((takeS ((takeS s 1).2.1) 4).2.1) 8).2.1) 8).1))) rfl rfl ?_)
      refine s_op (o_extract (v := (S ((takeS ((takeS ((takeS ((takeS s 1).2.1) 4).2.1) 8).2.1) 8).2.1))) rfl rfl ?_)
      refine s_op (o_extract (v := (.bool ((takeS ((takeS ((takeS ((takeS s 1).2.1) 4).2.1) 8).2.1) 8).2.2))) rfl rfl ?_)
      refine s_op (o_fieldAddr (k := 2) (fun _ => by kernel_rfl) rfl ?_)
      refine s_eff (o_store1 (c' := #[(.int .i64 ((takeS ((takeS s 1).2.1) 4).1)), (.int .i64 ((takeS ((takeS ((takeS s 1).2.1) 4).2.1) 8).1)), (.int .i64 ((takeS ((takeS ((takeS ((takeS s 1).2.1) 4).2.1) 8).2.1) 8).1)), (S ([] : List UInt8))]) ti3 rfl rfl rfl (by simp) rfl (hH39.front 0 rfl) fun w41 hH42 => ?_)
      refine s_op (o_assign (v := (S ((takeS ((takeS ((takeS ((takeS s 1).2.1) 4).2.1) 8).2.1) 8).2.1))) rfl ?_)
      refine s_nil ?_
      refine t_norm (hK37 _ _ ?_)
      refine wp_seq_k fun K43 hK43 => ?_
      refine c_region ?_
      refine s_op (o_move (v := (S s)) rfl ?_)
      refine s_op (o_move (v := (.int .i64 ((takeS s 1).1))) rfl ?_)
      refine s_op (o_add (a := 21) (b := (takeS s 1).1) rfl rfl (w64 (by omega) (by omega)) ?_)
      refine s_op (o_ssl Tryd.underlying9 rfl rfl rfl (by omega) (by omega) (by omega) ?_)
      refine s_op (o_fieldAddr (k := 3) (fun _ => by kernel_rfl) rfl ?_)
      refine s_eff (o_store1 (c' := #[(.int .i64 ((takeS ((takeS s 1).2.1) 4).1)), (.int .i64 ((takeS ((takeS ((takeS s 1).2.1) 4).2.1) 8).1)), (.int .i64 ((takeS ((takeS ((takeS ((takeS s 1).2.1) 4).2.1) 8).2.1) 8).1)), (S ((s.take (21 + ((takeS s 1).1)).toNat).drop 21))]) ti9 rfl rfl rfl (by simp) rfl (hH42.front 0 rfl) fun w44 hH45 => ?_)
      refine s_nil ?_
      refine t_norm (hK43 _ _ ?_)
      refine wp_seq_k fun K46 hK46 => ?_
      refine wp_seq_k fun K47 hK47 => ?_
      rcases Bool.eq_false_or_eq_true (!(rightS (Fr.mk ((takeS ((takeS s 1).2.1) 4).1) ((takeS ((takeS ((takeS s 1).2.1) 4).2.1) 8).1) ((takeS ((takeS ((takeS ((takeS s 1).2.1) 4).2.1) 8).2.1) 8).1) ((s.take (21 + ((takeS s 1).1)).toNat).drop 21)))) with h48 | h48
      · -- !(rightS (Fr.mk ((takeS ((takeS s 1).2.1) 4).1) ((takeS ((takeS ((takeS s 1).2.1) 4).2.1) 8).1) ((takeS ((takeS ((takeS ((takeS s 1).2.1) 4).2.1) 8).2.1) 8).1) ((s.take (21 + ((takeS s 1).1)).toNat).drop 21)))
        refine c_flow3 [[Hp.one b22 (.cells #[(.int .i64 ((takeS ((takeS s 1).2.1) 4).1)), (.int .i64 ((takeS ((takeS ((takeS s 1).2.1) 4).2.1) 8).1)), (.int .i64 ((takeS ((takeS ((takeS ((takeS s 1).2.1) 4).2.1) 8).2.1) 8).1)), (S ((s.take (21 + ((takeS s 1).1)).toNat).drop 21))] 40 (0, 0))], [Hp.one b2 (.cells #[(.int .i64 0), (.int .i64 0), (.int .i64 0), (S ([] : List UInt8))] 40 (0, 0))], R] (fun i_ => match i_ with | _ => []) (fun i_ v_ h_ m_ => match i_ with | 0 => v_ = (.agg #[(.int .i64 ((takeS ((takeS s 1).2.1) 4).1)), (.int .i64 ((takeS ((takeS ((takeS s 1).2.1) 4).2.1) 8).1)), (.int .i64 ((takeS ((takeS ((takeS ((takeS s 1).2.1) 4).2.1) 8).2.1) 8).1)), (S ((s.take (21 + ((takeS s 1).1)).toNat).drop 21))]) ∧ h_ = [] | 1 => v_ = (.bool (rightS (Fr.mk ((takeS ((takeS s 1).2.1) 4).1) ((takeS ((takeS ((takeS s 1).2.1) 4).2.1) 8).1) ((takeS ((takeS ((takeS ((takeS s 1).2.1) 4).2.1) 8).2.1) 8).1) ((s.take (21 + ((takeS s 1).1)).toNat).drop 21)))) ∧ h_ = [] | 2 => v_ = (.bool (!(rightS (Fr.mk ((takeS ((takeS s 1).2.1) 4).1) ((takeS ((takeS ((takeS s 1).2.1) 4).2.1) 8).1) ((takeS ((takeS ((takeS ((takeS s 1).2.1) 4).2.1) 8).2.1) 8).1) ((s.take (21 + ((takeS s 1).1)).toNat).drop 21))))) ∧ h_ = [] | 3 => v_ = (.bool (!(rightS (Fr.mk ((takeS ((takeS s 1).2.1) 4).1) ((takeS ((takeS ((takeS s 1).2.1) 4).2.1) 8).1) ((takeS ((takeS ((takeS ((takeS s 1).2.1) 4).2.1) 8).2.1) 8).1) ((s.take (21 + ((takeS s 1).1)).toNat).drop 21))))) ∧ h_ = [] | 4 => v_ = undef ∧ h_ = [] | 5 => v_ = undef ∧ h_ = [] | 6 => v_ = undef ∧ h_ = [] | 7 => v_ = undef ∧ h_ = [] | 8 => v_ = undef ∧ h_ = [] | 9 => v_ = undef ∧ h_ = [] | 10 => v_ = undef ∧ h_ = [] | 11 => v_ = (.bool true) ∧ h_ = [] | _ => True) mixed (by kernel_rfl) (flow_has (cs := []) hH45 rfl) ?_ ?_
        · intro i_ o_ ho_ r' w' G hs_ ht
          match i_, ho_ with
          | 0, ho_ =>
            obtain rfl := Option.some.inj ho_
            have e8 : r' 8 = (.pointer (some ⟨b22, 0, none⟩)) := ht.was 8 (by kernel_rfl)
            have hG := ht.has.drop
            refine GOK.free rfl ?_
            refine o_loadN (cs := [(.int .i64 ((takeS ((takeS s 1).2.1) 4).1)), (.int .i64 ((takeS ((takeS ((takeS s 1).2.1) 4).2.1) 8).1)), (.int .i64 ((takeS ((takeS ((takeS ((takeS s 1).2.1) 4).2.1) 8).2.1) 8).1)), (S ((s.take (21 + ((takeS s 1).1)).toNat).drop 21))]) Tryd.underlying40 rfl ti40 e8 hG (ht.fr [Hp.one b22 (.cells #[(.int .i64 ((takeS ((takeS s 1).2.1) 4).1)), (.int .i64 ((takeS ((takeS ((takeS s 1).2.1) 4).2.1) 8).1)), (.int .i64 ((takeS ((takeS ((takeS ((takeS s 1).2.1) 4).2.1) 8).2.1) 8).1)), (S ((s.take (21 + ((takeS s 1).1)).toNat).drop 21))] 40 (0, 0))] (by simp)) (CellsAt.one rfl) ?_
            exact ⟨_, ⟨rfl, rfl⟩, hG⟩
          | 1, ho_ =>
            obtain rfl := Option.some.inj ho_
            obtain ⟨e51, eh0⟩ := (ht.done 0 _ rfl rfl).1
            have hG := ht.has.drop
            refine GOK.free rfl ?_
            refine o_callf (vs := #[(.agg #[(.int .i64 ((takeS ((takeS s 1).2.1) 4).1)), (.int .i64 ((takeS ((takeS ((takeS s 1).2.1) 4).2.1) 8).1)), (.int .i64 ((takeS ((takeS ((takeS ((takeS s 1).2.1) 4).2.1) 8).2.1) 8).1)), (S ((s.take (21 + ((takeS s 1).1)).toNat).drop 21))])]) ca38 rfl (args1 e51) (right_c hG.all (Fr.mk ((takeS ((takeS s 1).2.1) 4).1) ((takeS ((takeS ((takeS s 1).2.1) 4).2.1) 8).1) ((takeS ((takeS ((takeS ((takeS s 1).2.1) 4).2.1) 8).2.1) 8).1) ((s.take (21 + ((takeS s 1).1)).toNat).drop 21)) (by simp only [List.length_drop, List.length_take]; omega)) ?_
            rintro _ w51 ⟨rfl, hX49⟩
            refine ⟨_, rfl, ?_⟩
            have hH50 := hX49.of_all
            exact ⟨_, ⟨rfl, rfl⟩, hH50⟩
          | 2, ho_ =>
            obtain rfl := Option.some.inj ho_
            obtain ⟨e52, eh1⟩ := (ht.done 1 _ rfl rfl).1
            have hG := ht.has.drop
            refine GOK.free rfl ?_
            refine o_not e52 ?_
            exact ⟨_, ⟨rfl, rfl⟩, hG⟩
          | 3, ho_ =>
            obtain rfl := Option.some.inj ho_
            obtain ⟨e53, eh2⟩ := (ht.done 2 _ rfl rfl).1
            have hG := ht.has.drop
            refine GOK.free rfl ?_
            refine o_move (v := (.bool (!(rightS (Fr.mk ((takeS ((takeS s 1).2.1) 4).1) ((takeS ((takeS ((takeS s 1).2.1) 4).2.1) 8).1) ((takeS ((takeS ((takeS ((takeS s 1).2.1) 4).2.1) 8).2.1) 8).1) ((s.take (21 + ((takeS s 1).1)).toNat).drop 21)))))) e53 ?_
            exact ⟨_, ⟨rfl, rfl⟩, hG⟩
          | 4, ho_ =>
            obtain rfl := Option.some.inj ho_
            obtain ⟨e54, eh3⟩ := (ht.done 3 _ rfl rfl).1
            have hG := ht.has.drop
            refine GOK.off (b' := true) rfl rfl (Eq.trans e54 (congrArg Value.bool h48)) rfl ?_
            exact ⟨_, ⟨rfl, rfl⟩, ht.has⟩
          | 5, ho_ =>
            obtain rfl := Option.some.inj ho_
            obtain ⟨e54, eh3⟩ := (ht.done 3 _ rfl rfl).1
            have hG := ht.has.drop
            refine GOK.off (b' := true) rfl rfl (Eq.trans e54 (congrArg Value.bool h48)) rfl ?_
            exact ⟨_, ⟨rfl, rfl⟩, ht.has⟩
          | 6, ho_ =>
            obtain rfl := Option.some.inj ho_
            obtain ⟨e54, eh3⟩ := (ht.done 3 _ rfl rfl).1
            have hG := ht.has.drop
            refine GOK.off (b' := true) rfl rfl (Eq.trans e54 (congrArg Value.bool h48)) rfl ?_
            exact ⟨_, ⟨rfl, rfl⟩, ht.has⟩
          | 7, ho_ =>
            obtain rfl := Option.some.inj ho_
            obtain ⟨e54, eh3⟩ := (ht.done 3 _ rfl rfl).1
            have hG := ht.has.drop
            refine GOK.off (b' := true) rfl rfl (Eq.trans e54 (congrArg Value.bool h48)) rfl ?_
            exact ⟨_, ⟨rfl, rfl⟩, ht.has⟩
          | 8, ho_ =>
            obtain rfl := Option.some.inj ho_
            obtain ⟨e54, eh3⟩ := (ht.done 3 _ rfl rfl).1
            have hG := ht.has.drop
            refine GOK.off (b' := true) rfl rfl (Eq.trans e54 (congrArg Value.bool h48)) rfl ?_
            exact ⟨_, ⟨rfl, rfl⟩, ht.has⟩
          | 9, ho_ =>
            obtain rfl := Option.some.inj ho_
            obtain ⟨e54, eh3⟩ := (ht.done 3 _ rfl rfl).1
            have hG := ht.has.drop
            refine GOK.off (b' := true) rfl rfl (Eq.trans e54 (congrArg Value.bool h48)) rfl ?_
            exact ⟨_, ⟨rfl, rfl⟩, ht.has⟩
          | 10, ho_ =>
            obtain rfl := Option.some.inj ho_
            obtain ⟨e54, eh3⟩ := (ht.done 3 _ rfl rfl).1
            have hG := ht.has.drop
            refine GOK.off (b' := true) rfl rfl (Eq.trans e54 (congrArg Value.bool h48)) rfl ?_
            exact ⟨_, ⟨rfl, rfl⟩, ht.has⟩
          | 11, ho_ =>
            obtain rfl := Option.some.inj ho_
            obtain ⟨e54, eh3⟩ := (ht.done 3 _ rfl rfl).1
            obtain ⟨e61, eh10⟩ := (ht.done 10 _ rfl rfl).1
            have hG := ht.has.drop
            refine GOK.free rfl ?_
            refine o_pick_t (u := (.bool true)) ((e54 : _ = _).trans (congrArg Value.bool h48)) rfl ?_
            exact ⟨_, ⟨rfl, rfl⟩, hG⟩
          | i_ + 12, ho_ => exact absurd ho_ (by simp)
        · intro vs52 hs53 w54 hT55 hH56
          obtain ⟨e0_, eh0_⟩ := hT55 0 _ rfl
          obtain ⟨e1_, eh1_⟩ := hT55 1 _ rfl
          obtain ⟨e2_, eh2_⟩ := hT55 2 _ rfl
          obtain ⟨e3_, eh3_⟩ := hT55 3 _ rfl
          obtain ⟨e4_, eh4_⟩ := hT55 4 _ rfl
          obtain ⟨e5_, eh5_⟩ := hT55 5 _ rfl
          obtain ⟨e6_, eh6_⟩ := hT55 6 _ rfl
          obtain ⟨e7_, eh7_⟩ := hT55 7 _ rfl
          obtain ⟨e8_, eh8_⟩ := hT55 8 _ rfl
          obtain ⟨e9_, eh9_⟩ := hT55 9 _ rfl
          obtain ⟨e10_, eh10_⟩ := hT55 10 _ rfl
          obtain ⟨e11_, eh11_⟩ := hT55 11 _ rfl
          have hH57 : Has E w54 ([[Hp.one b22 (.cells #[(.int .i64 ((takeS ((takeS s 1).2.1) 4).1)), (.int .i64 ((takeS ((takeS ((takeS s 1).2.1) 4).2.1) 8).1)), (.int .i64 ((takeS ((takeS ((takeS ((takeS s 1).2.1) 4).2.1) 8).2.1) 8).1)), (S ((s.take (21 + ((takeS s 1).1)).toNat).drop 21))] 40 (0, 0))], [Hp.one b2 (.cells #[(.int .i64 0), (.int .i64 0), (.int .i64 0), (S ([] : List UInt8))] 40 (0, 0))], R] ++ []) := flow_back (cs := []) hH56 (by show (hs53 0 ++ (hs53 1 ++ (hs53 2 ++ (hs53 3 ++ (hs53 4 ++ (hs53 5 ++ (hs53 6 ++ (hs53 7 ++ (hs53 8 ++ (hs53 9 ++ (hs53 10 ++ (hs53 11 ++ [])))))))))))) = _; rw [eh0_, eh1_, eh2_, eh3_, eh4_, eh5_, eh6_, eh7_, eh8_, eh9_, eh10_, eh11_]; rfl)
          generalize hr59 : puts vs52 _ 0 _ = r58
          have e60_0 : r58 0 = (S s) := by rw [← hr59]; exact rfl
          have e60_2 : r58 2 = (.pointer (some ⟨b2, 0, none⟩)) := by rw [← hr59]; exact rfl
          have e60_3 : r58 3 = (.int .i64 0) := by rw [← hr59]; exact rfl
          have e60_4 : r58 4 = (.bool false) := by rw [← hr59]; exact rfl
          have e60_5 : r58 5 = (.int .i64 ((takeS s 1).1)) := by rw [← hr59]; exact rfl
          have e60_6 : r58 6 = (S ((takeS ((takeS ((takeS ((takeS s 1).2.1) 4).2.1) 8).2.1) 8).2.1)) := by rw [← hr59]; exact rfl
          have e60_7 : r58 7 = (.bool ((takeS s 1).2.2)) := by rw [← hr59]; exact rfl
          have e60_8 : r58 8 = (.pointer (some ⟨b22, 0, none⟩)) := by rw [← hr59]; exact rfl
          have e60_23 : r58 23 = (.bool (decide ((s.length : Int) < ((takeS s 1).1) + 25))) := by rw [← hr59]; exact rfl
          have e60_62 : r58 62 = (.bool true) := by rw [← hr59]; exact e11_
          refine t_norm (hK47 _ _ ?_)
          refine c_true e60_62 rfl ?_
          refine wp_seq_k fun K61 hK61 => ?_
          refine c_region ?_
          refine s_op (o_sight (v := (.agg #[(.int .i64 0), (.int .i64 0), (.int .i64 0), (S ([] : List UInt8))])) (fun _ => by kernel_rfl) ?_)
          refine s_eff (o_storeN (vs := [(.int .i64 0), (.int .i64 0), (.int .i64 0), (S ([] : List UInt8))]) (c' := #[(.int .i64 0), (.int .i64 0), (.int .i64 0), (S ([] : List UInt8))]) ti40 e60_2 rfl rfl rfl (by intro u hu; simp only [List.mem_cons, List.not_mem_nil, or_false] at hu; rcases hu with rfl | rfl | rfl | rfl <;> first | rfl) (by simp) (by kernel_rfl) (hH57.front 1 rfl) fun w62 hH63 => ?_)
          refine s_op (o_assign (v := (.int .i64 0)) rfl ?_)
          refine s_op (o_assign (v := (.bool false)) rfl ?_)
          refine s_nil ?_
          refine t_norm (hK61 _ _ ?_)
          refine wp_ret ?_
          refine t_ret (c_retC3 Tryd.results24 e60_2 (run_loadVarN (cs := [(.int .i64 0), (.int .i64 0), (.int .i64 0), (S ([] : List UInt8))]) Tryd.underlying40 rfl ti40 hH63 (seg_sub 0 rfl) (CellsAt.one rfl)) (x := (.int .i64 0)) rfl (y := (.bool false)) rfl ?_)
          have hH64 : Has E w62 [R] := (hH63.front 2 rfl).first 1 rfl
          have ho : opensB s = false := opens_no3 (not_t h48)
          exact ⟨by unfold oF oN; rw [ho]; rfl, hH64⟩
      · -- not: !(rightS (Fr.mk ((takeS ((takeS s 1).2.1) 4).1) ((takeS ((takeS ((takeS s 1).2.1) 4).2.1) 8).1) ((takeS ((takeS ((takeS ((takeS s 1).2.1) 4).2.1) 8).2.1) 8).1) ((s.take (21 + ((takeS s 1).1)).toNat).drop 21)))
        refine c_flow3 [[Hp.one b22 (.cells #[(.int .i64 ((takeS ((takeS s 1).2.1) 4).1)), (.int .i64 ((takeS ((takeS ((takeS s 1).2.1) 4).2.1) 8).1)), (.int .i64 ((takeS ((takeS ((takeS ((takeS s 1).2.1) 4).2.1) 8).2.1) 8).1)), (S ((s.take (21 + ((takeS s 1).1)).toNat).drop 21))] 40 (0, 0))], [Hp.one b2 (.cells #[(.int .i64 0), (.int .i64 0), (.int .i64 0), (S ([] : List UInt8))] 40 (0, 0))], R] (fun i_ => match i_ with | _ => []) (fun i_ v_ h_ m_ => match i_ with | 0 => v_ = (.agg #[(.int .i64 ((takeS ((takeS s 1).2.1) 4).1)), (.int .i64 ((takeS ((takeS ((takeS s 1).2.1) 4).2.1) 8).1)), (.int .i64 ((takeS ((takeS ((takeS ((takeS s 1).2.1) 4).2.1) 8).2.1) 8).1)), (S ((s.take (21 + ((takeS s 1).1)).toNat).drop 21))]) ∧ h_ = [] | 1 => v_ = (.bool (rightS (Fr.mk ((takeS ((takeS s 1).2.1) 4).1) ((takeS ((takeS ((takeS s 1).2.1) 4).2.1) 8).1) ((takeS ((takeS ((takeS ((takeS s 1).2.1) 4).2.1) 8).2.1) 8).1) ((s.take (21 + ((takeS s 1).1)).toNat).drop 21)))) ∧ h_ = [] | 2 => v_ = (.bool (!(rightS (Fr.mk ((takeS ((takeS s 1).2.1) 4).1) ((takeS ((takeS ((takeS s 1).2.1) 4).2.1) 8).1) ((takeS ((takeS ((takeS ((takeS s 1).2.1) 4).2.1) 8).2.1) 8).1) ((s.take (21 + ((takeS s 1).1)).toNat).drop 21))))) ∧ h_ = [] | 3 => v_ = (.bool (!(rightS (Fr.mk ((takeS ((takeS s 1).2.1) 4).1) ((takeS ((takeS ((takeS s 1).2.1) 4).2.1) 8).1) ((takeS ((takeS ((takeS ((takeS s 1).2.1) 4).2.1) 8).2.1) 8).1) ((s.take (21 + ((takeS s 1).1)).toNat).drop 21))))) ∧ h_ = [] | 4 => v_ = (.agg #[(.int .i64 ((takeS ((takeS s 1).2.1) 4).1)), (.int .i64 ((takeS ((takeS ((takeS s 1).2.1) 4).2.1) 8).1)), (.int .i64 ((takeS ((takeS ((takeS ((takeS s 1).2.1) 4).2.1) 8).2.1) 8).1)), (S ((s.take (21 + ((takeS s 1).1)).toNat).drop 21))]) ∧ h_ = [] | 5 => v_ = (S (makeS (Fr.mk ((takeS ((takeS s 1).2.1) 4).1) ((takeS ((takeS ((takeS s 1).2.1) 4).2.1) 8).1) ((takeS ((takeS ((takeS ((takeS s 1).2.1) 4).2.1) 8).2.1) 8).1) ((s.take (21 + ((takeS s 1).1)).toNat).drop 21)))) ∧ h_ = [] | 6 => v_ = (S s) ∧ h_ = [] | 7 => v_ = (.int .i64 ((takeS s 1).1)) ∧ h_ = [] | 8 => v_ = (.int .i64 (((takeS s 1).1) + 25)) ∧ h_ = [] | 9 => v_ = (S (s.take (((takeS s 1).1) + 25).toNat)) ∧ h_ = [] | 10 => v_ = (.bool (decide ((makeS (Fr.mk ((takeS ((takeS s 1).2.1) 4).1) ((takeS ((takeS ((takeS s 1).2.1) 4).2.1) 8).1) ((takeS ((takeS ((takeS ((takeS s 1).2.1) 4).2.1) 8).2.1) 8).1) ((s.take (21 + ((takeS s 1).1)).toNat).drop 21))) ≠ s.take (((takeS s 1).1) + 25).toNat))) ∧ h_ = [] | 11 => v_ = (.bool (decide ((makeS (Fr.mk ((takeS ((takeS s 1).2.1) 4).1) ((takeS ((takeS ((takeS s 1).2.1) 4).2.1) 8).1) ((takeS ((takeS ((takeS ((takeS s 1).2.1) 4).2.1) 8).2.1) 8).1) ((s.take (21 + ((takeS s 1).1)).toNat).drop 21))) ≠ s.take (((takeS s 1).1) + 25).toNat))) ∧ h_ = [] | _ => True) mixed (by kernel_rfl) (flow_has (cs := []) hH45 rfl) ?_ ?_
        · intro i_ o_ ho_ r' w' G hs_ ht
          match i_, ho_ with
          | 0, ho_ =>
            obtain rfl := Option.some.inj ho_
            have e8 : r' 8 = (.pointer (some ⟨b22, 0, none⟩)) := ht.was 8 (by kernel_rfl)
            have hG := ht.has.drop
            refine GOK.free rfl ?_
            refine o_loadN (cs := [(.int .i64 ((takeS ((takeS s 1).2.1) 4).1)), (.int .i64 ((takeS ((takeS ((takeS s 1).2.1) 4).2.1) 8).1)), (.int .i64 ((takeS ((takeS ((takeS ((takeS s 1).2.1) 4).2.1) 8).2.1) 8).1)), (S ((s.take (21 + ((takeS s 1).1)).toNat).drop 21))]) Tryd.underlying40 rfl ti40 e8 hG (ht.fr [Hp.one b22 (.cells #[(.int .i64 ((takeS ((takeS s 1).2.1) 4).1)), (.int .i64 ((takeS ((takeS ((takeS s 1).2.1) 4).2.1) 8).1)), (.int .i64 ((takeS ((takeS ((takeS ((takeS s 1).2.1) 4).2.1) 8).2.1) 8).1)), (S ((s.take (21 + ((takeS s 1).1)).toNat).drop 21))] 40 (0, 0))] (by simp)) (CellsAt.one rfl) ?_
            exact ⟨_, ⟨rfl, rfl⟩, hG⟩
          | 1, ho_ =>
            obtain rfl := Option.some.inj ho_
            obtain ⟨e51, eh0⟩ := (ht.done 0 _ rfl rfl).1
            have hG := ht.has.drop
            refine GOK.free rfl ?_
            refine o_callf (vs := #[(.agg #[(.int .i64 ((takeS ((takeS s 1).2.1) 4).1)), (.int .i64 ((takeS ((takeS ((takeS s 1).2.1) 4).2.1) 8).1)), (.int .i64 ((takeS ((takeS ((takeS ((takeS s 1).2.1) 4).2.1) 8).2.1) 8).1)), (S ((s.take (21 + ((takeS s 1).1)).toNat).drop 21))])]) ca38 rfl (args1 e51) (right_c hG.all (Fr.mk ((takeS ((takeS s 1).2.1) 4).1) ((takeS ((takeS ((takeS s 1).2.1) 4).2.1) 8).1) ((takeS ((takeS ((takeS ((takeS s 1).2.1) 4).2.1) 8).2.1) 8).1) ((s.take (21 + ((takeS s 1).1)).toNat).drop 21)) (by simp only [List.length_drop, List.length_take]; omega)) ?_
            rintro _ w67 ⟨rfl, hX65⟩
            refine ⟨_, rfl, ?_⟩
            have hH66 := hX65.of_all
            exact ⟨_, ⟨rfl, rfl⟩, hH66⟩
          | 2, ho_ =>
            obtain rfl := Option.some.inj ho_
            obtain ⟨e52, eh1⟩ := (ht.done 1 _ rfl rfl).1
            have hG := ht.has.drop
            refine GOK.free rfl ?_
            refine o_not e52 ?_
            exact ⟨_, ⟨rfl, rfl⟩, hG⟩
          | 3, ho_ =>
            obtain rfl := Option.some.inj ho_
            obtain ⟨e53, eh2⟩ := (ht.done 2 _ rfl rfl).1
            have hG := ht.has.drop
            refine GOK.free rfl ?_
            refine o_move (v := (.bool (!(rightS (Fr.mk ((takeS ((takeS s 1).2.1) 4).1) ((takeS ((takeS ((takeS s 1).2.1) 4).2.1) 8).1) ((takeS ((takeS ((takeS ((takeS s 1).2.1) 4).2.1) 8).2.1) 8).1) ((s.take (21 + ((takeS s 1).1)).toNat).drop 21)))))) e53 ?_
            exact ⟨_, ⟨rfl, rfl⟩, hG⟩
          | 4, ho_ =>
            obtain rfl := Option.some.inj ho_
            obtain ⟨e54, eh3⟩ := (ht.done 3 _ rfl rfl).1
            have e8 : r' 8 = (.pointer (some ⟨b22, 0, none⟩)) := ht.was 8 (by kernel_rfl)
            have hG := ht.has.drop
            refine GOK.on rfl rfl (Eq.trans e54 (congrArg Value.bool h48)) ?_
            refine o_loadN (cs := [(.int .i64 ((takeS ((takeS s 1).2.1) 4).1)), (.int .i64 ((takeS ((takeS ((takeS s 1).2.1) 4).2.1) 8).1)), (.int .i64 ((takeS ((takeS ((takeS ((takeS s 1).2.1) 4).2.1) 8).2.1) 8).1)), (S ((s.take (21 + ((takeS s 1).1)).toNat).drop 21))]) Tryd.underlying40 rfl ti40 e8 hG (ht.fr [Hp.one b22 (.cells #[(.int .i64 ((takeS ((takeS s 1).2.1) 4).1)), (.int .i64 ((takeS ((takeS ((takeS s 1).2.1) 4).2.1) 8).1)), (.int .i64 ((takeS ((takeS ((takeS ((takeS s 1).2.1) 4).2.1) 8).2.1) 8).1)), (S ((s.take (21 + ((takeS s 1).1)).toNat).drop 21))] 40 (0, 0))] (by simp)) (CellsAt.one rfl) ?_
            exact ⟨_, ⟨rfl, rfl⟩, hG⟩
          | 5, ho_ =>
            obtain rfl := Option.some.inj ho_
            obtain ⟨e54, eh3⟩ := (ht.done 3 _ rfl rfl).1
            obtain ⟨e55, eh4⟩ := (ht.done 4 _ rfl rfl).1
            have hG := ht.has.drop
            refine GOK.on rfl rfl (Eq.trans e54 (congrArg Value.bool h48)) ?_
            refine o_callf (vs := #[(.agg #[(.int .i64 ((takeS ((takeS s 1).2.1) 4).1)), (.int .i64 ((takeS ((takeS ((takeS s 1).2.1) 4).2.1) 8).1)), (.int .i64 ((takeS ((takeS ((takeS ((takeS s 1).2.1) 4).2.1) 8).2.1) 8).1)), (S ((s.take (21 + ((takeS s 1).1)).toNat).drop 21))]), (.slice none 0 0)]) ca26 rfl (args2 e55 rfl) (make1_c hG.all (hg.mono (ht.fr R (by simp))) (Fr.mk ((takeS ((takeS s 1).2.1) 4).1) ((takeS ((takeS ((takeS s 1).2.1) 4).2.1) 8).1) ((takeS ((takeS ((takeS ((takeS s 1).2.1) 4).2.1) 8).2.1) 8).1) ((s.take (21 + ((takeS s 1).1)).toNat).drop 21)) (by simp only [List.length_drop, List.length_take]; omega)) ?_
            rintro _ w70 ⟨rfl, hX68⟩
            refine ⟨_, rfl, ?_⟩
            have hH69 := hX68.of_all
            exact ⟨_, ⟨rfl, rfl⟩, hH69⟩
          | 6, ho_ =>
            obtain rfl := Option.some.inj ho_
            obtain ⟨e54, eh3⟩ := (ht.done 3 _ rfl rfl).1
            have e0 : r' 0 = (S s) := ht.was 0 (by kernel_rfl)
            have hG := ht.has.drop
            refine GOK.on rfl rfl (Eq.trans e54 (congrArg Value.bool h48)) ?_
            refine o_move (v := (S s)) e0 ?_
            exact ⟨_, ⟨rfl, rfl⟩, hG⟩
          | 7, ho_ =>
            obtain rfl := Option.some.inj ho_
            obtain ⟨e54, eh3⟩ := (ht.done 3 _ rfl rfl).1
            have e5 : r' 5 = (.int .i64 ((takeS s 1).1)) := ht.was 5 (by kernel_rfl)
            have hG := ht.has.drop
            refine GOK.on rfl rfl (Eq.trans e54 (congrArg Value.bool h48)) ?_
            refine o_move (v := (.int .i64 ((takeS s 1).1))) e5 ?_
            exact ⟨_, ⟨rfl, rfl⟩, hG⟩
          | 8, ho_ =>
            obtain rfl := Option.some.inj ho_
            obtain ⟨e54, eh3⟩ := (ht.done 3 _ rfl rfl).1
            obtain ⟨e58, eh7⟩ := (ht.done 7 _ rfl rfl).1
            have hG := ht.has.drop
            refine GOK.on rfl rfl (Eq.trans e54 (congrArg Value.bool h48)) ?_
            refine o_add (a := (takeS s 1).1) (b := 25) e58 rfl (w64 (by omega) (by omega)) ?_
            exact ⟨_, ⟨rfl, rfl⟩, hG⟩
          | 9, ho_ =>
            obtain rfl := Option.some.inj ho_
            obtain ⟨e54, eh3⟩ := (ht.done 3 _ rfl rfl).1
            obtain ⟨e57, eh6⟩ := (ht.done 6 _ rfl rfl).1
            obtain ⟨e59, eh8⟩ := (ht.done 8 _ rfl rfl).1
            have hG := ht.has.drop
            refine GOK.on rfl rfl (Eq.trans e54 (congrArg Value.bool h48)) ?_
            refine o_ssl_h Tryd.underlying9 e57 e59 (by omega) (by omega) ?_
            exact ⟨_, ⟨rfl, rfl⟩, hG⟩
          | 10, ho_ =>
            obtain rfl := Option.some.inj ho_
            obtain ⟨e54, eh3⟩ := (ht.done 3 _ rfl rfl).1
            obtain ⟨e56, eh5⟩ := (ht.done 5 _ rfl rfl).1
            obtain ⟨e60, eh9⟩ := (ht.done 9 _ rfl rfl).1
            have hG := ht.has.drop
            refine GOK.on rfl rfl (Eq.trans e54 (congrArg Value.bool h48)) ?_
            refine o_sneq (a := (makeS (Fr.mk ((takeS ((takeS s 1).2.1) 4).1) ((takeS ((takeS ((takeS s 1).2.1) 4).2.1) 8).1) ((takeS ((takeS ((takeS ((takeS s 1).2.1) 4).2.1) 8).2.1) 8).1) ((s.take (21 + ((takeS s 1).1)).toNat).drop 21)))) (b := s.take (((takeS s 1).1) + 25).toNat) e56 e60 ?_
            exact ⟨_, ⟨rfl, rfl⟩, hG⟩
          | 11, ho_ =>
            obtain rfl := Option.some.inj ho_
            obtain ⟨e54, eh3⟩ := (ht.done 3 _ rfl rfl).1
            obtain ⟨e61, eh10⟩ := (ht.done 10 _ rfl rfl).1
            have hG := ht.has.drop
            refine GOK.free rfl ?_
            refine o_pick_f (u := (.bool (decide ((makeS (Fr.mk ((takeS ((takeS s 1).2.1) 4).1) ((takeS ((takeS ((takeS s 1).2.1) 4).2.1) 8).1) ((takeS ((takeS ((takeS ((takeS s 1).2.1) 4).2.1) 8).2.1) 8).1) ((s.take (21 + ((takeS s 1).1)).toNat).drop 21))) ≠ s.take (((takeS s 1).1) + 25).toNat)))) ((e54 : _ = _).trans (congrArg Value.bool h48)) e61 ?_
            exact ⟨_, ⟨rfl, rfl⟩, hG⟩
          | i_ + 12, ho_ => exact absurd ho_ (by simp)
        · intro vs71 hs72 w73 hT74 hH75
          obtain ⟨e0_, eh0_⟩ := hT74 0 _ rfl
          obtain ⟨e1_, eh1_⟩ := hT74 1 _ rfl
          obtain ⟨e2_, eh2_⟩ := hT74 2 _ rfl
          obtain ⟨e3_, eh3_⟩ := hT74 3 _ rfl
          obtain ⟨e4_, eh4_⟩ := hT74 4 _ rfl
          obtain ⟨e5_, eh5_⟩ := hT74 5 _ rfl
          obtain ⟨e6_, eh6_⟩ := hT74 6 _ rfl
          obtain ⟨e7_, eh7_⟩ := hT74 7 _ rfl
          obtain ⟨e8_, eh8_⟩ := hT74 8 _ rfl
          obtain ⟨e9_, eh9_⟩ := hT74 9 _ rfl
          obtain ⟨e10_, eh10_⟩ := hT74 10 _ rfl
          obtain ⟨e11_, eh11_⟩ := hT74 11 _ rfl
          have hH76 : Has E w73 ([[Hp.one b22 (.cells #[(.int .i64 ((takeS ((takeS s 1).2.1) 4).1)), (.int .i64 ((takeS ((takeS ((takeS s 1).2.1) 4).2.1) 8).1)), (.int .i64 ((takeS ((takeS ((takeS ((takeS s 1).2.1) 4).2.1) 8).2.1) 8).1)), (S ((s.take (21 + ((takeS s 1).1)).toNat).drop 21))] 40 (0, 0))], [Hp.one b2 (.cells #[(.int .i64 0), (.int .i64 0), (.int .i64 0), (S ([] : List UInt8))] 40 (0, 0))], R] ++ []) := flow_back (cs := []) hH75 (by show (hs72 0 ++ (hs72 1 ++ (hs72 2 ++ (hs72 3 ++ (hs72 4 ++ (hs72 5 ++ (hs72 6 ++ (hs72 7 ++ (hs72 8 ++ (hs72 9 ++ (hs72 10 ++ (hs72 11 ++ [])))))))))))) = _; rw [eh0_, eh1_, eh2_, eh3_, eh4_, eh5_, eh6_, eh7_, eh8_, eh9_, eh10_, eh11_]; rfl)
          generalize hr78 : puts vs71 _ 0 _ = r77
          have e79_0 : r77 0 = (S s) := by rw [← hr78]; exact rfl
          have e79_2 : r77 2 = (.pointer (some ⟨b2, 0, none⟩)) := by rw [← hr78]; exact rfl
          have e79_3 : r77 3 = (.int .i64 0) := by rw [← hr78]; exact rfl
          have e79_4 : r77 4 = (.bool false) := by rw [← hr78]; exact rfl
          have e79_5 : r77 5 = (.int .i64 ((takeS s 1).1)) := by rw [← hr78]; exact rfl
          have e79_6 : r77 6 = (S ((takeS ((takeS ((takeS ((takeS s 1).2.1) 4).2.1) 8).2.1) 8).2.1)) := by rw [← hr78]; exact rfl
          have e79_7 : r77 7 = (.bool ((takeS s 1).2.2)) := by rw [← hr78]; exact rfl
          have e79_8 : r77 8 = (.pointer (some ⟨b22, 0, none⟩)) := by rw [← hr78]; exact rfl
          have e79_23 : r77 23 = (.bool (decide ((s.length : Int) < ((takeS s 1).1) + 25))) := by rw [← hr78]; exact rfl
          have e79_62 : r77 62 = (.bool (decide ((makeS (Fr.mk ((takeS ((takeS s 1).2.1) 4).1) ((takeS ((takeS ((takeS s 1).2.1) 4).2.1) 8).1) ((takeS ((takeS ((takeS ((takeS s 1).2.1) 4).2.1) 8).2.1) 8).1) ((s.take (21 + ((takeS s 1).1)).toNat).drop 21))) ≠ s.take (((takeS s 1).1) + 25).toNat))) := by rw [← hr78]; exact e11_
          refine t_norm (hK47 _ _ ?_)
          refine c_cond e79_62 (fun h80 => ?_) (fun h80 => ?_)
          · -- (makeS (Fr.mk ((takeS ((takeS s 1).2.1) 4).1) ((takeS ((takeS ((takeS s 1).2.1) 4).2.1) 8).1) ((takeS ((takeS ((takeS ((takeS s 1).2.1) 4).2.1) 8).2.1) 8).1) ((s.take (21 + ((takeS s 1).1)).toNat).drop 21))) ≠ s.take (((takeS s 1).1) + 25).toNat
            refine wp_seq_k fun K81 hK81 => ?_
            refine c_region ?_
            refine s_op (o_sight (v := (.agg #[(.int .i64 0), (.int .i64 0), (.int .i64 0), (S ([] : List UInt8))])) (fun _ => by kernel_rfl) ?_)
            refine s_eff (o_storeN (vs := [(.int .i64 0), (.int .i64 0), (.int .i64 0), (S ([] : List UInt8))]) (c' := #[(.int .i64 0), (.int .i64 0), (.int .i64 0), (S ([] : List UInt8))]) ti40 e79_2 rfl rfl rfl (by intro u hu; simp only [List.mem_cons, List.not_mem_nil, or_false] at hu; rcases hu with rfl | rfl | rfl | rfl <;> first | rfl) (by simp) (by kernel_rfl) (hH76.front 1 rfl) fun w82 hH83 => ?_)
            refine s_op (o_assign (v := (.int .i64 0)) rfl ?_)
            refine s_op (o_assign (v := (.bool false)) rfl ?_)
            refine s_nil ?_
            refine t_norm (hK81 _ _ ?_)
            refine wp_ret ?_
            refine t_ret (c_retC3 Tryd.results24 e79_2 (run_loadVarN (cs := [(.int .i64 0), (.int .i64 0), (.int .i64 0), (S ([] : List UInt8))]) Tryd.underlying40 rfl ti40 hH83 (seg_sub 0 rfl) (CellsAt.one rfl)) (x := (.int .i64 0)) rfl (y := (.bool false)) rfl ?_)
            have hH84 : Has E w82 [R] := (hH83.front 2 rfl).first 1 rfl
            have ho : opensB s = false := opens_no4 h80
            exact ⟨by unfold oF oN; rw [ho]; rfl, hH84⟩
          · -- not: (makeS (Fr.mk ((takeS ((takeS s 1).2.1) 4).1) ((takeS ((takeS ((takeS s 1).2.1) 4).2.1) 8).1) ((takeS ((takeS ((takeS ((takeS s 1).2.1) 4).2.1) 8).2.1) 8).1) ((s.take (21 + ((takeS s 1).1)).toNat).drop 21))) ≠ s.take (((takeS s 1).1) + 25).toNat
            refine wp_skip ?_
            refine t_norm (hK46 _ _ ?_)
            refine wp_seq_k fun K85 hK85 => ?_
            refine c_region ?_
            refine s_op (o_loadN (cs := [(.int .i64 ((takeS ((takeS s 1).2.1) 4).1)), (.int .i64 ((takeS ((takeS ((takeS s 1).2.1) 4).2.1) 8).1)), (.int .i64 ((takeS ((takeS ((takeS ((takeS s 1).2.1) 4).2.1) 8).2.1) 8).1)), (S ((s.take (21 + ((takeS s 1).1)).toNat).drop 21))]) Tryd.underlying40 rfl ti40 e79_8 hH76 (seg_sub 0 rfl) (CellsAt.one rfl) ?_)
            refine s_op (o_move (v := (.int .i64 ((takeS s 1).1))) e79_5 ?_)
            refine s_op (o_add (a := (takeS s 1).1) (b := 25) rfl rfl (w64 (by omega) (by omega)) ?_)
            refine s_eff (o_storeN (vs := [(.int .i64 ((takeS ((takeS s 1).2.1) 4).1)), (.int .i64 ((takeS ((takeS ((takeS s 1).2.1) 4).2.1) 8).1)), (.int .i64 ((takeS ((takeS ((takeS ((takeS s 1).2.1) 4).2.1) 8).2.1) 8).1)), (S ((s.take (21 + ((takeS s 1).1)).toNat).drop 21))]) (c' := #[(.int .i64 ((takeS ((takeS s 1).2.1) 4).1)), (.int .i64 ((takeS ((takeS ((takeS s 1).2.1) 4).2.1) 8).1)), (.int .i64 ((takeS ((takeS ((takeS ((takeS s 1).2.1) 4).2.1) 8).2.1) 8).1)), (S ((s.take (21 + ((takeS s 1).1)).toNat).drop 21))]) ti40 e79_2 rfl rfl rfl (by intro u hu; simp only [List.mem_cons, List.not_mem_nil, or_false] at hu; rcases hu with rfl | rfl | rfl | rfl <;> first | rfl) (by simp) (by kernel_rfl) (hH76.front 1 rfl) fun w86 hH87 => ?_)
            refine s_op (o_assign (v := (.int .i64 (((takeS s 1).1) + 25))) rfl ?_)
            refine s_op (o_assign (v := (.bool true)) rfl ?_)
            refine s_nil ?_
            refine t_norm (hK85 _ _ ?_)
            refine wp_ret ?_
            refine c_retC3 Tryd.results24 e79_2 (run_loadVarN (cs := [(.int .i64 ((takeS ((takeS s 1).2.1) 4).1)), (.int .i64 ((takeS ((takeS ((takeS s 1).2.1) 4).2.1) 8).1)), (.int .i64 ((takeS ((takeS ((takeS ((takeS s 1).2.1) 4).2.1) 8).2.1) 8).1)), (S ((s.take (21 + ((takeS s 1).1)).toNat).drop 21))]) Tryd.underlying40 rfl ti40 hH87 (seg_sub 0 rfl) (CellsAt.one rfl)) (x := (.int .i64 (((takeS s 1).1) + 25))) rfl (y := (.bool true)) rfl ?_
            have hH88 : Has E w86 [R] := (hH87.front 2 rfl).first 1 rfl
            have ho : opensB s = true := opens_yes (not_f h11) (by omega) (not_f h48) (Classical.not_not.1 h80)
            exact ⟨by unfold oF oN; rw [if_pos ho, if_pos ho, ho]; rfl, hH88⟩
end Go.Q
