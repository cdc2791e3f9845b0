/-
  Parts of a walk: what functions of the program compute, each told by a theorem.
-/
import Derived.Test.YtagicdbeacmffaaDoorQV7
import Derived.Test.YtagicdbeacmffaaDoorQVEq
import Derived.Test.YtagicdbeacmffaaDoorQF3
set_option linter.unusedVariables false
set_option linter.unusedSimpArgs false
namespace Go.Q
open Go.Proofs
set_option linter.unusedVariables false
set_option maxRecDepth 100000
attribute [local irreducible] wpList OK Code.wp
set_option maxHeartbeats 4000000 in
theorem fref_c {E w : World} {R : List Hp} (hH : Has E w [R]) (s : List UInt8) (hsl : s.length ≤ 9000000000000000000) :
    Calls Tryd.prog 25 #[(S s)] w fun e w' => e = .returned (.tuple #[(.agg #[(.int .i64 (oF s).ep), (.int .i64 (oF s).pl), (.int .i64 (oF s).gsn), (S (oF s).data)]), .bool (opensB s)]) ∧ Has E w' [R] := by
  refine c_enter (args := [(S s)]) Tryd.func25 rfl Tryd.ntmps25 (by simp) ?_
  refine wp_seq_k fun K1 hK1 => ?_
  refine c_region ?_
  refine s_op (o_alloc (cs := #[(.int .i64 0), (.int .i64 0), (.int .i64 0), (S ([] : List UInt8))]) ti43 rfl hH fun b2 w3 hH4 => ?_)
  refine s_op (o_assign (v := (.bool false)) rfl ?_)
  refine s_nil ?_
  refine t_norm (hK1 _ _ ?_)
  refine wp_seq_k fun K5 hK5 => ?_
  refine wp_seq_k fun K6 hK6 => ?_
  refine c_region ?_
  refine s_op (o_move (v := (S s)) rfl ?_)
  refine s_op (o_slen Tryd.underlying9 rfl ?_)
  refine s_op (o_lss (a := (s.length : Int)) (b := 25) rfl rfl ?_)
  refine s_op (o_move (v := (.bool (decide ((s.length : Int) < 25)))) rfl ?_)
  by_cases h7 : (s.length : Int) < 25
  · -- (s.length : Int) < 25
    refine s_off (b' := true) 14 rfl (congrArg Value.bool (decide_eq_true h7)) rfl ?_
    refine s_off (b' := true) 14 rfl (congrArg Value.bool (decide_eq_true h7)) rfl ?_
    refine s_off (b' := true) 14 rfl (congrArg Value.bool (decide_eq_true h7)) rfl ?_
    refine s_off (b' := true) 14 rfl (congrArg Value.bool (decide_eq_true h7)) rfl ?_
    refine s_off (b' := true) 14 rfl (congrArg Value.bool (decide_eq_true h7)) rfl ?_
    refine s_off (b' := true) 14 rfl (congrArg Value.bool (decide_eq_true h7)) rfl ?_
    refine s_off (b' := true) 14 rfl (congrArg Value.bool (decide_eq_true h7)) rfl ?_
    refine s_op (o_pick_t (u := (.bool true)) ((rfl : _ = _).trans (congrArg Value.bool (decide_eq_true h7))) rfl ?_)
    refine s_nil ?_
    refine t_norm (hK6 _ _ ?_)
    refine c_true rfl rfl ?_
    refine wp_seq_k fun K8 hK8 => ?_
    refine c_region ?_
    refine s_op (o_sight (v := (.agg #[(.int .i64 0), (.int .i64 0), (.int .i64 0), (S ([] : List UInt8))])) (fun _ => by kernel_rfl) ?_)
    refine s_eff (o_storeN (vs := [(.int .i64 0), (.int .i64 0), (.int .i64 0), (S ([] : List UInt8))]) (c' := #[(.int .i64 0), (.int .i64 0), (.int .i64 0), (S ([] : List UInt8))]) ti43 rfl rfl rfl rfl (by intro u hu; simp only [List.mem_cons, List.not_mem_nil, or_false] at hu; rcases hu with rfl | rfl | rfl | rfl <;> first | rfl) (by simp) (by kernel_rfl) (hH4.front 0 rfl) fun w9 hH10 => ?_)
    refine s_op (o_assign (v := (.bool false)) rfl ?_)
    refine s_nil ?_
    refine t_norm (hK8 _ _ ?_)
    refine wp_ret ?_
    refine t_ret (c_retC2 Tryd.results25 rfl (run_loadVarN (cs := [(.int .i64 0), (.int .i64 0), (.int .i64 0), (S ([] : List UInt8))]) Tryd.underlying43 rfl ti43 hH10 (seg_sub 0 rfl) (CellsAt.one rfl)) (x := (.bool false)) rfl ?_)
    have hH11 : Has E w9 [R] := (hH10.front 1 rfl).first 1 rfl
    have ho : opensB s = false := opens_short (by omega)
    exact ⟨by unfold oF; rw [ho]; rfl, hH11⟩
  · -- not: (s.length : Int) < 25
    refine s_on 14 rfl (congrArg Value.bool (decide_eq_false h7)) (o_move (v := (S s)) rfl ?_)
    refine s_on 14 rfl (congrArg Value.bool (decide_eq_false h7)) (o_slen Tryd.underlying9 rfl ?_)
    refine s_on 14 rfl (congrArg Value.bool (decide_eq_false h7)) (o_move (v := (S s)) rfl ?_)
    obtain ⟨c12, hx13⟩ : ∃ x_, s[((0 : Int)).toNat]? = some x_ := get_some (by omega)
    have c12_lt := c12.toNat_lt
    refine s_on 14 rfl (congrArg Value.bool (decide_eq_false h7)) (o_sidx Tryd.underlying9 rfl rfl (by omega) hx13 ?_)
    refine s_on 14 rfl (congrArg Value.bool (decide_eq_false h7)) (o_conv Tryd.underlying5 Tryd.underlying3 rfl (w_u8 _) ?_)
    refine s_on 14 rfl (congrArg Value.bool (decide_eq_false h7)) (o_add (a := 25) (b := (c12.toNat : Int)) rfl rfl (w64 (by omega) (by omega)) ?_)
    refine s_on 14 rfl (congrArg Value.bool (decide_eq_false h7)) (o_lss (a := (s.length : Int)) (b := 25 + (c12.toNat : Int)) rfl rfl ?_)
    refine s_op (o_pick_f (u := (.bool (decide ((s.length : Int) < 25 + (c12.toNat : Int))))) ((rfl : _ = _).trans (congrArg Value.bool (decide_eq_false h7))) rfl ?_)
    refine s_nil ?_
    refine t_norm (hK6 _ _ ?_)
    refine c_cond rfl (fun h14 => ?_) (fun h14 => ?_)
    · -- (s.length : Int) < 25 + (c12.toNat : Int)
      refine wp_seq_k fun K15 hK15 => ?_
      refine c_region ?_
      refine s_op (o_sight (v := (.agg #[(.int .i64 0), (.int .i64 0), (.int .i64 0), (S ([] : List UInt8))])) (fun _ => by kernel_rfl) ?_)
      refine s_eff (o_storeN (vs := [(.int .i64 0), (.int .i64 0), (.int .i64 0), (S ([] : List UInt8))]) (c' := #[(.int .i64 0), (.int .i64 0), (.int .i64 0), (S ([] : List UInt8))]) ti43 rfl rfl rfl rfl (by intro u hu; simp only [List.mem_cons, List.not_mem_nil, or_false] at hu; rcases hu with rfl | rfl | rfl | rfl <;> first | rfl) (by simp) (by kernel_rfl) (hH4.front 0 rfl) fun w16 hH17 => ?_)
      refine s_op (o_assign (v := (.bool false)) rfl ?_)
      refine s_nil ?_
      refine t_norm (hK15 _ _ ?_)
      refine wp_ret ?_
      refine t_ret (c_retC2 Tryd.results25 rfl (run_loadVarN (cs := [(.int .i64 0), (.int .i64 0), (.int .i64 0), (S ([] : List UInt8))]) Tryd.underlying43 rfl ti43 hH17 (seg_sub 0 rfl) (CellsAt.one rfl)) (x := (.bool false)) rfl ?_)
      have hH18 : Has E w16 [R] := (hH17.front 1 rfl).first 1 rfl
      have ho : opensB s = false := opens_short2 hx13 (by omega)
      exact ⟨by unfold oF; rw [ho]; rfl, hH18⟩
    · -- not: (s.length : Int) < 25 + (c12.toNat : Int)
      refine wp_skip ?_
      refine t_norm (hK5 _ _ ?_)
      refine wp_seq_k fun K19 hK19 => ?_
      refine c_region ?_
      refine s_op (o_move (v := (S s)) rfl ?_)
      refine s_op (o_move (v := (S s)) rfl ?_)
      refine s_op (o_sidx Tryd.underlying9 rfl rfl (by omega) hx13 ?_)
      refine s_op (o_conv Tryd.underlying5 Tryd.underlying3 rfl (w_u8 _) ?_)
      refine s_op (o_add (a := 21) (b := (c12.toNat : Int)) rfl rfl (w64 (by omega) (by omega)) ?_)
      refine s_op (o_ssl Tryd.underlying9 rfl rfl rfl (by omega) (by omega) (by omega) ?_)
      have hdl : ((s.take (21 + (c12.toNat : Int)).toNat).drop 21).length = c12.toNat := by rw [List.length_drop, List.length_take]; omega
      refine s_op (o_sight (v := (.agg #[(.int .i64 0), (.int .i64 0), (.int .i64 0), (S ((s.take (21 + (c12.toNat : Int)).toNat).drop 21))])) (fun _ => by kernel_rfl) ?_)
      refine s_op (o_alloc (cs := #[(.int .i64 0), (.int .i64 0), (.int .i64 0), (S ([] : List UInt8))]) ti43 rfl hH4 fun b20 w21 hH22 => ?_)
      refine s_eff (o_storeN (vs := [(.int .i64 0), (.int .i64 0), (.int .i64 0), (S ((s.take (21 + (c12.toNat : Int)).toNat).drop 21))]) (c' := #[(.int .i64 0), (.int .i64 0), (.int .i64 0), (S ((s.take (21 + (c12.toNat : Int)).toNat).drop 21))]) ti43 rfl rfl rfl rfl (by intro u hu; simp only [List.mem_cons, List.not_mem_nil, or_false] at hu; rcases hu with rfl | rfl | rfl | rfl <;> first | rfl) (by simp) (by kernel_rfl) (hH22.front 0 rfl) fun w23 hH24 => ?_)
      refine s_nil ?_
      refine t_norm (hK19 _ _ ?_)
      refine wp_seq_k fun K25 hK25 => ?_
      refine c_region ?_
      refine s_op (o_move (v := (S s)) rfl ?_)
      refine s_op (o_ssl_l Tryd.underlying9 rfl rfl (by omega) (by omega) ?_)
      refine s_op (o_callf (vs := #[(S (s.drop 1)), (.int .i64 4)]) ca39 rfl (args2 rfl rfl) (refTake_c hH24.all 4 (s.drop 1) (by simp only [List.length_drop]; omega)) ?_)
      rintro _ w28 ⟨rfl, hX26⟩
      refine ⟨_, rfl, ?_⟩
      have hH27 := hX26.of_all
      refine s_op (o_move (v := (.tuple #[(.int .i64 ((takeS (s.drop 1) 4).1)), (.bool ((takeS (s.drop 1) 4).2.2))])) rfl ?_)
      refine s_op (o_extract (v := (.int .i64 ((takeS (s.drop 1) 4).1))) rfl rfl ?_)
      refine s_op (o_extract (v := (.bool ((takeS (s.drop 1) 4).2.2))) rfl rfl ?_)
      refine s_op (o_assign (v := (.int .i64 ((takeS (s.drop 1) 4).1))) rfl ?_)
      refine s_op (o_assign (v := (.bool ((takeS (s.drop 1) 4).2.2))) rfl ?_)
      refine s_nil ?_
      refine t_norm (hK25 _ _ ?_)
      refine wp_seq_k fun K29 hK29 => ?_
      refine c_region ?_
      refine s_op (o_move (v := (S s)) rfl ?_)
      refine s_op (o_ssl_l Tryd.underlying9 rfl rfl (by omega) (by omega) ?_)
      refine s_op (o_callf (vs := #[(S (s.drop 5)), (.int .i64 8)]) ca39 rfl (args2 rfl rfl) (refTake_c hH27.all 8 (s.drop 5) (by simp only [List.length_drop]; omega)) ?_)
      rintro _ w32 ⟨rfl, hX30⟩
      refine ⟨_, rfl, ?_⟩
      have hH31 := hX30.of_all
      refine s_op (o_move (v := (.tuple #[(.int .i64 ((takeS (s.drop 5) 8).1)), (.bool ((takeS (s.drop 5) 8).2.2))])) rfl ?_)
      refine s_op (o_extract (v := (.int .i64 ((takeS (s.drop 5) 8).1))) rfl rfl ?_)
      refine s_op (o_extract (v := (.bool ((takeS (s.drop 5) 8).2.2))) rfl rfl ?_)
      refine s_op (o_assign (v := (.int .i64 ((takeS (s.drop 5) 8).1))) rfl ?_)
      refine s_op (o_assign (v := (.bool ((takeS (s.drop 5) 8).2.2))) rfl ?_)
      refine s_nil ?_
      refine t_norm (hK29 _ _ ?_)
      refine wp_seq_k fun K33 hK33 => ?_
      refine c_region ?_
      refine s_op (o_move (v := (S s)) rfl ?_)
      refine s_op (o_ssl_l Tryd.underlying9 rfl rfl (by omega) (by omega) ?_)
      refine s_op (o_callf (vs := #[(S (s.drop 13)), (.int .i64 8)]) ca39 rfl (args2 rfl rfl) (refTake_c hH31.all 8 (s.drop 13) (by simp only [List.length_drop]; omega)) ?_)
      rintro _ w36 ⟨rfl, hX34⟩
      refine ⟨_, rfl, ?_⟩
      have hH35 := hX34.of_all
      refine s_op (o_move (v := (.tuple #[(.int .i64 ((takeS (s.drop 13) 8).1)), (.bool ((takeS (s.drop 13) 8).2.2))])) rfl ?_)
      refine s_op (o_extract (v := (.int .i64 ((takeS (s.drop 13) 8).1))) rfl rfl ?_)
      refine s_op (o_extract (v := (.bool ((takeS (s.drop 13) 8).2.2))) rfl rfl ?_)
      refine s_op (o_assign (v := (.int .i64 ((takeS (s.drop 13) 8).1))) rfl ?_)
      refine s_op (o_assign (v := (.bool ((takeS (s.drop 13) 8).2.2))) rfl ?_)
      refine s_nil ?_
      refine t_norm (hK33 _ _ ?_)
      refine wp_seq_k fun K37 hK37 => ?_
      refine c_region ?_
      refine s_op (o_move (v := (.int .i64 ((takeS (s.drop 1) 4).1))) rfl ?_)
      refine s_op (o_fieldAddr (k := 0) (fun _ => by kernel_rfl) rfl ?_)
      refine s_eff (o_store1 (c' := #[(.int .i64 ((takeS (s.drop 1) 4).1)), (.int .i64 0), (.int .i64 0), (S ((s.take (21 + (c12.toNat : Int)).toNat).drop 21))]) ti3 rfl rfl rfl (by simp) rfl (hH35.front 0 rfl) fun w38 hH39 => ?_)
      refine s_nil ?_
      refine t_norm (hK37 _ _ ?_)
      refine wp_seq_k fun K40 hK40 => ?_
      refine c_region ?_
      refine s_op (o_move (v := (.int .i64 ((takeS (s.drop 5) 8).1))) rfl ?_)
      refine s_op (o_fieldAddr (k := 1) (fun _ => by kernel_rfl) rfl ?_)
      refine s_eff (o_store1 (c' := #[(.int .i64 ((takeS (s.drop 1) 4).1)), (.int .i64 ((takeS (s.drop 5) 8).1)), (.int .i64 0), (S ((s.take (21 + (c12.toNat : Int)).toNat).drop 21))]) ti3 rfl rfl rfl (by simp) rfl (hH39.front 0 rfl) fun w41 hH42 => ?_)
      refine s_nil ?_
      refine t_norm (hK40 _ _ ?_)
      refine wp_seq_k fun K43 hK43 => ?_
      refine c_region ?_
      refine s_op (o_move (v := (.int .i64 ((takeS (s.drop 13) 8).1))) rfl ?_)
      refine s_op (o_fieldAddr (k := 2) (fun _ => by kernel_rfl) rfl ?_)
      refine s_eff (o_store1 (c' := #[(.int .i64 ((takeS (s.drop 1) 4).1)), (.int .i64 ((takeS (s.drop 5) 8).1)), (.int .i64 ((takeS (s.drop 13) 8).1)), (S ((s.take (21 + (c12.toNat : Int)).toNat).drop 21))]) ti3 rfl rfl rfl (by simp) rfl (hH42.front 0 rfl) fun w44 hH45 => ?_)
      refine s_nil ?_
      refine t_norm (hK43 _ _ ?_)
      refine wp_seq_k fun K46 hK46 => ?_
      refine wp_seq_k fun K47 hK47 => ?_
      rcases Bool.eq_false_or_eq_true (!((takeS (s.drop 5) 8).2.2)) with h48 | h48
      · -- !((takeS (s.drop 5) 8).2.2)
        refine c_flow3 [[Hp.one b20 (.cells #[(.int .i64 ((takeS (s.drop 1) 4).1)), (.int .i64 ((takeS (s.drop 5) 8).1)), (.int .i64 ((takeS (s.drop 13) 8).1)), (S ((s.take (21 + (c12.toNat : Int)).toNat).drop 21))] 43 (0, 0))], [Hp.one b2 (.cells #[(.int .i64 0), (.int .i64 0), (.int .i64 0), (S ([] : List UInt8))] 43 (0, 0))], R] (fun i_ => match i_ with | _ => []) (fun i_ v_ h_ m_ => match i_ with | 0 => v_ = (.bool ((takeS (s.drop 5) 8).2.2)) ∧ h_ = [] | 1 => v_ = (.bool (!((takeS (s.drop 5) 8).2.2))) ∧ h_ = [] | 2 => v_ = (.bool (!((takeS (s.drop 5) 8).2.2))) ∧ h_ = [] | 3 => v_ = undef ∧ h_ = [] | 4 => v_ = undef ∧ h_ = [] | 5 => v_ = (.bool true) ∧ h_ = [] | 6 => v_ = (.bool true) ∧ h_ = [] | 7 => v_ = undef ∧ h_ = [] | 8 => v_ = undef ∧ h_ = [] | 9 => v_ = undef ∧ h_ = [] | 10 => v_ = (.bool true) ∧ h_ = [] | 11 => v_ = (.bool true) ∧ h_ = [] | 12 => v_ = undef ∧ h_ = [] | 13 => v_ = undef ∧ h_ = [] | 14 => v_ = undef ∧ h_ = [] | 15 => v_ = undef ∧ h_ = [] | 16 => v_ = undef ∧ h_ = [] | 17 => v_ = undef ∧ h_ = [] | 18 => v_ = undef ∧ h_ = [] | 19 => v_ = undef ∧ h_ = [] | 20 => v_ = undef ∧ h_ = [] | 21 => v_ = (.bool true) ∧ h_ = [] | _ => True) mixed (by kernel_rfl) (flow_has (cs := []) hH45 rfl) ?_ ?_
        · intro i_ o_ ho_ r' w' G hs_ ht
          match i_, ho_ with
          | 0, ho_ =>
            obtain rfl := Option.some.inj ho_
            have e8 : r' 8 = (.bool ((takeS (s.drop 5) 8).2.2)) := ht.was 8 (by kernel_rfl)
            have hG := ht.has.drop
            refine GOK.free rfl ?_
            refine o_move (v := (.bool ((takeS (s.drop 5) 8).2.2))) e8 ?_
            exact ⟨_, ⟨rfl, rfl⟩, hG⟩
          | 1, ho_ =>
            obtain rfl := Option.some.inj ho_
            obtain ⟨e55, eh0⟩ := (ht.done 0 _ rfl rfl).1
            have hG := ht.has.drop
            refine GOK.free rfl ?_
            refine o_not e55 ?_
            exact ⟨_, ⟨rfl, rfl⟩, hG⟩
          | 2, ho_ =>
            obtain rfl := Option.some.inj ho_
            obtain ⟨e56, eh1⟩ := (ht.done 1 _ rfl rfl).1
            have hG := ht.has.drop
            refine GOK.free rfl ?_
            refine o_move (v := (.bool (!((takeS (s.drop 5) 8).2.2)))) e56 ?_
            exact ⟨_, ⟨rfl, rfl⟩, hG⟩
          | 3, ho_ =>
            obtain rfl := Option.some.inj ho_
            obtain ⟨e57, eh2⟩ := (ht.done 2 _ rfl rfl).1
            have hG := ht.has.drop
            refine GOK.off (b' := true) rfl rfl (Eq.trans e57 (congrArg Value.bool h48)) rfl ?_
            exact ⟨_, ⟨rfl, rfl⟩, ht.has⟩
          | 4, ho_ =>
            obtain rfl := Option.some.inj ho_
            obtain ⟨e57, eh2⟩ := (ht.done 2 _ rfl rfl).1
            have hG := ht.has.drop
            refine GOK.off (b' := true) rfl rfl (Eq.trans e57 (congrArg Value.bool h48)) rfl ?_
            exact ⟨_, ⟨rfl, rfl⟩, ht.has⟩
          | 5, ho_ =>
            obtain rfl := Option.some.inj ho_
            obtain ⟨e57, eh2⟩ := (ht.done 2 _ rfl rfl).1
            obtain ⟨e59, eh4⟩ := (ht.done 4 _ rfl rfl).1
            have hG := ht.has.drop
            refine GOK.free rfl ?_
            refine o_pick_t (u := (.bool true)) ((e57 : _ = _).trans (congrArg Value.bool h48)) rfl ?_
            exact ⟨_, ⟨rfl, rfl⟩, hG⟩
          | 6, ho_ =>
            obtain rfl := Option.some.inj ho_
            obtain ⟨e60, eh5⟩ := (ht.done 5 _ rfl rfl).1
            have hG := ht.has.drop
            refine GOK.free rfl ?_
            refine o_move (v := (.bool true)) e60 ?_
            exact ⟨_, ⟨rfl, rfl⟩, hG⟩
          | 7, ho_ =>
            obtain rfl := Option.some.inj ho_
            obtain ⟨e61, eh6⟩ := (ht.done 6 _ rfl rfl).1
            have hG := ht.has.drop
            refine GOK.off (b' := true) rfl rfl e61 rfl ?_
            exact ⟨_, ⟨rfl, rfl⟩, ht.has⟩
          | 8, ho_ =>
            obtain rfl := Option.some.inj ho_
            obtain ⟨e61, eh6⟩ := (ht.done 6 _ rfl rfl).1
            have hG := ht.has.drop
            refine GOK.off (b' := true) rfl rfl e61 rfl ?_
            exact ⟨_, ⟨rfl, rfl⟩, ht.has⟩
          | 9, ho_ =>
            obtain rfl := Option.some.inj ho_
            obtain ⟨e61, eh6⟩ := (ht.done 6 _ rfl rfl).1
            have hG := ht.has.drop
            refine GOK.off (b' := true) rfl rfl e61 rfl ?_
            exact ⟨_, ⟨rfl, rfl⟩, ht.has⟩
          | 10, ho_ =>
            obtain rfl := Option.some.inj ho_
            obtain ⟨e61, eh6⟩ := (ht.done 6 _ rfl rfl).1
            obtain ⟨e64, eh9⟩ := (ht.done 9 _ rfl rfl).1
            have hG := ht.has.drop
            refine GOK.free rfl ?_
            refine o_pick_t (u := (.bool true)) e61 rfl ?_
            exact ⟨_, ⟨rfl, rfl⟩, hG⟩
          | 11, ho_ =>
            obtain rfl := Option.some.inj ho_
            obtain ⟨e65, eh10⟩ := (ht.done 10 _ rfl rfl).1
            have hG := ht.has.drop
            refine GOK.free rfl ?_
            refine o_move (v := (.bool true)) e65 ?_
            exact ⟨_, ⟨rfl, rfl⟩, hG⟩
          | 12, ho_ =>
            obtain rfl := Option.some.inj ho_
            obtain ⟨e66, eh11⟩ := (ht.done 11 _ rfl rfl).1
            have hG := ht.has.drop
            refine GOK.off (b' := true) rfl rfl e66 rfl ?_
            exact ⟨_, ⟨rfl, rfl⟩, ht.has⟩
          | 13, ho_ =>
            obtain rfl := Option.some.inj ho_
            obtain ⟨e66, eh11⟩ := (ht.done 11 _ rfl rfl).1
            have hG := ht.has.drop
            refine GOK.off (b' := true) rfl rfl e66 rfl ?_
            exact ⟨_, ⟨rfl, rfl⟩, ht.has⟩
          | 14, ho_ =>
            obtain rfl := Option.some.inj ho_
            obtain ⟨e66, eh11⟩ := (ht.done 11 _ rfl rfl).1
            have hG := ht.has.drop
            refine GOK.off (b' := true) rfl rfl e66 rfl ?_
            exact ⟨_, ⟨rfl, rfl⟩, ht.has⟩
          | 15, ho_ =>
            obtain rfl := Option.some.inj ho_
            obtain ⟨e66, eh11⟩ := (ht.done 11 _ rfl rfl).1
            have hG := ht.has.drop
            refine GOK.off (b' := true) rfl rfl e66 rfl ?_
            exact ⟨_, ⟨rfl, rfl⟩, ht.has⟩
          | 16, ho_ =>
            obtain rfl := Option.some.inj ho_
            obtain ⟨e66, eh11⟩ := (ht.done 11 _ rfl rfl).1
            have hG := ht.has.drop
            refine GOK.off (b' := true) rfl rfl e66 rfl ?_
            exact ⟨_, ⟨rfl, rfl⟩, ht.has⟩
          | 17, ho_ =>
            obtain rfl := Option.some.inj ho_
            obtain ⟨e66, eh11⟩ := (ht.done 11 _ rfl rfl).1
            have hG := ht.has.drop
            refine GOK.off (b' := true) rfl rfl e66 rfl ?_
            exact ⟨_, ⟨rfl, rfl⟩, ht.has⟩
          | 18, ho_ =>
            obtain rfl := Option.some.inj ho_
            obtain ⟨e66, eh11⟩ := (ht.done 11 _ rfl rfl).1
            have hG := ht.has.drop
            refine GOK.off (b' := true) rfl rfl e66 rfl ?_
            exact ⟨_, ⟨rfl, rfl⟩, ht.has⟩
          | 19, ho_ =>
            obtain rfl := Option.some.inj ho_
            obtain ⟨e66, eh11⟩ := (ht.done 11 _ rfl rfl).1
            have hG := ht.has.drop
            refine GOK.off (b' := true) rfl rfl e66 rfl ?_
            exact ⟨_, ⟨rfl, rfl⟩, ht.has⟩
          | 20, ho_ =>
            obtain rfl := Option.some.inj ho_
            obtain ⟨e66, eh11⟩ := (ht.done 11 _ rfl rfl).1
            have hG := ht.has.drop
            refine GOK.off (b' := true) rfl rfl e66 rfl ?_
            exact ⟨_, ⟨rfl, rfl⟩, ht.has⟩
          | 21, ho_ =>
            obtain rfl := Option.some.inj ho_
            obtain ⟨e66, eh11⟩ := (ht.done 11 _ rfl rfl).1
            obtain ⟨e75, eh20⟩ := (ht.done 20 _ rfl rfl).1
            have hG := ht.has.drop
            refine GOK.free rfl ?_
            refine o_pick_t (u := (.bool true)) e66 rfl ?_
            exact ⟨_, ⟨rfl, rfl⟩, hG⟩
          | i_ + 22, ho_ => exact absurd ho_ (by simp)
        · intro vs49 hs50 w51 hT52 hH53
          obtain ⟨e0_, eh0_⟩ := hT52 0 _ rfl
          obtain ⟨e1_, eh1_⟩ := hT52 1 _ rfl
          obtain ⟨e2_, eh2_⟩ := hT52 2 _ rfl
          obtain ⟨e3_, eh3_⟩ := hT52 3 _ rfl
          obtain ⟨e4_, eh4_⟩ := hT52 4 _ rfl
          obtain ⟨e5_, eh5_⟩ := hT52 5 _ rfl
          obtain ⟨e6_, eh6_⟩ := hT52 6 _ rfl
          obtain ⟨e7_, eh7_⟩ := hT52 7 _ rfl
          obtain ⟨e8_, eh8_⟩ := hT52 8 _ rfl
          obtain ⟨e9_, eh9_⟩ := hT52 9 _ rfl
          obtain ⟨e10_, eh10_⟩ := hT52 10 _ rfl
          obtain ⟨e11_, eh11_⟩ := hT52 11 _ rfl
          obtain ⟨e12_, eh12_⟩ := hT52 12 _ rfl
          obtain ⟨e13_, eh13_⟩ := hT52 13 _ rfl
          obtain ⟨e14_, eh14_⟩ := hT52 14 _ rfl
          obtain ⟨e15_, eh15_⟩ := hT52 15 _ rfl
          obtain ⟨e16_, eh16_⟩ := hT52 16 _ rfl
          obtain ⟨e17_, eh17_⟩ := hT52 17 _ rfl
          obtain ⟨e18_, eh18_⟩ := hT52 18 _ rfl
          obtain ⟨e19_, eh19_⟩ := hT52 19 _ rfl
          obtain ⟨e20_, eh20_⟩ := hT52 20 _ rfl
          obtain ⟨e21_, eh21_⟩ := hT52 21 _ rfl
          have hH54 : Has E w51 ([[Hp.one b20 (.cells #[(.int .i64 ((takeS (s.drop 1) 4).1)), (.int .i64 ((takeS (s.drop 5) 8).1)), (.int .i64 ((takeS (s.drop 13) 8).1)), (S ((s.take (21 + (c12.toNat : Int)).toNat).drop 21))] 43 (0, 0))], [Hp.one b2 (.cells #[(.int .i64 0), (.int .i64 0), (.int .i64 0), (S ([] : List UInt8))] 43 (0, 0))], R] ++ []) := flow_back (cs := []) hH53 (by show (hs50 0 ++ (hs50 1 ++ (hs50 2 ++ (hs50 3 ++ (hs50 4 ++ (hs50 5 ++ (hs50 6 ++ (hs50 7 ++ (hs50 8 ++ (hs50 9 ++ (hs50 10 ++ (hs50 11 ++ (hs50 12 ++ (hs50 13 ++ (hs50 14 ++ (hs50 15 ++ (hs50 16 ++ (hs50 17 ++ (hs50 18 ++ (hs50 19 ++ (hs50 20 ++ (hs50 21 ++ [])))))))))))))))))))))) = _; rw [eh0_, eh1_, eh2_, eh3_, eh4_, eh5_, eh6_, eh7_, eh8_, eh9_, eh10_, eh11_, eh12_, eh13_, eh14_, eh15_, eh16_, eh17_, eh18_, eh19_, eh20_, eh21_]; rfl)
          generalize hr56 : puts vs49 _ 0 _ = r55
          have e57_0 : r55 0 = (S s) := by rw [← hr56]; exact rfl
          have e57_2 : r55 2 = (.pointer (some ⟨b2, 0, none⟩)) := by rw [← hr56]; exact rfl
          have e57_3 : r55 3 = (.bool false) := by rw [← hr56]; exact rfl
          have e57_4 : r55 4 = (.pointer (some ⟨b20, 0, none⟩)) := by rw [← hr56]; exact rfl
          have e57_5 : r55 5 = (.int .i64 ((takeS (s.drop 1) 4).1)) := by rw [← hr56]; exact rfl
          have e57_7 : r55 7 = (.int .i64 ((takeS (s.drop 5) 8).1)) := by rw [← hr56]; exact rfl
          have e57_8 : r55 8 = (.bool ((takeS (s.drop 5) 8).2.2)) := by rw [← hr56]; exact rfl
          have e57_9 : r55 9 = (.int .i64 ((takeS (s.drop 13) 8).1)) := by rw [← hr56]; exact rfl
          have e57_10 : r55 10 = (.bool ((takeS (s.drop 13) 8).2.2)) := by rw [← hr56]; exact rfl
          have e57_22 : r55 22 = (.bool (decide ((s.length : Int) < 25 + (c12.toNat : Int)))) := by rw [← hr56]; exact rfl
          have e57_76 : r55 76 = (.bool true) := by rw [← hr56]; exact e21_
          refine t_norm (hK47 _ _ ?_)
          refine c_true e57_76 rfl ?_
          refine wp_seq_k fun K58 hK58 => ?_
          refine c_region ?_
          refine s_op (o_sight (v := (.agg #[(.int .i64 0), (.int .i64 0), (.int .i64 0), (S ([] : List UInt8))])) (fun _ => by kernel_rfl) ?_)
          refine s_eff (o_storeN (vs := [(.int .i64 0), (.int .i64 0), (.int .i64 0), (S ([] : List UInt8))]) (c' := #[(.int .i64 0), (.int .i64 0), (.int .i64 0), (S ([] : List UInt8))]) ti43 e57_2 rfl rfl rfl (by intro u hu; simp only [List.mem_cons, List.not_mem_nil, or_false] at hu; rcases hu with rfl | rfl | rfl | rfl <;> first | rfl) (by simp) (by kernel_rfl) (hH54.front 1 rfl) fun w59 hH60 => ?_)
          refine s_op (o_assign (v := (.bool false)) rfl ?_)
          refine s_nil ?_
          refine t_norm (hK58 _ _ ?_)
          refine wp_ret ?_
          refine t_ret (c_retC2 Tryd.results25 e57_2 (run_loadVarN (cs := [(.int .i64 0), (.int .i64 0), (.int .i64 0), (S ([] : List UInt8))]) Tryd.underlying43 rfl ti43 hH60 (seg_sub 0 rfl) (CellsAt.one rfl)) (x := (.bool false)) rfl ?_)
          have hH61 : Has E w59 [R] := (hH60.front 2 rfl).first 1 rfl
          have ho : opensB s = false := ref_no hx13 (by omega) (by omega) (.inl (not_t h48))
          exact ⟨by unfold oF; rw [ho]; rfl, hH61⟩
      · -- not: !((takeS (s.drop 5) 8).2.2)
        rcases Bool.eq_false_or_eq_true (!((takeS (s.drop 13) 8).2.2)) with h62 | h62
        · -- !((takeS (s.drop 13) 8).2.2)
          refine c_flow3 [[Hp.one b20 (.cells #[(.int .i64 ((takeS (s.drop 1) 4).1)), (.int .i64 ((takeS (s.drop 5) 8).1)), (.int .i64 ((takeS (s.drop 13) 8).1)), (S ((s.take (21 + (c12.toNat : Int)).toNat).drop 21))] 43 (0, 0))], [Hp.one b2 (.cells #[(.int .i64 0), (.int .i64 0), (.int .i64 0), (S ([] : List UInt8))] 43 (0, 0))], R] (fun i_ => match i_ with | _ => []) (fun i_ v_ h_ m_ => match i_ with | 0 => v_ = (.bool ((takeS (s.drop 5) 8).2.2)) ∧ h_ = [] | 1 => v_ = (.bool (!((takeS (s.drop 5) 8).2.2))) ∧ h_ = [] | 2 => v_ = (.bool (!((takeS (s.drop 5) 8).2.2))) ∧ h_ = [] | 3 => v_ = (.bool ((takeS (s.drop 13) 8).2.2)) ∧ h_ = [] | 4 => v_ = (.bool (!((takeS (s.drop 13) 8).2.2))) ∧ h_ = [] | 5 => v_ = (.bool (!((takeS (s.drop 13) 8).2.2))) ∧ h_ = [] | 6 => v_ = (.bool (!((takeS (s.drop 13) 8).2.2))) ∧ h_ = [] | 7 => v_ = undef ∧ h_ = [] | 8 => v_ = undef ∧ h_ = [] | 9 => v_ = undef ∧ h_ = [] | 10 => v_ = (.bool true) ∧ h_ = [] | 11 => v_ = (.bool true) ∧ h_ = [] | 12 => v_ = undef ∧ h_ = [] | 13 => v_ = undef ∧ h_ = [] | 14 => v_ = undef ∧ h_ = [] | 15 => v_ = undef ∧ h_ = [] | 16 => v_ = undef ∧ h_ = [] | 17 => v_ = undef ∧ h_ = [] | 18 => v_ = undef ∧ h_ = [] | 19 => v_ = undef ∧ h_ = [] | 20 => v_ = undef ∧ h_ = [] | 21 => v_ = (.bool true) ∧ h_ = [] | _ => True) mixed (by kernel_rfl) (flow_has (cs := []) hH45 rfl) ?_ ?_
          · intro i_ o_ ho_ r' w' G hs_ ht
            match i_, ho_ with
            | 0, ho_ =>
              obtain rfl := Option.some.inj ho_
              have e8 : r' 8 = (.bool ((takeS (s.drop 5) 8).2.2)) := ht.was 8 (by kernel_rfl)
              have hG := ht.has.drop
              refine GOK.free rfl ?_
              refine o_move (v := (.bool ((takeS (s.drop 5) 8).2.2))) e8 ?_
              exact ⟨_, ⟨rfl, rfl⟩, hG⟩
            | 1, ho_ =>
              obtain rfl := Option.some.inj ho_
              obtain ⟨e55, eh0⟩ := (ht.done 0 _ rfl rfl).1
              have hG := ht.has.drop
              refine GOK.free rfl ?_
              refine o_not e55 ?_
              exact ⟨_, ⟨rfl, rfl⟩, hG⟩
            | 2, ho_ =>
              obtain rfl := Option.some.inj ho_
              obtain ⟨e56, eh1⟩ := (ht.done 1 _ rfl rfl).1
              have hG := ht.has.drop
              refine GOK.free rfl ?_
              refine o_move (v := (.bool (!((takeS (s.drop 5) 8).2.2)))) e56 ?_
              exact ⟨_, ⟨rfl, rfl⟩, hG⟩
            | 3, ho_ =>
              obtain rfl := Option.some.inj ho_
              obtain ⟨e57, eh2⟩ := (ht.done 2 _ rfl rfl).1
              have e10 : r' 10 = (.bool ((takeS (s.drop 13) 8).2.2)) := ht.was 10 (by kernel_rfl)
              have hG := ht.has.drop
              refine GOK.on rfl rfl (Eq.trans e57 (congrArg Value.bool h48)) ?_
              refine o_move (v := (.bool ((takeS (s.drop 13) 8).2.2))) e10 ?_
              exact ⟨_, ⟨rfl, rfl⟩, hG⟩
            | 4, ho_ =>
              obtain rfl := Option.some.inj ho_
              obtain ⟨e57, eh2⟩ := (ht.done 2 _ rfl rfl).1
              obtain ⟨e58, eh3⟩ := (ht.done 3 _ rfl rfl).1
              have hG := ht.has.drop
              refine GOK.on rfl rfl (Eq.trans e57 (congrArg Value.bool h48)) ?_
              refine o_not e58 ?_
              exact ⟨_, ⟨rfl, rfl⟩, hG⟩
            | 5, ho_ =>
              obtain rfl := Option.some.inj ho_
              obtain ⟨e57, eh2⟩ := (ht.done 2 _ rfl rfl).1
              obtain ⟨e59, eh4⟩ := (ht.done 4 _ rfl rfl).1
              have hG := ht.has.drop
              refine GOK.free rfl ?_
              refine o_pick_f (u := (.bool (!((takeS (s.drop 13) 8).2.2)))) ((e57 : _ = _).trans (congrArg Value.bool h48)) e59 ?_
              exact ⟨_, ⟨rfl, rfl⟩, hG⟩
            | 6, ho_ =>
              obtain rfl := Option.some.inj ho_
              obtain ⟨e60, eh5⟩ := (ht.done 5 _ rfl rfl).1
              have hG := ht.has.drop
              refine GOK.free rfl ?_
              refine o_move (v := (.bool (!((takeS (s.drop 13) 8).2.2)))) e60 ?_
              exact ⟨_, ⟨rfl, rfl⟩, hG⟩
            | 7, ho_ =>
              obtain rfl := Option.some.inj ho_
              obtain ⟨e61, eh6⟩ := (ht.done 6 _ rfl rfl).1
              have hG := ht.has.drop
              refine GOK.off (b' := true) rfl rfl (Eq.trans e61 (congrArg Value.bool h62)) rfl ?_
              exact ⟨_, ⟨rfl, rfl⟩, ht.has⟩
            | 8, ho_ =>
              obtain rfl := Option.some.inj ho_
              obtain ⟨e61, eh6⟩ := (ht.done 6 _ rfl rfl).1
              have hG := ht.has.drop
              refine GOK.off (b' := true) rfl rfl (Eq.trans e61 (congrArg Value.bool h62)) rfl ?_
              exact ⟨_, ⟨rfl, rfl⟩, ht.has⟩
            | 9, ho_ =>
              obtain rfl := Option.some.inj ho_
              obtain ⟨e61, eh6⟩ := (ht.done 6 _ rfl rfl).1
              have hG := ht.has.drop
              refine GOK.off (b' := true) rfl rfl (Eq.trans e61 (congrArg Value.bool h62)) rfl ?_
              exact ⟨_, ⟨rfl, rfl⟩, ht.has⟩
            | 10, ho_ =>
              obtain rfl := Option.some.inj ho_
              obtain ⟨e61, eh6⟩ := (ht.done 6 _ rfl rfl).1
              obtain ⟨e64, eh9⟩ := (ht.done 9 _ rfl rfl).1
              have hG := ht.has.drop
              refine GOK.free rfl ?_
              refine o_pick_t (u := (.bool true)) ((e61 : _ = _).trans (congrArg Value.bool h62)) rfl ?_
              exact ⟨_, ⟨rfl, rfl⟩, hG⟩
            | 11, ho_ =>
              obtain rfl := Option.some.inj ho_
              obtain ⟨e65, eh10⟩ := (ht.done 10 _ rfl rfl).1
              have hG := ht.has.drop
              refine GOK.free rfl ?_
              refine o_move (v := (.bool true)) e65 ?_
              exact ⟨_, ⟨rfl, rfl⟩, hG⟩
            | 12, ho_ =>
              obtain rfl := Option.some.inj ho_
              obtain ⟨e66, eh11⟩ := (ht.done 11 _ rfl rfl).1
              have hG := ht.has.drop
              refine GOK.off (b' := true) rfl rfl e66 rfl ?_
              exact ⟨_, ⟨rfl, rfl⟩, ht.has⟩
            | 13, ho_ =>
              obtain rfl := Option.some.inj ho_
              obtain ⟨e66, eh11⟩ := (ht.done 11 _ rfl rfl).1
              have hG := ht.has.drop
              refine GOK.off (b' := true) rfl rfl e66 rfl ?_
              exact ⟨_, ⟨rfl, rfl⟩, ht.has⟩
            | 14, ho_ =>
              obtain rfl := Option.some.inj ho_
              obtain ⟨e66, eh11⟩ := (ht.done 11 _ rfl rfl).1
              have hG := ht.has.drop
              refine GOK.off (b' := true) rfl rfl e66 rfl ?_
              exact ⟨_, ⟨rfl, rfl⟩, ht.has⟩
            | 15, ho_ =>
              obtain rfl := Option.some.inj ho_
              obtain ⟨e66, eh11⟩ := (ht.done 11 _ rfl rfl).1
              have hG := ht.has.drop
              refine GOK.off (b' := true) rfl rfl e66 rfl ?_
              exact ⟨_, ⟨rfl, rfl⟩, ht.has⟩
            | 16, ho_ =>
              obtain rfl := Option.some.inj ho_
              obtain ⟨e66, eh11⟩ := (ht.done 11 _ rfl rfl).1
              have hG := ht.has.drop
              refine GOK.off (b' := true) rfl rfl e66 rfl ?_
              exact ⟨_, ⟨rfl, rfl⟩, ht.has⟩
            | 17, ho_ =>
              obtain rfl := Option.some.inj ho_
              obtain ⟨e66, eh11⟩ := (ht.done 11 _ rfl rfl).1
              have hG := ht.has.drop
              refine GOK.off (b' := true) rfl rfl e66 rfl ?_
              exact ⟨_, ⟨rfl, rfl⟩, ht.has⟩
            | 18, ho_ =>
              obtain rfl := Option.some.inj ho_
              obtain ⟨e66, eh11⟩ := (ht.done 11 _ rfl rfl).1
              have hG := ht.has.drop
              refine GOK.off (b' := true) rfl rfl e66 rfl ?_
              exact ⟨_, ⟨rfl, rfl⟩, ht.has⟩
            | 19, ho_ =>
              obtain rfl := Option.some.inj ho_
              obtain ⟨e66, eh11⟩ := (ht.done 11 _ rfl rfl).1
              have hG := ht.has.drop
              refine GOK.off (b' := true) rfl rfl e66 rfl ?_
              exact ⟨_, ⟨rfl, rfl⟩, ht.has⟩
            | 20, ho_ =>
              obtain rfl := Option.some.inj ho_
              obtain ⟨e66, eh11⟩ := (ht.done 11 _ rfl rfl).1
              have hG := ht.has.drop
              refine GOK.off (b' := true) rfl rfl e66 rfl ?_
              exact ⟨_, ⟨rfl, rfl⟩, ht.has⟩
            | 21, ho_ =>
              obtain rfl := Option.some.inj ho_
              obtain ⟨e66, eh11⟩ := (ht.done 11 _ rfl rfl).1
              obtain ⟨e75, eh20⟩ := (ht.done 20 _ rfl rfl).1
              have hG := ht.has.drop
              refine GOK.free rfl ?_
              refine o_pick_t (u := (.bool true)) e66 rfl ?_
              exact ⟨_, ⟨rfl, rfl⟩, hG⟩
            | i_ + 22, ho_ => exact absurd ho_ (by simp)
          · intro vs63 hs64 w65 hT66 hH67
            obtain ⟨e0_, eh0_⟩ := hT66 0 _ rfl
            obtain ⟨e1_, eh1_⟩ := hT66 1 _ rfl
            obtain ⟨e2_, eh2_⟩ := hT66 2 _ rfl
            obtain ⟨e3_, eh3_⟩ := hT66 3 _ rfl
            obtain ⟨e4_, eh4_⟩ := hT66 4 _ rfl
            obtain ⟨e5_, eh5_⟩ := hT66 5 _ rfl
            obtain ⟨e6_, eh6_⟩ := hT66 6 _ rfl
            obtain ⟨e7_, eh7_⟩ := hT66 7 _ rfl
            obtain ⟨e8_, eh8_⟩ := hT66 8 _ rfl
            obtain ⟨e9_, eh9_⟩ := hT66 9 _ rfl
            obtain ⟨e10_, eh10_⟩ := hT66 10 _ rfl
            obtain ⟨e11_, eh11_⟩ := hT66 11 _ rfl
            obtain ⟨e12_, eh12_⟩ := hT66 12 _ rfl
            obtain ⟨e13_, eh13_⟩ := hT66 13 _ rfl
            obtain ⟨e14_, eh14_⟩ := hT66 14 _ rfl
            obtain ⟨e15_, eh15_⟩ := hT66 15 _ rfl
            obtain ⟨e16_, eh16_⟩ := hT66 16 _ rfl
            obtain ⟨e17_, eh17_⟩ := hT66 17 _ rfl
            obtain ⟨e18_, eh18_⟩ := hT66 18 _ rfl
            obtain ⟨e19_, eh19_⟩ := hT66 19 _ rfl
            obtain ⟨e20_, eh20_⟩ := hT66 20 _ rfl
            obtain ⟨e21_, eh21_⟩ := hT66 21 _ rfl
            have hH68 : Has E w65 ([[Hp.one b20 (.cells #[(.int .i64 ((takeS (s.drop 1) 4).1)), (.int .i64 ((takeS (s.drop 5) 8).1)), (.int .i64 ((takeS (s.drop 13) 8).1)), (S ((s.take (21 + (c12.toNat : Int)).toNat).drop 21))] 43 (0, 0))], [Hp.one b2 (.cells #[(.int .i64 0), (.int .i64 0), (.int .i64 0), (S ([] : List UInt8))] 43 (0, 0))], R] ++ []) := flow_back (cs := []) hH67 (by show (hs64 0 ++ (hs64 1 ++ (hs64 2 ++ (hs64 3 ++ (hs64 4 ++ (hs64 5 ++ (hs64 6 ++ (hs64 7 ++ (hs64 8 ++ (hs64 9 ++ (hs64 10 ++ (hs64 11 ++ (hs64 12 ++ (hs64 13 ++ (hs64 14 ++ (hs64 15 ++ (hs64 16 ++ (hs64 17 ++ (hs64 18 ++ (hs64 19 ++ (hs64 20 ++ (hs64 21 ++ [])))))))))))))))))))))) = _; rw [eh0_, eh1_, eh2_, eh3_, eh4_, eh5_, eh6_, eh7_, eh8_, eh9_, eh10_, eh11_, eh12_, eh13_, eh14_, eh15_, eh16_, eh17_, eh18_, eh19_, eh20_, eh21_]; rfl)
            generalize hr70 : puts vs63 _ 0 _ = r69
            have e71_0 : r69 0 = (S s) := by rw [← hr70]; exact rfl
            have e71_2 : r69 2 = (.pointer (some ⟨b2, 0, none⟩)) := by rw [← hr70]; exact rfl
            have e71_3 : r69 3 = (.bool false) := by rw [← hr70]; exact rfl
            have e71_4 : r69 4 = (.pointer (some ⟨b20, 0, none⟩)) := by rw [← hr70]; exact rfl
            have e71_5 : r69 5 = (.int .i64 ((takeS (s.drop 1) 4).1)) := by rw [← hr70]; exact rfl
            have e71_7 : r69 7 = (.int .i64 ((takeS (s.drop 5) 8).1)) := by rw [← hr70]; exact rfl
            have e71_8 : r69 8 = (.bool ((takeS (s.drop 5) 8).2.2)) := by rw [← hr70]; exact rfl
            have e71_9 : r69 9 = (.int .i64 ((takeS (s.drop 13) 8).1)) := by rw [← hr70]; exact rfl
            have e71_10 : r69 10 = (.bool ((takeS (s.drop 13) 8).2.2)) := by rw [← hr70]; exact rfl
            have e71_22 : r69 22 = (.bool (decide ((s.length : Int) < 25 + (c12.toNat : Int)))) := by rw [← hr70]; exact rfl
            have e71_76 : r69 76 = (.bool true) := by rw [← hr70]; exact e21_
            refine t_norm (hK47 _ _ ?_)
            refine c_true e71_76 rfl ?_
            refine wp_seq_k fun K72 hK72 => ?_
            refine c_region ?_
            refine s_op (o_sight (v := (.agg #[(.int .i64 0), (.int .i64 0), (.int .i64 0), (S ([] : List UInt8))])) (fun _ => by kernel_rfl) ?_)
            refine s_eff (o_storeN (vs := [(.int .i64 0), (.int .i64 0), (.int .i64 0), (S ([] : List UInt8))]) (c' := #[(.int .i64 0), (.int .i64 0), (.int .i64 0), (S ([] : List UInt8))]) ti43 e71_2 rfl rfl rfl (by intro u hu; simp only [List.mem_cons, List.not_mem_nil, or_false] at hu; rcases hu with rfl | rfl | rfl | rfl <;> first | rfl) (by simp) (by kernel_rfl) (hH68.front 1 rfl) fun w73 hH74 => ?_)
            refine s_op (o_assign (v := (.bool false)) rfl ?_)
            refine s_nil ?_
            refine t_norm (hK72 _ _ ?_)
            refine wp_ret ?_
            refine t_ret (c_retC2 Tryd.results25 e71_2 (run_loadVarN (cs := [(.int .i64 0), (.int .i64 0), (.int .i64 0), (S ([] : List UInt8))]) Tryd.underlying43 rfl ti43 hH74 (seg_sub 0 rfl) (CellsAt.one rfl)) (x := (.bool false)) rfl ?_)
            have hH75 : Has E w73 [R] := (hH74.front 2 rfl).first 1 rfl
            have ho : opensB s = false := ref_no hx13 (by omega) (by omega) (.inr (.inl (not_t h62)))
            exact ⟨by unfold oF; rw [ho]; rfl, hH75⟩
        · -- not: !((takeS (s.drop 13) 8).2.2)
          rcases Bool.eq_false_or_eq_true (!(rightS (Fr.mk ((takeS (s.drop 1) 4).1) ((takeS (s.drop 5) 8).1) ((takeS (s.drop 13) 8).1) ((s.take (21 + (c12.toNat : Int)).toNat).drop 21)))) with h76 | h76
          · -- !(rightS (Fr.mk ((takeS (s.drop 1) 4).1) ((takeS (s.drop 5) 8).1) ((takeS (s.drop 13) 8).1) ((s.take (21 + (c12.toNat : Int)).toNat).drop 21)))
            refine c_flow3 [[Hp.one b20 (.cells #[(.int .i64 ((takeS (s.drop 1) 4).1)), (.int .i64 ((takeS (s.drop 5) 8).1)), (.int .i64 ((takeS (s.drop 13) 8).1)), (S ((s.take (21 + (c12.toNat : Int)).toNat).drop 21))] 43 (0, 0))], [Hp.one b2 (.cells #[(.int .i64 0), (.int .i64 0), (.int .i64 0), (S ([] : List UInt8))] 43 (0, 0))], R] (fun i_ => match i_ with | _ => []) (fun i_ v_ h_ m_ => match i_ with | 0 => v_ = (.bool ((takeS (s.drop 5) 8).2.2)) ∧ h_ = [] | 1 => v_ = (.bool (!((takeS (s.drop 5) 8).2.2))) ∧ h_ = [] | 2 => v_ = (.bool (!((takeS (s.drop 5) 8).2.2))) ∧ h_ = [] | 3 => v_ = (.bool ((takeS (s.drop 13) 8).2.2)) ∧ h_ = [] | 4 => v_ = (.bool (!((takeS (s.drop 13) 8).2.2))) ∧ h_ = [] | 5 => v_ = (.bool (!((takeS (s.drop 13) 8).2.2))) ∧ h_ = [] | 6 => v_ = (.bool (!((takeS (s.drop 13) 8).2.2))) ∧ h_ = [] | 7 => v_ = (.agg #[(.int .i64 ((takeS (s.drop 1) 4).1)), (.int .i64 ((takeS (s.drop 5) 8).1)), (.int .i64 ((takeS (s.drop 13) 8).1)), (S ((s.take (21 + (c12.toNat : Int)).toNat).drop 21))]) ∧ h_ = [] | 8 => v_ = (.bool (rightS (Fr.mk ((takeS (s.drop 1) 4).1) ((takeS (s.drop 5) 8).1) ((takeS (s.drop 13) 8).1) ((s.take (21 + (c12.toNat : Int)).toNat).drop 21)))) ∧ h_ = [] | 9 => v_ = (.bool (!(rightS (Fr.mk ((takeS (s.drop 1) 4).1) ((takeS (s.drop 5) 8).1) ((takeS (s.drop 13) 8).1) ((s.take (21 + (c12.toNat : Int)).toNat).drop 21))))) ∧ h_ = [] | 10 => v_ = (.bool (!(rightS (Fr.mk ((takeS (s.drop 1) 4).1) ((takeS (s.drop 5) 8).1) ((takeS (s.drop 13) 8).1) ((s.take (21 + (c12.toNat : Int)).toNat).drop 21))))) ∧ h_ = [] | 11 => v_ = (.bool (!(rightS (Fr.mk ((takeS (s.drop 1) 4).1) ((takeS (s.drop 5) 8).1) ((takeS (s.drop 13) 8).1) ((s.take (21 + (c12.toNat : Int)).toNat).drop 21))))) ∧ h_ = [] | 12 => v_ = undef ∧ h_ = [] | 13 => v_ = undef ∧ h_ = [] | 14 => v_ = undef ∧ h_ = [] | 15 => v_ = undef ∧ h_ = [] | 16 => v_ = undef ∧ h_ = [] | 17 => v_ = undef ∧ h_ = [] | 18 => v_ = undef ∧ h_ = [] | 19 => v_ = undef ∧ h_ = [] | 20 => v_ = undef ∧ h_ = [] | 21 => v_ = (.bool true) ∧ h_ = [] | _ => True) mixed (by kernel_rfl) (flow_has (cs := []) hH45 rfl) ?_ ?_
            · intro i_ o_ ho_ r' w' G hs_ ht
              match i_, ho_ with
              | 0, ho_ =>
                obtain rfl := Option.some.inj ho_
                have e8 : r' 8 = (.bool ((takeS (s.drop 5) 8).2.2)) := ht.was 8 (by kernel_rfl)
                have hG := ht.has.drop
                refine GOK.free rfl ?_
                refine o_move (v := (.bool ((takeS (s.drop 5) 8).2.2))) e8 ?_
                exact ⟨_, ⟨rfl, rfl⟩, hG⟩
              | 1, ho_ =>
                obtain rfl := Option.some.inj ho_
                obtain ⟨e55, eh0⟩ := (ht.done 0 _ rfl rfl).1
                have hG := ht.has.drop
                refine GOK.free rfl ?_
                refine o_not e55 ?_
                exact ⟨_, ⟨rfl, rfl⟩, hG⟩
              | 2, ho_ =>
                obtain rfl := Option.some.inj ho_
                obtain ⟨e56, eh1⟩ := (ht.done 1 _ rfl rfl).1
                have hG := ht.has.drop
                refine GOK.free rfl ?_
                refine o_move (v := (.bool (!((takeS (s.drop 5) 8).2.2)))) e56 ?_
                exact ⟨_, ⟨rfl, rfl⟩, hG⟩
              | 3, ho_ =>
                obtain rfl := Option.some.inj ho_
                obtain ⟨e57, eh2⟩ := (ht.done 2 _ rfl rfl).1
                have e10 : r' 10 = (.bool ((takeS (s.drop 13) 8).2.2)) := ht.was 10 (by kernel_rfl)
                have hG := ht.has.drop
                refine GOK.on rfl rfl (Eq.trans e57 (congrArg Value.bool h48)) ?_
                refine o_move (v := (.bool ((takeS (s.drop 13) 8).2.2))) e10 ?_
                exact ⟨_, ⟨rfl, rfl⟩, hG⟩
              | 4, ho_ =>
                obtain rfl := Option.some.inj ho_
                obtain ⟨e57, eh2⟩ := (ht.done 2 _ rfl rfl).1
                obtain ⟨e58, eh3⟩ := (ht.done 3 _ rfl rfl).1
                have hG := ht.has.drop
                refine GOK.on rfl rfl (Eq.trans e57 (congrArg Value.bool h48)) ?_
                refine o_not e58 ?_
                exact ⟨_, ⟨rfl, rfl⟩, hG⟩
              | 5, ho_ =>
                obtain rfl := Option.some.inj ho_
                obtain ⟨e57, eh2⟩ := (ht.done 2 _ rfl rfl).1
                obtain ⟨e59, eh4⟩ := (ht.done 4 _ rfl rfl).1
                have hG := ht.has.drop
                refine GOK.free rfl ?_
                refine o_pick_f (u := (.bool (!((takeS (s.drop 13) 8).2.2)))) ((e57 : _ = _).trans (congrArg Value.bool h48)) e59 ?_
                exact ⟨_, ⟨rfl, rfl⟩, hG⟩
              | 6, ho_ =>
                obtain rfl := Option.some.inj ho_
                obtain ⟨e60, eh5⟩ := (ht.done 5 _ rfl rfl).1
                have hG := ht.has.drop
                refine GOK.free rfl ?_
                refine o_move (v := (.bool (!((takeS (s.drop 13) 8).2.2)))) e60 ?_
                exact ⟨_, ⟨rfl, rfl⟩, hG⟩
              | 7, ho_ =>
                obtain rfl := Option.some.inj ho_
                obtain ⟨e61, eh6⟩ := (ht.done 6 _ rfl rfl).1
                have e4 : r' 4 = (.pointer (some ⟨b20, 0, none⟩)) := ht.was 4 (by kernel_rfl)
                have hG := ht.has.drop
                refine GOK.on rfl rfl (Eq.trans e61 (congrArg Value.bool h62)) ?_
                refine o_loadN (cs := [(.int .i64 ((takeS (s.drop 1) 4).1)), (.int .i64 ((takeS (s.drop 5) 8).1)), (.int .i64 ((takeS (s.drop 13) 8).1)), (S ((s.take (21 + (c12.toNat : Int)).toNat).drop 21))]) Tryd.underlying43 rfl ti43 e4 hG (ht.fr [Hp.one b20 (.cells #[(.int .i64 ((takeS (s.drop 1) 4).1)), (.int .i64 ((takeS (s.drop 5) 8).1)), (.int .i64 ((takeS (s.drop 13) 8).1)), (S ((s.take (21 + (c12.toNat : Int)).toNat).drop 21))] 43 (0, 0))] (by simp)) (CellsAt.one rfl) ?_
                exact ⟨_, ⟨rfl, rfl⟩, hG⟩
              | 8, ho_ =>
                obtain rfl := Option.some.inj ho_
                obtain ⟨e61, eh6⟩ := (ht.done 6 _ rfl rfl).1
                obtain ⟨e62, eh7⟩ := (ht.done 7 _ rfl rfl).1
                have hG := ht.has.drop
                refine GOK.on rfl rfl (Eq.trans e61 (congrArg Value.bool h62)) ?_
                refine o_callf (vs := #[(.agg #[(.int .i64 ((takeS (s.drop 1) 4).1)), (.int .i64 ((takeS (s.drop 5) 8).1)), (.int .i64 ((takeS (s.drop 13) 8).1)), (S ((s.take (21 + (c12.toNat : Int)).toNat).drop 21))])]) ca27 rfl (args1 e62) (refright_c hG.all (Fr.mk ((takeS (s.drop 1) 4).1) ((takeS (s.drop 5) 8).1) ((takeS (s.drop 13) 8).1) ((s.take (21 + (c12.toNat : Int)).toNat).drop 21)) (by simp only [List.length_drop, List.length_take]; omega)) ?_
                rintro _ w79 ⟨rfl, hX77⟩
                refine ⟨_, rfl, ?_⟩
                have hH78 := hX77.of_all
                exact ⟨_, ⟨rfl, rfl⟩, hH78⟩
              | 9, ho_ =>
                obtain rfl := Option.some.inj ho_
                obtain ⟨e61, eh6⟩ := (ht.done 6 _ rfl rfl).1
                obtain ⟨e63, eh8⟩ := (ht.done 8 _ rfl rfl).1
                have hG := ht.has.drop
                refine GOK.on rfl rfl (Eq.trans e61 (congrArg Value.bool h62)) ?_
                refine o_not e63 ?_
                exact ⟨_, ⟨rfl, rfl⟩, hG⟩
              | 10, ho_ =>
                obtain rfl := Option.some.inj ho_
                obtain ⟨e61, eh6⟩ := (ht.done 6 _ rfl rfl).1
                obtain ⟨e64, eh9⟩ := (ht.done 9 _ rfl rfl).1
                have hG := ht.has.drop
                refine GOK.free rfl ?_
                refine o_pick_f (u := (.bool (!(rightS (Fr.mk ((takeS (s.drop 1) 4).1) ((takeS (s.drop 5) 8).1) ((takeS (s.drop 13) 8).1) ((s.take (21 + (c12.toNat : Int)).toNat).drop 21)))))) ((e61 : _ = _).trans (congrArg Value.bool h62)) e64 ?_
                exact ⟨_, ⟨rfl, rfl⟩, hG⟩
              | 11, ho_ =>
                obtain rfl := Option.some.inj ho_
                obtain ⟨e65, eh10⟩ := (ht.done 10 _ rfl rfl).1
                have hG := ht.has.drop
                refine GOK.free rfl ?_
                refine o_move (v := (.bool (!(rightS (Fr.mk ((takeS (s.drop 1) 4).1) ((takeS (s.drop 5) 8).1) ((takeS (s.drop 13) 8).1) ((s.take (21 + (c12.toNat : Int)).toNat).drop 21)))))) e65 ?_
                exact ⟨_, ⟨rfl, rfl⟩, hG⟩
              | 12, ho_ =>
                obtain rfl := Option.some.inj ho_
                obtain ⟨e66, eh11⟩ := (ht.done 11 _ rfl rfl).1
                have hG := ht.has.drop
                refine GOK.off (b' := true) rfl rfl (Eq.trans e66 (congrArg Value.bool h76)) rfl ?_
                exact ⟨_, ⟨rfl, rfl⟩, ht.has⟩
              | 13, ho_ =>
                obtain rfl := Option.some.inj ho_
                obtain ⟨e66, eh11⟩ := (ht.done 11 _ rfl rfl).1
                have hG := ht.has.drop
                refine GOK.off (b' := true) rfl rfl (Eq.trans e66 (congrArg Value.bool h76)) rfl ?_
                exact ⟨_, ⟨rfl, rfl⟩, ht.has⟩
              | 14, ho_ =>
                obtain rfl := Option.some.inj ho_
                obtain ⟨e66, eh11⟩ := (ht.done 11 _ rfl rfl).1
                have hG := ht.has.drop
                refine GOK.off (b' := true) rfl rfl (Eq.trans e66 (congrArg Value.bool h76)) rfl ?_
                exact ⟨_, ⟨rfl, rfl⟩, ht.has⟩
              | 15, ho_ =>
                obtain rfl := Option.some.inj ho_
                obtain ⟨e66, eh11⟩ := (ht.done 11 _ rfl rfl).1
                have hG := ht.has.drop
                refine GOK.off (b' := true) rfl rfl (Eq.trans e66 (congrArg Value.bool h76)) rfl ?_
                exact ⟨_, ⟨rfl, rfl⟩, ht.has⟩
              | 16, ho_ =>
                obtain rfl := Option.some.inj ho_
                obtain ⟨e66, eh11⟩ := (ht.done 11 _ rfl rfl).1
                have hG := ht.has.drop
                refine GOK.off (b' := true) rfl rfl (Eq.trans e66 (congrArg Value.bool h76)) rfl ?_
                exact ⟨_, ⟨rfl, rfl⟩, ht.has⟩
              | 17, ho_ =>
                obtain rfl := Option.some.inj ho_
                obtain ⟨e66, eh11⟩ := (ht.done 11 _ rfl rfl).1
                have hG := ht.has.drop
                refine GOK.off (b' := true) rfl rfl (Eq.trans e66 (congrArg Value.bool h76)) rfl ?_
                exact ⟨_, ⟨rfl, rfl⟩, ht.has⟩
              | 18, ho_ =>
                obtain rfl := Option.some.inj ho_
                obtain ⟨e66, eh11⟩ := (ht.done 11 _ rfl rfl).1
                have hG := ht.has.drop
                refine GOK.off (b' := true) rfl rfl (Eq.trans e66 (congrArg Value.bool h76)) rfl ?_
                exact ⟨_, ⟨rfl, rfl⟩, ht.has⟩
              | 19, ho_ =>
                obtain rfl := Option.some.inj ho_
                obtain ⟨e66, eh11⟩ := (ht.done 11 _ rfl rfl).1
                have hG := ht.has.drop
                refine GOK.off (b' := true) rfl rfl (Eq.trans e66 (congrArg Value.bool h76)) rfl ?_
                exact ⟨_, ⟨rfl, rfl⟩, ht.has⟩
              | 20, ho_ =>
                obtain rfl := Option.some.inj ho_
                obtain ⟨e66, eh11⟩ := (ht.done 11 _ rfl rfl).1
                have hG := ht.has.drop
                refine GOK.off (b' := true) rfl rfl (Eq.trans e66 (congrArg Value.bool h76)) rfl ?_
                exact ⟨_, ⟨rfl, rfl⟩, ht.has⟩
              | 21, ho_ =>
                obtain rfl := Option.some.inj ho_
                obtain ⟨e66, eh11⟩ := (ht.done 11 _ rfl rfl).1
                obtain ⟨e75, eh20⟩ := (ht.done 20 _ rfl rfl).1
                have hG := ht.has.drop
                refine GOK.free rfl ?_
                refine o_pick_t (u := (.bool true)) ((e66 : _ = _).trans (congrArg Value.bool h76)) rfl ?_
                exact ⟨_, ⟨rfl, rfl⟩, hG⟩
              | i_ + 22, ho_ => exact absurd ho_ (by simp)
            · intro vs80 hs81 w82 hT83 hH84
              obtain ⟨e0_, eh0_⟩ := hT83 0 _ rfl
              obtain ⟨e1_, eh1_⟩ := hT83 1 _ rfl
              obtain ⟨e2_, eh2_⟩ := hT83 2 _ rfl
              obtain ⟨e3_, eh3_⟩ := hT83 3 _ rfl
              obtain ⟨e4_, eh4_⟩ := hT83 4 _ rfl
              obtain ⟨e5_, eh5_⟩ := hT83 5 _ rfl
              obtain ⟨e6_, eh6_⟩ := hT83 6 _ rfl
              obtain ⟨e7_, eh7_⟩ := hT83 7 _ rfl
              obtain ⟨e8_, eh8_⟩ := hT83 8 _ rfl
              obtain ⟨e9_, eh9_⟩ := hT83 9 _ rfl
              obtain ⟨e10_, eh10_⟩ := hT83 10 _ rfl
              obtain ⟨e11_, eh11_⟩ := hT83 11 _ rfl
              obtain ⟨e12_, eh12_⟩ := hT83 12 _ rfl
              obtain ⟨e13_, eh13_⟩ := hT83 13 _ rfl
              obtain ⟨e14_, eh14_⟩ := hT83 14 _ rfl
              obtain ⟨e15_, eh15_⟩ := hT83 15 _ rfl
              obtain ⟨e16_, eh16_⟩ := hT83 16 _ rfl
              obtain ⟨e17_, eh17_⟩ := hT83 17 _ rfl
              obtain ⟨e18_, eh18_⟩ := hT83 18 _ rfl
              obtain ⟨e19_, eh19_⟩ := hT83 19 _ rfl
              obtain ⟨e20_, eh20_⟩ := hT83 20 _ rfl
              obtain ⟨e21_, eh21_⟩ := hT83 21 _ rfl
              have hH85 : Has E w82 ([[Hp.one b20 (.cells #[(.int .i64 ((takeS (s.drop 1) 4).1)), (.int .i64 ((takeS (s.drop 5) 8).1)), (.int .i64 ((takeS (s.drop 13) 8).1)), (S ((s.take (21 + (c12.toNat : Int)).toNat).drop 21))] 43 (0, 0))], [Hp.one b2 (.cells #[(.int .i64 0), (.int .i64 0), (.int .i64 0), (S ([] : List UInt8))] 43 (0, 0))], R] ++ []) := flow_back (cs := []) hH84 (by show (hs81 0 ++ (hs81 1 ++ (hs81 2 ++ (hs81 3 ++ (hs81 4 ++ (hs81 5 ++ (hs81 6 ++ (hs81 7 ++ (hs81 8 ++ (hs81 9 ++ (hs81 10 ++ (hs81 11 ++ (hs81 12 ++ (hs81 13 ++ (hs81 14 ++ (hs81 15 ++ (hs81 16 ++ (hs81 17 ++ (hs81 18 ++ (hs81 19 ++ (hs81 20 ++ (hs81 21 ++ [])))))))))))))))))))))) = _; rw [eh0_, eh1_, eh2_, eh3_, eh4_, eh5_, eh6_, eh7_, eh8_, eh9_, eh10_, eh11_, eh12_, eh13_, eh14_, eh15_, eh16_, eh17_, eh18_, eh19_, eh20_, eh21_]; rfl)
              generalize hr87 : puts vs80 _ 0 _ = r86
              have e88_0 : r86 0 = (S s) := by rw [← hr87]; exact rfl
              have e88_2 : r86 2 = (.pointer (some ⟨b2, 0, none⟩)) := by rw [← hr87]; exact rfl
              have e88_3 : r86 3 = (.bool false) := by rw [← hr87]; exact rfl
              have e88_4 : r86 4 = (.pointer (some ⟨b20, 0, none⟩)) := by rw [← hr87]; exact rfl
              have e88_5 : r86 5 = (.int .i64 ((takeS (s.drop 1) 4).1)) := by rw [← hr87]; exact rfl
              have e88_7 : r86 7 = (.int .i64 ((takeS (s.drop 5) 8).1)) := by rw [← hr87]; exact rfl
              have e88_8 : r86 8 = (.bool ((takeS (s.drop 5) 8).2.2)) := by rw [← hr87]; exact rfl
              have e88_9 : r86 9 = (.int .i64 ((takeS (s.drop 13) 8).1)) := by rw [← hr87]; exact rfl
              have e88_10 : r86 10 = (.bool ((takeS (s.drop 13) 8).2.2)) := by rw [← hr87]; exact rfl
              have e88_22 : r86 22 = (.bool (decide ((s.length : Int) < 25 + (c12.toNat : Int)))) := by rw [← hr87]; exact rfl
              have e88_76 : r86 76 = (.bool true) := by rw [← hr87]; exact e21_
              refine t_norm (hK47 _ _ ?_)
              refine c_true e88_76 rfl ?_
              refine wp_seq_k fun K89 hK89 => ?_
              refine c_region ?_
              refine s_op (o_sight (v := (.agg #[(.int .i64 0), (.int .i64 0), (.int .i64 0), (S ([] : List UInt8))])) (fun _ => by kernel_rfl) ?_)
              refine s_eff (o_storeN (vs := [(.int .i64 0), (.int .i64 0), (.int .i64 0), (S ([] : List UInt8))]) (c' := #[(.int .i64 0), (.int .i64 0), (.int .i64 0), (S ([] : List UInt8))]) ti43 e88_2 rfl rfl rfl (by intro u hu; simp only [List.mem_cons, List.not_mem_nil, or_false] at hu; rcases hu with rfl | rfl | rfl | rfl <;> first | rfl) (by simp) (by kernel_rfl) (hH85.front 1 rfl) fun w90 hH91 => ?_)
              refine s_op (o_assign (v := (.bool false)) rfl ?_)
              refine s_nil ?_
              refine t_norm (hK89 _ _ ?_)
              refine wp_ret ?_
              refine t_ret (c_retC2 Tryd.results25 e88_2 (run_loadVarN (cs := [(.int .i64 0), (.int .i64 0), (.int .i64 0), (S ([] : List UInt8))]) Tryd.underlying43 rfl ti43 hH91 (seg_sub 0 rfl) (CellsAt.one rfl)) (x := (.bool false)) rfl ?_)
              have hH92 : Has E w90 [R] := (hH91.front 2 rfl).first 1 rfl
              have ho : opensB s = false := ref_no hx13 (by omega) (by omega) (.inr (.inr (.inl (not_t h76))))
              exact ⟨by unfold oF; rw [ho]; rfl, hH92⟩
          · -- not: !(rightS (Fr.mk ((takeS (s.drop 1) 4).1) ((takeS (s.drop 5) 8).1) ((takeS (s.drop 13) 8).1) ((s.take (21 + (c12.toNat : Int)).toNat).drop 21)))
            refine c_flow3 [[Hp.one b20 (.cells #[(.int .i64 ((takeS (s.drop 1) 4).1)), (.int .i64 ((takeS (s.drop 5) 8).1)), (.int .i64 ((takeS (s.drop 13) 8).1)), (S ((s.take (21 + (c12.toNat : Int)).toNat).drop 21))] 43 (0, 0))], [Hp.one b2 (.cells #[(.int .i64 0), (.int .i64 0), (.int .i64 0), (S ([] : List UInt8))] 43 (0, 0))], R] (fun i_ => match i_ with | _ => []) (fun i_ v_ h_ m_ => match i_ with | 0 => v_ = (.bool ((takeS (s.drop 5) 8).2.2)) ∧ h_ = [] | 1 => v_ = (.bool (!((takeS (s.drop 5) 8).2.2))) ∧ h_ = [] | 2 => v_ = (.bool (!((takeS (s.drop 5) 8).2.2))) ∧ h_ = [] | 3 => v_ = (.bool ((takeS (s.drop 13) 8).2.2)) ∧ h_ = [] | 4 => v_ = (.bool (!((takeS (s.drop 13) 8).2.2))) ∧ h_ = [] | 5 => v_ = (.bool (!((takeS (s.drop 13) 8).2.2))) ∧ h_ = [] | 6 => v_ = (.bool (!((takeS (s.drop 13) 8).2.2))) ∧ h_ = [] | 7 => v_ = (.agg #[(.int .i64 ((takeS (s.drop 1) 4).1)), (.int .i64 ((takeS (s.drop 5) 8).1)), (.int .i64 ((takeS (s.drop 13) 8).1)), (S ((s.take (21 + (c12.toNat : Int)).toNat).drop 21))]) ∧ h_ = [] | 8 => v_ = (.bool (rightS (Fr.mk ((takeS (s.drop 1) 4).1) ((takeS (s.drop 5) 8).1) ((takeS (s.drop 13) 8).1) ((s.take (21 + (c12.toNat : Int)).toNat).drop 21)))) ∧ h_ = [] | 9 => v_ = (.bool (!(rightS (Fr.mk ((takeS (s.drop 1) 4).1) ((takeS (s.drop 5) 8).1) ((takeS (s.drop 13) 8).1) ((s.take (21 + (c12.toNat : Int)).toNat).drop 21))))) ∧ h_ = [] | 10 => v_ = (.bool (!(rightS (Fr.mk ((takeS (s.drop 1) 4).1) ((takeS (s.drop 5) 8).1) ((takeS (s.drop 13) 8).1) ((s.take (21 + (c12.toNat : Int)).toNat).drop 21))))) ∧ h_ = [] | 11 => v_ = (.bool (!(rightS (Fr.mk ((takeS (s.drop 1) 4).1) ((takeS (s.drop 5) 8).1) ((takeS (s.drop 13) 8).1) ((s.take (21 + (c12.toNat : Int)).toNat).drop 21))))) ∧ h_ = [] | 12 => v_ = (.agg #[(.int .i64 ((takeS (s.drop 1) 4).1)), (.int .i64 ((takeS (s.drop 5) 8).1)), (.int .i64 ((takeS (s.drop 13) 8).1)), (S ((s.take (21 + (c12.toNat : Int)).toNat).drop 21))]) ∧ h_ = [] | 13 => v_ = (S (makeS (Fr.mk ((takeS (s.drop 1) 4).1) ((takeS (s.drop 5) 8).1) ((takeS (s.drop 13) 8).1) ((s.take (21 + (c12.toNat : Int)).toNat).drop 21)))) ∧ h_ = [] | 14 => v_ = (S s) ∧ h_ = [] | 15 => v_ = (.pointer (some ⟨b20, 3, none⟩)) ∧ h_ = [] | 16 => v_ = (S ((s.take (21 + (c12.toNat : Int)).toNat).drop 21)) ∧ h_ = [] | 17 => v_ = (.int .i64 (((s.take (21 + (c12.toNat : Int)).toNat).drop 21).length : Int)) ∧ h_ = [] | 18 => v_ = (.int .i64 (25 + (((s.take (21 + (c12.toNat : Int)).toNat).drop 21).length : Int))) ∧ h_ = [] | 19 => v_ = (S (s.take (25 + (((s.take (21 + (c12.toNat : Int)).toNat).drop 21).length : Int)).toNat)) ∧ h_ = [] | 20 => v_ = (.bool (decide ((makeS (Fr.mk ((takeS (s.drop 1) 4).1) ((takeS (s.drop 5) 8).1) ((takeS (s.drop 13) 8).1) ((s.take (21 + (c12.toNat : Int)).toNat).drop 21))) ≠ s.take (25 + (((s.take (21 + (c12.toNat : Int)).toNat).drop 21).length : Int)).toNat))) ∧ h_ = [] | 21 => v_ = (.bool (decide ((makeS (Fr.mk ((takeS (s.drop 1) 4).1) ((takeS (s.drop 5) 8).1) ((takeS (s.drop 13) 8).1) ((s.take (21 + (c12.toNat : Int)).toNat).drop 21))) ≠ s.take (25 + (((s.take (21 + (c12.toNat : Int)).toNat).drop 21).length : Int)).toNat))) ∧ h_ = [] | _ => True) mixed (by kernel_rfl) (flow_has (cs := []) hH45 rfl) ?_ ?_
            · intro i_ o_ ho_ r' w' G hs_ ht
              match i_, ho_ with
              | 0, ho_ =>
                obtain rfl := Option.some.inj ho_
                have e8 : r' 8 = (.bool ((takeS (s.drop 5) 8).2.2)) := ht.was 8 (by kernel_rfl)
                have hG := ht.has.drop
                refine GOK.free rfl ?_
                refine o_move (v := (.bool ((takeS (s.drop 5) 8).2.2))) e8 ?_
                exact ⟨_, ⟨rfl, rfl⟩, hG⟩
              | 1, ho_ =>
                obtain rfl := Option.some.inj ho_
                obtain ⟨e55, eh0⟩ := (ht.done 0 _ rfl rfl).1
                have hG := ht.has.drop
                refine GOK.free rfl ?_
                refine o_not e55 ?_
                exact ⟨_, ⟨rfl, rfl⟩, hG⟩
              | 2, ho_ =>
                obtain rfl := Option.some.inj ho_
                obtain ⟨e56, eh1⟩ := (ht.done 1 _ rfl rfl).1
                have hG := ht.has.drop
                refine GOK.free rfl ?_
                refine o_move (v := (.bool (!((takeS (s.drop 5) 8).2.2)))) e56 ?_
                exact ⟨_, ⟨rfl, rfl⟩, hG⟩
              | 3, ho_ =>
                obtain rfl := Option.some.inj ho_
                obtain ⟨e57, eh2⟩ := (ht.done 2 _ rfl rfl).1
                have e10 : r' 10 = (.bool ((takeS (s.drop 13) 8).2.2)) := ht.was 10 (by kernel_rfl)
                have hG := ht.has.drop
                refine GOK.on rfl rfl (Eq.trans e57 (congrArg Value.bool h48)) ?_
                refine o_move (v := (.bool ((takeS (s.drop 13) 8).2.2))) e10 ?_
                exact ⟨_, ⟨rfl, rfl⟩, hG⟩
              | 4, ho_ =>
                obtain rfl := Option.some.inj ho_
                obtain ⟨e57, eh2⟩ := (ht.done 2 _ rfl rfl).1
                obtain ⟨e58, eh3⟩ := (ht.done 3 _ rfl rfl).1
                have hG := ht.has.drop
                refine GOK.on rfl rfl (Eq.trans e57 (congrArg Value.bool h48)) ?_
                refine o_not e58 ?_
                exact ⟨_, ⟨rfl, rfl⟩, hG⟩
              | 5, ho_ =>
                obtain rfl := Option.some.inj ho_
                obtain ⟨e57, eh2⟩ := (ht.done 2 _ rfl rfl).1
                obtain ⟨e59, eh4⟩ := (ht.done 4 _ rfl rfl).1
                have hG := ht.has.drop
                refine GOK.free rfl ?_
                refine o_pick_f (u := (.bool (!((takeS (s.drop 13) 8).2.2)))) ((e57 : _ = _).trans (congrArg Value.bool h48)) e59 ?_
                exact ⟨_, ⟨rfl, rfl⟩, hG⟩
              | 6, ho_ =>
                obtain rfl := Option.some.inj ho_
                obtain ⟨e60, eh5⟩ := (ht.done 5 _ rfl rfl).1
                have hG := ht.has.drop
                refine GOK.free rfl ?_
                refine o_move (v := (.bool (!((takeS (s.drop 13) 8).2.2)))) e60 ?_
                exact ⟨_, ⟨rfl, rfl⟩, hG⟩
              | 7, ho_ =>
                obtain rfl := Option.some.inj ho_
                obtain ⟨e61, eh6⟩ := (ht.done 6 _ rfl rfl).1
                have e4 : r' 4 = (.pointer (some ⟨b20, 0, none⟩)) := ht.was 4 (by kernel_rfl)
                have hG := ht.has.drop
                refine GOK.on rfl rfl (Eq.trans e61 (congrArg Value.bool h62)) ?_
                refine o_loadN (cs := [(.int .i64 ((takeS (s.drop 1) 4).1)), (.int .i64 ((takeS (s.drop 5) 8).1)), (.int .i64 ((takeS (s.drop 13) 8).1)), (S ((s.take (21 + (c12.toNat : Int)).toNat).drop 21))]) Tryd.underlying43 rfl ti43 e4 hG (ht.fr [Hp.one b20 (.cells #[(.int .i64 ((takeS (s.drop 1) 4).1)), (.int .i64 ((takeS (s.drop 5) 8).1)), (.int .i64 ((takeS (s.drop 13) 8).1)), (S ((s.take (21 + (c12.toNat : Int)).toNat).drop 21))] 43 (0, 0))] (by simp)) (CellsAt.one rfl) ?_
                exact ⟨_, ⟨rfl, rfl⟩, hG⟩
              | 8, ho_ =>
                obtain rfl := Option.some.inj ho_
                obtain ⟨e61, eh6⟩ := (ht.done 6 _ rfl rfl).1
                obtain ⟨e62, eh7⟩ := (ht.done 7 _ rfl rfl).1
                have hG := ht.has.drop
                refine GOK.on rfl rfl (Eq.trans e61 (congrArg Value.bool h62)) ?_
                refine o_callf (vs := #[(.agg #[(.int .i64 ((takeS (s.drop 1) 4).1)), (.int .i64 ((takeS (s.drop 5) 8).1)), (.int .i64 ((takeS (s.drop 13) 8).1)), (S ((s.take (21 + (c12.toNat : Int)).toNat).drop 21))])]) ca27 rfl (args1 e62) (refright_c hG.all (Fr.mk ((takeS (s.drop 1) 4).1) ((takeS (s.drop 5) 8).1) ((takeS (s.drop 13) 8).1) ((s.take (21 + (c12.toNat : Int)).toNat).drop 21)) (by simp only [List.length_drop, List.length_take]; omega)) ?_
                rintro _ w95 ⟨rfl, hX93⟩
                refine ⟨_, rfl, ?_⟩
                have hH94 := hX93.of_all
                exact ⟨_, ⟨rfl, rfl⟩, hH94⟩
              | 9, ho_ =>
                obtain rfl := Option.some.inj ho_
                obtain ⟨e61, eh6⟩ := (ht.done 6 _ rfl rfl).1
                obtain ⟨e63, eh8⟩ := (ht.done 8 _ rfl rfl).1
                have hG := ht.has.drop
                refine GOK.on rfl rfl (Eq.trans e61 (congrArg Value.bool h62)) ?_
                refine o_not e63 ?_
                exact ⟨_, ⟨rfl, rfl⟩, hG⟩
              | 10, ho_ =>
                obtain rfl := Option.some.inj ho_
                obtain ⟨e61, eh6⟩ := (ht.done 6 _ rfl rfl).1
                obtain ⟨e64, eh9⟩ := (ht.done 9 _ rfl rfl).1
                have hG := ht.has.drop
                refine GOK.free rfl ?_
                refine o_pick_f (u := (.bool (!(rightS (Fr.mk ((takeS (s.drop 1) 4).1) ((takeS (s.drop 5) 8).1) ((takeS (s.drop 13) 8).1) ((s.take (21 + (c12.toNat : Int)).toNat).drop 21)))))) ((e61 : _ = _).trans (congrArg Value.bool h62)) e64 ?_
                exact ⟨_, ⟨rfl, rfl⟩, hG⟩
              | 11, ho_ =>
                obtain rfl := Option.some.inj ho_
                obtain ⟨e65, eh10⟩ := (ht.done 10 _ rfl rfl).1
                have hG := ht.has.drop
                refine GOK.free rfl ?_
                refine o_move (v := (.bool (!(rightS (Fr.mk ((takeS (s.drop 1) 4).1) ((takeS (s.drop 5) 8).1) ((takeS (s.drop 13) 8).1) ((s.take (21 + (c12.toNat : Int)).toNat).drop 21)))))) e65 ?_
                exact ⟨_, ⟨rfl, rfl⟩, hG⟩
              | 12, ho_ =>
                obtain rfl := Option.some.inj ho_
                obtain ⟨e66, eh11⟩ := (ht.done 11 _ rfl rfl).1
                have e4 : r' 4 = (.pointer (some ⟨b20, 0, none⟩)) := ht.was 4 (by kernel_rfl)
                have hG := ht.has.drop
                refine GOK.on rfl rfl (Eq.trans e66 (congrArg Value.bool h76)) ?_
                refine o_loadN (cs := [(.int .i64 ((takeS (s.drop 1) 4).1)), (.int .i64 ((takeS (s.drop 5) 8).1)), (.int .i64 ((takeS (s.drop 13) 8).1)), (S ((s.take (21 + (c12.toNat : Int)).toNat).drop 21))]) Tryd.underlying43 rfl ti43 e4 hG (ht.fr [Hp.one b20 (.cells #[(.int .i64 ((takeS (s.drop 1) 4).1)), (.int .i64 ((takeS (s.drop 5) 8).1)), (.int .i64 ((takeS (s.drop 13) 8).1)), (S ((s.take (21 + (c12.toNat : Int)).toNat).drop 21))] 43 (0, 0))] (by simp)) (CellsAt.one rfl) ?_
                exact ⟨_, ⟨rfl, rfl⟩, hG⟩
              | 13, ho_ =>
                obtain rfl := Option.some.inj ho_
                obtain ⟨e66, eh11⟩ := (ht.done 11 _ rfl rfl).1
                obtain ⟨e67, eh12⟩ := (ht.done 12 _ rfl rfl).1
                have hG := ht.has.drop
                refine GOK.on rfl rfl (Eq.trans e66 (congrArg Value.bool h76)) ?_
                refine o_callf (vs := #[(.agg #[(.int .i64 ((takeS (s.drop 1) 4).1)), (.int .i64 ((takeS (s.drop 5) 8).1)), (.int .i64 ((takeS (s.drop 13) 8).1)), (S ((s.take (21 + (c12.toNat : Int)).toNat).drop 21))])]) ca34 rfl (args1 e67) (refmake_c hG.all (Fr.mk ((takeS (s.drop 1) 4).1) ((takeS (s.drop 5) 8).1) ((takeS (s.drop 13) 8).1) ((s.take (21 + (c12.toNat : Int)).toNat).drop 21)) (by simp only [List.length_drop, List.length_take]; omega) (not_f h76)) ?_
                rintro _ w98 ⟨rfl, hX96⟩
                refine ⟨_, rfl, ?_⟩
                have hH97 := hX96.of_all
                exact ⟨_, ⟨rfl, rfl⟩, hH97⟩
              | 14, ho_ =>
                obtain rfl := Option.some.inj ho_
                obtain ⟨e66, eh11⟩ := (ht.done 11 _ rfl rfl).1
                have e0 : r' 0 = (S s) := ht.was 0 (by kernel_rfl)
                have hG := ht.has.drop
                refine GOK.on rfl rfl (Eq.trans e66 (congrArg Value.bool h76)) ?_
                refine o_move (v := (S s)) e0 ?_
                exact ⟨_, ⟨rfl, rfl⟩, hG⟩
              | 15, ho_ =>
                obtain rfl := Option.some.inj ho_
                obtain ⟨e66, eh11⟩ := (ht.done 11 _ rfl rfl).1
                have e4 : r' 4 = (.pointer (some ⟨b20, 0, none⟩)) := ht.was 4 (by kernel_rfl)
                have hG := ht.has.drop
                refine GOK.on rfl rfl (Eq.trans e66 (congrArg Value.bool h76)) ?_
                refine o_fieldAddr (k := 3) (fun _ => by kernel_rfl) e4 ?_
                exact ⟨_, ⟨rfl, rfl⟩, hG⟩
              | 16, ho_ =>
                obtain rfl := Option.some.inj ho_
                obtain ⟨e66, eh11⟩ := (ht.done 11 _ rfl rfl).1
                obtain ⟨e70, eh15⟩ := (ht.done 15 _ rfl rfl).1
                have hG := ht.has.drop
                refine GOK.on rfl rfl (Eq.trans e66 (congrArg Value.bool h76)) ?_
                refine o_load1 (v := (S ((s.take (21 + (c12.toNat : Int)).toNat).drop 21))) Tryd.underlying9 rfl e70 hG (ht.fr [Hp.one b20 (.cells #[(.int .i64 ((takeS (s.drop 1) 4).1)), (.int .i64 ((takeS (s.drop 5) 8).1)), (.int .i64 ((takeS (s.drop 13) 8).1)), (S ((s.take (21 + (c12.toNat : Int)).toNat).drop 21))] 43 (0, 0))] (by simp)) (CellsAt.one rfl) ?_
                exact ⟨_, ⟨rfl, rfl⟩, hG⟩
              | 17, ho_ =>
                obtain rfl := Option.some.inj ho_
                obtain ⟨e66, eh11⟩ := (ht.done 11 _ rfl rfl).1
                obtain ⟨e71, eh16⟩ := (ht.done 16 _ rfl rfl).1
                have hG := ht.has.drop
                refine GOK.on rfl rfl (Eq.trans e66 (congrArg Value.bool h76)) ?_
                refine o_slen Tryd.underlying9 e71 ?_
                exact ⟨_, ⟨rfl, rfl⟩, hG⟩
              | 18, ho_ =>
                obtain rfl := Option.some.inj ho_
                obtain ⟨e66, eh11⟩ := (ht.done 11 _ rfl rfl).1
                obtain ⟨e72, eh17⟩ := (ht.done 17 _ rfl rfl).1
                have hG := ht.has.drop
                refine GOK.on rfl rfl (Eq.trans e66 (congrArg Value.bool h76)) ?_
                refine o_add (a := 25) (b := (((s.take (21 + (c12.toNat : Int)).toNat).drop 21).length : Int)) rfl e72 (w64 (by omega) (by omega)) ?_
                exact ⟨_, ⟨rfl, rfl⟩, hG⟩
              | 19, ho_ =>
                obtain rfl := Option.some.inj ho_
                obtain ⟨e66, eh11⟩ := (ht.done 11 _ rfl rfl).1
                obtain ⟨e69, eh14⟩ := (ht.done 14 _ rfl rfl).1
                obtain ⟨e73, eh18⟩ := (ht.done 18 _ rfl rfl).1
                have hG := ht.has.drop
                refine GOK.on rfl rfl (Eq.trans e66 (congrArg Value.bool h76)) ?_
                refine o_ssl_h Tryd.underlying9 e69 e73 (by omega) (by omega) ?_
                exact ⟨_, ⟨rfl, rfl⟩, hG⟩
              | 20, ho_ =>
                obtain rfl := Option.some.inj ho_
                obtain ⟨e66, eh11⟩ := (ht.done 11 _ rfl rfl).1
                obtain ⟨e68, eh13⟩ := (ht.done 13 _ rfl rfl).1
                obtain ⟨e74, eh19⟩ := (ht.done 19 _ rfl rfl).1
                have hG := ht.has.drop
                refine GOK.on rfl rfl (Eq.trans e66 (congrArg Value.bool h76)) ?_
                refine o_sneq (a := (makeS (Fr.mk ((takeS (s.drop 1) 4).1) ((takeS (s.drop 5) 8).1) ((takeS (s.drop 13) 8).1) ((s.take (21 + (c12.toNat : Int)).toNat).drop 21)))) (b := s.take (25 + (((s.take (21 + (c12.toNat : Int)).toNat).drop 21).length : Int)).toNat) e68 e74 ?_
                exact ⟨_, ⟨rfl, rfl⟩, hG⟩
              | 21, ho_ =>
                obtain rfl := Option.some.inj ho_
                obtain ⟨e66, eh11⟩ := (ht.done 11 _ rfl rfl).1
                obtain ⟨e75, eh20⟩ := (ht.done 20 _ rfl rfl).1
                have hG := ht.has.drop
                refine GOK.free rfl ?_
                refine o_pick_f (u := (.bool (decide ((makeS (Fr.mk ((takeS (s.drop 1) 4).1) ((takeS (s.drop 5) 8).1) ((takeS (s.drop 13) 8).1) ((s.take (21 + (c12.toNat : Int)).toNat).drop 21))) ≠ s.take (25 + (((s.take (21 + (c12.toNat : Int)).toNat).drop 21).length : Int)).toNat)))) ((e66 : _ = _).trans (congrArg Value.bool h76)) e75 ?_
                exact ⟨_, ⟨rfl, rfl⟩, hG⟩
              | i_ + 22, ho_ => exact absurd ho_ (by simp)
            · intro vs99 hs100 w101 hT102 hH103
              obtain ⟨e0_, eh0_⟩ := hT102 0 _ rfl
              obtain ⟨e1_, eh1_⟩ := hT102 1 _ rfl
              obtain ⟨e2_, eh2_⟩ := hT102 2 _ rfl
              obtain ⟨e3_, eh3_⟩ := hT102 3 _ rfl
              obtain ⟨e4_, eh4_⟩ := hT102 4 _ rfl
              obtain ⟨e5_, eh5_⟩ := hT102 5 _ rfl
              obtain ⟨e6_, eh6_⟩ := hT102 6 _ rfl
              obtain ⟨e7_, eh7_⟩ := hT102 7 _ rfl
              obtain ⟨e8_, eh8_⟩ := hT102 8 _ rfl
              obtain ⟨e9_, eh9_⟩ := hT102 9 _ rfl
              obtain ⟨e10_, eh10_⟩ := hT102 10 _ rfl
              obtain ⟨e11_, eh11_⟩ := hT102 11 _ rfl
              obtain ⟨e12_, eh12_⟩ := hT102 12 _ rfl
              obtain ⟨e13_, eh13_⟩ := hT102 13 _ rfl
              obtain ⟨e14_, eh14_⟩ := hT102 14 _ rfl
              obtain ⟨e15_, eh15_⟩ := hT102 15 _ rfl
              obtain ⟨e16_, eh16_⟩ := hT102 16 _ rfl
              obtain ⟨e17_, eh17_⟩ := hT102 17 _ rfl
              obtain ⟨e18_, eh18_⟩ := hT102 18 _ rfl
              obtain ⟨e19_, eh19_⟩ := hT102 19 _ rfl
              obtain ⟨e20_, eh20_⟩ := hT102 20 _ rfl
              obtain ⟨e21_, eh21_⟩ := hT102 21 _ rfl
              have hH104 : Has E w101 ([[Hp.one b20 (.cells #[(.int .i64 ((takeS (s.drop 1) 4).1)), (.int .i64 ((takeS (s.drop 5) 8).1)), (.int .i64 ((takeS (s.drop 13) 8).1)), (S ((s.take (21 + (c12.toNat : Int)).toNat).drop 21))] 43 (0, 0))], [Hp.one b2 (.cells #[(.int .i64 0), (.int .i64 0), (.int .i64 0), (S ([] : List UInt8))] 43 (0, 0))], R] ++ []) := flow_back (cs := []) hH103 (by show (hs100 0 ++ (hs100 1 ++ (hs100 2 ++ (hs100 3 ++ (hs100 4 ++ (hs100 5 ++ (hs100 6 ++ (hs100 7 ++ (hs100 8 ++ (hs100 9 ++ (hs100 10 ++ (hs100 11 ++ (hs100 12 ++ (hs100 13 ++ (hs100 14 ++ (hs100 15 ++ (hs100 16 ++ (hs100 17 ++ (hs100 18 ++ (hs100 19 ++ (hs100 20 ++ (hs100 21 ++ [])))))))))))))))))))))) = _; rw [eh0_, eh1_, eh2_, eh3_, eh4_, eh5_, eh6_, eh7_, eh8_, eh9_, eh10_, eh11_, eh12_, eh13_, eh14_, eh15_, eh16_, eh17_, eh18_, eh19_, eh20_, eh21_]; rfl)
              generalize hr106 : puts vs99 _ 0 _ = r105
              have e107_0 : r105 0 = (S s) := by rw [← hr106]; exact rfl
              have e107_2 : r105 2 = (.pointer (some ⟨b2, 0, none⟩)) := by rw [← hr106]; exact rfl
              have e107_3 : r105 3 = (.bool false) := by rw [← hr106]; exact rfl
              have e107_4 : r105 4 = (.pointer (some ⟨b20, 0, none⟩)) := by rw [← hr106]; exact rfl
              have e107_5 : r105 5 = (.int .i64 ((takeS (s.drop 1) 4).1)) := by rw [← hr106]; exact rfl
              have e107_7 : r105 7 = (.int .i64 ((takeS (s.drop 5) 8).1)) := by rw [← hr106]; exact rfl
              have e107_8 : r105 8 = (.bool ((takeS (s.drop 5) 8).2.2)) := by rw [← hr106]; exact rfl
              have e107_9 : r105 9 = (.int .i64 ((takeS (s.drop 13) 8).1)) := by rw [← hr106]; exact rfl
              have e107_10 : r105 10 = (.bool ((takeS (s.drop 13) 8).2.2)) := by rw [← hr106]; exact rfl
              have e107_22 : r105 22 = (.bool (decide ((s.length : Int) < 25 + (c12.toNat : Int)))) := by rw [← hr106]; exact rfl
              have e107_76 : r105 76 = (.bool (decide ((makeS (Fr.mk ((takeS (s.drop 1) 4).1) ((takeS (s.drop 5) 8).1) ((takeS (s.drop 13) 8).1) ((s.take (21 + (c12.toNat : Int)).toNat).drop 21))) ≠ s.take (25 + (((s.take (21 + (c12.toNat : Int)).toNat).drop 21).length : Int)).toNat))) := by rw [← hr106]; exact e21_
              refine t_norm (hK47 _ _ ?_)
              refine c_cond e107_76 (fun h108 => ?_) (fun h108 => ?_)
              · -- (makeS (Fr.mk ((takeS (s.drop 1) 4).1) ((takeS (s.drop 5) 8).1) ((takeS (s.drop 13) 8).1) ((s.take (21 + (c12.toNat : Int)).toNat).drop 21))) ≠ s.take (25 + (((s.take (21 + (c12.toNat : Int)).toNat).drop 21).length : Int)).toNat
                refine wp_seq_k fun K109 hK109 => ?_
                refine c_region ?_
                refine s_op (o_sight (v := (.agg #[(.int .i64 0), (.int .i64 0), (.int .i64 0), (S ([] : List UInt8))])) (fun _ => by kernel_rfl) ?_)
                refine s_eff (o_storeN (vs := [(.int .i64 0), (.int .i64 0), (.int .i64 0), (S ([] : List UInt8))]) (c' := #[(.int .i64 0), (.int .i64 0), (.int .i64 0), (S ([] : List UInt8))]) ti43 e107_2 rfl rfl rfl (by intro u hu; simp only [List.mem_cons, List.not_mem_nil, or_false] at hu; rcases hu with rfl | rfl | rfl | rfl <;> first | rfl) (by simp) (by kernel_rfl) (hH104.front 1 rfl) fun w110 hH111 => ?_)
                refine s_op (o_assign (v := (.bool false)) rfl ?_)
                refine s_nil ?_
                refine t_norm (hK109 _ _ ?_)
                refine wp_ret ?_
                refine t_ret (c_retC2 Tryd.results25 e107_2 (run_loadVarN (cs := [(.int .i64 0), (.int .i64 0), (.int .i64 0), (S ([] : List UInt8))]) Tryd.underlying43 rfl ti43 hH111 (seg_sub 0 rfl) (CellsAt.one rfl)) (x := (.bool false)) rfl ?_)
                have hH112 : Has E w110 [R] := (hH111.front 2 rfl).first 1 rfl
                have ho : opensB s = false := ref_no hx13 (by omega) (by omega) (.inr (.inr (.inr h108)))
                exact ⟨by unfold oF; rw [ho]; rfl, hH112⟩
              · -- not: (makeS (Fr.mk ((takeS (s.drop 1) 4).1) ((takeS (s.drop 5) 8).1) ((takeS (s.drop 13) 8).1) ((s.take (21 + (c12.toNat : Int)).toNat).drop 21))) ≠ s.take (25 + (((s.take (21 + (c12.toNat : Int)).toNat).drop 21).length : Int)).toNat
                refine wp_skip ?_
                refine t_norm (hK46 _ _ ?_)
                refine wp_seq_k fun K113 hK113 => ?_
                refine c_region ?_
                refine s_op (o_loadN (cs := [(.int .i64 ((takeS (s.drop 1) 4).1)), (.int .i64 ((takeS (s.drop 5) 8).1)), (.int .i64 ((takeS (s.drop 13) 8).1)), (S ((s.take (21 + (c12.toNat : Int)).toNat).drop 21))]) Tryd.underlying43 rfl ti43 e107_4 hH104 (seg_sub 0 rfl) (CellsAt.one rfl) ?_)
                refine s_eff (o_storeN (vs := [(.int .i64 ((takeS (s.drop 1) 4).1)), (.int .i64 ((takeS (s.drop 5) 8).1)), (.int .i64 ((takeS (s.drop 13) 8).1)), (S ((s.take (21 + (c12.toNat : Int)).toNat).drop 21))]) (c' := #[(.int .i64 ((takeS (s.drop 1) 4).1)), (.int .i64 ((takeS (s.drop 5) 8).1)), (.int .i64 ((takeS (s.drop 13) 8).1)), (S ((s.take (21 + (c12.toNat : Int)).toNat).drop 21))]) ti43 e107_2 rfl rfl rfl (by intro u hu; simp only [List.mem_cons, List.not_mem_nil, or_false] at hu; rcases hu with rfl | rfl | rfl | rfl <;> first | rfl) (by simp) (by kernel_rfl) (hH104.front 1 rfl) fun w114 hH115 => ?_)
                refine s_op (o_assign (v := (.bool true)) rfl ?_)
                refine s_nil ?_
                refine t_norm (hK113 _ _ ?_)
                refine wp_ret ?_
                refine c_retC2 Tryd.results25 e107_2 (run_loadVarN (cs := [(.int .i64 ((takeS (s.drop 1) 4).1)), (.int .i64 ((takeS (s.drop 5) 8).1)), (.int .i64 ((takeS (s.drop 13) 8).1)), (S ((s.take (21 + (c12.toNat : Int)).toNat).drop 21))]) Tryd.underlying43 rfl ti43 hH115 (seg_sub 0 rfl) (CellsAt.one rfl)) (x := (.bool true)) rfl ?_
                have hH116 : Has E w114 [R] := (hH115.front 2 rfl).first 1 rfl
                have ho : opensB s = true := ref_yes hx13 (by omega) (by omega) (not_f h48) (not_f h62) (not_f h76) (Classical.not_not.1 h108)
                have hq := (ref_opens hx13 (by omega) (by omega)).2 ho
                exact ⟨by unfold oF; rw [if_pos ho, ho, hq.1]; rfl, hH116⟩
end Go.Q
