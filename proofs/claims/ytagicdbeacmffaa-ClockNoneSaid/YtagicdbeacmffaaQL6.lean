/-
  Parts of a walk: what functions of the program compute, each told by a theorem.
-/
import Derived.Test.YtagicdbeacmffaaQT10
import Derived.Test.YtagicdbeacmffaaQT9
import Derived.Test.YtagicdbeacmffaaQT1
set_option linter.unusedVariables false
set_option linter.unusedSimpArgs false
namespace Go.Q
open Go.Proofs
set_option linter.unusedVariables false
set_option maxRecDepth 100000
attribute [local irreducible] wpList OK Code.wp
set_option maxHeartbeats 4000000 in
theorem ClockNone_c {E w : World} {R : List Hp} (hH : Has E w [R]) {kd sm pg tn nn : Int} {vm : Value} {ml : List Int} (hm : Ints R vm ml) :
    Calls Try.prog 4 #[(.agg #[(.int .i64 kd), (.int .i64 sm), (.int .i64 pg), (.int .i64 tn), (.int .i64 nn), vm])] w fun e w' => e = .returned (.bool true) ∧ Has E w' [R] := by
  refine c_enter (args := [(.agg #[(.int .i64 kd), (.int .i64 sm), (.int .i64 pg), (.int .i64 tn), (.int .i64 nn), vm])]) Try.func4 rfl Try.ntmps4 (by simp) ?_
  refine wp_seq_k fun K1 hK1 => ?_
  refine c_region ?_
  refine s_op (o_box (cs := #[(.int .i64 kd), (.int .i64 sm), (.int .i64 pg), (.int .i64 tn), (.int .i64 nn), vm]) rfl rfl hH fun b2 w3 hH4 => ?_)
  refine s_op (o_assign (v := (.bool false)) rfl ?_)
  refine s_nil ?_
  refine t_norm (hK1 _ _ ?_)
  refine wp_seq_k fun K5 hK5 => ?_
  refine wp_seq_k fun K6 hK6 => ?_
  refine c_region ?_
  refine s_op (o_loadN (cs := [(.int .i64 kd), (.int .i64 sm), (.int .i64 pg), (.int .i64 tn), (.int .i64 nn), vm]) Try.underlying30 rfl ti30 rfl hH4 (seg_sub 0 rfl) (CellsAt.one rfl) ?_)
  refine s_op (o_buildSlice (ps := #[(0, (.agg #[(.int .i64 kd), (.int .i64 sm), (.int .i64 pg), (.int .i64 tn), (.int .i64 nn), vm]))]) (cells := #[(.int .i64 kd), (.int .i64 sm), (.int .i64 pg), (.int .i64 tn), (.int .i64 nn), vm]) Try.underlying22 ti30 (by decide) (parts1 rfl) (by kernel_rfl) hH4 fun b7 w8 hH9 => ?_)
  refine s_op (o_callf (vs := #[(.slice (some ⟨b7, 0, none⟩) 1 1)]) ca11 rfl (args1 rfl) (great_c hH9.all (l := [(ActL.mk kd sm pg tn nn vm ml)]) ((sl_litF (f := actC) (l := [(ActL.mk kd sm pg tn nn vm ml)]) actC_len rfl rfl (by simp)).mono (seg_sub 0 rfl)) (fun a ha => by rw [List.mem_singleton.1 ha]; exact hm.mono (seg_sub 2 rfl))) ?_)
  rintro _ w12 ⟨rfl, hX10⟩
  refine ⟨_, rfl, ?_⟩
  have hH11 := hX10.of_all
  refine s_nil ?_
  refine t_norm (hK6 _ _ ?_)
  refine c_condb rfl (fun h13 => ?_) (fun h13 => ?_)
  · -- greatS [(ActL.mk kd sm pg tn nn vm ml)]
    refine wp_seq_k fun K14 hK14 => ?_
    refine c_region ?_
    refine s_op (o_callf (vs := #[]) ca12 rfl (args0) (awake9_c hH11.all) ?_)
    rintro _ w17 ⟨rfl, hX15⟩
    refine ⟨_, rfl, ?_⟩
    have hH16 := hX15.of_all
    refine s_op (o_assign (v := (.bool true)) rfl ?_)
    refine s_nil ?_
    refine t_norm (hK14 _ _ ?_)
    refine wp_ret ?_
    refine t_ret (c_ret1 Try.results4 (v := (.bool true)) rfl ?_)
    have hH18 : Has E w17 [R] := (hH16.front 2 rfl).first 1 rfl
    exact ⟨rfl, hH18⟩
  · -- not: greatS [(ActL.mk kd sm pg tn nn vm ml)]
    refine wp_skip ?_
    refine t_norm (hK5 _ _ ?_)
    refine wp_seq_k fun K19 hK19 => ?_
    refine c_region ?_
    refine s_op (o_assign (v := (.pointer none)) rfl ?_)
    refine s_nil ?_
    refine t_norm (hK19 _ _ ?_)
    refine wp_seq_k fun K20 hK20 => ?_
    refine c_region ?_
    refine s_op (o_move (v := (.pointer none)) rfl ?_)
    refine s_op (o_fieldAddr (k := 1) (fun _ => by kernel_rfl) rfl ?_)
    refine s_op (o_load1 (v := (.int .i64 sm)) Try.underlying3 rfl rfl hH11 (seg_sub 1 rfl) (CellsAt.one rfl) ?_)
    refine s_op (o_fieldAddr (k := 2) (fun _ => by kernel_rfl) rfl ?_)
    refine s_op (o_load1 (v := (.int .i64 pg)) Try.underlying3 rfl rfl hH11 (seg_sub 1 rfl) (CellsAt.one rfl) ?_)
    refine s_op (o_fieldAddr (k := 3) (fun _ => by kernel_rfl) rfl ?_)
    refine s_op (o_load1 (v := (.int .i64 tn)) Try.underlying3 rfl rfl hH11 (seg_sub 1 rfl) (CellsAt.one rfl) ?_)
    refine s_op (o_callf (vs := #[(.pointer none), (.int .i64 sm), (.int .i64 pg), (.int .i64 tn)]) ca17 rfl (args4 rfl rfl rfl rfl) (ctickN_c hH11.all sm pg tn) ?_)
    rintro _ w23 ⟨rfl, hX21⟩
    refine ⟨_, rfl, ?_⟩
    have hH22 := hX21.of_all
    refine s_op (o_move (v := (.tuple #[(.int .i64 (0 : Int)), (.int .i64 (1 : Int))])) rfl ?_)
    refine s_op (o_extract (v := (.int .i64 (0 : Int))) rfl rfl ?_)
    refine s_op (o_extract (v := (.int .i64 (1 : Int))) rfl rfl ?_)
    refine s_op (o_assign (v := (.int .i64 (0 : Int))) rfl ?_)
    refine s_op (o_assign (v := (.int .i64 (1 : Int))) rfl ?_)
    refine s_nil ?_
    refine t_norm (hK20 _ _ ?_)
    refine wp_seq_k fun K24 hK24 => ?_
    refine c_region ?_
    refine s_op (o_move (v := (.pointer none)) rfl ?_)
    refine s_op (o_fieldAddr (k := 1) (fun _ => by kernel_rfl) rfl ?_)
    refine s_op (o_load1 (v := (.int .i64 sm)) Try.underlying3 rfl rfl hH22 (seg_sub 1 rfl) (CellsAt.one rfl) ?_)
    refine s_op (o_fieldAddr (k := 2) (fun _ => by kernel_rfl) rfl ?_)
    refine s_op (o_load1 (v := (.int .i64 pg)) Try.underlying3 rfl rfl hH22 (seg_sub 1 rfl) (CellsAt.one rfl) ?_)
    refine s_op (o_fieldAddr (k := 3) (fun _ => by kernel_rfl) rfl ?_)
    refine s_op (o_load1 (v := (.int .i64 tn)) Try.underlying3 rfl rfl hH22 (seg_sub 1 rfl) (CellsAt.one rfl) ?_)
    refine s_op (o_callf (vs := #[(.pointer none), (.int .i64 sm), (.int .i64 pg), (.int .i64 tn)]) ca18 rfl (args4 rfl rfl rfl rfl) (cpeekN_c hH22.all sm pg tn) ?_)
    rintro _ w27 ⟨rfl, hX25⟩
    refine ⟨_, rfl, ?_⟩
    have hH26 := hX25.of_all
    refine s_op (o_move (v := (.tuple #[(.int .i64 (0 : Int)), (.int .i64 (1 : Int))])) rfl ?_)
    refine s_op (o_extract (v := (.int .i64 (0 : Int))) rfl rfl ?_)
    refine s_op (o_extract (v := (.int .i64 (1 : Int))) rfl rfl ?_)
    refine s_op (o_assign (v := (.int .i64 (0 : Int))) rfl ?_)
    refine s_op (o_assign (v := (.int .i64 (1 : Int))) rfl ?_)
    refine s_nil ?_
    refine t_norm (hK24 _ _ ?_)
    refine wp_seq_k fun K28 hK28 => ?_
    refine c_region ?_
    refine s_op (o_move (v := (.pointer none)) rfl ?_)
    refine s_op (o_fieldAddr (k := 3) (fun _ => by kernel_rfl) rfl ?_)
    refine s_op (o_load1 (v := (.int .i64 tn)) Try.underlying3 rfl rfl hH26 (seg_sub 1 rfl) (CellsAt.one rfl) ?_)
    refine s_op (o_fieldAddr (k := 2) (fun _ => by kernel_rfl) rfl ?_)
    refine s_op (o_load1 (v := (.int .i64 pg)) Try.underlying3 rfl rfl hH26 (seg_sub 1 rfl) (CellsAt.one rfl) ?_)
    refine s_op (o_callf (vs := #[(.pointer none), (.int .i64 tn), (.int .i64 pg)]) ca14 rfl (args3 rfl rfl rfl) (cseesN_c hH26.all tn pg) ?_)
    rintro _ w31 ⟨rfl, hX29⟩
    refine ⟨_, rfl, ?_⟩
    have hH30 := hX29.of_all
    refine s_nil ?_
    refine t_norm (hK28 _ _ ?_)
    refine wp_seq_k fun K32 hK32 => ?_
    refine c_region ?_
    refine s_op (o_move (v := (.pointer none)) rfl ?_)
    refine s_op (o_fieldAddr (k := 2) (fun _ => by kernel_rfl) rfl ?_)
    refine s_op (o_load1 (v := (.int .i64 pg)) Try.underlying3 rfl rfl hH30 (seg_sub 1 rfl) (CellsAt.one rfl) ?_)
    refine s_op (o_fieldAddr (k := 4) (fun _ => by kernel_rfl) rfl ?_)
    refine s_op (o_load1 (v := (.int .i64 nn)) Try.underlying3 rfl rfl hH30 (seg_sub 1 rfl) (CellsAt.one rfl) ?_)
    refine s_op (o_callf (vs := #[(.pointer none), (.int .i64 pg), (.int .i64 nn)]) ca19 rfl (args3 rfl rfl rfl) (cturnN_c hH30.all pg nn) ?_)
    rintro _ w35 ⟨rfl, hX33⟩
    refine ⟨_, rfl, ?_⟩
    have hH34 := hX33.of_all
    refine s_nil ?_
    refine t_norm (hK32 _ _ ?_)
    refine wp_seq_k fun K36 hK36 => ?_
    refine c_region ?_
    refine s_op (o_move (v := (.pointer none)) rfl ?_)
    refine s_op (o_fieldAddr (k := 5) (fun _ => by kernel_rfl) rfl ?_)
    refine s_op (o_load1 (v := vm) Try.underlying28 rfl rfl hH34 (seg_sub 1 rfl) (CellsAt.one rfl) ?_)
    refine s_op (o_callf (vs := #[(.pointer none), vm]) ca20 rfl (args2 rfl rfl) (cdropN_c hH34.all  (l := ml) (hm.mono (seg_sub 2 rfl))) ?_)
    rintro _ w39 ⟨rfl, hX37⟩
    refine ⟨_, rfl, ?_⟩
    have hH38 := hX37.of_all
    refine s_nil ?_
    refine t_norm (hK36 _ _ ?_)
    refine wp_seq_k fun K40 hK40 => ?_
    refine c_region ?_
    refine s_op (o_move (v := (.int .i64 (0 : Int))) rfl ?_)
    refine s_op (o_eql (a := (0 : Int)) (b := 0) rfl rfl ?_)
    refine s_op (o_move (v := (.bool (decide ((0 : Int) = 0)))) rfl ?_)
    by_cases h41 : (0 : Int) = 0
    · -- (0 : Int) = 0
      refine s_on 52 rfl (congrArg Value.bool (decide_eq_true h41)) (o_move (v := (.int .i64 (1 : Int))) rfl ?_)
      refine s_on 52 rfl (congrArg Value.bool (decide_eq_true h41)) (o_eql (a := (1 : Int)) (b := 1) rfl rfl ?_)
      refine s_op (o_pick_t (u := (.bool (decide ((1 : Int) = 1)))) ((rfl : _ = _).trans (congrArg Value.bool (decide_eq_true h41))) rfl ?_)
      refine s_op (o_move (v := (.bool (decide ((1 : Int) = 1)))) rfl ?_)
      by_cases h42 : (1 : Int) = 1
      · -- (1 : Int) = 1
        refine s_on 56 rfl (congrArg Value.bool (decide_eq_true h42)) (o_move (v := (.int .i64 (0 : Int))) rfl ?_)
        refine s_on 56 rfl (congrArg Value.bool (decide_eq_true h42)) (o_eql (a := (0 : Int)) (b := 0) rfl rfl ?_)
        refine s_op (o_pick_t (u := (.bool (decide ((0 : Int) = 0)))) ((rfl : _ = _).trans (congrArg Value.bool (decide_eq_true h42))) rfl ?_)
        refine s_op (o_move (v := (.bool (decide ((0 : Int) = 0)))) rfl ?_)
        refine s_on 60 rfl (congrArg Value.bool (decide_eq_true h41)) (o_move (v := (.int .i64 (1 : Int))) rfl ?_)
        refine s_on 60 rfl (congrArg Value.bool (decide_eq_true h41)) (o_eql (a := (1 : Int)) (b := 1) rfl rfl ?_)
        refine s_op (o_pick_t (u := (.bool (decide ((1 : Int) = 1)))) ((rfl : _ = _).trans (congrArg Value.bool (decide_eq_true h41))) rfl ?_)
        refine s_op (o_move (v := (.bool (decide ((1 : Int) = 1)))) rfl ?_)
        refine s_on 64 rfl (congrArg Value.bool (decide_eq_true h42)) (o_move (v := (.pointer none)) rfl ?_)
        refine s_on 64 rfl (congrArg Value.bool (decide_eq_true h42)) (o_fieldAddr (k := 4) (fun _ => by kernel_rfl) rfl ?_)
        refine s_on 64 rfl (congrArg Value.bool (decide_eq_true h42)) (o_load1 (v := (.int .i64 nn)) Try.underlying3 rfl rfl hH38 (seg_sub 1 rfl) (CellsAt.one rfl) ?_)
        refine s_on 64 rfl (congrArg Value.bool (decide_eq_true h42)) (o_fieldAddr (k := 5) (fun _ => by kernel_rfl) rfl ?_)
        refine s_on 64 rfl (congrArg Value.bool (decide_eq_true h42)) (o_load1 (v := vm) Try.underlying28 rfl rfl hH38 (seg_sub 1 rfl) (CellsAt.one rfl) ?_)
        refine s_on 64 rfl (congrArg Value.bool (decide_eq_true h42)) (o_callf (vs := #[(.pointer none), (.int .i64 nn), vm]) ca21 rfl (args3 rfl rfl rfl) (craiseN_c hH38.all nn (l := ml) (hm.mono (seg_sub 2 rfl))) ?_)
        rintro _ w45 ⟨rfl, hX43⟩
        refine ⟨_, rfl, ?_⟩
        have hH44 := hX43.of_all
        refine s_on 64 rfl (congrArg Value.bool (decide_eq_true h42)) (o_eql (a := (1 : Int)) (b := 1) rfl rfl ?_)
        refine s_op (o_pick_t (u := (.bool (decide ((1 : Int) = 1)))) ((rfl : _ = _).trans (congrArg Value.bool (decide_eq_true h42))) rfl ?_)
        refine s_op (o_move (v := (.bool (decide ((1 : Int) = 1)))) rfl ?_)
        refine s_on 73 rfl (congrArg Value.bool (decide_eq_true h42)) (o_move (v := (.pointer none)) rfl ?_)
        refine s_on 73 rfl (congrArg Value.bool (decide_eq_true h42)) (o_fieldAddr (k := 1) (fun _ => by kernel_rfl) rfl ?_)
        refine s_on 73 rfl (congrArg Value.bool (decide_eq_true h42)) (o_load1 (v := (.int .i64 sm)) Try.underlying3 rfl rfl hH44 (seg_sub 1 rfl) (CellsAt.one rfl) ?_)
        refine s_on 73 rfl (congrArg Value.bool (decide_eq_true h42)) (o_callf (vs := #[(.pointer none), (.int .i64 sm)]) ca22 rfl (args2 rfl rfl) (cstreamN_c hH44.all sm) ?_)
        rintro _ w48 ⟨rfl, hX46⟩
        refine ⟨_, rfl, ?_⟩
        have hH47 := hX46.of_all
        refine s_on 73 rfl (congrArg Value.bool (decide_eq_true h42)) (o_eql (a := (0 : Int)) (b := 0) rfl rfl ?_)
        refine s_op (o_pick_t (u := (.bool (decide ((0 : Int) = 0)))) ((rfl : _ = _).trans (congrArg Value.bool (decide_eq_true h42))) rfl ?_)
        refine s_op (o_move (v := (.bool (decide ((0 : Int) = 0)))) rfl ?_)
        refine s_on 80 rfl (congrArg Value.bool (decide_eq_true h41)) (o_move (v := (.pointer none)) rfl ?_)
        refine s_on 80 rfl (congrArg Value.bool (decide_eq_true h41)) (o_fieldAddr (k := 2) (fun _ => by kernel_rfl) rfl ?_)
        refine s_on 80 rfl (congrArg Value.bool (decide_eq_true h41)) (o_load1 (v := (.int .i64 pg)) Try.underlying3 rfl rfl hH47 (seg_sub 1 rfl) (CellsAt.one rfl) ?_)
        refine s_on 80 rfl (congrArg Value.bool (decide_eq_true h41)) (o_callf (vs := #[(.pointer none), (.int .i64 pg)]) ca23 rfl (args2 rfl rfl) (cpageN_c hH47.all pg) ?_)
        rintro _ w51 ⟨rfl, hX49⟩
        refine ⟨_, rfl, ?_⟩
        have hH50 := hX49.of_all
        refine s_on 80 rfl (congrArg Value.bool (decide_eq_true h41)) (o_eql (a := (0 : Int)) (b := 0) rfl rfl ?_)
        refine s_op (o_pick_t (u := (.bool (decide ((0 : Int) = 0)))) ((rfl : _ = _).trans (congrArg Value.bool (decide_eq_true h41))) rfl ?_)
        refine s_op (o_move (v := (.bool (decide ((0 : Int) = 0)))) rfl ?_)
        refine s_on 87 rfl (congrArg Value.bool (decide_eq_true h41)) (o_move (v := (.pointer none)) rfl ?_)
        refine s_on 87 rfl (congrArg Value.bool (decide_eq_true h41)) (o_fieldAddr (k := 3) (fun _ => by kernel_rfl) rfl ?_)
        refine s_on 87 rfl (congrArg Value.bool (decide_eq_true h41)) (o_load1 (v := (.int .i64 tn)) Try.underlying3 rfl rfl hH50 (seg_sub 1 rfl) (CellsAt.one rfl) ?_)
        refine s_on 87 rfl (congrArg Value.bool (decide_eq_true h41)) (o_callf (vs := #[(.pointer none), (.int .i64 tn)]) ca24 rfl (args2 rfl rfl) (ctxnN_c hH50.all tn) ?_)
        rintro _ w54 ⟨rfl, hX52⟩
        refine ⟨_, rfl, ?_⟩
        have hH53 := hX52.of_all
        refine s_on 87 rfl (congrArg Value.bool (decide_eq_true h41)) (o_eql (a := (0 : Int)) (b := 0) rfl rfl ?_)
        refine s_op (o_pick_t (u := (.bool (decide ((0 : Int) = 0)))) ((rfl : _ = _).trans (congrArg Value.bool (decide_eq_true h41))) rfl ?_)
        refine s_op (o_move (v := (.bool (decide ((0 : Int) = 0)))) rfl ?_)
        refine s_on 94 rfl (congrArg Value.bool (decide_eq_true h41)) (o_move (v := (.pointer none)) rfl ?_)
        refine s_on 94 rfl (congrArg Value.bool (decide_eq_true h41)) (o_callf (vs := #[(.pointer none)]) ca25 rfl (args1 rfl) (ctopN_c hH53.all ) ?_)
        rintro _ w57 ⟨rfl, hX55⟩
        refine ⟨_, rfl, ?_⟩
        have hH56 := hX55.of_all
        refine s_on 94 rfl (congrArg Value.bool (decide_eq_true h41)) (o_eql (a := (0 : Int)) (b := 0) rfl rfl ?_)
        refine s_op (o_pick_t (u := (.bool (decide ((0 : Int) = 0)))) ((rfl : _ = _).trans (congrArg Value.bool (decide_eq_true h41))) rfl ?_)
        refine s_op (o_move (v := (.bool (decide ((0 : Int) = 0)))) rfl ?_)
        refine s_on 99 rfl (congrArg Value.bool (decide_eq_true h41)) (o_callf (vs := #[]) ca12 rfl (args0) (awake9_c hH56.all) ?_)
        rintro _ w60 ⟨rfl, hX58⟩
        refine ⟨_, rfl, ?_⟩
        have hH59 := hX58.of_all
        refine s_op (o_pick_t (u := (.bool true)) ((rfl : _ = _).trans (congrArg Value.bool (decide_eq_true h41))) rfl ?_)
        refine s_op (o_assign (v := (.bool true)) rfl ?_)
        refine s_nil ?_
        refine t_norm (hK40 _ _ ?_)
        refine wp_ret ?_
        refine c_ret1 Try.results4 (v := (.bool true)) rfl ?_
        have hH61 : Has E w60 [R] := (hH59.front 2 rfl).first 1 rfl
        exact ⟨rfl, hH61⟩
      · -- not: (1 : Int) = 1
        exact absurd rfl h42
    · -- not: (0 : Int) = 0
      exact absurd rfl h41
end Go.Q
