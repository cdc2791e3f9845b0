/-
  Parts of a walk: what functions of the program compute, each told by a theorem (QDL4, QY, QYD, QDRd).
-/
import Derived.Test.YtcffibbdbalmjaaDoorB5
import Derived.ChangeArms
import Derived.WideShapes
import Derived.DataElems
import Derived.OpenShut
set_option linter.unusedVariables false
set_option linter.unusedSimpArgs false
namespace Go.Q
open Go.Proofs
set_option linter.unusedVariables false
set_option maxRecDepth 100000
attribute [local irreducible] wpList OK Code.wp
set_option maxHeartbeats 4000000 in
theorem PageBack_c {E w : World} {R : List Hp} {no : Int} {gsn : Int} {v_l : Value} {l : List Cel} {key : Bs} {v : Bool × Bs}  (hH : Has E w [R]) (h_l : Sl R 2 v_l l.length (l.flatMap ceC)) (hg : CellsAt R 0 0 nibV) (hgi : -9223372036854775808 ≤ gsn) :
    Calls Tryd.prog 5 #[(.agg #[(.int .i64 no), (.int .i64 gsn), v_l]), (S key), (.agg #[(.bool v.1), (S v.2)])] w fun e w' => e = .returned (.bool true) ∧ Has E w' [R] := by
  refine c_enter (args := [(.agg #[(.int .i64 no), (.int .i64 gsn), v_l]), (S key), (.agg #[(.bool v.1), (S v.2)])]) Tryd.func5 rfl Tryd.ntmps5 (by simp) ?_
  refine wp_seq_k fun K1 hK1 => ?_
  refine c_region ?_
  refine s_op (o_box (cs := #[(.int .i64 no), (.int .i64 gsn), v_l]) rfl rfl hH fun b2 w3 hH4 => ?_)
  refine s_op (o_box (cs := #[(.bool v.1), (S v.2)]) rfl rfl hH4 fun b5 w6 hH7 => ?_)
  refine s_op (o_assign (v := (.bool false)) rfl ?_)
  refine s_nil ?_
  refine t_norm (hK1 _ _ ?_)
  refine wp_seq_k fun K8 hK8 => ?_
  refine wp_seq_k fun K9 hK9 => ?_
  refine c_region ?_
  refine s_op (o_loadN (cs := [(.int .i64 no), (.int .i64 gsn), v_l]) Tryd.underlying24 rfl ti24 rfl hH7 (seg_sub 1 rfl) (CellsAt.one rfl) ?_)
  refine s_op (o_callf (vs := #[(.agg #[(.int .i64 no), (.int .i64 gsn), v_l])]) ca8 rfl (args1 rfl) (r11great_c (no := no) (gsn := gsn) (l := l) hH7.all (h_l.mono (seg_sub 2 rfl))) ?_)
  rintro _ w14 ⟨gb_10, rfl, hg_11, hX12⟩
  refine ⟨_, rfl, ?_⟩
  have hH13 : Has E w14 [[Hp.one b5 (.cells #[(.bool v.1), (S v.2)] 29 (0, 0))], [Hp.one b2 (.cells #[(.int .i64 no), (.int .i64 gsn), v_l] 24 (0, 0))], R] := hX12.of_all
  refine s_op (o_move (v := (.bool gb_10)) rfl ?_)
  rcases Bool.eq_false_or_eq_true gb_10 with h15 | h15
  · -- gb_10
    refine s_off (b' := true) 14 rfl (congrArg Value.bool h15) rfl ?_
    refine s_off (b' := true) 14 rfl (congrArg Value.bool h15) rfl ?_
    refine s_off (b' := true) 14 rfl (congrArg Value.bool h15) rfl ?_
    refine s_op (o_pick_t (u := (.bool true)) ((rfl : _ = _).trans (congrArg Value.bool h15)) rfl ?_)
    refine s_op (o_move (v := (.bool true)) rfl ?_)
    refine s_off (b' := true) 19 rfl rfl rfl ?_
    refine s_off (b' := true) 19 rfl rfl rfl ?_
    refine s_off (b' := true) 19 rfl rfl rfl ?_
    refine s_off (b' := true) 19 rfl rfl rfl ?_
    refine s_op (o_pick_t (u := (.bool true)) rfl rfl ?_)
    refine s_op (o_move (v := (.bool true)) rfl ?_)
    refine s_off (b' := true) 25 rfl rfl rfl ?_
    refine s_off (b' := true) 25 rfl rfl rfl ?_
    refine s_off (b' := true) 25 rfl rfl rfl ?_
    refine s_op (o_pick_t (u := (.bool true)) rfl rfl ?_)
    refine s_nil ?_
    refine t_norm (hK9 _ _ ?_)
    refine c_true rfl rfl ?_
    refine wp_seq_k fun K16 hK16 => ?_
    refine c_region ?_
    refine s_op (o_callf (vs := #[]) ca9 rfl (args0) (awake11_c hH13.all (hg.mono (seg_sub 2 rfl))) ?_)
    rintro _ w19 ⟨rfl, hX17⟩
    refine ⟨_, rfl, ?_⟩
    have hH18 := hX17.of_all
    refine s_op (o_assign (v := (.bool true)) rfl ?_)
    refine s_nil ?_
    refine t_norm (hK16 _ _ ?_)
    refine wp_ret ?_
    refine t_ret (c_ret1 Tryd.results5  (v := (.bool true)) rfl ?_)
    have hH20 : Has E w19 [R] := (hH18.front 2 rfl).first 1 rfl
    exact ⟨by rw [show true = true by first | rfl | assumption | (simp; done)], hH20⟩
  · -- not: gb_10
    have hgr_ := hg_11 h15
    refine s_on 14 rfl (congrArg Value.bool h15) (o_move (v := (S key)) rfl ?_)
    refine s_on 14 rfl (congrArg Value.bool h15) (o_slen Tryd.underlying9 rfl ?_)
    refine s_on 14 rfl (congrArg Value.bool h15) (o_gtr (a := (key.length : Int)) (b := 100) rfl rfl ?_)
    refine s_op (o_pick_f (u := (.bool (decide (100 < (key.length : Int))))) ((rfl : _ = _).trans (congrArg Value.bool h15)) rfl ?_)
    refine s_op (o_move (v := (.bool (decide (100 < (key.length : Int))))) rfl ?_)
    by_cases h21 : 100 < (key.length : Int)
    · -- 100 < (key.length : Int)
      refine s_off (b' := true) 19 rfl (congrArg Value.bool (decide_eq_true h21)) rfl ?_
      refine s_off (b' := true) 19 rfl (congrArg Value.bool (decide_eq_true h21)) rfl ?_
      refine s_off (b' := true) 19 rfl (congrArg Value.bool (decide_eq_true h21)) rfl ?_
      refine s_off (b' := true) 19 rfl (congrArg Value.bool (decide_eq_true h21)) rfl ?_
      refine s_op (o_pick_t (u := (.bool true)) ((rfl : _ = _).trans (congrArg Value.bool (decide_eq_true h21))) rfl ?_)
      refine s_op (o_move (v := (.bool true)) rfl ?_)
      refine s_off (b' := true) 25 rfl rfl rfl ?_
      refine s_off (b' := true) 25 rfl rfl rfl ?_
      refine s_off (b' := true) 25 rfl rfl rfl ?_
      refine s_op (o_pick_t (u := (.bool true)) rfl rfl ?_)
      refine s_nil ?_
      refine t_norm (hK9 _ _ ?_)
      refine c_true rfl rfl ?_
      refine wp_seq_k fun K22 hK22 => ?_
      refine c_region ?_
      refine s_op (o_callf (vs := #[]) ca9 rfl (args0) (awake11_c hH13.all (hg.mono (seg_sub 2 rfl))) ?_)
      rintro _ w25 ⟨rfl, hX23⟩
      refine ⟨_, rfl, ?_⟩
      have hH24 := hX23.of_all
      refine s_op (o_assign (v := (.bool true)) rfl ?_)
      refine s_nil ?_
      refine t_norm (hK22 _ _ ?_)
      refine wp_ret ?_
      refine t_ret (c_ret1 Tryd.results5  (v := (.bool true)) rfl ?_)
      have hH26 : Has E w25 [R] := (hH24.front 2 rfl).first 1 rfl
      exact ⟨by rw [show true = true by first | rfl | assumption | (simp; done)], hH26⟩
    · -- not: 100 < (key.length : Int)
      refine s_on 19 rfl (congrArg Value.bool (decide_eq_false h21)) (o_fieldAddr (k := 1) (fun _ => by kernel_rfl) rfl ?_)
      refine s_on 19 rfl (congrArg Value.bool (decide_eq_false h21)) (o_load1 (v := (S v.2)) Tryd.underlying9 rfl rfl hH13 (seg_sub 0 rfl) (CellsAt.one rfl) ?_)
      refine s_on 19 rfl (congrArg Value.bool (decide_eq_false h21)) (o_slen Tryd.underlying9 rfl ?_)
      refine s_on 19 rfl (congrArg Value.bool (decide_eq_false h21)) (o_gtr (a := (v.2.length : Int)) (b := 100) rfl rfl ?_)
      refine s_op (o_pick_f (u := (.bool (decide (100 < (v.2.length : Int))))) ((rfl : _ = _).trans (congrArg Value.bool (decide_eq_false h21))) rfl ?_)
      refine s_op (o_move (v := (.bool (decide (100 < (v.2.length : Int))))) rfl ?_)
      by_cases h27 : 100 < (v.2.length : Int)
      · -- 100 < (v.2.length : Int)
        refine s_off (b' := true) 25 rfl (congrArg Value.bool (decide_eq_true h27)) rfl ?_
        refine s_off (b' := true) 25 rfl (congrArg Value.bool (decide_eq_true h27)) rfl ?_
        refine s_off (b' := true) 25 rfl (congrArg Value.bool (decide_eq_true h27)) rfl ?_
        refine s_op (o_pick_t (u := (.bool true)) ((rfl : _ = _).trans (congrArg Value.bool (decide_eq_true h27))) rfl ?_)
        refine s_nil ?_
        refine t_norm (hK9 _ _ ?_)
        refine c_true rfl rfl ?_
        refine wp_seq_k fun K28 hK28 => ?_
        refine c_region ?_
        refine s_op (o_callf (vs := #[]) ca9 rfl (args0) (awake11_c hH13.all (hg.mono (seg_sub 2 rfl))) ?_)
        rintro _ w31 ⟨rfl, hX29⟩
        refine ⟨_, rfl, ?_⟩
        have hH30 := hX29.of_all
        refine s_op (o_assign (v := (.bool true)) rfl ?_)
        refine s_nil ?_
        refine t_norm (hK28 _ _ ?_)
        refine wp_ret ?_
        refine t_ret (c_ret1 Tryd.results5  (v := (.bool true)) rfl ?_)
        have hH32 : Has E w31 [R] := (hH30.front 2 rfl).first 1 rfl
        exact ⟨by rw [show true = true by first | rfl | assumption | (simp; done)], hH32⟩
      · -- not: 100 < (v.2.length : Int)
        refine s_on 25 rfl (congrArg Value.bool (decide_eq_false h27)) (o_fieldAddr (k := 1) (fun _ => by kernel_rfl) rfl ?_)
        refine s_on 25 rfl (congrArg Value.bool (decide_eq_false h27)) (o_load1 (v := (.int .i64 gsn)) Tryd.underlying3 rfl rfl hH13 (seg_sub 1 rfl) (CellsAt.one rfl) ?_)
        refine s_on 25 rfl (congrArg Value.bool (decide_eq_false h27)) (o_gtr (a := gsn) (b := 2305843009213693952) rfl rfl ?_)
        refine s_op (o_pick_f (u := (.bool (decide (2305843009213693952 < gsn)))) ((rfl : _ = _).trans (congrArg Value.bool (decide_eq_false h27))) rfl ?_)
        refine s_nil ?_
        refine t_norm (hK9 _ _ ?_)
        refine c_cond rfl (fun h33 => ?_) (fun h33 => ?_)
        · -- 2305843009213693952 < gsn
          refine wp_seq_k fun K34 hK34 => ?_
          refine c_region ?_
          refine s_op (o_callf (vs := #[]) ca9 rfl (args0) (awake11_c hH13.all (hg.mono (seg_sub 2 rfl))) ?_)
          rintro _ w37 ⟨rfl, hX35⟩
          refine ⟨_, rfl, ?_⟩
          have hH36 := hX35.of_all
          refine s_op (o_assign (v := (.bool true)) rfl ?_)
          refine s_nil ?_
          refine t_norm (hK34 _ _ ?_)
          refine wp_ret ?_
          refine t_ret (c_ret1 Tryd.results5  (v := (.bool true)) rfl ?_)
          have hH38 : Has E w37 [R] := (hH36.front 2 rfl).first 1 rfl
          exact ⟨by rw [show true = true by first | rfl | assumption | (simp; done)], hH38⟩
        · -- not: 2305843009213693952 < gsn
          refine wp_skip ?_
          refine t_norm (hK8 _ _ ?_)
          refine wp_seq_k fun K39 hK39 => ?_
          refine c_region ?_
          refine s_op (o_loadN (cs := [(.int .i64 no), (.int .i64 gsn), v_l]) Tryd.underlying24 rfl ti24 rfl hH13 (seg_sub 1 rfl) (CellsAt.one rfl) ?_)
          refine s_op (o_move (v := (S key)) rfl ?_)
          refine s_op (o_callf (vs := #[(.agg #[(.int .i64 no), (.int .i64 gsn), v_l]), (S key)]) ca14 rfl (args2 rfl rfl) (pget_c (no := no) (gsn := gsn) (l := l) (key := key) hH13.all (h_l.mono (seg_sub 2 rfl))) ?_)
          rintro _ w42 ⟨rfl, hX40⟩
          refine ⟨_, rfl, ?_⟩
          have hH41 := hX40.of_all
          refine s_op (o_alloc (cs := #[(.bool false), (S ([] : List UInt8))]) ti29 rfl hH41 fun b43 w44 hH45 => ?_)
          refine s_eff (o_storeN (vs := [(.bool ((getC l key).1)), (S ((getC l key).2))]) (c' := #[(.bool ((getC l key).1)), (S ((getC l key).2))]) ti29 rfl rfl rfl rfl (by intro u hu; simp only [List.mem_cons, List.not_mem_nil, or_false] at hu; rcases hu with rfl | rfl <;> first | rfl) (by simp) (by kernel_rfl) (hH45.front 0 rfl) fun w46 hH47 => ?_)
          refine s_nil ?_
          refine t_norm (hK39 _ _ ?_)
          refine wp_seq_k fun K48 hK48 => ?_
          refine c_region ?_
          refine s_op (o_loadN (cs := [(.int .i64 no), (.int .i64 gsn), v_l]) Tryd.underlying24 rfl ti24 rfl hH47 (seg_sub 2 rfl) (CellsAt.one rfl) ?_)
          refine s_op (o_move (v := (S key)) rfl ?_)
          refine s_op (o_loadN (cs := [(.bool v.1), (S v.2)]) Tryd.underlying29 rfl ti29 rfl hH47 (seg_sub 1 rfl) (CellsAt.one rfl) ?_)
          refine s_op (o_fieldAddr (k := 1) (fun _ => by kernel_rfl) rfl ?_)
          refine s_op (o_load1 (v := (.int .i64 gsn)) Tryd.underlying3 rfl rfl hH47 (seg_sub 2 rfl) (CellsAt.one rfl) ?_)
          refine s_op (o_add (a := gsn) (b := 1) rfl rfl (w64 (by omega) (by omega)) ?_)
          refine s_op (o_callf (vs := #[(.agg #[(.int .i64 no), (.int .i64 gsn), v_l]), (S key), (.agg #[(.bool v.1), (S v.2)]), (.int .i64 (gsn + 1))]) ca16 rfl (args4 rfl rfl rfl rfl) (pset_c (no := no) (gsn := gsn) (l := l) (key := key) (v := (v.1, v.2)) (g := gsn + 1) hH47.all (h_l.mono (seg_sub 3 rfl)) (by first | omega | (simp only []; omega) | (simp; done) | (simp; omega))) ?_)
          rintro _ w54 ⟨v49, s50, rfl, ho51, hX52⟩
          refine ⟨_, rfl, ?_⟩
          have hH53 : Has E w54 [s50, [Hp.one b43 (.cells #[(.bool ((getC l key).1)), (S ((getC l key).2))] 29 (0, 0))], [Hp.one b5 (.cells #[(.bool v.1), (S v.2)] 29 (0, 0))], [Hp.one b2 (.cells #[(.int .i64 no), (.int .i64 gsn), v_l] 24 (0, 0))], R] := hX52.of_all1
          refine s_op (o_move (v := (.tuple #[(.agg #[(.int .i64 (setNo no gsn l key (v.1, v.2) (gsn + 1))), (.int .i64 (setG no gsn l key (v.1, v.2) (gsn + 1))), v49]), (.int .i64 (setE no gsn l key (v.1, v.2) (gsn + 1)))])) rfl ?_)
          refine s_op (o_extract (v := (.agg #[(.int .i64 (setNo no gsn l key (v.1, v.2) (gsn + 1))), (.int .i64 (setG no gsn l key (v.1, v.2) (gsn + 1))), v49])) rfl rfl ?_)
          refine s_op (o_extract (v := (.int .i64 (setE no gsn l key (v.1, v.2) (gsn + 1)))) rfl rfl ?_)
          refine s_op (o_alloc (cs := #[(.int .i64 0), (.int .i64 0), (.slice none 0 0)]) ti24 rfl hH53 fun b55 w56 hH57 => ?_)
          refine s_eff (o_storeN (vs := [(.int .i64 (setNo no gsn l key (v.1, v.2) (gsn + 1))), (.int .i64 (setG no gsn l key (v.1, v.2) (gsn + 1))), v49]) (c' := #[(.int .i64 (setNo no gsn l key (v.1, v.2) (gsn + 1))), (.int .i64 (setG no gsn l key (v.1, v.2) (gsn + 1))), v49]) ti24 rfl rfl rfl rfl (by intro u hu; simp only [List.mem_cons, List.not_mem_nil, or_false] at hu; rcases hu with rfl | rfl | rfl <;> first | rfl | exact ho51.one) (by simp) (by kernel_rfl) (hH57.front 0 rfl) fun w58 hH59 => ?_)
          refine s_op (o_assign (v := (.int .i64 (setE no gsn l key (v.1, v.2) (gsn + 1)))) rfl ?_)
          refine s_nil ?_
          refine t_norm (hK48 _ _ ?_)
          refine wp_seq_k fun K60 hK60 => ?_
          refine wp_seq_k fun K61 hK61 => ?_
          refine c_region ?_
          refine s_op (o_move (v := (.int .i64 (setE no gsn l key (v.1, v.2) (gsn + 1)))) rfl ?_)
          refine s_op (o_neq (a := (setE no gsn l key (v.1, v.2) (gsn + 1))) (b := 0) rfl rfl ?_)
          refine s_nil ?_
          refine t_norm (hK61 _ _ ?_)
          refine c_cond rfl (fun h62 => ?_) (fun h62 => ?_)
          · -- (setE no gsn l key (v.1, v.2) (gsn + 1)) ≠ 0
            have hz_ : setE no gsn l key (v.1, v.2) (gsn + 1) ≠ 0 := h62
            have e1_ : setNo no gsn l key (v.1, v.2) (gsn + 1) = 0 := setNo_no hz_
            have e2_ : setG no gsn l key (v.1, v.2) (gsn + 1) = 0 := setG_no hz_
            have e3_ : setL no gsn l key (v.1, v.2) (gsn + 1) = [] := setL_no hz_
            refine wp_seq_k fun K63 hK63 => ?_
            refine c_region ?_
            refine s_op (o_loadN (cs := [(.int .i64 (setNo no gsn l key (v.1, v.2) (gsn + 1))), (.int .i64 (setG no gsn l key (v.1, v.2) (gsn + 1))), v49]) Tryd.underlying24 rfl ti24 rfl hH59 (seg_sub 0 rfl) (CellsAt.one rfl) ?_)
            refine s_op (o_sight (v := (.agg #[(.int .i64 0), (.int .i64 0), (.slice none 0 0)])) (fun _ => by kernel_rfl) ?_)
            refine s_op (o_callf (vs := #[(.agg #[(.int .i64 (setNo no gsn l key (v.1, v.2) (gsn + 1))), (.int .i64 (setG no gsn l key (v.1, v.2) (gsn + 1))), v49]), (.agg #[(.int .i64 0), (.int .i64 0), (.slice none 0 0)])]) ca13 rfl (args2 rfl rfl) (r11same_c (noa := (setNo no gsn l key (v.1, v.2) (gsn + 1))) (gsna := (setG no gsn l key (v.1, v.2) (gsn + 1))) (la := (setL no gsn l key (v.1, v.2) (gsn + 1))) (nob := 0) (gsnb := 0) (lb := ([] : List Cel)) hH59.all (ho51.sl.mono (seg_sub 1 rfl)) (sl_nil 2)) ?_)
            rintro _ w66 ⟨rfl, hX64⟩
            refine ⟨_, rfl, ?_⟩
            have hH65 := hX64.of_all
            refine s_op (o_move (v := (.bool (decide ((setNo no gsn l key (v.1, v.2) (gsn + 1)) = 0 ∧ (setG no gsn l key (v.1, v.2) (gsn + 1)) = 0 ∧ (setL no gsn l key (v.1, v.2) (gsn + 1)) = ([] : List Cel))))) rfl ?_)
            rcases Bool.eq_false_or_eq_true (decide ((setNo no gsn l key (v.1, v.2) (gsn + 1)) = 0 ∧ (setG no gsn l key (v.1, v.2) (gsn + 1)) = 0 ∧ (setL no gsn l key (v.1, v.2) (gsn + 1)) = ([] : List Cel))) with h67 | h67
            · -- (decide ((setNo no gsn l key (v.1, v.2) (gsn + 1)) = 0 ∧ (setG no gsn l key (v.1, v.2) (gsn + 1)) = 0 ∧ (setL no gsn l key (v.1, v.2) (gsn + 1)) = ([] : List Cel)))
              refine s_on 49 rfl (congrArg Value.bool h67) (o_callf (vs := #[]) ca9 rfl (args0) (awake11_c hH65.all (hg.mono (seg_sub 5 rfl))) ?_)
              rintro _ w70 ⟨rfl, hX68⟩
              refine ⟨_, rfl, ?_⟩
              have hH69 := hX68.of_all
              refine s_op (o_pick_t (u := (.bool true)) ((rfl : _ = _).trans (congrArg Value.bool h67)) rfl ?_)
              refine s_op (o_assign (v := (.bool true)) rfl ?_)
              refine s_nil ?_
              refine t_norm (hK63 _ _ ?_)
              refine wp_ret ?_
              refine t_ret (c_ret1 Tryd.results5  (v := (.bool true)) rfl ?_)
              have hH71 : Has E w70 [R] := (hH69.front 5 rfl).first 1 rfl
              exact ⟨by rw [show true = true by first | rfl | assumption | (simp; done)], hH71⟩
            · -- not: (decide ((setNo no gsn l key (v.1, v.2) (gsn + 1)) = 0 ∧ (setG no gsn l key (v.1, v.2) (gsn + 1)) = 0 ∧ (setL no gsn l key (v.1, v.2) (gsn + 1)) = ([] : List Cel)))
              exact absurd (show (decide ((setNo no gsn l key (v.1, v.2) (gsn + 1)) = 0 ∧ (setG no gsn l key (v.1, v.2) (gsn + 1)) = 0 ∧ (setL no gsn l key (v.1, v.2) (gsn + 1)) = ([] : List Cel))) = true from decide_eq_true (by first | exact ⟨e4_, rfl, e5_⟩ | exact ⟨e1_, e2_, e3_⟩)) (by rw [h67]; decide)
          · -- not: (setE no gsn l key (v.1, v.2) (gsn + 1)) ≠ 0
            have hz_ : setE no gsn l key (v.1, v.2) (gsn + 1) = 0 := Classical.not_not.1 h62
            have hb_ := set_back hz_ (by omega)
            have hgs_ := getC_set hz_
            have e1_ : setNo no gsn l key (v.1, v.2) (gsn + 1) = no := setNo_ok hz_
            have e2_ : setG no gsn l key (v.1, v.2) (gsn + 1) = gsn + 1 := setG_ok hz_
            have e3_ : setL no gsn l key (v.1, v.2) (gsn + 1) = setC l key (v.1, v.2) := setL_ok hz_
            have hz2_ : setE (setNo no gsn l key (v.1, v.2) (gsn + 1)) (setG no gsn l key (v.1, v.2) (gsn + 1)) (setL no gsn l key (v.1, v.2) (gsn + 1)) key ((getC l key).1, (getC l key).2) (gsn + 2) = 0 := by rw [e1_, e2_, e3_]; exact hb_.1
            have e4_ : setNo (setNo no gsn l key (v.1, v.2) (gsn + 1)) (setG no gsn l key (v.1, v.2) (gsn + 1)) (setL no gsn l key (v.1, v.2) (gsn + 1)) key ((getC l key).1, (getC l key).2) (gsn + 2) = no := by rw [setNo_ok hz2_, e1_]
            have e5_ : setL (setNo no gsn l key (v.1, v.2) (gsn + 1)) (setG no gsn l key (v.1, v.2) (gsn + 1)) (setL no gsn l key (v.1, v.2) (gsn + 1)) key ((getC l key).1, (getC l key).2) (gsn + 2) = l := by rw [setL_ok hz2_, e3_]; exact hb_.2.1
            have hsl_ := setL_le no gsn l key (v.1, v.2) (gsn + 1)
            refine wp_skip ?_
            refine t_norm (hK60 _ _ ?_)
            refine wp_seq_k fun K72 hK72 => ?_
            refine c_region ?_
            refine s_op (o_loadN (cs := [(.int .i64 (setNo no gsn l key (v.1, v.2) (gsn + 1))), (.int .i64 (setG no gsn l key (v.1, v.2) (gsn + 1))), v49]) Tryd.underlying24 rfl ti24 rfl hH59 (seg_sub 0 rfl) (CellsAt.one rfl) ?_)
            refine s_op (o_move (v := (S key)) rfl ?_)
            refine s_op (o_loadN (cs := [(.bool ((getC l key).1)), (S ((getC l key).2))]) Tryd.underlying29 rfl ti29 rfl hH59 (seg_sub 2 rfl) (CellsAt.one rfl) ?_)
            refine s_op (o_fieldAddr (k := 1) (fun _ => by kernel_rfl) rfl ?_)
            refine s_op (o_load1 (v := (.int .i64 gsn)) Tryd.underlying3 rfl rfl hH59 (seg_sub 4 rfl) (CellsAt.one rfl) ?_)
            refine s_op (o_add (a := gsn) (b := 2) rfl rfl (w64 (by omega) (by omega)) ?_)
            refine s_op (o_callf (vs := #[(.agg #[(.int .i64 (setNo no gsn l key (v.1, v.2) (gsn + 1))), (.int .i64 (setG no gsn l key (v.1, v.2) (gsn + 1))), v49]), (S key), (.agg #[(.bool ((getC l key).1)), (S ((getC l key).2))]), (.int .i64 (gsn + 2))]) ca16 rfl (args4 rfl rfl rfl rfl) (pset_c (no := (setNo no gsn l key (v.1, v.2) (gsn + 1))) (gsn := (setG no gsn l key (v.1, v.2) (gsn + 1))) (l := (setL no gsn l key (v.1, v.2) (gsn + 1))) (key := key) (v := ((getC l key).1, (getC l key).2)) (g := gsn + 2) hH59.all (ho51.sl.mono (seg_sub 1 rfl)) (by first | omega | (simp only []; omega) | (simp; done) | (simp; omega))) ?_)
            rintro _ w78 ⟨v73, s74, rfl, ho75, hX76⟩
            refine ⟨_, rfl, ?_⟩
            have hH77 : Has E w78 [s74, [Hp.one b55 (.cells #[(.int .i64 (setNo no gsn l key (v.1, v.2) (gsn + 1))), (.int .i64 (setG no gsn l key (v.1, v.2) (gsn + 1))), v49] 24 (0, 0))], s50, [Hp.one b43 (.cells #[(.bool ((getC l key).1)), (S ((getC l key).2))] 29 (0, 0))], [Hp.one b5 (.cells #[(.bool v.1), (S v.2)] 29 (0, 0))], [Hp.one b2 (.cells #[(.int .i64 no), (.int .i64 gsn), v_l] 24 (0, 0))], R] := hX76.of_all1
            refine s_op (o_move (v := (.tuple #[(.agg #[(.int .i64 (setNo (setNo no gsn l key (v.1, v.2) (gsn + 1)) (setG no gsn l key (v.1, v.2) (gsn + 1)) (setL no gsn l key (v.1, v.2) (gsn + 1)) key ((getC l key).1, (getC l key).2) (gsn + 2))), (.int .i64 (setG (setNo no gsn l key (v.1, v.2) (gsn + 1)) (setG no gsn l key (v.1, v.2) (gsn + 1)) (setL no gsn l key (v.1, v.2) (gsn + 1)) key ((getC l key).1, (getC l key).2) (gsn + 2))), v73]), (.int .i64 (setE (setNo no gsn l key (v.1, v.2) (gsn + 1)) (setG no gsn l key (v.1, v.2) (gsn + 1)) (setL no gsn l key (v.1, v.2) (gsn + 1)) key ((getC l key).1, (getC l key).2) (gsn + 2)))])) rfl ?_)
            refine s_op (o_extract (v := (.agg #[(.int .i64 (setNo (setNo no gsn l key (v.1, v.2) (gsn + 1)) (setG no gsn l key (v.1, v.2) (gsn + 1)) (setL no gsn l key (v.1, v.2) (gsn + 1)) key ((getC l key).1, (getC l key).2) (gsn + 2))), (.int .i64 (setG (setNo no gsn l key (v.1, v.2) (gsn + 1)) (setG no gsn l key (v.1, v.2) (gsn + 1)) (setL no gsn l key (v.1, v.2) (gsn + 1)) key ((getC l key).1, (getC l key).2) (gsn + 2))), v73])) rfl rfl ?_)
            refine s_op (o_extract (v := (.int .i64 (setE (setNo no gsn l key (v.1, v.2) (gsn + 1)) (setG no gsn l key (v.1, v.2) (gsn + 1)) (setL no gsn l key (v.1, v.2) (gsn + 1)) key ((getC l key).1, (getC l key).2) (gsn + 2)))) rfl rfl ?_)
            refine s_op (o_alloc (cs := #[(.int .i64 0), (.int .i64 0), (.slice none 0 0)]) ti24 rfl hH77 fun b79 w80 hH81 => ?_)
            refine s_eff (o_storeN (vs := [(.int .i64 (setNo (setNo no gsn l key (v.1, v.2) (gsn + 1)) (setG no gsn l key (v.1, v.2) (gsn + 1)) (setL no gsn l key (v.1, v.2) (gsn + 1)) key ((getC l key).1, (getC l key).2) (gsn + 2))), (.int .i64 (setG (setNo no gsn l key (v.1, v.2) (gsn + 1)) (setG no gsn l key (v.1, v.2) (gsn + 1)) (setL no gsn l key (v.1, v.2) (gsn + 1)) key ((getC l key).1, (getC l key).2) (gsn + 2))), v73]) (c' := #[(.int .i64 (setNo (setNo no gsn l key (v.1, v.2) (gsn + 1)) (setG no gsn l key (v.1, v.2) (gsn + 1)) (setL no gsn l key (v.1, v.2) (gsn + 1)) key ((getC l key).1, (getC l key).2) (gsn + 2))), (.int .i64 (setG (setNo no gsn l key (v.1, v.2) (gsn + 1)) (setG no gsn l key (v.1, v.2) (gsn + 1)) (setL no gsn l key (v.1, v.2) (gsn + 1)) key ((getC l key).1, (getC l key).2) (gsn + 2))), v73]) ti24 rfl rfl rfl rfl (by intro u hu; simp only [List.mem_cons, List.not_mem_nil, or_false] at hu; rcases hu with rfl | rfl | rfl <;> first | rfl | exact ho75.one) (by simp) (by kernel_rfl) (hH81.front 0 rfl) fun w82 hH83 => ?_)
            refine s_op (o_assign (v := (.int .i64 (setE (setNo no gsn l key (v.1, v.2) (gsn + 1)) (setG no gsn l key (v.1, v.2) (gsn + 1)) (setL no gsn l key (v.1, v.2) (gsn + 1)) key ((getC l key).1, (getC l key).2) (gsn + 2)))) rfl ?_)
            refine s_nil ?_
            refine t_norm (hK72 _ _ ?_)
            refine wp_seq_k fun K84 hK84 => ?_
            refine wp_seq_k fun K85 hK85 => ?_
            refine c_region ?_
            refine s_op (o_fieldAddr (k := 0) (fun _ => by kernel_rfl) rfl ?_)
            refine s_op (o_load1 (v := (.bool v.1)) Tryd.underlying4 rfl rfl hH83 (seg_sub 5 rfl) (CellsAt.one rfl) ?_)
            refine s_op (o_not rfl ?_)
            refine s_op (o_move (v := (.bool (!v.1))) rfl ?_)
            rcases Bool.eq_false_or_eq_true (!v.1) with h86 | h86
            · -- !v.1
              refine s_on 65 rfl (congrArg Value.bool h86) (o_fieldAddr (k := 0) (fun _ => by kernel_rfl) rfl ?_)
              refine s_on 65 rfl (congrArg Value.bool h86) (o_load1 (v := (.bool ((getC l key).1))) Tryd.underlying4 rfl rfl hH83 (seg_sub 4 rfl) (CellsAt.one rfl) ?_)
              refine s_on 65 rfl (congrArg Value.bool h86) (o_not rfl ?_)
              refine s_op (o_pick_t (u := (.bool (!((getC l key).1)))) ((rfl : _ = _).trans (congrArg Value.bool h86)) rfl ?_)
              refine s_nil ?_
              refine t_norm (hK85 _ _ ?_)
              refine c_condb rfl (fun h87 => ?_) (fun h87 => ?_)
              · -- !((getC l key).1)
                have h87_n : ((getC l key).1) = false := by simpa using h87
                refine wp_seq_k fun K88 hK88 => ?_
                refine c_region ?_
                refine s_op (o_assign (v := (.bool false)) rfl ?_)
                refine s_nil ?_
                refine t_norm (hK88 _ _ ?_)
                refine wp_ret ?_
                refine t_ret (c_ret1 Tryd.results5  (v := (.bool false)) rfl ?_)
                have hH89 : Has E w82 [R] := (hH83.front 7 rfl).first 1 rfl
                exact absurd hb_.2.2 (by have a0_ := h86; simp only [Bool.not_eq_true'] at a0_; have a1_ := h87; simp only [Bool.not_eq_true'] at a1_; simp [a0_, a1_])
              · -- not: !((getC l key).1)
                have h87_n : ((getC l key).1) = true := by simpa using h87
                refine wp_skip ?_
                refine t_norm (hK84 _ _ ?_)
                refine wp_seq_k fun K90 hK90 => ?_
                refine c_region ?_
                refine s_op (o_fieldAddr (k := 1) (fun _ => by kernel_rfl) rfl ?_)
                refine s_op (o_load1 (v := (.int .i64 gsn)) Tryd.underlying3 rfl rfl hH83 (seg_sub 6 rfl) (CellsAt.one rfl) ?_)
                refine s_op (o_fieldAddr (k := 1) (fun _ => by kernel_rfl) rfl ?_)
                refine s_eff (o_store1 (c' := #[(.int .i64 (setNo (setNo no gsn l key (v.1, v.2) (gsn + 1)) (setG no gsn l key (v.1, v.2) (gsn + 1)) (setL no gsn l key (v.1, v.2) (gsn + 1)) key ((getC l key).1, (getC l key).2) (gsn + 2))), (.int .i64 gsn), v73]) ti3 rfl rfl rfl (by simp) rfl (hH83.front 0 rfl) fun w91 hH92 => ?_)
                refine s_nil ?_
                refine t_norm (hK90 _ _ ?_)
                refine wp_seq_k fun K93 hK93 => ?_
                refine Rest.region mixed (by kernel_rfl) ?_
                have hH94 : Has E { w91 with drawn := w91.drawn + 1 } [[Hp.one b79 (.cells #[(.int .i64 (setNo (setNo no gsn l key (v.1, v.2) (gsn + 1)) (setG no gsn l key (v.1, v.2) (gsn + 1)) (setL no gsn l key (v.1, v.2) (gsn + 1)) key ((getC l key).1, (getC l key).2) (gsn + 2))), (.int .i64 gsn), v73] 24 (0, 0))], s74, [Hp.one b55 (.cells #[(.int .i64 (setNo no gsn l key (v.1, v.2) (gsn + 1))), (.int .i64 (setG no gsn l key (v.1, v.2) (gsn + 1))), v49] 24 (0, 0))], s50, [Hp.one b43 (.cells #[(.bool ((getC l key).1)), (S ((getC l key).2))] 29 (0, 0))], [Hp.one b5 (.cells #[(.bool v.1), (S v.2)] 29 (0, 0))], [Hp.one b2 (.cells #[(.int .i64 no), (.int .i64 gsn), v_l] 24 (0, 0))], R] := Has0.drew hH92 _
                refine r_op 0 rfl (by kernel_rfl) (o_move (v := (.int .i64 (setE (setNo no gsn l key (v.1, v.2) (gsn + 1)) (setG no gsn l key (v.1, v.2) (gsn + 1)) (setL no gsn l key (v.1, v.2) (gsn + 1)) key ((getC l key).1, (getC l key).2) (gsn + 2)))) rfl ?_)
                refine r_op 1 rfl (by kernel_rfl) (o_eql (a := (setE (setNo no gsn l key (v.1, v.2) (gsn + 1)) (setG no gsn l key (v.1, v.2) (gsn + 1)) (setL no gsn l key (v.1, v.2) (gsn + 1)) key ((getC l key).1, (getC l key).2) (gsn + 2))) (b := 0) rfl rfl ?_)
                refine r_op 2 rfl (by kernel_rfl) (o_move (v := (.bool (decide ((setE (setNo no gsn l key (v.1, v.2) (gsn + 1)) (setG no gsn l key (v.1, v.2) (gsn + 1)) (setL no gsn l key (v.1, v.2) (gsn + 1)) key ((getC l key).1, (getC l key).2) (gsn + 2)) = 0)))) rfl ?_)
                refine Rest.phaseA (fun w_ => Has E w_ [[Hp.one b55 (.cells #[(.int .i64 (setNo no gsn l key (v.1, v.2) (gsn + 1))), (.int .i64 (setG no gsn l key (v.1, v.2) (gsn + 1))), v49] 24 (0, 0))], [Hp.one b5 (.cells #[(.bool v.1), (S v.2)] 29 (0, 0))]]) 3 7 4 rfl (by decide) (by kernel_rfl) ?_
                by_cases h95 : (setE (setNo no gsn l key (v.1, v.2) (gsn + 1)) (setG no gsn l key (v.1, v.2) (gsn + 1)) (setL no gsn l key (v.1, v.2) (gsn + 1)) key ((getC l key).1, (getC l key).2) (gsn + 2)) = 0
                · -- (setE (setNo no gsn l key (v.1, v.2) (gsn + 1)) (setG no gsn l key (v.1, v.2) (gsn + 1)) (setL no gsn l key (v.1, v.2) (gsn + 1)) key ((getC l key).1, (getC l key).2) (gsn + 2)) = 0
                  refine a_on 3 rfl (by kernel_rfl) 75 rfl (congrArg Value.bool (decide_eq_true h95)) (fun w_ h_ => o_loadN (cs := [(.int .i64 (setNo no gsn l key (v.1, v.2) (gsn + 1))), (.int .i64 (setG no gsn l key (v.1, v.2) (gsn + 1))), v49]) Tryd.underlying24 rfl ti24 rfl h_ (seg_sub 0 rfl) (CellsAt.one rfl) ⟨rfl, rfl⟩) ?_
                  refine a_on 4 rfl (by kernel_rfl) 75 rfl (congrArg Value.bool (decide_eq_true h95)) (fun w_ h_ => o_move (v := (S key)) rfl ⟨rfl, rfl⟩) ?_
                  refine a_on 6 rfl (by kernel_rfl) 75 rfl (congrArg Value.bool (decide_eq_true h95)) (fun w_ h_ => o_loadN (cs := [(.bool v.1), (S v.2)]) Tryd.underlying29 rfl ti29 rfl h_ (seg_sub 1 rfl) (CellsAt.one rfl) ⟨rfl, rfl⟩) ?_
                  have hH96 : Has E { w91 with drawn := w91.drawn + 1 } [[Hp.one b55 (.cells #[(.int .i64 (setNo no gsn l key (v.1, v.2) (gsn + 1))), (.int .i64 (setG no gsn l key (v.1, v.2) (gsn + 1))), v49] 24 (0, 0))], [Hp.one b5 (.cells #[(.bool v.1), (S v.2)] 29 (0, 0))]] := ((hH94.front 5 rfl).front 3 rfl).first 2 rfl
                  refine a_won 5 rfl (by kernel_rfl) hH96 75 rfl (congrArg Value.bool (decide_eq_true h95)) (o_callf (vs := #[(.agg #[(.int .i64 (setNo no gsn l key (v.1, v.2) (gsn + 1))), (.int .i64 (setG no gsn l key (v.1, v.2) (gsn + 1))), v49]), (S key)]) ca14 rfl (args2 rfl rfl) (pget_c (no := (setNo no gsn l key (v.1, v.2) (gsn + 1))) (gsn := (setG no gsn l key (v.1, v.2) (gsn + 1))) (l := (setL no gsn l key (v.1, v.2) (gsn + 1))) (key := key) hH94.all (ho51.sl.mono (seg_sub 3 rfl))) ?_)
                  rintro _ w99 ⟨rfl, hX97⟩
                  refine ⟨_, rfl, ?_⟩
                  have hH98 := hX97.of_all
                  have hH100 : Has E w99 [[Hp.one b55 (.cells #[(.int .i64 (setNo no gsn l key (v.1, v.2) (gsn + 1))), (.int .i64 (setG no gsn l key (v.1, v.2) (gsn + 1))), v49] 24 (0, 0))], [Hp.one b5 (.cells #[(.bool v.1), (S v.2)] 29 (0, 0))]] := ((hH98.front 5 rfl).front 3 rfl).first 2 rfl
                  refine a_done (by kernel_rfl) hH100 ?_
                  refine r_on 7 rfl (by kernel_rfl) 75 rfl (congrArg Value.bool (decide_eq_true h95)) (o_eql29 ((getC (setL no gsn l key (v.1, v.2) (gsn + 1)) key).1) ((getC (setL no gsn l key (v.1, v.2) (gsn + 1)) key).2) v.1 v.2 rfl rfl ?_)
                  refine r_op 8 rfl (by kernel_rfl) (o_pick_t (u := (.bool (eqv29 ((getC (setL no gsn l key (v.1, v.2) (gsn + 1)) key).1) ((getC (setL no gsn l key (v.1, v.2) (gsn + 1)) key).2) v.1 v.2))) ((rfl : _ = _).trans (congrArg Value.bool (decide_eq_true h95))) rfl ?_)
                  refine r_op 9 rfl (by kernel_rfl) (o_move (v := (.bool (eqv29 ((getC (setL no gsn l key (v.1, v.2) (gsn + 1)) key).1) ((getC (setL no gsn l key (v.1, v.2) (gsn + 1)) key).2) v.1 v.2))) rfl ?_)
                  refine Rest.phaseA (fun w_ => Has E w_ [[Hp.one b79 (.cells #[(.int .i64 (setNo (setNo no gsn l key (v.1, v.2) (gsn + 1)) (setG no gsn l key (v.1, v.2) (gsn + 1)) (setL no gsn l key (v.1, v.2) (gsn + 1)) key ((getC l key).1, (getC l key).2) (gsn + 2))), (.int .i64 gsn), v73] 24 (0, 0))], [Hp.one b2 (.cells #[(.int .i64 no), (.int .i64 gsn), v_l] 24 (0, 0))]]) 10 12 2 rfl (by decide) (by kernel_rfl) ?_
                  rcases Bool.eq_false_or_eq_true (eqv29 ((getC (setL no gsn l key (v.1, v.2) (gsn + 1)) key).1) ((getC (setL no gsn l key (v.1, v.2) (gsn + 1)) key).2) v.1 v.2) with h101 | h101
                  · -- eqv29 ((getC (setL no gsn l key (v.1, v.2) (gsn + 1)) key).1) ((getC (setL no gsn l key (v.1, v.2) (gsn + 1)) key).2) v.1 v.2
                    refine a_on 10 rfl (by kernel_rfl) 82 rfl (congrArg Value.bool h101) (fun w_ h_ => o_loadN (cs := [(.int .i64 (setNo (setNo no gsn l key (v.1, v.2) (gsn + 1)) (setG no gsn l key (v.1, v.2) (gsn + 1)) (setL no gsn l key (v.1, v.2) (gsn + 1)) key ((getC l key).1, (getC l key).2) (gsn + 2))), (.int .i64 gsn), v73]) Tryd.underlying24 rfl ti24 rfl h_ (seg_sub 0 rfl) (CellsAt.one rfl) ⟨rfl, rfl⟩) ?_
                    refine a_on 11 rfl (by kernel_rfl) 82 rfl (congrArg Value.bool h101) (fun w_ h_ => o_loadN (cs := [(.int .i64 no), (.int .i64 gsn), v_l]) Tryd.underlying24 rfl ti24 rfl h_ (seg_sub 1 rfl) (CellsAt.one rfl) ⟨rfl, rfl⟩) ?_
                    have hH102 : Has E w99 [[Hp.one b79 (.cells #[(.int .i64 (setNo (setNo no gsn l key (v.1, v.2) (gsn + 1)) (setG no gsn l key (v.1, v.2) (gsn + 1)) (setL no gsn l key (v.1, v.2) (gsn + 1)) key ((getC l key).1, (getC l key).2) (gsn + 2))), (.int .i64 gsn), v73] 24 (0, 0))], [Hp.one b2 (.cells #[(.int .i64 no), (.int .i64 gsn), v_l] 24 (0, 0))]] := ((hH98.front 6 rfl).front 1 rfl).first 2 rfl
                    refine a_done (by kernel_rfl) hH102 ?_
                    refine r_on 12 rfl (by kernel_rfl) 82 rfl (congrArg Value.bool h101) (o_callf (vs := #[(.agg #[(.int .i64 (setNo (setNo no gsn l key (v.1, v.2) (gsn + 1)) (setG no gsn l key (v.1, v.2) (gsn + 1)) (setL no gsn l key (v.1, v.2) (gsn + 1)) key ((getC l key).1, (getC l key).2) (gsn + 2))), (.int .i64 gsn), v73]), (.agg #[(.int .i64 no), (.int .i64 gsn), v_l])]) ca13 rfl (args2 rfl rfl) (r11same_c (noa := (setNo (setNo no gsn l key (v.1, v.2) (gsn + 1)) (setG no gsn l key (v.1, v.2) (gsn + 1)) (setL no gsn l key (v.1, v.2) (gsn + 1)) key ((getC l key).1, (getC l key).2) (gsn + 2))) (gsna := gsn) (la := (setL (setNo no gsn l key (v.1, v.2) (gsn + 1)) (setG no gsn l key (v.1, v.2) (gsn + 1)) (setL no gsn l key (v.1, v.2) (gsn + 1)) key ((getC l key).1, (getC l key).2) (gsn + 2))) (nob := no) (gsnb := gsn) (lb := l) hH98.all (ho75.sl.mono (seg_sub 1 rfl)) (h_l.mono (seg_sub 7 rfl))) ?_)
                    rintro _ w105 ⟨rfl, hX103⟩
                    refine ⟨_, rfl, ?_⟩
                    have hH104 := hX103.of_all
                    refine r_op 13 rfl (by kernel_rfl) (o_pick_t (u := (.bool (decide ((setNo (setNo no gsn l key (v.1, v.2) (gsn + 1)) (setG no gsn l key (v.1, v.2) (gsn + 1)) (setL no gsn l key (v.1, v.2) (gsn + 1)) key ((getC l key).1, (getC l key).2) (gsn + 2)) = no ∧ gsn = gsn ∧ (setL (setNo no gsn l key (v.1, v.2) (gsn + 1)) (setG no gsn l key (v.1, v.2) (gsn + 1)) (setL no gsn l key (v.1, v.2) (gsn + 1)) key ((getC l key).1, (getC l key).2) (gsn + 2)) = l)))) ((rfl : _ = _).trans (congrArg Value.bool h101)) rfl ?_)
                    refine r_op 14 rfl (by kernel_rfl) (o_move (v := (.bool (decide ((setNo (setNo no gsn l key (v.1, v.2) (gsn + 1)) (setG no gsn l key (v.1, v.2) (gsn + 1)) (setL no gsn l key (v.1, v.2) (gsn + 1)) key ((getC l key).1, (getC l key).2) (gsn + 2)) = no ∧ gsn = gsn ∧ (setL (setNo no gsn l key (v.1, v.2) (gsn + 1)) (setG no gsn l key (v.1, v.2) (gsn + 1)) (setL no gsn l key (v.1, v.2) (gsn + 1)) key ((getC l key).1, (getC l key).2) (gsn + 2)) = l)))) rfl ?_)
                    rcases Bool.eq_false_or_eq_true (decide ((setNo (setNo no gsn l key (v.1, v.2) (gsn + 1)) (setG no gsn l key (v.1, v.2) (gsn + 1)) (setL no gsn l key (v.1, v.2) (gsn + 1)) key ((getC l key).1, (getC l key).2) (gsn + 2)) = no ∧ gsn = gsn ∧ (setL (setNo no gsn l key (v.1, v.2) (gsn + 1)) (setG no gsn l key (v.1, v.2) (gsn + 1)) (setL no gsn l key (v.1, v.2) (gsn + 1)) key ((getC l key).1, (getC l key).2) (gsn + 2)) = l)) with h106 | h106
                    · -- (decide ((setNo (setNo no gsn l key (v.1, v.2) (gsn + 1)) (setG no gsn l key (v.1, v.2) (gsn + 1)) (setL no gsn l key (v.1, v.2) (gsn + 1)) key ((getC l key).1, (getC l key).2) (gsn + 2)) = no ∧ gsn = gsn ∧ (setL (setNo no gsn l key (v.1, v.2) (gsn + 1)) (setG no gsn l key (v.1, v.2) (gsn + 1)) (setL no gsn l key (v.1, v.2) (gsn + 1)) key ((getC l key).1, (getC l key).2) (gsn + 2)) = l))
                      refine r_on 15 rfl (by kernel_rfl) 87 rfl (congrArg Value.bool h106) (o_callf (vs := #[]) ca9 rfl (args0) (awake11_c hH104.all (hg.mono (seg_sub 7 rfl))) ?_)
                      rintro _ w109 ⟨rfl, hX107⟩
                      refine ⟨_, rfl, ?_⟩
                      have hH108 := hX107.of_all
                      refine r_op 16 rfl (by kernel_rfl) (o_pick_t (u := (.bool true)) ((rfl : _ = _).trans (congrArg Value.bool h106)) rfl ?_)
                      refine r_op 17 rfl (by kernel_rfl) (o_assign (v := (.bool true)) rfl ?_)
                      refine Rest.done (by kernel_rfl) ?_
                      refine t_norm (hK93 _ _ ?_)
                      refine wp_ret ?_
                      refine c_ret1 Tryd.results5  (v := (.bool true)) rfl ?_
                      have hH110 : Has E w109 [R] := (hH108.front 7 rfl).first 1 rfl
                      exact ⟨by rw [show true = true by first | rfl | assumption | (simp; done)], hH110⟩
                    · -- not: (decide ((setNo (setNo no gsn l key (v.1, v.2) (gsn + 1)) (setG no gsn l key (v.1, v.2) (gsn + 1)) (setL no gsn l key (v.1, v.2) (gsn + 1)) key ((getC l key).1, (getC l key).2) (gsn + 2)) = no ∧ gsn = gsn ∧ (setL (setNo no gsn l key (v.1, v.2) (gsn + 1)) (setG no gsn l key (v.1, v.2) (gsn + 1)) (setL no gsn l key (v.1, v.2) (gsn + 1)) key ((getC l key).1, (getC l key).2) (gsn + 2)) = l))
                      exact absurd (show (decide ((setNo (setNo no gsn l key (v.1, v.2) (gsn + 1)) (setG no gsn l key (v.1, v.2) (gsn + 1)) (setL no gsn l key (v.1, v.2) (gsn + 1)) key ((getC l key).1, (getC l key).2) (gsn + 2)) = no ∧ gsn = gsn ∧ (setL (setNo no gsn l key (v.1, v.2) (gsn + 1)) (setG no gsn l key (v.1, v.2) (gsn + 1)) (setL no gsn l key (v.1, v.2) (gsn + 1)) key ((getC l key).1, (getC l key).2) (gsn + 2)) = l)) = true from decide_eq_true (by first | exact ⟨e4_, rfl, e5_⟩ | exact ⟨e1_, e2_, e3_⟩)) (by rw [h106]; decide)
                  · -- not: eqv29 ((getC (setL no gsn l key (v.1, v.2) (gsn + 1)) key).1) ((getC (setL no gsn l key (v.1, v.2) (gsn + 1)) key).2) v.1 v.2
                    exact absurd (show eqv29 ((getC (setL no gsn l key (v.1, v.2) (gsn + 1)) key).1) ((getC (setL no gsn l key (v.1, v.2) (gsn + 1)) key).2) v.1 v.2 = true from (eqv29_iff _ _ _ _).2 (by rw [e3_, show getC (setC l key (v.1, v.2)) key = v from hgs_]; exact ⟨rfl, rfl⟩)) (by rw [h101]; decide)
                · -- not: (setE (setNo no gsn l key (v.1, v.2) (gsn + 1)) (setG no gsn l key (v.1, v.2) (gsn + 1)) (setL no gsn l key (v.1, v.2) (gsn + 1)) key ((getC l key).1, (getC l key).2) (gsn + 2)) = 0
                  exact absurd hz2_ h95
            · -- not: !v.1
              refine s_off (b' := false) 65 rfl (congrArg Value.bool h86) rfl ?_
              refine s_off (b' := false) 65 rfl (congrArg Value.bool h86) rfl ?_
              refine s_off (b' := false) 65 rfl (congrArg Value.bool h86) rfl ?_
              refine s_op (o_pick_f (u := (.bool false)) ((rfl : _ = _).trans (congrArg Value.bool h86)) rfl ?_)
              refine s_nil ?_
              refine t_norm (hK85 _ _ ?_)
              refine c_false rfl rfl ?_
              refine wp_skip ?_
              refine t_norm (hK84 _ _ ?_)
              refine wp_seq_k fun K111 hK111 => ?_
              refine c_region ?_
              refine s_op (o_fieldAddr (k := 1) (fun _ => by kernel_rfl) rfl ?_)
              refine s_op (o_load1 (v := (.int .i64 gsn)) Tryd.underlying3 rfl rfl hH83 (seg_sub 6 rfl) (CellsAt.one rfl) ?_)
              refine s_op (o_fieldAddr (k := 1) (fun _ => by kernel_rfl) rfl ?_)
              refine s_eff (o_store1 (c' := #[(.int .i64 (setNo (setNo no gsn l key (v.1, v.2) (gsn + 1)) (setG no gsn l key (v.1, v.2) (gsn + 1)) (setL no gsn l key (v.1, v.2) (gsn + 1)) key ((getC l key).1, (getC l key).2) (gsn + 2))), (.int .i64 gsn), v73]) ti3 rfl rfl rfl (by simp) rfl (hH83.front 0 rfl) fun w112 hH113 => ?_)
              refine s_nil ?_
              refine t_norm (hK111 _ _ ?_)
              refine wp_seq_k fun K114 hK114 => ?_
              refine Rest.region mixed (by kernel_rfl) ?_
              have hH115 : Has E { w112 with drawn := w112.drawn + 1 } [[Hp.one b79 (.cells #[(.int .i64 (setNo (setNo no gsn l key (v.1, v.2) (gsn + 1)) (setG no gsn l key (v.1, v.2) (gsn + 1)) (setL no gsn l key (v.1, v.2) (gsn + 1)) key ((getC l key).1, (getC l key).2) (gsn + 2))), (.int .i64 gsn), v73] 24 (0, 0))], s74, [Hp.one b55 (.cells #[(.int .i64 (setNo no gsn l key (v.1, v.2) (gsn + 1))), (.int .i64 (setG no gsn l key (v.1, v.2) (gsn + 1))), v49] 24 (0, 0))], s50, [Hp.one b43 (.cells #[(.bool ((getC l key).1)), (S ((getC l key).2))] 29 (0, 0))], [Hp.one b5 (.cells #[(.bool v.1), (S v.2)] 29 (0, 0))], [Hp.one b2 (.cells #[(.int .i64 no), (.int .i64 gsn), v_l] 24 (0, 0))], R] := Has0.drew hH113 _
              refine r_op 0 rfl (by kernel_rfl) (o_move (v := (.int .i64 (setE (setNo no gsn l key (v.1, v.2) (gsn + 1)) (setG no gsn l key (v.1, v.2) (gsn + 1)) (setL no gsn l key (v.1, v.2) (gsn + 1)) key ((getC l key).1, (getC l key).2) (gsn + 2)))) rfl ?_)
              refine r_op 1 rfl (by kernel_rfl) (o_eql (a := (setE (setNo no gsn l key (v.1, v.2) (gsn + 1)) (setG no gsn l key (v.1, v.2) (gsn + 1)) (setL no gsn l key (v.1, v.2) (gsn + 1)) key ((getC l key).1, (getC l key).2) (gsn + 2))) (b := 0) rfl rfl ?_)
              refine r_op 2 rfl (by kernel_rfl) (o_move (v := (.bool (decide ((setE (setNo no gsn l key (v.1, v.2) (gsn + 1)) (setG no gsn l key (v.1, v.2) (gsn + 1)) (setL no gsn l key (v.1, v.2) (gsn + 1)) key ((getC l key).1, (getC l key).2) (gsn + 2)) = 0)))) rfl ?_)
              refine Rest.phaseA (fun w_ => Has E w_ [[Hp.one b55 (.cells #[(.int .i64 (setNo no gsn l key (v.1, v.2) (gsn + 1))), (.int .i64 (setG no gsn l key (v.1, v.2) (gsn + 1))), v49] 24 (0, 0))], [Hp.one b5 (.cells #[(.bool v.1), (S v.2)] 29 (0, 0))]]) 3 7 4 rfl (by decide) (by kernel_rfl) ?_
              by_cases h116 : (setE (setNo no gsn l key (v.1, v.2) (gsn + 1)) (setG no gsn l key (v.1, v.2) (gsn + 1)) (setL no gsn l key (v.1, v.2) (gsn + 1)) key ((getC l key).1, (getC l key).2) (gsn + 2)) = 0
              · -- (setE (setNo no gsn l key (v.1, v.2) (gsn + 1)) (setG no gsn l key (v.1, v.2) (gsn + 1)) (setL no gsn l key (v.1, v.2) (gsn + 1)) key ((getC l key).1, (getC l key).2) (gsn + 2)) = 0
                refine a_on 3 rfl (by kernel_rfl) 75 rfl (congrArg Value.bool (decide_eq_true h116)) (fun w_ h_ => o_loadN (cs := [(.int .i64 (setNo no gsn l key (v.1, v.2) (gsn + 1))), (.int .i64 (setG no gsn l key (v.1, v.2) (gsn + 1))), v49]) Tryd.underlying24 rfl ti24 rfl h_ (seg_sub 0 rfl) (CellsAt.one rfl) ⟨rfl, rfl⟩) ?_
                refine a_on 4 rfl (by kernel_rfl) 75 rfl (congrArg Value.bool (decide_eq_true h116)) (fun w_ h_ => o_move (v := (S key)) rfl ⟨rfl, rfl⟩) ?_
                refine a_on 6 rfl (by kernel_rfl) 75 rfl (congrArg Value.bool (decide_eq_true h116)) (fun w_ h_ => o_loadN (cs := [(.bool v.1), (S v.2)]) Tryd.underlying29 rfl ti29 rfl h_ (seg_sub 1 rfl) (CellsAt.one rfl) ⟨rfl, rfl⟩) ?_
                have hH117 : Has E { w112 with drawn := w112.drawn + 1 } [[Hp.one b55 (.cells #[(.int .i64 (setNo no gsn l key (v.1, v.2) (gsn + 1))), (.int .i64 (setG no gsn l key (v.1, v.2) (gsn + 1))), v49] 24 (0, 0))], [Hp.one b5 (.cells #[(.bool v.1), (S v.2)] 29 (0, 0))]] := ((hH115.front 5 rfl).front 3 rfl).first 2 rfl
                refine a_won 5 rfl (by kernel_rfl) hH117 75 rfl (congrArg Value.bool (decide_eq_true h116)) (o_callf (vs := #[(.agg #[(.int .i64 (setNo no gsn l key (v.1, v.2) (gsn + 1))), (.int .i64 (setG no gsn l key (v.1, v.2) (gsn + 1))), v49]), (S key)]) ca14 rfl (args2 rfl rfl) (pget_c (no := (setNo no gsn l key (v.1, v.2) (gsn + 1))) (gsn := (setG no gsn l key (v.1, v.2) (gsn + 1))) (l := (setL no gsn l key (v.1, v.2) (gsn + 1))) (key := key) hH115.all (ho51.sl.mono (seg_sub 3 rfl))) ?_)
                rintro _ w120 ⟨rfl, hX118⟩
                refine ⟨_, rfl, ?_⟩
                have hH119 := hX118.of_all
                have hH121 : Has E w120 [[Hp.one b55 (.cells #[(.int .i64 (setNo no gsn l key (v.1, v.2) (gsn + 1))), (.int .i64 (setG no gsn l key (v.1, v.2) (gsn + 1))), v49] 24 (0, 0))], [Hp.one b5 (.cells #[(.bool v.1), (S v.2)] 29 (0, 0))]] := ((hH119.front 5 rfl).front 3 rfl).first 2 rfl
                refine a_done (by kernel_rfl) hH121 ?_
                refine r_on 7 rfl (by kernel_rfl) 75 rfl (congrArg Value.bool (decide_eq_true h116)) (o_eql29 ((getC (setL no gsn l key (v.1, v.2) (gsn + 1)) key).1) ((getC (setL no gsn l key (v.1, v.2) (gsn + 1)) key).2) v.1 v.2 rfl rfl ?_)
                refine r_op 8 rfl (by kernel_rfl) (o_pick_t (u := (.bool (eqv29 ((getC (setL no gsn l key (v.1, v.2) (gsn + 1)) key).1) ((getC (setL no gsn l key (v.1, v.2) (gsn + 1)) key).2) v.1 v.2))) ((rfl : _ = _).trans (congrArg Value.bool (decide_eq_true h116))) rfl ?_)
                refine r_op 9 rfl (by kernel_rfl) (o_move (v := (.bool (eqv29 ((getC (setL no gsn l key (v.1, v.2) (gsn + 1)) key).1) ((getC (setL no gsn l key (v.1, v.2) (gsn + 1)) key).2) v.1 v.2))) rfl ?_)
                refine Rest.phaseA (fun w_ => Has E w_ [[Hp.one b79 (.cells #[(.int .i64 (setNo (setNo no gsn l key (v.1, v.2) (gsn + 1)) (setG no gsn l key (v.1, v.2) (gsn + 1)) (setL no gsn l key (v.1, v.2) (gsn + 1)) key ((getC l key).1, (getC l key).2) (gsn + 2))), (.int .i64 gsn), v73] 24 (0, 0))], [Hp.one b2 (.cells #[(.int .i64 no), (.int .i64 gsn), v_l] 24 (0, 0))]]) 10 12 2 rfl (by decide) (by kernel_rfl) ?_
                rcases Bool.eq_false_or_eq_true (eqv29 ((getC (setL no gsn l key (v.1, v.2) (gsn + 1)) key).1) ((getC (setL no gsn l key (v.1, v.2) (gsn + 1)) key).2) v.1 v.2) with h122 | h122
                · -- eqv29 ((getC (setL no gsn l key (v.1, v.2) (gsn + 1)) key).1) ((getC (setL no gsn l key (v.1, v.2) (gsn + 1)) key).2) v.1 v.2
                  refine a_on 10 rfl (by kernel_rfl) 82 rfl (congrArg Value.bool h122) (fun w_ h_ => o_loadN (cs := [(.int .i64 (setNo (setNo no gsn l key (v.1, v.2) (gsn + 1)) (setG no gsn l key (v.1, v.2) (gsn + 1)) (setL no gsn l key (v.1, v.2) (gsn + 1)) key ((getC l key).1, (getC l key).2) (gsn + 2))), (.int .i64 gsn), v73]) Tryd.underlying24 rfl ti24 rfl h_ (seg_sub 0 rfl) (CellsAt.one rfl) ⟨rfl, rfl⟩) ?_
                  refine a_on 11 rfl (by kernel_rfl) 82 rfl (congrArg Value.bool h122) (fun w_ h_ => o_loadN (cs := [(.int .i64 no), (.int .i64 gsn), v_l]) Tryd.underlying24 rfl ti24 rfl h_ (seg_sub 1 rfl) (CellsAt.one rfl) ⟨rfl, rfl⟩) ?_
                  have hH123 : Has E w120 [[Hp.one b79 (.cells #[(.int .i64 (setNo (setNo no gsn l key (v.1, v.2) (gsn + 1)) (setG no gsn l key (v.1, v.2) (gsn + 1)) (setL no gsn l key (v.1, v.2) (gsn + 1)) key ((getC l key).1, (getC l key).2) (gsn + 2))), (.int .i64 gsn), v73] 24 (0, 0))], [Hp.one b2 (.cells #[(.int .i64 no), (.int .i64 gsn), v_l] 24 (0, 0))]] := ((hH119.front 6 rfl).front 1 rfl).first 2 rfl
                  refine a_done (by kernel_rfl) hH123 ?_
                  refine r_on 12 rfl (by kernel_rfl) 82 rfl (congrArg Value.bool h122) (o_callf (vs := #[(.agg #[(.int .i64 (setNo (setNo no gsn l key (v.1, v.2) (gsn + 1)) (setG no gsn l key (v.1, v.2) (gsn + 1)) (setL no gsn l key (v.1, v.2) (gsn + 1)) key ((getC l key).1, (getC l key).2) (gsn + 2))), (.int .i64 gsn), v73]), (.agg #[(.int .i64 no), (.int .i64 gsn), v_l])]) ca13 rfl (args2 rfl rfl) (r11same_c (noa := (setNo (setNo no gsn l key (v.1, v.2) (gsn + 1)) (setG no gsn l key (v.1, v.2) (gsn + 1)) (setL no gsn l key (v.1, v.2) (gsn + 1)) key ((getC l key).1, (getC l key).2) (gsn + 2))) (gsna := gsn) (la := (setL (setNo no gsn l key (v.1, v.2) (gsn + 1)) (setG no gsn l key (v.1, v.2) (gsn + 1)) (setL no gsn l key (v.1, v.2) (gsn + 1)) key ((getC l key).1, (getC l key).2) (gsn + 2))) (nob := no) (gsnb := gsn) (lb := l) hH119.all (ho75.sl.mono (seg_sub 1 rfl)) (h_l.mono (seg_sub 7 rfl))) ?_)
                  rintro _ w126 ⟨rfl, hX124⟩
                  refine ⟨_, rfl, ?_⟩
                  have hH125 := hX124.of_all
                  refine r_op 13 rfl (by kernel_rfl) (o_pick_t (u := (.bool (decide ((setNo (setNo no gsn l key (v.1, v.2) (gsn + 1)) (setG no gsn l key (v.1, v.2) (gsn + 1)) (setL no gsn l key (v.1, v.2) (gsn + 1)) key ((getC l key).1, (getC l key).2) (gsn + 2)) = no ∧ gsn = gsn ∧ (setL (setNo no gsn l key (v.1, v.2) (gsn + 1)) (setG no gsn l key (v.1, v.2) (gsn + 1)) (setL no gsn l key (v.1, v.2) (gsn + 1)) key ((getC l key).1, (getC l key).2) (gsn + 2)) = l)))) ((rfl : _ = _).trans (congrArg Value.bool h122)) rfl ?_)
                  refine r_op 14 rfl (by kernel_rfl) (o_move (v := (.bool (decide ((setNo (setNo no gsn l key (v.1, v.2) (gsn + 1)) (setG no gsn l key (v.1, v.2) (gsn + 1)) (setL no gsn l key (v.1, v.2) (gsn + 1)) key ((getC l key).1, (getC l key).2) (gsn + 2)) = no ∧ gsn = gsn ∧ (setL (setNo no gsn l key (v.1, v.2) (gsn + 1)) (setG no gsn l key (v.1, v.2) (gsn + 1)) (setL no gsn l key (v.1, v.2) (gsn + 1)) key ((getC l key).1, (getC l key).2) (gsn + 2)) = l)))) rfl ?_)
                  rcases Bool.eq_false_or_eq_true (decide ((setNo (setNo no gsn l key (v.1, v.2) (gsn + 1)) (setG no gsn l key (v.1, v.2) (gsn + 1)) (setL no gsn l key (v.1, v.2) (gsn + 1)) key ((getC l key).1, (getC l key).2) (gsn + 2)) = no ∧ gsn = gsn ∧ (setL (setNo no gsn l key (v.1, v.2) (gsn + 1)) (setG no gsn l key (v.1, v.2) (gsn + 1)) (setL no gsn l key (v.1, v.2) (gsn + 1)) key ((getC l key).1, (getC l key).2) (gsn + 2)) = l)) with h127 | h127
                  · -- (decide ((setNo (setNo no gsn l key (v.1, v.2) (gsn + 1)) (setG no gsn l key (v.1, v.2) (gsn + 1)) (setL no gsn l key (v.1, v.2) (gsn + 1)) key ((getC l key).1, (getC l key).2) (gsn + 2)) = no ∧ gsn = gsn ∧ (setL (setNo no gsn l key (v.1, v.2) (gsn + 1)) (setG no gsn l key (v.1, v.2) (gsn + 1)) (setL no gsn l key (v.1, v.2) (gsn + 1)) key ((getC l key).1, (getC l key).2) (gsn + 2)) = l))
                    refine r_on 15 rfl (by kernel_rfl) 87 rfl (congrArg Value.bool h127) (o_callf (vs := #[]) ca9 rfl (args0) (awake11_c hH125.all (hg.mono (seg_sub 7 rfl))) ?_)
                    rintro _ w130 ⟨rfl, hX128⟩
                    refine ⟨_, rfl, ?_⟩
                    have hH129 := hX128.of_all
                    refine r_op 16 rfl (by kernel_rfl) (o_pick_t (u := (.bool true)) ((rfl : _ = _).trans (congrArg Value.bool h127)) rfl ?_)
                    refine r_op 17 rfl (by kernel_rfl) (o_assign (v := (.bool true)) rfl ?_)
                    refine Rest.done (by kernel_rfl) ?_
                    refine t_norm (hK114 _ _ ?_)
                    refine wp_ret ?_
                    refine c_ret1 Tryd.results5  (v := (.bool true)) rfl ?_
                    have hH131 : Has E w130 [R] := (hH129.front 7 rfl).first 1 rfl
                    exact ⟨by rw [show true = true by first | rfl | assumption | (simp; done)], hH131⟩
                  · -- not: (decide ((setNo (setNo no gsn l key (v.1, v.2) (gsn + 1)) (setG no gsn l key (v.1, v.2) (gsn + 1)) (setL no gsn l key (v.1, v.2) (gsn + 1)) key ((getC l key).1, (getC l key).2) (gsn + 2)) = no ∧ gsn = gsn ∧ (setL (setNo no gsn l key (v.1, v.2) (gsn + 1)) (setG no gsn l key (v.1, v.2) (gsn + 1)) (setL no gsn l key (v.1, v.2) (gsn + 1)) key ((getC l key).1, (getC l key).2) (gsn + 2)) = l))
                    exact absurd (show (decide ((setNo (setNo no gsn l key (v.1, v.2) (gsn + 1)) (setG no gsn l key (v.1, v.2) (gsn + 1)) (setL no gsn l key (v.1, v.2) (gsn + 1)) key ((getC l key).1, (getC l key).2) (gsn + 2)) = no ∧ gsn = gsn ∧ (setL (setNo no gsn l key (v.1, v.2) (gsn + 1)) (setG no gsn l key (v.1, v.2) (gsn + 1)) (setL no gsn l key (v.1, v.2) (gsn + 1)) key ((getC l key).1, (getC l key).2) (gsn + 2)) = l)) = true from decide_eq_true (by first | exact ⟨e4_, rfl, e5_⟩ | exact ⟨e1_, e2_, e3_⟩)) (by rw [h127]; decide)
                · -- not: eqv29 ((getC (setL no gsn l key (v.1, v.2) (gsn + 1)) key).1) ((getC (setL no gsn l key (v.1, v.2) (gsn + 1)) key).2) v.1 v.2
                  exact absurd (show eqv29 ((getC (setL no gsn l key (v.1, v.2) (gsn + 1)) key).1) ((getC (setL no gsn l key (v.1, v.2) (gsn + 1)) key).2) v.1 v.2 = true from (eqv29_iff _ _ _ _).2 (by rw [e3_, show getC (setC l key (v.1, v.2)) key = v from hgs_]; exact ⟨rfl, rfl⟩)) (by rw [h122]; decide)
              · -- not: (setE (setNo no gsn l key (v.1, v.2) (gsn + 1)) (setG no gsn l key (v.1, v.2) (gsn + 1)) (setL no gsn l key (v.1, v.2) (gsn + 1)) key ((getC l key).1, (getC l key).2) (gsn + 2)) = 0
                exact absurd hz2_ h116
end Go.Q
namespace Go.Q
section
variable {H : Type} {enc : TypeId × Value → H} {P : Program} {w : World} {t e : TypeId} {cs : List Value}
/-- These cells read as a value of the type. -/
def Rd (enc : TypeId × Value → H) (P : Program) (w : World) (t : TypeId) (cs : List Value) : Prop := ∃ fuel x, DataW.trod enc P w 0 (fun _ => true) true fuel t cs = some x
theorem rd_of {v : Value} {d : DataW H} {ps : List MemPlace} (h : DataW.Trod enc P w 0 (fun _ => true) true t v d ps) : Rd enc P w t v.cells.toList := ⟨h.choose, _, h.choose_spec⟩
theorem rd_int {k : IntKind} (ht : P.underlying t = some (.int k)) (h : Rd enc P w t cs) : ∃ n, cs = [.int k n] ∧ (Lit.int k n).wf = true := by
  obtain ⟨f, x, h⟩ := h
  obtain ⟨n, h1, _, h2⟩ := DataW.trod_int ht h
  exact ⟨n, h1, h2⟩
theorem rd_i64 (ht : P.underlying t = some (.int .i64)) (h : Rd enc P w t cs) : ∃ n, cs = [iV n] ∧ (-9223372036854775808 : Int) ≤ n ∧ n ≤ 9223372036854775807 := by
  obtain ⟨n, h1, h2⟩ := rd_int ht h
  exact ⟨n, h1, wf_i64 h2⟩
theorem rd_string (ht : P.underlying t = some .string) (h : Rd enc P w t cs) : ∃ l : List UInt8, cs = [S l] ∧ l.length ≤ 9223372036854775807 := by
  obtain ⟨f, x, h⟩ := h
  obtain ⟨s, h1, _, h2⟩ := DataW.trod_string ht h
  exact ⟨s.data.toList, by rw [h1, S_of], by rw [show maxLen = 9223372036854775807 from rfl] at h2; exact h2⟩
theorem rd_bool (ht : P.underlying t = some .bool) (h : Rd enc P w t cs) : ∃ b, cs = [.bool b] := by
  obtain ⟨f, x, h⟩ := h
  cases f with
  | zero => simp [DataW.trod] at h
  | succ m =>
    unfold DataW.trod at h
    rw [ht] at h
    split at h <;> simp_all
theorem rd_struct {fs : Array Field} (ht : P.underlying t = some (.struct fs)) (h : Rd enc P w t cs) :
    cs.length = P.cellsOf t ∧ ∀ (i : Nat) (f : Field), fs[i]? = some f → Rd enc P w f.type ((cs.drop f.offset).take (P.cellsOf f.type)) := by
  obtain ⟨f, x, h⟩ := h
  obtain ⟨xs, n, _, _, h1, h2, h3⟩ := DataW.trod_struct ht h
  refine ⟨h1, fun i f hf => ?_⟩
  have hi : i < xs.length := by rw [h2]; exact (Array.getElem?_eq_some_iff.1 hf).1
  exact ⟨n, xs[i], by rw [h3 i f hf, List.getElem?_eq_getElem hi]⟩
theorem rd_field {fs : Array Field} {i k : Nat} {f : Field} {T : TypeId} {ds : List Value} (hf : ∀ (i : Nat) (f : Field), fs[i]? = some f → Rd enc P w f.type ((cs.drop f.offset).take (P.cellsOf f.type)))
    (h : fs[i]? = some f) (hT : f.type = T) (hc : P.cellsOf T = k) (hd : (cs.drop f.offset).take k = ds) : Rd enc P w T ds := by
  have g := hf i f h
  rw [hT, hc, hd] at g
  exact g
theorem rd_slice (ht : P.underlying t = some (.slice e)) (h : Rd enc P w t cs) :
    cs = [.slice none 0 0] ∨ ∃ a len cap, cs = [.slice (some a) len cap] ∧ len ≤ cap ∧ cap ≤ 9223372036854775807 ∧
      ∀ i, i < len → ∃ r : List Value, r.length = P.cellsOf e ∧ Rd enc P w e r ∧ ∀ j, j < P.cellsOf e → w.cell? (a.add (i * P.cellsOf e + j)) = r[j]? := by
  obtain ⟨f, x, h⟩ := h
  rcases DataW.trod_slice ht h with ⟨h, _⟩ | ⟨a, len, cap, elems, rest, n, _, h1, _, _, h2, h3, h4, h5, _⟩
  · exact .inl h
  · refine .inr ⟨a, len, cap, h1, h2, by simpa [maxLen] using h3, fun i hi => ?_⟩
    have hb := h5 i hi
    rw [List.getElem?_eq_getElem (by omega)] at hb
    obtain ⟨r, hr, hd⟩ := Option.bind_eq_some_iff.1 hb
    obtain ⟨_, g1, g2⟩ := World.cells?_some hr
    refine ⟨r, g1, ⟨n, _, hd⟩, fun j hj => ?_⟩
    rw [← g2 j hj, Addr.add_add]
/-- A row, by how its elements read. -/
theorem rd_rows {α : Type} {f : α → List Value} {Good : α → Prop} {sz : Nat} (ht : P.underlying t = some (.slice e)) (hc : P.cellsOf e = sz) (h0 : 0 < sz) (hf : ∀ a, (f a).length = sz)
    (each : ∀ r, Rd enc P w e r → ∃ a, r = f a ∧ Good a) (h : Rd enc P w t cs) : ∃ (v : Value) (l : List α), cs = [v] ∧ Sl [Hp.of w] sz v l.length (l.flatMap f) ∧ ∀ a ∈ l, Good a := by
  subst hc
  rcases rd_slice ht h with rfl | ⟨a, len, cap, rfl, h1, h2, h3⟩
  · exact ⟨_, [], rfl, ⟨none, 0, rfl, Nat.le_refl _, by omega, by simp, fun g => by simp at g⟩, fun a ha => by cases ha⟩
  · have key : ∀ k, k ≤ len → ∃ l : List α, l.length = k ∧ (∀ a ∈ l, Good a) ∧ ∀ i v, (l.flatMap f)[i]? = some v → w.cell? (a.add i) = some v := by
      intro k
      induction k with
      | zero => intro _; exact ⟨[], rfl, fun a ha => (by cases ha), fun i v hv => by simp at hv⟩
      | succ k ih =>
        intro hk
        obtain ⟨l, hl, hg, hcell⟩ := ih (by omega)
        obtain ⟨r, hr, hd, hrc⟩ := h3 k (by omega)
        obtain ⟨y, rfl, hy⟩ := each r hd
        refine ⟨l ++ [y], by simp [hl], fun a ha => ?_, fun i v hv => ?_⟩
        · rcases List.mem_append.1 ha with g | g
          · exact hg a g
          · rw [List.mem_singleton.1 g]; exact hy
        · rw [List.flatMap_append, List.flatMap_cons, List.flatMap_nil, List.append_nil] at hv
          have hlen := flat_len hf l
          rcases Nat.lt_or_ge i (l.flatMap f).length with g | g
          · rw [List.getElem?_append_left g] at hv; exact hcell i v hv
          · rw [List.getElem?_append_right g] at hv
            have hj : i - (l.flatMap f).length < P.cellsOf e := by rw [← hr]; exact (List.getElem?_eq_some_iff.1 hv).1
            have := hrc (i - (l.flatMap f).length) hj
            rw [hv] at this
            rw [← this]; congr 2
            rw [hlen, hl] at g hj ⊢; omega
    obtain ⟨l, hl, hg, hcell⟩ := key len (Nat.le_refl _)
    refine ⟨_, l, rfl, ⟨some a, cap, by rw [hl], by omega, h2, flat_len hf l, fun g => ?_⟩, hg⟩
    obtain ⟨b, off, rfl, hc⟩ := cells_row (w := w) (x := a) (vs := l.flatMap f) (by rw [flat_len hf l]; exact Nat.mul_pos g h0) hcell
    exact ⟨b, off, rfl, hc⟩
theorem flat_one {α : Type} (f : α → Value) : ∀ l : List α, l.flatMap (fun a => [f a]) = l.map f
  | [] => rfl
  | a :: l => by rw [List.flatMap_cons, flat_one f l]; rfl
theorem rd_row1 {α : Type} {f : α → Value} {Good : α → Prop} (ht : P.underlying t = some (.slice e)) (hc : P.cellsOf e = 1)
    (each : ∀ r, Rd enc P w e r → ∃ a, r = [f a] ∧ Good a) (h : Rd enc P w t cs) : ∃ (v : Value) (l : List α), cs = [v] ∧ Sl [Hp.of w] 1 v l.length (l.map f) ∧ ∀ a ∈ l, Good a := by
  obtain ⟨v, l, h1, h2, h3⟩ := rd_rows (f := fun a => [f a]) ht hc (by omega) (fun _ => rfl) each h
  exact ⟨v, l, h1, by rw [flat_one] at h2; exact h2, h3⟩
/-- bounds of an int -/
def I64 (n : Int) : Prop := -9223372036854775808 ≤ n ∧ n ≤ 9223372036854775807
theorem rd_ints (ht : P.underlying t = some (.slice e)) (he : P.underlying e = some (.int .i64)) (hc : P.cellsOf e = 1) (h : Rd enc P w t cs) : ∃ (v : Value) (l : List Int), cs = [v] ∧ Ints [Hp.of w] v l ∧ ∀ a ∈ l, I64 a :=
  rd_row1 ht hc (fun r hr => rd_i64 he hr) h
theorem rd_strings (ht : P.underlying t = some (.slice e)) (he : P.underlying e = some .string) (hc : P.cellsOf e = 1) (h : Rd enc P w t cs) : ∃ (v : Value) (l : List (List UInt8)), cs = [v] ∧ Sl [Hp.of w] 1 v l.length (l.map S) ∧ ∀ a ∈ l, a.length ≤ 9223372036854775807 :=
  rd_row1 ht hc (fun r hr => rd_string he hr) h
/-- a value of a type of one cell is its cell -/
theorem val_one {r : Reach} {b0 : Nat} {v u : Value} (hn : match P.underlying t with | some (.struct _) => False | some (.array _ _) => False | _ => True) (hval : Value.okWide P w r b0 t v) (h : v.cells.toList = [u]) : v = u := by
  cases v with
  | agg c =>
    unfold Value.okWide at hval
    cases hu : P.underlying t with
    | none => rw [hu] at hval; simp [Cell.okWide, Cell.ok, hu] at hval
    | some d => rw [hu] at hn hval; cases d <;> first | exact hn.elim | (simp [Cell.okWide, Cell.ok, hu] at hval)
  | _ => simpa [Value.cells] using h
end
end Go.Q
namespace Go.Q
theorem arr_cells {H : Type} {enc : TypeId × Value → H} {P : Program} {w : World} {base : Nat} {spare : Nat → Bool} {held : Bool} {fuel n : Nat} {t e : TypeId} {k : IntKind} {cs : List Value} {l : List Int} {p : List MemPlace}
    (ht : P.underlying t = some (.array n e)) (he : P.underlying e = some (.int k)) (hc : P.cellsOf e = 1) (hl : l.length = n)
    (h : DataW.trod enc P w base spare held fuel t cs = some (.agg (l.map fun z => (DataW.lit (Lit.int k z) : DataW H)), p)) : ∀ (i : Nat) (z : Int), l[i]? = some z → cs[i]? = some (Value.int k z) := by
  intro i z hz
  obtain ⟨xs, m, _, hx, _, hn, hel⟩ := DataW.trod_array ht h
  simp only [Prod.mk.injEq, DataW.agg.injEq] at hx
  have hi : i < n := by rw [← hl]; exact (List.getElem?_eq_some_iff.1 hz).1
  have h1 := hel i hi
  rw [hc, Nat.mul_one, List.getElem?_eq_getElem (by omega)] at h1
  obtain ⟨r, e1, e2, _⟩ := DataW.trod_int he h1
  have e3 : (xs.map (·.1))[i]? = some (DataW.lit (Lit.int k z)) := by rw [← hx.1, List.getElem?_map, hz]; rfl
  rw [List.getElem?_map, List.getElem?_eq_getElem (by omega), Option.map_some] at e3
  rw [e2] at e3
  have e4 : r = z := by simpa using e3
  subst e4
  have e5 : (List.take 1 (List.drop i cs))[0]? = some (.int k r) := by rw [e1]; rfl
  rw [List.getElem?_take, if_pos (by omega), List.getElem?_drop] at e5
  simpa using e5
theorem rd_u32 {H : Type} {enc : TypeId × Value → H} {P : Program} {w : World} {t : TypeId} {cs : List Value} (ht : P.underlying t = some (.int .u32)) (h : Rd enc P w t cs) : ∃ x : BitVec 32, cs = [.int .u32 (x.toNat : Int)] ∧ True := by
  obtain ⟨n, h1, h2⟩ := rd_int ht h
  have hb : 0 ≤ n ∧ n < 4294967296 := by
    simp [Lit.wf, IntKind.min, IntKind.max, IntKind.signed, IntKind.bits] at h2
    omega
  refine ⟨BitVec.ofNat 32 n.toNat, ?_, trivial⟩
  rw [h1, BitVec.toNat_ofNat, Nat.mod_eq_of_lt (by omega), Int.toNat_of_nonneg hb.1]
end Go.Q
namespace Go.Q
open Go.Proofs
set_option linter.unusedVariables false
set_option maxRecDepth 100000
attribute [local irreducible] wpList OK Code.wp
def pgC (a : Int × Int × Value × List Cel) : List Value := [.int .i64 a.1, .int .i64 a.2.1, a.2.2.1]
theorem rd_cel {H : Type} {enc : TypeId × Value → H} {w : World} {cs : List Value} (h : Rd enc Tryd.prog w 45 cs) : ∃ a : Cel, cs = ceC a ∧ True := by
  obtain ⟨hl, hf⟩ := rd_struct Tryd.underlying45 h
  have hl : cs.length = 2 := hl.trans (by kernel_rfl)
  obtain ⟨c0, c1, rfl⟩ : ∃ c0 c1, cs = [c0, c1] := by
    match cs, hl with
    | [c0, c1], _ => exact ⟨c0, c1, rfl⟩
  have f0_6 : Rd enc Tryd.prog w 9 [c0] := rd_field (i := 0) (k := 1) hf rfl rfl (by kernel_rfl) rfl
  obtain ⟨n0, e0, b0⟩ := rd_string Tryd.underlying9 f0_6
  obtain rfl := (List.cons.inj e0).1
  have f1_9 : Rd enc Tryd.prog w 9 [c1] := rd_field (i := 1) (k := 1) hf rfl rfl (by kernel_rfl) rfl
  obtain ⟨n1, e1, b1⟩ := rd_string Tryd.underlying9 f1_9
  obtain rfl := (List.cons.inj e1).1
  exact ⟨(n0, n1), rfl, trivial⟩
theorem rd_cels {H : Type} {enc : TypeId × Value → H} {w : World} {cs : List Value} (h : Rd enc Tryd.prog w 22 cs) : ∃ (v : Value) (l : List Cel), cs = [v] ∧ Sl [Hp.of w] 2 v l.length (l.flatMap ceC) ∧ ∀ a ∈ l, True :=
  rd_rows Tryd.underlying22 (by kernel_rfl) (by decide) ceC_len (fun r hr => rd_cel hr) h
theorem rd_val {H : Type} {enc : TypeId × Value → H} {w : World} {cs : List Value} (h : Rd enc Tryd.prog w 29 cs) : ∃ a : Bool × Bs, cs = vlC a ∧ True := by
  obtain ⟨hl, hf⟩ := rd_struct Tryd.underlying29 h
  have hl : cs.length = 2 := hl.trans (by kernel_rfl)
  obtain ⟨c0, c1, rfl⟩ : ∃ c0 c1, cs = [c0, c1] := by
    match cs, hl with
    | [c0, c1], _ => exact ⟨c0, c1, rfl⟩
  have f0_6 : Rd enc Tryd.prog w 4 [c0] := rd_field (i := 0) (k := 1) hf rfl rfl (by kernel_rfl) rfl
  obtain ⟨n0, e0⟩ := rd_bool Tryd.underlying4 f0_6
  obtain rfl := (List.cons.inj e0).1
  have f1_9 : Rd enc Tryd.prog w 9 [c1] := rd_field (i := 1) (k := 1) hf rfl rfl (by kernel_rfl) rfl
  obtain ⟨n1, e1, b1⟩ := rd_string Tryd.underlying9 f1_9
  obtain rfl := (List.cons.inj e1).1
  exact ⟨(n0, n1), rfl, trivial⟩
theorem rd_vals {H : Type} {enc : TypeId × Value → H} {w : World} {cs : List Value} (h : Rd enc Tryd.prog w 33 cs) : ∃ (v : Value) (l : List (Bool × Bs)), cs = [v] ∧ Sl [Hp.of w] 2 v l.length (l.flatMap vlC) ∧ ∀ a ∈ l, True :=
  rd_rows Tryd.underlying33 (by kernel_rfl) (by decide) vlC_len (fun r hr => rd_val hr) h
theorem rd_page {H : Type} {enc : TypeId × Value → H} {w : World} {cs : List Value} (h : Rd enc Tryd.prog w 24 cs) : ∃ a : Int × Int × Value × List Cel, cs = pgC a ∧ (Sl [Hp.of w] 2 a.2.2.1 a.2.2.2.length (a.2.2.2.flatMap ceC)) ∧ ((-9223372036854775808 : Int) ≤ a.2.1 ∧ a.2.1 ≤ 9223372036854775807) := by
  obtain ⟨hl, hf⟩ := rd_struct Tryd.underlying24 h
  have hl : cs.length = 3 := hl.trans (by kernel_rfl)
  obtain ⟨c0, c1, c2, rfl⟩ : ∃ c0 c1 c2, cs = [c0, c1, c2] := by
    match cs, hl with
    | [c0, c1, c2], _ => exact ⟨c0, c1, c2, rfl⟩
  have f0_6 : Rd enc Tryd.prog w 3 [c0] := rd_field (i := 0) (k := 1) hf rfl rfl (by kernel_rfl) rfl
  obtain ⟨n0, e0, b0⟩ := rd_i64 Tryd.underlying3 f0_6
  obtain rfl := (List.cons.inj e0).1
  have f1_9 : Rd enc Tryd.prog w 3 [c1] := rd_field (i := 1) (k := 1) hf rfl rfl (by kernel_rfl) rfl
  obtain ⟨n1, e1, b1⟩ := rd_i64 Tryd.underlying3 f1_9
  obtain rfl := (List.cons.inj e1).1
  have f2_12 : Rd enc Tryd.prog w 22 [c2] := rd_field (i := 2) (k := 1) hf rfl rfl (by kernel_rfl) rfl
  obtain ⟨u2, n2, e2, s2, b2⟩ := rd_cels f2_12
  obtain rfl := (List.cons.inj e2).1
  exact ⟨(n0, n1, _, n2), rfl, s2, b1⟩
end Go.Q
