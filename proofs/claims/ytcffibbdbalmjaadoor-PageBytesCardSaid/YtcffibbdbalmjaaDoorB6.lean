/-
  Parts of a walk: what functions of the program compute, each told by a theorem (QDL5, QY, QYD, QDRdK).
-/
import Derived.Test.YtcffibbdbalmjaaDoorB5
import Derived.ChangeArms
import Derived.WideShapes
import Derived.DataElems
import Derived.OpenShut
set_option linter.unusedVariables false
set_option linter.unusedSimpArgs false
set_option linter.unnecessarySimpa false
namespace Go.Q
open Go.Proofs
set_option linter.unusedVariables false
set_option maxRecDepth 100000
attribute [local irreducible] wpList OK Code.wp
set_option maxHeartbeats 4000000 in
theorem PageBytes_c {E w : World} {R : List Hp} {noa : Int} {gsna : Int} {v_la : Value} {la : List Cel} {nob : Int} {gsnb : Int} {v_lb : Value} {lb : List Cel} {s : Bs}  (hH : Has E w [R]) (h_la : Sl R 2 v_la la.length (la.flatMap ceC)) (h_lb : Sl R 2 v_lb lb.length (lb.flatMap ceC)) (hg : CellsAt R 0 0 nibV) :
    Calls Tryd.prog 6 #[(.agg #[(.int .i64 noa), (.int .i64 gsna), v_la]), (.agg #[(.int .i64 nob), (.int .i64 gsnb), v_lb]), (S s)] w fun e w' => e = .returned (.bool true) ∧ Has E w' [R] := by
  have hnla_ := h_la.le
  have hnlb_ := h_lb.le
  refine c_enter (args := [(.agg #[(.int .i64 noa), (.int .i64 gsna), v_la]), (.agg #[(.int .i64 nob), (.int .i64 gsnb), v_lb]), (S s)]) Tryd.func6 rfl Tryd.ntmps6 (by simp) ?_
  refine wp_seq_k fun K1 hK1 => ?_
  refine c_region ?_
  refine s_op (o_box (cs := #[(.int .i64 noa), (.int .i64 gsna), v_la]) rfl rfl hH fun b2 w3 hH4 => ?_)
  refine s_op (o_box (cs := #[(.int .i64 nob), (.int .i64 gsnb), v_lb]) rfl rfl hH4 fun b5 w6 hH7 => ?_)
  refine s_op (o_assign (v := (.bool false)) rfl ?_)
  refine s_nil ?_
  refine t_norm (hK1 _ _ ?_)
  refine wp_seq_k fun K8 hK8 => ?_
  refine wp_seq_k fun K9 hK9 => ?_
  refine c_region ?_
  refine s_op (o_loadN (cs := [(.int .i64 noa), (.int .i64 gsna), v_la]) Tryd.underlying24 rfl ti24 rfl hH7 (seg_sub 1 rfl) (CellsAt.one rfl) ?_)
  refine s_op (o_callf (vs := #[(.agg #[(.int .i64 noa), (.int .i64 gsna), v_la])]) ca8 rfl (args1 rfl) (r11great_c (no := noa) (gsn := gsna) (l := la) hH7.all (h_la.mono (seg_sub 2 rfl))) ?_)
  rintro _ w14 ⟨gb_10, rfl, hg_11, hX12⟩
  refine ⟨_, rfl, ?_⟩
  have hH13 : Has E w14 [[Hp.one b5 (.cells #[(.int .i64 nob), (.int .i64 gsnb), v_lb] 24 (0, 0))], [Hp.one b2 (.cells #[(.int .i64 noa), (.int .i64 gsna), v_la] 24 (0, 0))], R] := hX12.of_all
  refine s_op (o_move (v := (.bool gb_10)) rfl ?_)
  rcases Bool.eq_false_or_eq_true gb_10 with h15 | h15
  · -- gb_10
    refine s_off (b' := true) 19 rfl (congrArg Value.bool h15) rfl ?_
    refine s_off (b' := true) 19 rfl (congrArg Value.bool h15) rfl ?_
    refine s_op (o_pick_t (u := (.bool true)) ((rfl : _ = _).trans (congrArg Value.bool h15)) rfl ?_)
    refine s_op (o_move (v := (.bool true)) rfl ?_)
    refine s_off (b' := true) 23 rfl rfl rfl ?_
    refine s_off (b' := true) 23 rfl rfl rfl ?_
    refine s_off (b' := true) 23 rfl rfl rfl ?_
    refine s_op (o_pick_t (u := (.bool true)) rfl rfl ?_)
    refine s_nil ?_
    refine t_norm (hK9 _ _ ?_)
    refine c_true rfl rfl ?_
    refine wp_seq_k fun K16 hK16 => ?_
    refine c_region ?_
    refine s_op (o_callf (vs := #[]) ca9 rfl (args0) (awake11_c hH13.all (hg.mono (seg_sub 2 rfl))) ?_)
    rintro _ w19 ⟨rfl, hX17⟩
    refine ⟨_, rfl, ?_⟩
    have hH18 := hX17.of_all
    refine s_op (o_assign (v := (.bool true)) rfl ?_)
    refine s_nil ?_
    refine t_norm (hK16 _ _ ?_)
    refine wp_ret ?_
    refine t_ret (c_ret1 Tryd.results6  (v := (.bool true)) rfl ?_)
    have hH20 : Has E w19 [R] := (hH18.front 2 rfl).first 1 rfl
    exact ⟨by rw [show true = true by first | rfl | assumption | (simp; done)], hH20⟩
  · -- not: gb_10
    have hgr0_ := hg_11 h15
    refine s_on 19 rfl (congrArg Value.bool h15) (o_loadN (cs := [(.int .i64 nob), (.int .i64 gsnb), v_lb]) Tryd.underlying24 rfl ti24 rfl hH13 (seg_sub 0 rfl) (CellsAt.one rfl) ?_)
    refine s_on 19 rfl (congrArg Value.bool h15) (o_callf (vs := #[(.agg #[(.int .i64 nob), (.int .i64 gsnb), v_lb])]) ca8 rfl (args1 rfl) (r11great_c (no := nob) (gsn := gsnb) (l := lb) hH13.all (h_lb.mono (seg_sub 2 rfl))) ?_)
    rintro _ w25 ⟨gb_21, rfl, hg_22, hX23⟩
    refine ⟨_, rfl, ?_⟩
    have hH24 : Has E w25 [[Hp.one b5 (.cells #[(.int .i64 nob), (.int .i64 gsnb), v_lb] 24 (0, 0))], [Hp.one b2 (.cells #[(.int .i64 noa), (.int .i64 gsna), v_la] 24 (0, 0))], R] := hX23.of_all
    refine s_op (o_pick_f (u := (.bool gb_21)) ((rfl : _ = _).trans (congrArg Value.bool h15)) rfl ?_)
    refine s_op (o_move (v := (.bool gb_21)) rfl ?_)
    rcases Bool.eq_false_or_eq_true gb_21 with h26 | h26
    · -- gb_21
      refine s_off (b' := true) 23 rfl (congrArg Value.bool h26) rfl ?_
      refine s_off (b' := true) 23 rfl (congrArg Value.bool h26) rfl ?_
      refine s_off (b' := true) 23 rfl (congrArg Value.bool h26) rfl ?_
      refine s_op (o_pick_t (u := (.bool true)) ((rfl : _ = _).trans (congrArg Value.bool h26)) rfl ?_)
      refine s_nil ?_
      refine t_norm (hK9 _ _ ?_)
      refine c_true rfl rfl ?_
      refine wp_seq_k fun K27 hK27 => ?_
      refine c_region ?_
      refine s_op (o_callf (vs := #[]) ca9 rfl (args0) (awake11_c hH24.all (hg.mono (seg_sub 2 rfl))) ?_)
      rintro _ w30 ⟨rfl, hX28⟩
      refine ⟨_, rfl, ?_⟩
      have hH29 := hX28.of_all
      refine s_op (o_assign (v := (.bool true)) rfl ?_)
      refine s_nil ?_
      refine t_norm (hK27 _ _ ?_)
      refine wp_ret ?_
      refine t_ret (c_ret1 Tryd.results6  (v := (.bool true)) rfl ?_)
      have hH31 : Has E w30 [R] := (hH29.front 2 rfl).first 1 rfl
      exact ⟨by rw [show true = true by first | rfl | assumption | (simp; done)], hH31⟩
    · -- not: gb_21
      have hgr1_ := hg_22 h26
      refine s_on 23 rfl (congrArg Value.bool h26) (o_move (v := (S s)) rfl ?_)
      refine s_on 23 rfl (congrArg Value.bool h26) (o_slen Tryd.underlying9 rfl ?_)
      refine s_on 23 rfl (congrArg Value.bool h26) (o_gtr (a := (s.length : Int)) (b := 1000) rfl rfl ?_)
      refine s_op (o_pick_f (u := (.bool (decide (1000 < (s.length : Int))))) ((rfl : _ = _).trans (congrArg Value.bool h26)) rfl ?_)
      refine s_nil ?_
      refine t_norm (hK9 _ _ ?_)
      refine c_cond rfl (fun h32 => ?_) (fun h32 => ?_)
      · -- 1000 < (s.length : Int)
        refine wp_seq_k fun K33 hK33 => ?_
        refine c_region ?_
        refine s_op (o_callf (vs := #[]) ca9 rfl (args0) (awake11_c hH24.all (hg.mono (seg_sub 2 rfl))) ?_)
        rintro _ w36 ⟨rfl, hX34⟩
        refine ⟨_, rfl, ?_⟩
        have hH35 := hX34.of_all
        refine s_op (o_assign (v := (.bool true)) rfl ?_)
        refine s_nil ?_
        refine t_norm (hK33 _ _ ?_)
        refine wp_ret ?_
        refine t_ret (c_ret1 Tryd.results6  (v := (.bool true)) rfl ?_)
        have hH37 : Has E w36 [R] := (hH35.front 2 rfl).first 1 rfl
        exact ⟨by rw [show true = true by first | rfl | assumption | (simp; done)], hH37⟩
      · -- not: 1000 < (s.length : Int)
        refine wp_skip ?_
        refine t_norm (hK8 _ _ ?_)
        refine wp_seq_k fun K38 hK38 => ?_
        refine c_region ?_
        refine s_op (o_assign (v := (S ([] : List UInt8))) rfl ?_)
        refine s_nil ?_
        refine t_norm (hK38 _ _ ?_)
        refine wp_seq_k fun K39 hK39 => ?_
        let J41 : (Nat → Value) → World → Prop := fun r__ w__ => ∃ (wnt : Bs), Has E w__ [[Hp.one b5 (.cells #[(.int .i64 nob), (.int .i64 gsnb), v_lb] 24 (0, 0))], [Hp.one b2 (.cells #[(.int .i64 noa), (.int .i64 gsna), v_la] 24 (0, 0))], R] ∧ (wnt = laidP noa gsna la) ∧ r__ 0 = (.agg #[(.int .i64 noa), (.int .i64 gsna), v_la]) ∧ r__ 1 = (.agg #[(.int .i64 nob), (.int .i64 gsnb), v_lb]) ∧ r__ 2 = (S s) ∧ r__ 3 = (.pointer (some ⟨b2, 0, none⟩)) ∧ r__ 4 = (.pointer (some ⟨b5, 0, none⟩)) ∧ r__ 6 = (.bool false) ∧ r__ 7 = (S wnt) ∧ r__ 27 = (.bool (decide (1000 < (s.length : Int))))
        have hJ42 : ∀ r w, J41 r w → K39 (Go.Q.fr 149 r) w := by
          rintro r45 w43 ⟨wnt, hH44, hw, e40_0, e40_1, e40_2, e40_3, e40_4, e40_6, e40_7, e40_27⟩
          refine hK39 _ _ ?_
          refine wp_seq_k fun K46 hK46 => ?_
          refine c_region ?_
          refine s_op (o_move (v := (S s)) e40_2 ?_)
          refine s_op (o_callf (vs := #[(S s)]) ca19 rfl (args1 rfl) (pread_c (s := s) hH44.all (hg.mono (seg_sub 2 rfl))) ?_)
          rintro _ w52 ⟨v47, s48, rfl, ho49, hX50⟩
          refine ⟨_, rfl, ?_⟩
          have hH51 : Has E w52 [s48, [Hp.one b5 (.cells #[(.int .i64 nob), (.int .i64 gsnb), v_lb] 24 (0, 0))], [Hp.one b2 (.cells #[(.int .i64 noa), (.int .i64 gsna), v_la] 24 (0, 0))], R] := hX50.of_all1
          refine s_op (o_move (v := (.tuple #[(.agg #[(.int .i64 ((readP s).2.1)), (.int .i64 ((readP s).2.2.1)), v47]), (.bool ((readP s).1))])) rfl ?_)
          refine s_op (o_extract (v := (.agg #[(.int .i64 ((readP s).2.1)), (.int .i64 ((readP s).2.2.1)), v47])) rfl rfl ?_)
          refine s_op (o_extract (v := (.bool ((readP s).1))) rfl rfl ?_)
          refine s_op (o_alloc (cs := #[(.int .i64 0), (.int .i64 0), (.slice none 0 0)]) ti24 rfl hH51 fun b53 w54 hH55 => ?_)
          refine s_eff (o_storeN (vs := [(.int .i64 ((readP s).2.1)), (.int .i64 ((readP s).2.2.1)), v47]) (c' := #[(.int .i64 ((readP s).2.1)), (.int .i64 ((readP s).2.2.1)), v47]) ti24 rfl rfl rfl rfl (by intro u hu; simp only [List.mem_cons, List.not_mem_nil, or_false] at hu; rcases hu with rfl | rfl | rfl <;> first | rfl | exact ho49.one) (by simp) (by kernel_rfl) (hH55.front 0 rfl) fun w56 hH57 => ?_)
          refine s_op (o_assign (v := (.bool ((readP s).1))) rfl ?_)
          refine s_nil ?_
          refine t_norm (hK46 _ _ ?_)
          refine wp_seq_k fun K58 hK58 => ?_
          refine c_region ?_
          refine s_op (o_move (v := (S s)) e40_2 ?_)
          refine s_op (o_callf (vs := #[(S s)]) ca20 rfl (args1 rfl) (r11read_c (s := s) hH57.all ) ?_)
          rintro _ w65 ⟨v59, s60, rfl, ho61, hX62⟩
          refine ⟨_, rfl, ?_⟩
          have hH63 : Has E w65 [s60, [Hp.one b53 (.cells #[(.int .i64 ((readP s).2.1)), (.int .i64 ((readP s).2.2.1)), v47] 24 (0, 0))], s48, [Hp.one b5 (.cells #[(.int .i64 nob), (.int .i64 gsnb), v_lb] 24 (0, 0))], [Hp.one b2 (.cells #[(.int .i64 noa), (.int .i64 gsna), v_la] 24 (0, 0))], R] := hX62.of_all1
          refine s_op (o_move (v := (.tuple #[(.agg #[(.int .i64 ((readR s).2.1)), (.int .i64 ((readR s).2.2.1)), v59]), (.bool ((readR s).1))])) rfl ?_)
          refine s_op (o_extract (v := (.agg #[(.int .i64 ((readR s).2.1)), (.int .i64 ((readR s).2.2.1)), v59])) rfl rfl ?_)
          refine s_op (o_extract (v := (.bool ((readR s).1))) rfl rfl ?_)
          refine s_op (o_alloc (cs := #[(.int .i64 0), (.int .i64 0), (.slice none 0 0)]) ti24 rfl hH63 fun b66 w67 hH68 => ?_)
          refine s_eff (o_storeN (vs := [(.int .i64 ((readR s).2.1)), (.int .i64 ((readR s).2.2.1)), v59]) (c' := #[(.int .i64 ((readR s).2.1)), (.int .i64 ((readR s).2.2.1)), v59]) ti24 rfl rfl rfl rfl (by intro u hu; simp only [List.mem_cons, List.not_mem_nil, or_false] at hu; rcases hu with rfl | rfl | rfl <;> first | rfl | exact ho61.one) (by simp) (by kernel_rfl) (hH68.front 0 rfl) fun w69 hH70 => ?_)
          refine s_op (o_assign (v := (.bool ((readR s).1))) rfl ?_)
          refine s_nil ?_
          refine t_norm (hK58 _ _ ?_)
          refine wp_seq_k fun K71 hK71 => ?_
          refine c_region ?_
          refine s_op (o_assign (v := (.slice none 0 0)) rfl ?_)
          refine s_nil ?_
          refine t_norm (hK71 _ _ ?_)
          refine wp_seq_k fun K72 hK72 => ?_
          let J74 : (Nat → Value) → World → Prop := fun r__ w__ => ∃ (vk9 : Value) (sk9 : List Hp) (ks9 : List Bs), Has E w__ [sk9, [Hp.one b66 (.cells #[(.int .i64 ((readR s).2.1)), (.int .i64 ((readR s).2.2.1)), v59] 24 (0, 0))], s60, [Hp.one b53 (.cells #[(.int .i64 ((readP s).2.1)), (.int .i64 ((readP s).2.2.1)), v47] 24 (0, 0))], s48, [Hp.one b5 (.cells #[(.int .i64 nob), (.int .i64 gsnb), v_lb] 24 (0, 0))], [Hp.one b2 (.cells #[(.int .i64 noa), (.int .i64 gsna), v_la] 24 (0, 0))], R] ∧ (Own 9 1 vk9 ks9.length (ks9.map sV) sk9) ∧ (KsOk ks9 (la.map (fun c => c.1) ++ lb.map (fun c => c.1))) ∧ r__ 0 = (.agg #[(.int .i64 noa), (.int .i64 gsna), v_la]) ∧ r__ 1 = (.agg #[(.int .i64 nob), (.int .i64 gsnb), v_lb]) ∧ r__ 2 = (S s) ∧ r__ 3 = (.pointer (some ⟨b2, 0, none⟩)) ∧ r__ 4 = (.pointer (some ⟨b5, 0, none⟩)) ∧ r__ 6 = (.bool false) ∧ r__ 7 = (S wnt) ∧ r__ 8 = (.pointer (some ⟨b53, 0, none⟩)) ∧ r__ 9 = (.bool ((readP s).1)) ∧ r__ 10 = (.pointer (some ⟨b66, 0, none⟩)) ∧ r__ 11 = (.bool ((readR s).1)) ∧ r__ 12 = vk9 ∧ r__ 27 = (.bool (decide (1000 < (s.length : Int))))
          have hJ75 : ∀ r w, J74 r w → K72 (Go.Q.fr 149 r) w := by
            rintro r78 w76 ⟨vk9, sk9, ks9, hH77, hok9, hke_, e73_0, e73_1, e73_2, e73_3, e73_4, e73_6, e73_7, e73_8, e73_9, e73_10, e73_11, e73_12, e73_27⟩
            refine hK72 _ _ ?_
            refine wp_seq_k fun K79 hK79 => ?_
            refine c_region ?_
            refine s_op (o_loadN (cs := [(.int .i64 noa), (.int .i64 gsna), v_la]) Tryd.underlying24 rfl ti24 e73_3 hH77 (seg_sub 6 rfl) (CellsAt.one rfl) ?_)
            refine s_op (o_callf (vs := #[(.agg #[(.int .i64 noa), (.int .i64 gsna), v_la])]) ca21 rfl (args1 rfl) (plaid_c (no := noa) (gsn := gsna) (l := la) hH77.all (h_la.mono (seg_sub 7 rfl)) (hg.mono (seg_sub 7 rfl))) ?_)
            rintro _ w82 ⟨rfl, hX80⟩
            refine ⟨_, rfl, ?_⟩
            have hH81 := hX80.of_all
            have hll_ := laidP_le noa gsna la
            refine s_op (o_move (v := (S wnt)) e73_7 ?_)
            refine s_op (o_seql (a := (laidP noa gsna la)) (b := wnt) rfl rfl ?_)
            refine s_op (o_move (v := (.bool (decide ((laidP noa gsna la) = wnt)))) rfl ?_)
            by_cases h83 : (laidP noa gsna la) = wnt
            · -- (laidP noa gsna la) = wnt
              refine s_on 128 rfl (congrArg Value.bool (decide_eq_true h83)) (o_loadN (cs := [(.int .i64 ((readP s).2.1)), (.int .i64 ((readP s).2.2.1)), v47]) Tryd.underlying24 rfl ti24 e73_8 hH81 (seg_sub 3 rfl) (CellsAt.one rfl) ?_)
              refine s_on 128 rfl (congrArg Value.bool (decide_eq_true h83)) (o_loadN (cs := [(.int .i64 ((readR s).2.1)), (.int .i64 ((readR s).2.2.1)), v59]) Tryd.underlying24 rfl ti24 e73_10 hH81 (seg_sub 1 rfl) (CellsAt.one rfl) ?_)
              refine s_on 128 rfl (congrArg Value.bool (decide_eq_true h83)) (o_callf (vs := #[(.agg #[(.int .i64 ((readP s).2.1)), (.int .i64 ((readP s).2.2.1)), v47]), (.agg #[(.int .i64 ((readR s).2.1)), (.int .i64 ((readR s).2.2.1)), v59])]) ca13 rfl (args2 rfl rfl) (r11same_c (noa := (readP s).2.1) (gsna := (readP s).2.2.1) (la := ((readP s).2.2.2)) (nob := (readR s).2.1) (gsnb := (readR s).2.2.1) (lb := ((readR s).2.2.2)) hH81.all (ho49.sl.mono (seg_sub 4 rfl)) (ho61.sl.mono (seg_sub 2 rfl))) ?_)
              rintro _ w86 ⟨rfl, hX84⟩
              refine ⟨_, rfl, ?_⟩
              have hH85 := hX84.of_all
              refine s_op (o_pick_t (u := (.bool (decide (((readP s).2.1) = ((readR s).2.1) ∧ ((readP s).2.2.1) = ((readR s).2.2.1) ∧ ((readP s).2.2.2) = ((readR s).2.2.2))))) ((rfl : _ = _).trans (congrArg Value.bool (decide_eq_true h83))) rfl ?_)
              refine s_op (o_move (v := (.bool (decide (((readP s).2.1) = ((readR s).2.1) ∧ ((readP s).2.2.1) = ((readR s).2.2.1) ∧ ((readP s).2.2.2) = ((readR s).2.2.2))))) rfl ?_)
              rcases Bool.eq_false_or_eq_true (decide (((readP s).2.1) = ((readR s).2.1) ∧ ((readP s).2.2.1) = ((readR s).2.2.1) ∧ ((readP s).2.2.2) = ((readR s).2.2.2))) with h87 | h87
              · -- (decide (((readP s).2.1) = ((readR s).2.1) ∧ ((readP s).2.2.1) = ((readR s).2.2.1) ∧ ((readP s).2.2.2) = ((readR s).2.2.2)))
                refine s_on 133 rfl (congrArg Value.bool h87) (o_move (v := (.bool ((readP s).1))) e73_9 ?_)
                refine s_on 133 rfl (congrArg Value.bool h87) (o_move (v := (.bool ((readR s).1))) e73_11 ?_)
                refine s_on 133 rfl (congrArg Value.bool h87) (o_eqlb Tryd.underlying4 rfl rfl ?_)
                refine s_op (o_pick_t (u := (.bool (((readP s).1) == ((readR s).1)))) ((rfl : _ = _).trans (congrArg Value.bool h87)) rfl ?_)
                refine s_op (o_move (v := (.bool (((readP s).1) == ((readR s).1)))) rfl ?_)
                rcases Bool.eq_false_or_eq_true (((readP s).1) == ((readR s).1)) with h88 | h88
                · -- ((readP s).1) == ((readR s).1)
                  refine s_on 138 rfl (congrArg Value.bool h88) (o_loadN (cs := [(.int .i64 noa), (.int .i64 gsna), v_la]) Tryd.underlying24 rfl ti24 e73_3 hH85 (seg_sub 6 rfl) (CellsAt.one rfl) ?_)
                  refine s_on 138 rfl (congrArg Value.bool h88) (o_loadN (cs := [(.int .i64 nob), (.int .i64 gsnb), v_lb]) Tryd.underlying24 rfl ti24 e73_4 hH85 (seg_sub 5 rfl) (CellsAt.one rfl) ?_)
                  refine s_on 138 rfl (congrArg Value.bool h88) (o_buildSlice (ps := #[(0, (.agg #[(.int .i64 noa), (.int .i64 gsna), v_la])), (1, (.agg #[(.int .i64 nob), (.int .i64 gsnb), v_lb]))]) (cells := #[(.int .i64 noa), (.int .i64 gsna), v_la, (.int .i64 nob), (.int .i64 gsnb), v_lb]) Tryd.underlying99 ti24 (by decide) (parts2 rfl rfl) (by kernel_rfl) hH85 fun b89 w90 hH91 => ?_)
                  refine s_on 138 rfl (congrArg Value.bool h88) (o_callf (vs := #[(.slice (some ⟨b89, 0, none⟩) 2 2)]) ca23 rfl (args1 rfl) (pkeys_c (ps := [((noa, gsna, v_la, la) : Int × Int × Value × List Cel), ((nob, gsnb, v_lb, lb) : Int × Int × Value × List Cel)]) hH91.all ((sl_litF (f := pgC) (l := [((noa, gsna, v_la, la) : Int × Int × Value × List Cel), ((nob, gsnb, v_lb, lb) : Int × Int × Value × List Cel)]) pgC_len rfl rfl (by simp)).mono (seg_sub 0 rfl)) (fun a_ ha_ => by rcases List.mem_cons.1 ha_ with rfl | hb_; exact (h_la.mono (seg_sub 8 rfl)); rw [List.mem_singleton.1 hb_]; exact (h_lb.mono (seg_sub 8 rfl))) (fun a_ ha_ => by rcases List.mem_cons.1 ha_ with rfl | hb_; exact hgr0_.1; rw [List.mem_singleton.1 hb_]; exact hgr1_.1) (by first | omega | (simp only []; omega) | (simp; done) | (simp; omega))) ?_)
                  rintro _ w97 ⟨v92, s93, rfl, ho94, hX95⟩
                  refine ⟨_, rfl, ?_⟩
                  have hH96 : Has E w97 [s93, [Hp.one b89 (.cells #[(.int .i64 noa), (.int .i64 gsna), v_la, (.int .i64 nob), (.int .i64 gsnb), v_lb] 24 (0, 0))], sk9, [Hp.one b66 (.cells #[(.int .i64 ((readR s).2.1)), (.int .i64 ((readR s).2.2.1)), v59] 24 (0, 0))], s60, [Hp.one b53 (.cells #[(.int .i64 ((readP s).2.1)), (.int .i64 ((readP s).2.2.1)), v47] 24 (0, 0))], s48, [Hp.one b5 (.cells #[(.int .i64 nob), (.int .i64 gsnb), v_lb] 24 (0, 0))], [Hp.one b2 (.cells #[(.int .i64 noa), (.int .i64 gsna), v_la] 24 (0, 0))], R] := hX95.of_all1
                  refine s_on 138 rfl (congrArg Value.bool h88) (o_move (v := vk9) e73_12 ?_)
                  refine s_on 138 rfl (congrArg Value.bool h88) (o_callf (vs := #[v92, vk9]) ca22 rfl (args2 rfl rfl) (texts_c (l := (kysS ([((noa, gsna, v_la, la) : Int × Int × Value × List Cel), ((nob, gsnb, v_lb, lb) : Int × Int × Value × List Cel)].flatMap pgK))) (m := ks9) hH96.all (ho94.sl.mono (seg_sub 0 rfl)) (hok9.sl.mono (seg_sub 2 rfl))) ?_)
                  rintro _ w100 ⟨rfl, hX98⟩
                  refine ⟨_, rfl, ?_⟩
                  have hH99 := hX98.of_all
                  refine s_op (o_pick_t (u := (.bool (decide ((kysS ([((noa, gsna, v_la, la) : Int × Int × Value × List Cel), ((nob, gsnb, v_lb, lb) : Int × Int × Value × List Cel)].flatMap pgK)) = ks9)))) ((rfl : _ = _).trans (congrArg Value.bool h88)) rfl ?_)
                  refine s_op (o_move (v := (.bool (decide ((kysS ([((noa, gsna, v_la, la) : Int × Int × Value × List Cel), ((nob, gsnb, v_lb, lb) : Int × Int × Value × List Cel)].flatMap pgK)) = ks9)))) rfl ?_)
                  rcases Bool.eq_false_or_eq_true (decide ((kysS ([((noa, gsna, v_la, la) : Int × Int × Value × List Cel), ((nob, gsnb, v_lb, lb) : Int × Int × Value × List Cel)].flatMap pgK)) = ks9)) with h101 | h101
                  · -- (decide ((kysS ([((noa, gsna, v_la, la) : Int × Int × Value × List Cel), ((nob, gsnb, v_lb, lb) : Int × Int × Value × List Cel)].flatMap pgK)) = ks9))
                    refine s_on 146 rfl (congrArg Value.bool h101) (o_callf (vs := #[]) ca9 rfl (args0) (awake11_c hH99.all (hg.mono (seg_sub 9 rfl))) ?_)
                    rintro _ w104 ⟨rfl, hX102⟩
                    refine ⟨_, rfl, ?_⟩
                    have hH103 := hX102.of_all
                    refine s_op (o_pick_t (u := (.bool true)) ((rfl : _ = _).trans (congrArg Value.bool h101)) rfl ?_)
                    refine s_op (o_assign (v := (.bool true)) rfl ?_)
                    refine s_nil ?_
                    refine t_norm (hK79 _ _ ?_)
                    refine wp_ret ?_
                    refine c_ret1 Tryd.results6  (v := (.bool true)) rfl ?_
                    have hH105 : Has E w104 [R] := (hH103.front 9 rfl).first 1 rfl
                    exact ⟨by rw [show true = true by first | rfl | assumption | (simp; done)], hH105⟩
                  · -- not: (decide ((kysS ([((noa, gsna, v_la, la) : Int × Int × Value × List Cel), ((nob, gsnb, v_lb, lb) : Int × Int × Value × List Cel)].flatMap pgK)) = ks9))
                    exact absurd (show (decide ((kysS ([((noa, gsna, v_la, la) : Int × Int × Value × List Cel), ((nob, gsnb, v_lb, lb) : Int × Int × Value × List Cel)].flatMap pgK)) = ks9)) = true from decide_eq_true (by rw [← ksOk_eq hke_]; simp [pgK])) (by rw [h101]; decide)
                · -- not: ((readP s).1) == ((readR s).1)
                  exact absurd (show (((readP s).1) == ((readR s).1)) = true by rw [read_eq]; simp) (by rw [h88]; decide)
              · -- not: (decide (((readP s).2.1) = ((readR s).2.1) ∧ ((readP s).2.2.1) = ((readR s).2.2.1) ∧ ((readP s).2.2.2) = ((readR s).2.2.2)))
                exact absurd (show (decide (((readP s).2.1) = ((readR s).2.1) ∧ ((readP s).2.2.1) = ((readR s).2.2.1) ∧ ((readP s).2.2.2) = ((readR s).2.2.2))) = true from decide_eq_true (by rw [read_eq]; exact ⟨rfl, rfl, rfl⟩)) (by rw [h87]; decide)
            · -- not: (laidP noa gsna la) = wnt
              exact absurd hw.symm h83
          refine wp_seq_k fun K106 hK106 => ?_
          refine c_region ?_
          refine s_op (o_assign (v := (.int .i64 0)) rfl ?_)
          refine s_nil ?_
          refine t_norm (hK106 _ _ ?_)
          refine wp_block ?_
          have hgl_ : la.length ≤ 20 ∧ lb.length ≤ 20 := ⟨hgr0_.1, hgr1_.1⟩
          let I108 : Nat → (Nat → Value) → World → Prop := fun n__ r__ w__ => ∃ (i : Nat) (vk : Value) (sk : List Hp) (ks : List Bs), n__ = la.length + lb.length - i ∧ Has E w__ [sk, [Hp.one b66 (.cells #[(.int .i64 ((readR s).2.1)), (.int .i64 ((readR s).2.2.1)), v59] 24 (0, 0))], s60, [Hp.one b53 (.cells #[(.int .i64 ((readP s).2.1)), (.int .i64 ((readP s).2.2.1)), v47] 24 (0, 0))], s48, [Hp.one b5 (.cells #[(.int .i64 nob), (.int .i64 gsnb), v_lb] 24 (0, 0))], [Hp.one b2 (.cells #[(.int .i64 noa), (.int .i64 gsna), v_la] 24 (0, 0))], R] ∧ (Own 9 1 vk ks.length (ks.map sV) sk) ∧ (KsOk ks ((la.map (fun c => c.1) ++ lb.map (fun c => c.1)).take i)) ∧ (i ≤ la.length + lb.length) ∧ (ks.length ≤ i) ∧ r__ 0 = (.agg #[(.int .i64 noa), (.int .i64 gsna), v_la]) ∧ r__ 1 = (.agg #[(.int .i64 nob), (.int .i64 gsnb), v_lb]) ∧ r__ 2 = (S s) ∧ r__ 3 = (.pointer (some ⟨b2, 0, none⟩)) ∧ r__ 4 = (.pointer (some ⟨b5, 0, none⟩)) ∧ r__ 6 = (.bool false) ∧ r__ 7 = (S wnt) ∧ r__ 8 = (.pointer (some ⟨b53, 0, none⟩)) ∧ r__ 9 = (.bool ((readP s).1)) ∧ r__ 10 = (.pointer (some ⟨b66, 0, none⟩)) ∧ r__ 11 = (.bool ((readR s).1)) ∧ r__ 12 = vk ∧ r__ 13 = (.int .i64 (i : Int)) ∧ r__ 27 = (.bool (decide (1000 < (s.length : Int))))
          have hH109 : Has E w69 [[], [Hp.one b66 (.cells #[(.int .i64 ((readR s).2.1)), (.int .i64 ((readR s).2.2.1)), v59] 24 (0, 0))], s60, [Hp.one b53 (.cells #[(.int .i64 ((readP s).2.1)), (.int .i64 ((readP s).2.2.1)), v47] 24 (0, 0))], s48, [Hp.one b5 (.cells #[(.int .i64 nob), (.int .i64 gsnb), v_lb] 24 (0, 0))], [Hp.one b2 (.cells #[(.int .i64 noa), (.int .i64 gsna), v_la] 24 (0, 0))], R] := Has.pick (Has.nil hH70) [0, 0, 0, 0, 0, 0, 0, 0] (by kernel_rfl)
          refine c_loop I108 _ ⟨0, (.slice none 0 0), [], ([] : List Bs), rfl, hH109, (Own.nil 9 1), ksOk_nil, (by omega), (by simp), e40_0, e40_1, e40_2, e40_3, e40_4, e40_6, e40_7, rfl, rfl, rfl, rfl, rfl, rfl, e40_27⟩ ?_
          rintro n_ r112 w110 ⟨i, vk, sk, ks, rfl, hH111, hok, hks, hi, hkl, e107_0, e107_1, e107_2, e107_3, e107_4, e107_6, e107_7, e107_8, e107_9, e107_10, e107_11, e107_12, e107_13, e107_27⟩
          refine wp_seq_k fun K113 hK113 => ?_
          refine wp_seq_k fun K114 hK114 => ?_
          refine c_region ?_
          refine s_op (o_move (v := (.int .i64 (i : Int))) e107_13 ?_)
          refine s_op (o_fieldAddr (k := 2) (fun _ => by kernel_rfl) e107_3 ?_)
          refine s_op (o_load1 (v := v_la) Tryd.underlying22 rfl rfl hH111 (seg_sub 6 rfl) (CellsAt.one rfl) ?_)
          refine s_op (o_lenS Tryd.underlying22 rfl h_la ?_)
          refine s_op (o_fieldAddr (k := 2) (fun _ => by kernel_rfl) e107_4 ?_)
          refine s_op (o_load1 (v := v_lb) Tryd.underlying22 rfl rfl hH111 (seg_sub 5 rfl) (CellsAt.one rfl) ?_)
          refine s_op (o_lenS Tryd.underlying22 rfl h_lb ?_)
          refine s_op (o_add (a := ((la.length : Nat) : Int)) (b := ((lb.length : Nat) : Int)) rfl rfl (w64 (by omega) (by omega)) ?_)
          refine s_op (o_lss (a := (i : Int)) (b := ((la.length : Nat) : Int) + ((lb.length : Nat) : Int)) rfl rfl ?_)
          refine s_nil ?_
          refine t_norm (hK114 _ _ ?_)
          refine c_cond rfl (fun h115 => ?_) (fun h115 => ?_)
          · -- (i : Int) < ((la.length : Nat) : Int) + ((lb.length : Nat) : Int)
            refine wp_skip ?_
            refine t_norm (hK113 _ _ ?_)
            refine wp_seq_k fun K116 hK116 => ?_
            refine wp_block ?_
            refine wp_seq_k fun K117 hK117 => ?_
            refine c_region ?_
            refine s_op (o_assign (v := (S ([] : List UInt8))) rfl ?_)
            refine s_nil ?_
            refine t_norm (hK117 _ _ ?_)
            refine wp_seq_k fun K118 hK118 => ?_
            let J120 : (Nat → Value) → World → Prop := fun r__ w__ => ∃ (k : Bs), Has E w__ [sk, [Hp.one b66 (.cells #[(.int .i64 ((readR s).2.1)), (.int .i64 ((readR s).2.2.1)), v59] 24 (0, 0))], s60, [Hp.one b53 (.cells #[(.int .i64 ((readP s).2.1)), (.int .i64 ((readP s).2.2.1)), v47] 24 (0, 0))], s48, [Hp.one b5 (.cells #[(.int .i64 nob), (.int .i64 gsnb), v_lb] 24 (0, 0))], [Hp.one b2 (.cells #[(.int .i64 noa), (.int .i64 gsna), v_la] 24 (0, 0))], R] ∧ ((la.map (fun c => c.1) ++ lb.map (fun c => c.1))[i]? = some k) ∧ r__ 0 = (.agg #[(.int .i64 noa), (.int .i64 gsna), v_la]) ∧ r__ 1 = (.agg #[(.int .i64 nob), (.int .i64 gsnb), v_lb]) ∧ r__ 2 = (S s) ∧ r__ 3 = (.pointer (some ⟨b2, 0, none⟩)) ∧ r__ 4 = (.pointer (some ⟨b5, 0, none⟩)) ∧ r__ 6 = (.bool false) ∧ r__ 7 = (S wnt) ∧ r__ 8 = (.pointer (some ⟨b53, 0, none⟩)) ∧ r__ 9 = (.bool ((readP s).1)) ∧ r__ 10 = (.pointer (some ⟨b66, 0, none⟩)) ∧ r__ 11 = (.bool ((readR s).1)) ∧ r__ 12 = vk ∧ r__ 13 = (.int .i64 (i : Int)) ∧ r__ 14 = (S k) ∧ r__ 27 = (.bool (decide (1000 < (s.length : Int)))) ∧ r__ 51 = (.bool (decide ((i : Int) < ((la.length : Nat) : Int) + ((lb.length : Nat) : Int))))
            have hJ121 : ∀ r w, J120 r w → K118 (Go.Q.fr 149 r) w := by
              rintro r124 w122 ⟨k, hH123, hk, e119_0, e119_1, e119_2, e119_3, e119_4, e119_6, e119_7, e119_8, e119_9, e119_10, e119_11, e119_12, e119_13, e119_14, e119_27, e119_51⟩
              refine hK118 _ _ ?_
              refine wp_seq_k fun K125 hK125 => ?_
              refine c_region ?_
              refine s_op (o_assign (v := (.int .i64 0)) rfl ?_)
              refine s_nil ?_
              refine t_norm (hK125 _ _ ?_)
              refine wp_seq_k fun K126 hK126 => ?_
              let J128 : (Nat → Value) → World → Prop := fun r__ w__ => ∃ (at2 : Nat), Has E w__ [sk, [Hp.one b66 (.cells #[(.int .i64 ((readR s).2.1)), (.int .i64 ((readR s).2.2.1)), v59] 24 (0, 0))], s60, [Hp.one b53 (.cells #[(.int .i64 ((readP s).2.1)), (.int .i64 ((readP s).2.2.1)), v47] 24 (0, 0))], s48, [Hp.one b5 (.cells #[(.int .i64 nob), (.int .i64 gsnb), v_lb] 24 (0, 0))], [Hp.one b2 (.cells #[(.int .i64 noa), (.int .i64 gsna), v_la] 24 (0, 0))], R] ∧ (at2 ≤ ks.length) ∧ (∀ a ∈ ks.take at2, a < k) ∧ (∀ a, ks[at2]? = some a → ¬ a < k) ∧ r__ 0 = (.agg #[(.int .i64 noa), (.int .i64 gsna), v_la]) ∧ r__ 1 = (.agg #[(.int .i64 nob), (.int .i64 gsnb), v_lb]) ∧ r__ 2 = (S s) ∧ r__ 3 = (.pointer (some ⟨b2, 0, none⟩)) ∧ r__ 4 = (.pointer (some ⟨b5, 0, none⟩)) ∧ r__ 6 = (.bool false) ∧ r__ 7 = (S wnt) ∧ r__ 8 = (.pointer (some ⟨b53, 0, none⟩)) ∧ r__ 9 = (.bool ((readP s).1)) ∧ r__ 10 = (.pointer (some ⟨b66, 0, none⟩)) ∧ r__ 11 = (.bool ((readR s).1)) ∧ r__ 12 = vk ∧ r__ 13 = (.int .i64 (i : Int)) ∧ r__ 14 = (S k) ∧ r__ 15 = (.int .i64 (at2 : Int)) ∧ r__ 27 = (.bool (decide (1000 < (s.length : Int)))) ∧ r__ 51 = (.bool (decide ((i : Int) < ((la.length : Nat) : Int) + ((lb.length : Nat) : Int))))
              have hJ129 : ∀ r w, J128 r w → K126 (Go.Q.fr 149 r) w := by
                rintro r132 w130 ⟨at2, hH131, hat2, hlo2, hnl, e127_0, e127_1, e127_2, e127_3, e127_4, e127_6, e127_7, e127_8, e127_9, e127_10, e127_11, e127_12, e127_13, e127_14, e127_15, e127_27, e127_51⟩
                have hln_ : (ks ++ [([] : List UInt8)]).length = ks.length + 1 := by simp
                refine hK126 _ _ ?_
                refine wp_seq_k fun K133 hK133 => ?_
                refine wp_seq_k fun K134 hK134 => ?_
                refine c_region ?_
                refine s_op (o_move (v := (.int .i64 (at2 : Int))) e127_15 ?_)
                refine s_op (o_move (v := vk) e127_12 ?_)
                refine s_op (o_lenS Tryd.underlying32 rfl hok.sl ?_)
                refine s_op (o_lss (a := (at2 : Int)) (b := ((ks.length : Nat) : Int)) rfl rfl ?_)
                refine s_op (o_move (v := (.bool (decide ((at2 : Int) < ((ks.length : Nat) : Int))))) rfl ?_)
                by_cases h135 : (at2 : Int) < ((ks.length : Nat) : Int)
                · -- (at2 : Int) < ((ks.length : Nat) : Int)
                  refine s_on 93 rfl (congrArg Value.bool (decide_eq_true h135)) (o_move (v := vk) e127_12 ?_)
                  refine s_on 93 rfl (congrArg Value.bool (decide_eq_true h135)) (o_move (v := (.int .i64 (at2 : Int))) e127_15 ?_)
                  obtain ⟨x139, hx140⟩ : ∃ x_, ks[((at2 : Int)).toNat]? = some x_ := get_some (by omega)
                  refine s_on 93 rfl (congrArg Value.bool (decide_eq_true h135)) (o_index1 Tryd.underlying32 ti9 rfl hok.sl rfl (by omega) hx140 fun b136 o137 hc138 => ?_)
                  refine s_on 93 rfl (congrArg Value.bool (decide_eq_true h135)) (o_load1 (v := (S x139)) Tryd.underlying9 rfl rfl hH131 (seg_sub 0 rfl) hc138 ?_)
                  refine s_on 93 rfl (congrArg Value.bool (decide_eq_true h135)) (o_move (v := (S k)) e127_14 ?_)
                  refine s_on 93 rfl (congrArg Value.bool (decide_eq_true h135)) (o_seql (a := x139) (b := k) rfl rfl ?_)
                  refine s_op (o_pick_t (u := (.bool (decide (x139 = k)))) ((rfl : _ = _).trans (congrArg Value.bool (decide_eq_true h135))) rfl ?_)
                  refine s_nil ?_
                  refine t_norm (hK134 _ _ ?_)
                  refine c_cond rfl (fun h141 => ?_) (fun h141 => ?_)
                  · -- x139 = k
                    refine wp_exit ?_
                    refine t_exit (x_in (?_))
                    refine t_norm (hK116 _ _ ?_)
                    refine c_region ?_
                    refine s_op (o_move (v := (.int .i64 (i : Int))) e127_13 ?_)
                    refine s_op (o_add (a := (i : Int)) (b := 1) rfl rfl (w64 (by omega) (by omega)) ?_)
                    refine s_op (o_assign (v := (.int .i64 ((i : Int) + 1))) rfl ?_)
                    refine s_nil ?_
                    refine t_norm ⟨la.length + lb.length - (i + 1), _, rfl, ?_, ?_⟩
                    · omega
                    · exact ⟨(i + 1), vk, sk, ks, rfl, hH131, (hok), (ks_in hks hk (show ks[at2]? = some _ from by rw [← h141]; exact hx140)), (by omega), (by omega), e127_0, e127_1, e127_2, e127_3, e127_4, e127_6, e127_7, e127_8, e127_9, e127_10, e127_11, e127_12, rfl, e127_27⟩
                  · -- not: x139 = k
                    refine wp_skip ?_
                    refine t_norm (hK133 _ _ ?_)
                    refine wp_seq_k fun K142 hK142 => ?_
                    refine c_region ?_
                    refine s_op (o_move (v := vk) e127_12 ?_)
                    refine s_op (o_buildSlice (ps := #[(0, (S ([] : List UInt8)))]) (cells := #[(S ([] : List UInt8))]) Tryd.underlying32 ti9 (by decide) (parts1 rfl) (by kernel_rfl) hH131 fun b143 w144 hH145 => ?_)
                    refine s_op (o_append Tryd.underlying32 ti9 rfl (by decide) rfl hok rfl (sl_lit (f := sV) (l := [([] : List UInt8)]) rfl rfl (by simp)) (hH145.front 1 rfl) (seg_sub 0 rfl) (one_sV _) (by simp; omega) (by simp; omega) fun v146 s147 w149 ho148 hH150 => ?_)
                    have ho148 : Own 9 1 v146 (ks ++ [([] : List UInt8)]).length ((ks ++ [([] : List UInt8)]).map sV) s147 := ho148.app
                    refine s_op (o_assign (v := v146) rfl ?_)
                    refine s_nil ?_
                    refine t_norm (hK142 _ _ ?_)
                    refine wp_seq_k fun K151 hK151 => ?_
                    refine wp_seq_k fun K152 hK152 => ?_
                    refine c_region ?_
                    refine s_op (o_move (v := v146) rfl ?_)
                    refine s_op (o_lenS Tryd.underlying32 rfl ho148.sl ?_)
                    refine s_op (o_sub (a := (((ks ++ [([] : List UInt8)]).length : Nat) : Int)) (b := 1) rfl rfl (w64 (by omega) (by omega)) ?_)
                    refine s_op (o_assign (v := (.int .i64 ((((ks ++ [([] : List UInt8)]).length : Nat) : Int) - 1))) rfl ?_)
                    refine s_nil ?_
                    refine t_norm (hK152 _ _ ?_)
                    refine wp_block ?_
                    have hne_ : ∀ a, ks[at2]? = some a → a ≠ k := fun a_ h_ => by have e_ := h_.symm.trans (show ks[at2]? = some _ from hx140); cases e_; exact h141
                    have hln_ : (ks ++ [([] : List UInt8)]).length = ks.length + 1 := by simp
                    let I154 : Nat → (Nat → Value) → World → Prop := fun n__ r__ w__ => ∃ (j : Int) (vc : Value) (sc : List Hp) (cur : List Bs), n__ = j.toNat ∧ Has E w__ [sc, [Hp.one b143 (.cells #[(S ([] : List UInt8))] 9 (0, 0))], [Hp.one b66 (.cells #[(.int .i64 ((readR s).2.1)), (.int .i64 ((readR s).2.2.1)), v59] 24 (0, 0))], s60, [Hp.one b53 (.cells #[(.int .i64 ((readP s).2.1)), (.int .i64 ((readP s).2.2.1)), v47] 24 (0, 0))], s48, [Hp.one b5 (.cells #[(.int .i64 nob), (.int .i64 gsnb), v_lb] 24 (0, 0))], [Hp.one b2 (.cells #[(.int .i64 noa), (.int .i64 gsna), v_la] 24 (0, 0))], R] ∧ (Own 9 1 vc cur.length (cur.map sV) sc) ∧ ((at2 : Int) ≤ j ∧ j ≤ (ks.length : Int)) ∧ (Mov ks cur j.toNat) ∧ r__ 0 = (.agg #[(.int .i64 noa), (.int .i64 gsna), v_la]) ∧ r__ 1 = (.agg #[(.int .i64 nob), (.int .i64 gsnb), v_lb]) ∧ r__ 2 = (S s) ∧ r__ 3 = (.pointer (some ⟨b2, 0, none⟩)) ∧ r__ 4 = (.pointer (some ⟨b5, 0, none⟩)) ∧ r__ 6 = (.bool false) ∧ r__ 7 = (S wnt) ∧ r__ 8 = (.pointer (some ⟨b53, 0, none⟩)) ∧ r__ 9 = (.bool ((readP s).1)) ∧ r__ 10 = (.pointer (some ⟨b66, 0, none⟩)) ∧ r__ 11 = (.bool ((readR s).1)) ∧ r__ 12 = vc ∧ r__ 13 = (.int .i64 (i : Int)) ∧ r__ 14 = (S k) ∧ r__ 15 = (.int .i64 (at2 : Int)) ∧ r__ 16 = (.int .i64 j) ∧ r__ 27 = (.bool (decide (1000 < (s.length : Int)))) ∧ r__ 51 = (.bool (decide ((i : Int) < ((la.length : Nat) : Int) + ((lb.length : Nat) : Int)))) ∧ r__ 100 = (.bool (decide (x139 = k)))
                    refine c_loop I154 _ ⟨((((ks ++ [([] : List UInt8)]).length : Nat) : Int) - 1), v146, s147, (ks ++ [([] : List UInt8)]), rfl, hH150, ho148, (by omega), (by rw [show ((((ks ++ [([] : List UInt8)]).length : Nat) : Int) - 1).toNat = ks.length from by omega]; exact mov_start), e127_0, e127_1, e127_2, e127_3, e127_4, e127_6, e127_7, e127_8, e127_9, e127_10, e127_11, rfl, e127_13, e127_14, e127_15, rfl, e127_27, e127_51, rfl⟩ ?_
                    rintro n_ r157 w155 ⟨j, vc, sc, cur, rfl, hH156, hoc, hj, hmv, e153_0, e153_1, e153_2, e153_3, e153_4, e153_6, e153_7, e153_8, e153_9, e153_10, e153_11, e153_12, e153_13, e153_14, e153_15, e153_16, e153_27, e153_51, e153_100⟩
                    have hml_ := hmv.1
                    refine wp_seq_k fun K158 hK158 => ?_
                    refine wp_seq_k fun K159 hK159 => ?_
                    refine c_region ?_
                    refine s_op (o_move (v := (.int .i64 j)) e153_16 ?_)
                    refine s_op (o_move (v := (.int .i64 (at2 : Int))) e153_15 ?_)
                    refine s_op (o_gtr (a := j) (b := (at2 : Int)) rfl rfl ?_)
                    refine s_nil ?_
                    refine t_norm (hK159 _ _ ?_)
                    refine c_cond rfl (fun h160 => ?_) (fun h160 => ?_)
                    · -- (at2 : Int) < j
                      refine wp_skip ?_
                      refine t_norm (hK158 _ _ ?_)
                      refine wp_seq_k fun K161 hK161 => ?_
                      refine wp_block ?_
                      refine c_region ?_
                      refine s_op (o_move (v := vc) e153_12 ?_)
                      refine s_op (o_move (v := (.int .i64 j)) e153_16 ?_)
                      refine s_op (o_move (v := vc) e153_12 ?_)
                      refine s_op (o_move (v := (.int .i64 j)) e153_16 ?_)
                      refine s_op (o_sub (a := j) (b := 1) rfl rfl (w64 (by omega) (by omega)) ?_)
                      obtain ⟨x165, hx166⟩ : ∃ x_, cur[(j - 1).toNat]? = some x_ := get_some (by omega)
                      refine s_op (o_index1 Tryd.underlying32 ti9 rfl hoc.sl rfl (by omega) hx166 fun b162 o163 hc164 => ?_)
                      refine s_op (o_load1 (v := (S x165)) Tryd.underlying9 rfl rfl hH156 (seg_sub 0 rfl) hc164 ?_)
                      refine s_op (o_ownAddr Tryd.underlying32 ti9 rfl hoc rfl (by omega) (by first | omega | (simp only [List.length_append, List.length_cons, List.length_nil, List.length_set]; omega)) fun b167 ho168 => ?_)
                      refine s_eff (o_ownStore (f := sV) (l := cur) (a := x165) ti9 rfl rfl rfl ho168 (by first | omega | (simp only [List.length_append, List.length_cons, List.length_nil, List.length_set]; omega)) hH156 fun s169 w170 ho171 hH172 => ?_)
                      refine s_nil ?_
                      refine b_norm ?_
                      refine t_norm (hK161 _ _ ?_)
                      refine c_region ?_
                      refine s_op (o_move (v := (.int .i64 j)) e153_16 ?_)
                      refine s_op (o_sub (a := j) (b := 1) rfl rfl (w64 (by omega) (by omega)) ?_)
                      refine s_op (o_assign (v := (.int .i64 (j - 1))) rfl ?_)
                      refine s_nil ?_
                      refine t_norm ⟨(j - 1).toNat, _, rfl, ?_, ?_⟩
                      · omega
                      · exact ⟨(j - 1), vc, s169, (cur.set ((j).toNat) x165), rfl, hH172, (ho171), (by omega), (by rw [show j.toNat = (j - 1).toNat + 1 from by omega]; exact mov_step (by rw [show (j - 1).toNat + 1 = j.toNat from by omega]; exact hmv) (by omega) hx166), e153_0, e153_1, e153_2, e153_3, e153_4, e153_6, e153_7, e153_8, e153_9, e153_10, e153_11, e153_12, e153_13, e153_14, e153_15, rfl, e153_27, e153_51, e153_100⟩
                    · -- not: (at2 : Int) < j
                      refine wp_exit ?_
                      refine t_exit (t_exit (x_in (?_)))
                      refine t_norm (hK151 _ _ ?_)
                      refine c_region ?_
                      refine s_op (o_move (v := vc) e153_12 ?_)
                      refine s_op (o_move (v := (.int .i64 (at2 : Int))) e153_15 ?_)
                      refine s_op (o_move (v := (S k)) e153_14 ?_)
                      refine s_op (o_ownAddr Tryd.underlying32 ti9 rfl hoc rfl (by omega) (by first | omega | (simp only [List.length_append, List.length_cons, List.length_nil, List.length_set]; omega)) fun b173 ho174 => ?_)
                      refine s_eff (o_ownStore (f := sV) (l := cur) (a := k) ti9 rfl rfl rfl ho174 (by first | omega | (simp only [List.length_append, List.length_cons, List.length_nil, List.length_set]; omega)) hH156 fun s175 w176 ho177 hH178 => ?_)
                      refine s_nil ?_
                      refine b_norm ?_
                      refine t_norm (hK116 _ _ ?_)
                      refine c_region ?_
                      refine s_op (o_move (v := (.int .i64 (i : Int))) e153_13 ?_)
                      refine s_op (o_add (a := (i : Int)) (b := 1) rfl rfl (w64 (by omega) (by omega)) ?_)
                      refine s_op (o_assign (v := (.int .i64 ((i : Int) + 1))) rfl ?_)
                      refine s_nil ?_
                      have hH179 : Has E w176 [s175, [Hp.one b66 (.cells #[(.int .i64 ((readR s).2.1)), (.int .i64 ((readR s).2.2.1)), v59] 24 (0, 0))], s60, [Hp.one b53 (.cells #[(.int .i64 ((readP s).2.1)), (.int .i64 ((readP s).2.2.1)), v47] 24 (0, 0))], s48, [Hp.one b5 (.cells #[(.int .i64 nob), (.int .i64 gsnb), v_lb] 24 (0, 0))], [Hp.one b2 (.cells #[(.int .i64 noa), (.int .i64 gsna), v_la] 24 (0, 0))], R] := Has.pick hH178 [0, 1, 1, 1, 1, 1, 1, 1] (by kernel_rfl)
                      refine t_norm ⟨la.length + lb.length - (i + 1), _, rfl, ?_, ?_⟩
                      · omega
                      · exact ⟨(i + 1), vc, s175, (cur.set (((at2 : Int)).toNat) k), rfl, hH179, (ho177), (by have h_ := mov_end (k := k) hmv (by omega); rw [show j.toNat = at2 from by omega] at h_; show KsOk (cur.set at2 k) _; rw [h_]; exact ks_ins hks hk hat2 hlo2 (fun a_ h_ => ⟨hnl a_ h_, hne_ a_ h_⟩)), (by omega), (by rw [List.length_set]; have h_ := hmv.1; omega), e153_0, e153_1, e153_2, e153_3, e153_4, e153_6, e153_7, e153_8, e153_9, e153_10, e153_11, e153_12, rfl, e153_27⟩
                · -- not: (at2 : Int) < ((ks.length : Nat) : Int)
                  refine s_off (b' := false) 93 rfl (congrArg Value.bool (decide_eq_false h135)) rfl ?_
                  refine s_off (b' := false) 93 rfl (congrArg Value.bool (decide_eq_false h135)) rfl ?_
                  refine s_off (b' := false) 93 rfl (congrArg Value.bool (decide_eq_false h135)) rfl ?_
                  refine s_off (b' := false) 93 rfl (congrArg Value.bool (decide_eq_false h135)) rfl ?_
                  refine s_off (b' := false) 93 rfl (congrArg Value.bool (decide_eq_false h135)) rfl ?_
                  refine s_off (b' := false) 93 rfl (congrArg Value.bool (decide_eq_false h135)) rfl ?_
                  refine s_op (o_pick_f (u := (.bool false)) ((rfl : _ = _).trans (congrArg Value.bool (decide_eq_false h135))) rfl ?_)
                  refine s_nil ?_
                  refine t_norm (hK134 _ _ ?_)
                  refine c_false rfl rfl ?_
                  refine wp_skip ?_
                  refine t_norm (hK133 _ _ ?_)
                  refine wp_seq_k fun K180 hK180 => ?_
                  refine c_region ?_
                  refine s_op (o_move (v := vk) e127_12 ?_)
                  refine s_op (o_buildSlice (ps := #[(0, (S ([] : List UInt8)))]) (cells := #[(S ([] : List UInt8))]) Tryd.underlying32 ti9 (by decide) (parts1 rfl) (by kernel_rfl) hH131 fun b181 w182 hH183 => ?_)
                  refine s_op (o_append Tryd.underlying32 ti9 rfl (by decide) rfl hok rfl (sl_lit (f := sV) (l := [([] : List UInt8)]) rfl rfl (by simp)) (hH183.front 1 rfl) (seg_sub 0 rfl) (one_sV _) (by simp; omega) (by simp; omega) fun v184 s185 w187 ho186 hH188 => ?_)
                  have ho186 : Own 9 1 v184 (ks ++ [([] : List UInt8)]).length ((ks ++ [([] : List UInt8)]).map sV) s185 := ho186.app
                  refine s_op (o_assign (v := v184) rfl ?_)
                  refine s_nil ?_
                  refine t_norm (hK180 _ _ ?_)
                  refine wp_seq_k fun K189 hK189 => ?_
                  refine wp_seq_k fun K190 hK190 => ?_
                  refine c_region ?_
                  refine s_op (o_move (v := v184) rfl ?_)
                  refine s_op (o_lenS Tryd.underlying32 rfl ho186.sl ?_)
                  refine s_op (o_sub (a := (((ks ++ [([] : List UInt8)]).length : Nat) : Int)) (b := 1) rfl rfl (w64 (by omega) (by omega)) ?_)
                  refine s_op (o_assign (v := (.int .i64 ((((ks ++ [([] : List UInt8)]).length : Nat) : Int) - 1))) rfl ?_)
                  refine s_nil ?_
                  refine t_norm (hK190 _ _ ?_)
                  refine wp_block ?_
                  have hne_ : ∀ a, ks[at2]? = some a → a ≠ k := fun a_ h_ => absurd (List.getElem?_eq_some_iff.1 h_).1 (by omega)
                  have hln_ : (ks ++ [([] : List UInt8)]).length = ks.length + 1 := by simp
                  let I192 : Nat → (Nat → Value) → World → Prop := fun n__ r__ w__ => ∃ (j : Int) (vc : Value) (sc : List Hp) (cur : List Bs), n__ = j.toNat ∧ Has E w__ [sc, [Hp.one b181 (.cells #[(S ([] : List UInt8))] 9 (0, 0))], [Hp.one b66 (.cells #[(.int .i64 ((readR s).2.1)), (.int .i64 ((readR s).2.2.1)), v59] 24 (0, 0))], s60, [Hp.one b53 (.cells #[(.int .i64 ((readP s).2.1)), (.int .i64 ((readP s).2.2.1)), v47] 24 (0, 0))], s48, [Hp.one b5 (.cells #[(.int .i64 nob), (.int .i64 gsnb), v_lb] 24 (0, 0))], [Hp.one b2 (.cells #[(.int .i64 noa), (.int .i64 gsna), v_la] 24 (0, 0))], R] ∧ (Own 9 1 vc cur.length (cur.map sV) sc) ∧ ((at2 : Int) ≤ j ∧ j ≤ (ks.length : Int)) ∧ (Mov ks cur j.toNat) ∧ r__ 0 = (.agg #[(.int .i64 noa), (.int .i64 gsna), v_la]) ∧ r__ 1 = (.agg #[(.int .i64 nob), (.int .i64 gsnb), v_lb]) ∧ r__ 2 = (S s) ∧ r__ 3 = (.pointer (some ⟨b2, 0, none⟩)) ∧ r__ 4 = (.pointer (some ⟨b5, 0, none⟩)) ∧ r__ 6 = (.bool false) ∧ r__ 7 = (S wnt) ∧ r__ 8 = (.pointer (some ⟨b53, 0, none⟩)) ∧ r__ 9 = (.bool ((readP s).1)) ∧ r__ 10 = (.pointer (some ⟨b66, 0, none⟩)) ∧ r__ 11 = (.bool ((readR s).1)) ∧ r__ 12 = vc ∧ r__ 13 = (.int .i64 (i : Int)) ∧ r__ 14 = (S k) ∧ r__ 15 = (.int .i64 (at2 : Int)) ∧ r__ 16 = (.int .i64 j) ∧ r__ 27 = (.bool (decide (1000 < (s.length : Int)))) ∧ r__ 51 = (.bool (decide ((i : Int) < ((la.length : Nat) : Int) + ((lb.length : Nat) : Int)))) ∧ r__ 100 = (.bool false)
                  refine c_loop I192 _ ⟨((((ks ++ [([] : List UInt8)]).length : Nat) : Int) - 1), v184, s185, (ks ++ [([] : List UInt8)]), rfl, hH188, ho186, (by omega), (by rw [show ((((ks ++ [([] : List UInt8)]).length : Nat) : Int) - 1).toNat = ks.length from by omega]; exact mov_start), e127_0, e127_1, e127_2, e127_3, e127_4, e127_6, e127_7, e127_8, e127_9, e127_10, e127_11, rfl, e127_13, e127_14, e127_15, rfl, e127_27, e127_51, rfl⟩ ?_
                  rintro n_ r195 w193 ⟨j, vc, sc, cur, rfl, hH194, hoc, hj, hmv, e191_0, e191_1, e191_2, e191_3, e191_4, e191_6, e191_7, e191_8, e191_9, e191_10, e191_11, e191_12, e191_13, e191_14, e191_15, e191_16, e191_27, e191_51, e191_100⟩
                  have hml_ := hmv.1
                  refine wp_seq_k fun K196 hK196 => ?_
                  refine wp_seq_k fun K197 hK197 => ?_
                  refine c_region ?_
                  refine s_op (o_move (v := (.int .i64 j)) e191_16 ?_)
                  refine s_op (o_move (v := (.int .i64 (at2 : Int))) e191_15 ?_)
                  refine s_op (o_gtr (a := j) (b := (at2 : Int)) rfl rfl ?_)
                  refine s_nil ?_
                  refine t_norm (hK197 _ _ ?_)
                  refine c_cond rfl (fun h198 => ?_) (fun h198 => ?_)
                  · -- (at2 : Int) < j
                    refine wp_skip ?_
                    refine t_norm (hK196 _ _ ?_)
                    refine wp_seq_k fun K199 hK199 => ?_
                    refine wp_block ?_
                    refine c_region ?_
                    refine s_op (o_move (v := vc) e191_12 ?_)
                    refine s_op (o_move (v := (.int .i64 j)) e191_16 ?_)
                    refine s_op (o_move (v := vc) e191_12 ?_)
                    refine s_op (o_move (v := (.int .i64 j)) e191_16 ?_)
                    refine s_op (o_sub (a := j) (b := 1) rfl rfl (w64 (by omega) (by omega)) ?_)
                    obtain ⟨x203, hx204⟩ : ∃ x_, cur[(j - 1).toNat]? = some x_ := get_some (by omega)
                    refine s_op (o_index1 Tryd.underlying32 ti9 rfl hoc.sl rfl (by omega) hx204 fun b200 o201 hc202 => ?_)
                    refine s_op (o_load1 (v := (S x203)) Tryd.underlying9 rfl rfl hH194 (seg_sub 0 rfl) hc202 ?_)
                    refine s_op (o_ownAddr Tryd.underlying32 ti9 rfl hoc rfl (by omega) (by first | omega | (simp only [List.length_append, List.length_cons, List.length_nil, List.length_set]; omega)) fun b205 ho206 => ?_)
                    refine s_eff (o_ownStore (f := sV) (l := cur) (a := x203) ti9 rfl rfl rfl ho206 (by first | omega | (simp only [List.length_append, List.length_cons, List.length_nil, List.length_set]; omega)) hH194 fun s207 w208 ho209 hH210 => ?_)
                    refine s_nil ?_
                    refine b_norm ?_
                    refine t_norm (hK199 _ _ ?_)
                    refine c_region ?_
                    refine s_op (o_move (v := (.int .i64 j)) e191_16 ?_)
                    refine s_op (o_sub (a := j) (b := 1) rfl rfl (w64 (by omega) (by omega)) ?_)
                    refine s_op (o_assign (v := (.int .i64 (j - 1))) rfl ?_)
                    refine s_nil ?_
                    refine t_norm ⟨(j - 1).toNat, _, rfl, ?_, ?_⟩
                    · omega
                    · exact ⟨(j - 1), vc, s207, (cur.set ((j).toNat) x203), rfl, hH210, (ho209), (by omega), (by rw [show j.toNat = (j - 1).toNat + 1 from by omega]; exact mov_step (by rw [show (j - 1).toNat + 1 = j.toNat from by omega]; exact hmv) (by omega) hx204), e191_0, e191_1, e191_2, e191_3, e191_4, e191_6, e191_7, e191_8, e191_9, e191_10, e191_11, e191_12, e191_13, e191_14, e191_15, rfl, e191_27, e191_51, e191_100⟩
                  · -- not: (at2 : Int) < j
                    refine wp_exit ?_
                    refine t_exit (t_exit (x_in (?_)))
                    refine t_norm (hK189 _ _ ?_)
                    refine c_region ?_
                    refine s_op (o_move (v := vc) e191_12 ?_)
                    refine s_op (o_move (v := (.int .i64 (at2 : Int))) e191_15 ?_)
                    refine s_op (o_move (v := (S k)) e191_14 ?_)
                    refine s_op (o_ownAddr Tryd.underlying32 ti9 rfl hoc rfl (by omega) (by first | omega | (simp only [List.length_append, List.length_cons, List.length_nil, List.length_set]; omega)) fun b211 ho212 => ?_)
                    refine s_eff (o_ownStore (f := sV) (l := cur) (a := k) ti9 rfl rfl rfl ho212 (by first | omega | (simp only [List.length_append, List.length_cons, List.length_nil, List.length_set]; omega)) hH194 fun s213 w214 ho215 hH216 => ?_)
                    refine s_nil ?_
                    refine b_norm ?_
                    refine t_norm (hK116 _ _ ?_)
                    refine c_region ?_
                    refine s_op (o_move (v := (.int .i64 (i : Int))) e191_13 ?_)
                    refine s_op (o_add (a := (i : Int)) (b := 1) rfl rfl (w64 (by omega) (by omega)) ?_)
                    refine s_op (o_assign (v := (.int .i64 ((i : Int) + 1))) rfl ?_)
                    refine s_nil ?_
                    have hH217 : Has E w214 [s213, [Hp.one b66 (.cells #[(.int .i64 ((readR s).2.1)), (.int .i64 ((readR s).2.2.1)), v59] 24 (0, 0))], s60, [Hp.one b53 (.cells #[(.int .i64 ((readP s).2.1)), (.int .i64 ((readP s).2.2.1)), v47] 24 (0, 0))], s48, [Hp.one b5 (.cells #[(.int .i64 nob), (.int .i64 gsnb), v_lb] 24 (0, 0))], [Hp.one b2 (.cells #[(.int .i64 noa), (.int .i64 gsna), v_la] 24 (0, 0))], R] := Has.pick hH216 [0, 1, 1, 1, 1, 1, 1, 1] (by kernel_rfl)
                    refine t_norm ⟨la.length + lb.length - (i + 1), _, rfl, ?_, ?_⟩
                    · omega
                    · exact ⟨(i + 1), vc, s213, (cur.set (((at2 : Int)).toNat) k), rfl, hH217, (ho215), (by have h_ := mov_end (k := k) hmv (by omega); rw [show j.toNat = at2 from by omega] at h_; show KsOk (cur.set at2 k) _; rw [h_]; exact ks_ins hks hk hat2 hlo2 (fun a_ h_ => ⟨hnl a_ h_, hne_ a_ h_⟩)), (by omega), (by rw [List.length_set]; have h_ := hmv.1; omega), e191_0, e191_1, e191_2, e191_3, e191_4, e191_6, e191_7, e191_8, e191_9, e191_10, e191_11, e191_12, rfl, e191_27⟩
              refine wp_block ?_
              let I219 : Nat → (Nat → Value) → World → Prop := fun n__ r__ w__ => ∃ (at_ : Nat), n__ = ks.length - at_ ∧ Has E w__ [sk, [Hp.one b66 (.cells #[(.int .i64 ((readR s).2.1)), (.int .i64 ((readR s).2.2.1)), v59] 24 (0, 0))], s60, [Hp.one b53 (.cells #[(.int .i64 ((readP s).2.1)), (.int .i64 ((readP s).2.2.1)), v47] 24 (0, 0))], s48, [Hp.one b5 (.cells #[(.int .i64 nob), (.int .i64 gsnb), v_lb] 24 (0, 0))], [Hp.one b2 (.cells #[(.int .i64 noa), (.int .i64 gsna), v_la] 24 (0, 0))], R] ∧ (at_ ≤ ks.length) ∧ (∀ a ∈ ks.take at_, a < k) ∧ r__ 0 = (.agg #[(.int .i64 noa), (.int .i64 gsna), v_la]) ∧ r__ 1 = (.agg #[(.int .i64 nob), (.int .i64 gsnb), v_lb]) ∧ r__ 2 = (S s) ∧ r__ 3 = (.pointer (some ⟨b2, 0, none⟩)) ∧ r__ 4 = (.pointer (some ⟨b5, 0, none⟩)) ∧ r__ 6 = (.bool false) ∧ r__ 7 = (S wnt) ∧ r__ 8 = (.pointer (some ⟨b53, 0, none⟩)) ∧ r__ 9 = (.bool ((readP s).1)) ∧ r__ 10 = (.pointer (some ⟨b66, 0, none⟩)) ∧ r__ 11 = (.bool ((readR s).1)) ∧ r__ 12 = vk ∧ r__ 13 = (.int .i64 (i : Int)) ∧ r__ 14 = (S k) ∧ r__ 15 = (.int .i64 (at_ : Int)) ∧ r__ 27 = (.bool (decide (1000 < (s.length : Int)))) ∧ r__ 51 = (.bool (decide ((i : Int) < ((la.length : Nat) : Int) + ((lb.length : Nat) : Int))))
              refine c_loop I219 _ ⟨0, rfl, hH123, Nat.zero_le _, (by simp), e119_0, e119_1, e119_2, e119_3, e119_4, e119_6, e119_7, e119_8, e119_9, e119_10, e119_11, e119_12, e119_13, e119_14, rfl, e119_27, e119_51⟩ ?_
              rintro n_ r222 w220 ⟨at_, rfl, hH221, hat, hlo, e218_0, e218_1, e218_2, e218_3, e218_4, e218_6, e218_7, e218_8, e218_9, e218_10, e218_11, e218_12, e218_13, e218_14, e218_15, e218_27, e218_51⟩
              refine wp_seq_k fun K223 hK223 => ?_
              refine wp_seq_k fun K224 hK224 => ?_
              refine c_region ?_
              refine s_op (o_move (v := (.int .i64 (at_ : Int))) e218_15 ?_)
              refine s_op (o_move (v := vk) e218_12 ?_)
              refine s_op (o_lenS Tryd.underlying32 rfl hok.sl ?_)
              refine s_op (o_lss (a := (at_ : Int)) (b := ((ks.length : Nat) : Int)) rfl rfl ?_)
              refine s_op (o_move (v := (.bool (decide ((at_ : Int) < ((ks.length : Nat) : Int))))) rfl ?_)
              by_cases h225 : (at_ : Int) < ((ks.length : Nat) : Int)
              · -- (at_ : Int) < ((ks.length : Nat) : Int)
                refine s_on 79 rfl (congrArg Value.bool (decide_eq_true h225)) (o_move (v := vk) e218_12 ?_)
                refine s_on 79 rfl (congrArg Value.bool (decide_eq_true h225)) (o_move (v := (.int .i64 (at_ : Int))) e218_15 ?_)
                obtain ⟨x229, hx230⟩ : ∃ x_, ks[((at_ : Int)).toNat]? = some x_ := get_some (by omega)
                refine s_on 79 rfl (congrArg Value.bool (decide_eq_true h225)) (o_index1 Tryd.underlying32 ti9 rfl hok.sl rfl (by omega) hx230 fun b226 o227 hc228 => ?_)
                refine s_on 79 rfl (congrArg Value.bool (decide_eq_true h225)) (o_load1 (v := (S x229)) Tryd.underlying9 rfl rfl hH221 (seg_sub 0 rfl) hc228 ?_)
                refine s_on 79 rfl (congrArg Value.bool (decide_eq_true h225)) (o_move (v := (S k)) e218_14 ?_)
                refine s_on 79 rfl (congrArg Value.bool (decide_eq_true h225)) (o_sltP (a := x229) (b := k) rfl rfl ?_)
                refine s_op (o_pick_t (u := (.bool (decide (x229 < k)))) ((rfl : _ = _).trans (congrArg Value.bool (decide_eq_true h225))) rfl ?_)
                refine s_nil ?_
                refine t_norm (hK224 _ _ ?_)
                refine c_cond rfl (fun h231 => ?_) (fun h231 => ?_)
                · -- x229 < k
                  refine wp_skip ?_
                  refine t_norm (hK223 _ _ ?_)
                  refine wp_block ?_
                  refine c_region ?_
                  refine s_op (o_move (v := (.int .i64 (at_ : Int))) e218_15 ?_)
                  refine s_op (o_add (a := (at_ : Int)) (b := 1) rfl rfl (w64 (by omega) (by omega)) ?_)
                  refine s_op (o_assign (v := (.int .i64 ((at_ : Int) + 1))) rfl ?_)
                  refine s_nil ?_
                  refine b_norm ?_
                  refine t_norm ⟨ks.length - (at_ + 1), _, rfl, ?_, ?_⟩
                  · omega
                  · exact ⟨(at_ + 1), rfl, hH221, (by omega), (lo_nextK hlo (show ks[at_]? = some _ from hx230) h231), e218_0, e218_1, e218_2, e218_3, e218_4, e218_6, e218_7, e218_8, e218_9, e218_10, e218_11, e218_12, e218_13, e218_14, rfl, e218_27, e218_51⟩
                · -- not: x229 < k
                  refine wp_exit ?_
                  refine t_exit (t_exit (x_in (?_)))
                  refine t_norm (hJ129 _ _ ⟨at_, hH221, (hat), (hlo), (fun a_ h_ => by have e_ := h_.symm.trans (show ks[at_]? = some _ from hx230); cases e_; exact h231), e218_0, e218_1, e218_2, e218_3, e218_4, e218_6, e218_7, e218_8, e218_9, e218_10, e218_11, e218_12, e218_13, e218_14, e218_15, e218_27, e218_51⟩)
              · -- not: (at_ : Int) < ((ks.length : Nat) : Int)
                refine s_off (b' := false) 79 rfl (congrArg Value.bool (decide_eq_false h225)) rfl ?_
                refine s_off (b' := false) 79 rfl (congrArg Value.bool (decide_eq_false h225)) rfl ?_
                refine s_off (b' := false) 79 rfl (congrArg Value.bool (decide_eq_false h225)) rfl ?_
                refine s_off (b' := false) 79 rfl (congrArg Value.bool (decide_eq_false h225)) rfl ?_
                refine s_off (b' := false) 79 rfl (congrArg Value.bool (decide_eq_false h225)) rfl ?_
                refine s_off (b' := false) 79 rfl (congrArg Value.bool (decide_eq_false h225)) rfl ?_
                refine s_op (o_pick_f (u := (.bool false)) ((rfl : _ = _).trans (congrArg Value.bool (decide_eq_false h225))) rfl ?_)
                refine s_nil ?_
                refine t_norm (hK224 _ _ ?_)
                refine c_false rfl rfl ?_
                refine wp_exit ?_
                refine t_exit (t_exit (x_in (?_)))
                refine t_norm (hJ129 _ _ ⟨at_, hH221, (hat), (hlo), (fun a_ h_ => absurd (List.getElem?_eq_some_iff.1 h_).1 (by omega)), e218_0, e218_1, e218_2, e218_3, e218_4, e218_6, e218_7, e218_8, e218_9, e218_10, e218_11, e218_12, e218_13, e218_14, e218_15, e218_27, e218_51⟩)
            refine wp_seq_k fun K232 hK232 => ?_
            refine c_region ?_
            refine s_op (o_move (v := (.int .i64 (i : Int))) e107_13 ?_)
            refine s_op (o_fieldAddr (k := 2) (fun _ => by kernel_rfl) e107_3 ?_)
            refine s_op (o_load1 (v := v_la) Tryd.underlying22 rfl rfl hH111 (seg_sub 6 rfl) (CellsAt.one rfl) ?_)
            refine s_op (o_lenS Tryd.underlying22 rfl h_la ?_)
            refine s_op (o_lss (a := (i : Int)) (b := ((la.length : Nat) : Int)) rfl rfl ?_)
            refine s_nil ?_
            refine t_norm (hK232 _ _ ?_)
            refine c_cond rfl (fun h233 => ?_) (fun h233 => ?_)
            · -- (i : Int) < ((la.length : Nat) : Int)
              refine c_region ?_
              refine s_op (o_fieldAddr (k := 2) (fun _ => by kernel_rfl) e107_3 ?_)
              refine s_op (o_load1 (v := v_la) Tryd.underlying22 rfl rfl hH111 (seg_sub 6 rfl) (CellsAt.one rfl) ?_)
              refine s_op (o_move (v := (.int .i64 (i : Int))) e107_13 ?_)
              obtain ⟨x237, hx238⟩ : ∃ x_, la[((i : Int)).toNat]? = some x_ := get_some (by omega)
              refine s_op (o_indexF ceC_len Tryd.underlying22 ti45 rfl h_la rfl rfl (by omega) hx238 fun b234 o235 hc236 => ?_)
              refine s_op (o_fieldAddr (k := o235) (fun _ => by kernel_rfl) rfl ?_)
              refine s_op (o_load1 (v := (S x237.1)) Tryd.underlying9 rfl rfl hH111 (seg_sub 7 rfl) (CellsAt.field (k := 0) (ds := [(S x237.1)]) hc236 rfl) ?_)
              refine s_op (o_assign (v := (S x237.1)) rfl ?_)
              refine s_nil ?_
              refine t_norm (hJ121 _ _ ⟨x237.1, hH111, (kk_a (show la[i]? = some _ from hx238)), e107_0, e107_1, e107_2, e107_3, e107_4, e107_6, e107_7, e107_8, e107_9, e107_10, e107_11, e107_12, e107_13, rfl, e107_27, rfl⟩)
            · -- not: (i : Int) < ((la.length : Nat) : Int)
              refine c_region ?_
              refine s_op (o_fieldAddr (k := 2) (fun _ => by kernel_rfl) e107_4 ?_)
              refine s_op (o_load1 (v := v_lb) Tryd.underlying22 rfl rfl hH111 (seg_sub 5 rfl) (CellsAt.one rfl) ?_)
              refine s_op (o_move (v := (.int .i64 (i : Int))) e107_13 ?_)
              refine s_op (o_fieldAddr (k := 2) (fun _ => by kernel_rfl) e107_3 ?_)
              refine s_op (o_load1 (v := v_la) Tryd.underlying22 rfl rfl hH111 (seg_sub 6 rfl) (CellsAt.one rfl) ?_)
              refine s_op (o_lenS Tryd.underlying22 rfl h_la ?_)
              refine s_op (o_sub (a := (i : Int)) (b := ((la.length : Nat) : Int)) rfl rfl (w64 (by omega) (by omega)) ?_)
              obtain ⟨x242, hx243⟩ : ∃ x_, lb[((i : Int) - ((la.length : Nat) : Int)).toNat]? = some x_ := get_some (by omega)
              refine s_op (o_indexF ceC_len Tryd.underlying22 ti45 rfl h_lb rfl rfl (by omega) hx243 fun b239 o240 hc241 => ?_)
              refine s_op (o_fieldAddr (k := o240) (fun _ => by kernel_rfl) rfl ?_)
              refine s_op (o_load1 (v := (S x242.1)) Tryd.underlying9 rfl rfl hH111 (seg_sub 7 rfl) (CellsAt.field (k := 0) (ds := [(S x242.1)]) hc241 rfl) ?_)
              refine s_op (o_assign (v := (S x242.1)) rfl ?_)
              refine s_nil ?_
              refine t_norm (hJ121 _ _ ⟨x242.1, hH111, (kk_b (show lb[((i : Int) - ((la.length : Nat) : Int)).toNat]? = some _ from hx243) (by omega)), e107_0, e107_1, e107_2, e107_3, e107_4, e107_6, e107_7, e107_8, e107_9, e107_10, e107_11, e107_12, e107_13, rfl, e107_27, rfl⟩)
          · -- not: (i : Int) < ((la.length : Nat) : Int) + ((lb.length : Nat) : Int)
            refine wp_exit ?_
            refine t_exit (t_exit (x_in (?_)))
            refine t_norm (hJ75 _ _ ⟨vk, sk, ks, hH111, (hok), (by (have e_ : i = (la.map (fun c => c.1) ++ lb.map (fun c => c.1)).length := by simp only [List.length_append, List.length_map]; omega); rw [e_, List.take_length] at hks; exact hks), e107_0, e107_1, e107_2, e107_3, e107_4, e107_6, e107_7, e107_8, e107_9, e107_10, e107_11, e107_12, e107_27⟩)
        refine wp_seq_k fun K244 hK244 => ?_
        refine c_region ?_
        refine s_op (o_loadN (cs := [(.int .i64 noa), (.int .i64 gsna), v_la]) Tryd.underlying24 rfl ti24 rfl hH24 (seg_sub 1 rfl) (CellsAt.one rfl) ?_)
        refine s_op (o_callf (vs := #[(.agg #[(.int .i64 noa), (.int .i64 gsna), v_la])]) ca11 rfl (args1 rfl) (r11right_c (no := noa) (gsn := gsna) (l := la) hH24.all (h_la.mono (seg_sub 2 rfl))) ?_)
        rintro _ w247 ⟨rfl, hX245⟩
        refine ⟨_, rfl, ?_⟩
        have hH246 := hX245.of_all
        refine s_nil ?_
        refine t_norm (hK244 _ _ ?_)
        refine c_condb rfl (fun h248 => ?_) (fun h248 => ?_)
        · -- (pageR noa gsna la)
          refine c_region ?_
          refine s_op (o_loadN (cs := [(.int .i64 noa), (.int .i64 gsna), v_la]) Tryd.underlying24 rfl ti24 rfl hH246 (seg_sub 1 rfl) (CellsAt.one rfl) ?_)
          refine s_op (o_callf (vs := #[(.agg #[(.int .i64 noa), (.int .i64 gsna), v_la])]) ca18 rfl (args1 rfl) (r11laid_c (no := noa) (gsn := gsna) (l := la) hH246.all (h_la.mono (seg_sub 2 rfl)) (by first | (simpa using h248))) ?_)
          rintro _ w251 ⟨rfl, hX249⟩
          refine ⟨_, rfl, ?_⟩
          have hH250 := hX249.of_all
          refine s_op (o_assign (v := (S (laidP noa gsna la))) rfl ?_)
          refine s_nil ?_
          refine t_norm (hJ42 _ _ ⟨(laidP noa gsna la), hH250, (rfl), rfl, rfl, rfl, rfl, rfl, rfl, rfl, rfl⟩)
        · -- not: (pageR noa gsna la)
          refine wp_skip ?_
          refine t_norm (hJ42 _ _ ⟨([] : List UInt8), hH246, ((laidP_no h248).symm), rfl, rfl, rfl, rfl, rfl, rfl, rfl, rfl⟩)
end Go.Q
namespace Go.Q
section
variable {H : Type} {enc : TypeId × Value → H} {P : Program} {w : World} {t e : TypeId} {cs : List Value}
/-- These cells read as a value of the type. -/
def Rd (enc : TypeId × Value → H) (P : Program) (w : World) (t : TypeId) (cs : List Value) : Prop := ∃ fuel x, DataW.trod enc P w 0 (fun _ => true) true fuel t cs = some x
theorem rd_of {v : Value} {d : DataW H} {ps : List MemPlace} (h : DataW.Trod enc P w 0 (fun _ => true) true t v d ps) : Rd enc P w t v.cells.toList := ⟨h.choose, _, h.choose_spec⟩
theorem rd_int {k : IntKind} (ht : P.underlying t = some (.int k)) (h : Rd enc P w t cs) : ∃ n, cs = [.int k n] ∧ (Lit.int k n).wf = true := by
  obtain ⟨f, x, h⟩ := h
  obtain ⟨n, h1, _, h2⟩ := DataW.trod_int ht h
  exact ⟨n, h1, h2⟩
theorem rd_i64 (ht : P.underlying t = some (.int .i64)) (h : Rd enc P w t cs) : ∃ n, cs = [iV n] ∧ (-9223372036854775808 : Int) ≤ n ∧ n ≤ 9223372036854775807 := by
  obtain ⟨n, h1, h2⟩ := rd_int ht h
  exact ⟨n, h1, wf_i64 h2⟩
theorem rd_string (ht : P.underlying t = some .string) (h : Rd enc P w t cs) : ∃ l : List UInt8, cs = [S l] ∧ l.length ≤ 9223372036854775807 := by
  obtain ⟨f, x, h⟩ := h
  obtain ⟨s, h1, _, h2⟩ := DataW.trod_string ht h
  exact ⟨s.data.toList, by rw [h1, S_of], by rw [show maxLen = 9223372036854775807 from rfl] at h2; exact h2⟩
theorem rd_bool (ht : P.underlying t = some .bool) (h : Rd enc P w t cs) : ∃ b, cs = [.bool b] := by
  obtain ⟨f, x, h⟩ := h
  cases f with
  | zero => simp [DataW.trod] at h
  | succ m =>
    unfold DataW.trod at h
    rw [ht] at h
    split at h <;> simp_all
theorem rd_struct {fs : Array Field} (ht : P.underlying t = some (.struct fs)) (h : Rd enc P w t cs) :
    cs.length = P.cellsOf t ∧ ∀ (i : Nat) (f : Field), fs[i]? = some f → Rd enc P w f.type ((cs.drop f.offset).take (P.cellsOf f.type)) := by
  obtain ⟨f, x, h⟩ := h
  obtain ⟨xs, n, _, _, h1, h2, h3⟩ := DataW.trod_struct ht h
  refine ⟨h1, fun i f hf => ?_⟩
  have hi : i < xs.length := by rw [h2]; exact (Array.getElem?_eq_some_iff.1 hf).1
  exact ⟨n, xs[i], by rw [h3 i f hf, List.getElem?_eq_getElem hi]⟩
theorem rd_field {fs : Array Field} {i k : Nat} {f : Field} {T : TypeId} {ds : List Value} (hf : ∀ (i : Nat) (f : Field), fs[i]? = some f → Rd enc P w f.type ((cs.drop f.offset).take (P.cellsOf f.type)))
    (h : fs[i]? = some f) (hT : f.type = T) (hc : P.cellsOf T = k) (hd : (cs.drop f.offset).take k = ds) : Rd enc P w T ds := by
  have g := hf i f h
  rw [hT, hc, hd] at g
  exact g
theorem rd_slice (ht : P.underlying t = some (.slice e)) (h : Rd enc P w t cs) :
    cs = [.slice none 0 0] ∨ ∃ a len cap, cs = [.slice (some a) len cap] ∧ len ≤ cap ∧ cap ≤ 9223372036854775807 ∧
      ∀ i, i < len → ∃ r : List Value, r.length = P.cellsOf e ∧ Rd enc P w e r ∧ ∀ j, j < P.cellsOf e → w.cell? (a.add (i * P.cellsOf e + j)) = r[j]? := by
  obtain ⟨f, x, h⟩ := h
  rcases DataW.trod_slice ht h with ⟨h, _⟩ | ⟨a, len, cap, elems, rest, n, _, h1, _, _, h2, h3, h4, h5, _⟩
  · exact .inl h
  · refine .inr ⟨a, len, cap, h1, h2, by simpa [maxLen] using h3, fun i hi => ?_⟩
    have hb := h5 i hi
    rw [List.getElem?_eq_getElem (by omega)] at hb
    obtain ⟨r, hr, hd⟩ := Option.bind_eq_some_iff.1 hb
    obtain ⟨_, g1, g2⟩ := World.cells?_some hr
    refine ⟨r, g1, ⟨n, _, hd⟩, fun j hj => ?_⟩
    rw [← g2 j hj, Addr.add_add]
/-- A row, by how its elements read. -/
theorem rd_rows {α : Type} {f : α → List Value} {Good : α → Prop} {sz : Nat} (ht : P.underlying t = some (.slice e)) (hc : P.cellsOf e = sz) (h0 : 0 < sz) (hf : ∀ a, (f a).length = sz)
    (each : ∀ r, Rd enc P w e r → ∃ a, r = f a ∧ Good a) (h : Rd enc P w t cs) : ∃ (v : Value) (l : List α), cs = [v] ∧ Sl [Hp.of w] sz v l.length (l.flatMap f) ∧ ∀ a ∈ l, Good a := by
  subst hc
  rcases rd_slice ht h with rfl | ⟨a, len, cap, rfl, h1, h2, h3⟩
  · exact ⟨_, [], rfl, ⟨none, 0, rfl, Nat.le_refl _, by omega, by simp, fun g => by simp at g⟩, fun a ha => by cases ha⟩
  · have key : ∀ k, k ≤ len → ∃ l : List α, l.length = k ∧ (∀ a ∈ l, Good a) ∧ ∀ i v, (l.flatMap f)[i]? = some v → w.cell? (a.add i) = some v := by
      intro k
      induction k with
      | zero => intro _; exact ⟨[], rfl, fun a ha => (by cases ha), fun i v hv => by simp at hv⟩
      | succ k ih =>
        intro hk
        obtain ⟨l, hl, hg, hcell⟩ := ih (by omega)
        obtain ⟨r, hr, hd, hrc⟩ := h3 k (by omega)
        obtain ⟨y, rfl, hy⟩ := each r hd
        refine ⟨l ++ [y], by simp [hl], fun a ha => ?_, fun i v hv => ?_⟩
        · rcases List.mem_append.1 ha with g | g
          · exact hg a g
          · rw [List.mem_singleton.1 g]; exact hy
        · rw [List.flatMap_append, List.flatMap_cons, List.flatMap_nil, List.append_nil] at hv
          have hlen := flat_len hf l
          rcases Nat.lt_or_ge i (l.flatMap f).length with g | g
          · rw [List.getElem?_append_left g] at hv; exact hcell i v hv
          · rw [List.getElem?_append_right g] at hv
            have hj : i - (l.flatMap f).length < P.cellsOf e := by rw [← hr]; exact (List.getElem?_eq_some_iff.1 hv).1
            have := hrc (i - (l.flatMap f).length) hj
            rw [hv] at this
            rw [← this]; congr 2
            rw [hlen, hl] at g hj ⊢; omega
    obtain ⟨l, hl, hg, hcell⟩ := key len (Nat.le_refl _)
    refine ⟨_, l, rfl, ⟨some a, cap, by rw [hl], by omega, h2, flat_len hf l, fun g => ?_⟩, hg⟩
    obtain ⟨b, off, rfl, hc⟩ := cells_row (w := w) (x := a) (vs := l.flatMap f) (by rw [flat_len hf l]; exact Nat.mul_pos g h0) hcell
    exact ⟨b, off, rfl, hc⟩
theorem flat_one {α : Type} (f : α → Value) : ∀ l : List α, l.flatMap (fun a => [f a]) = l.map f
  | [] => rfl
  | a :: l => by rw [List.flatMap_cons, flat_one f l]; rfl
theorem rd_row1 {α : Type} {f : α → Value} {Good : α → Prop} (ht : P.underlying t = some (.slice e)) (hc : P.cellsOf e = 1)
    (each : ∀ r, Rd enc P w e r → ∃ a, r = [f a] ∧ Good a) (h : Rd enc P w t cs) : ∃ (v : Value) (l : List α), cs = [v] ∧ Sl [Hp.of w] 1 v l.length (l.map f) ∧ ∀ a ∈ l, Good a := by
  obtain ⟨v, l, h1, h2, h3⟩ := rd_rows (f := fun a => [f a]) ht hc (by omega) (fun _ => rfl) each h
  exact ⟨v, l, h1, by rw [flat_one] at h2; exact h2, h3⟩
/-- bounds of an int -/
def I64 (n : Int) : Prop := -9223372036854775808 ≤ n ∧ n ≤ 9223372036854775807
theorem rd_ints (ht : P.underlying t = some (.slice e)) (he : P.underlying e = some (.int .i64)) (hc : P.cellsOf e = 1) (h : Rd enc P w t cs) : ∃ (v : Value) (l : List Int), cs = [v] ∧ Ints [Hp.of w] v l ∧ ∀ a ∈ l, I64 a :=
  rd_row1 ht hc (fun r hr => rd_i64 he hr) h
theorem rd_strings (ht : P.underlying t = some (.slice e)) (he : P.underlying e = some .string) (hc : P.cellsOf e = 1) (h : Rd enc P w t cs) : ∃ (v : Value) (l : List (List UInt8)), cs = [v] ∧ Sl [Hp.of w] 1 v l.length (l.map S) ∧ ∀ a ∈ l, a.length ≤ 9223372036854775807 :=
  rd_row1 ht hc (fun r hr => rd_string he hr) h
/-- a value of a type of one cell is its cell -/
theorem val_one {r : Reach} {b0 : Nat} {v u : Value} (hn : match P.underlying t with | some (.struct _) => False | some (.array _ _) => False | _ => True) (hval : Value.okWide P w r b0 t v) (h : v.cells.toList = [u]) : v = u := by
  cases v with
  | agg c =>
    unfold Value.okWide at hval
    cases hu : P.underlying t with
    | none => rw [hu] at hval; simp [Cell.okWide, Cell.ok, hu] at hval
    | some d => rw [hu] at hn hval; cases d <;> first | exact hn.elim | (simp [Cell.okWide, Cell.ok, hu] at hval)
  | _ => simpa [Value.cells] using h
end
end Go.Q
namespace Go.Q
theorem arr_cells {H : Type} {enc : TypeId × Value → H} {P : Program} {w : World} {base : Nat} {spare : Nat → Bool} {held : Bool} {fuel n : Nat} {t e : TypeId} {k : IntKind} {cs : List Value} {l : List Int} {p : List MemPlace}
    (ht : P.underlying t = some (.array n e)) (he : P.underlying e = some (.int k)) (hc : P.cellsOf e = 1) (hl : l.length = n)
    (h : DataW.trod enc P w base spare held fuel t cs = some (.agg (l.map fun z => (DataW.lit (Lit.int k z) : DataW H)), p)) : ∀ (i : Nat) (z : Int), l[i]? = some z → cs[i]? = some (Value.int k z) := by
  intro i z hz
  obtain ⟨xs, m, _, hx, _, hn, hel⟩ := DataW.trod_array ht h
  simp only [Prod.mk.injEq, DataW.agg.injEq] at hx
  have hi : i < n := by rw [← hl]; exact (List.getElem?_eq_some_iff.1 hz).1
  have h1 := hel i hi
  rw [hc, Nat.mul_one, List.getElem?_eq_getElem (by omega)] at h1
  obtain ⟨r, e1, e2, _⟩ := DataW.trod_int he h1
  have e3 : (xs.map (·.1))[i]? = some (DataW.lit (Lit.int k z)) := by rw [← hx.1, List.getElem?_map, hz]; rfl
  rw [List.getElem?_map, List.getElem?_eq_getElem (by omega), Option.map_some] at e3
  rw [e2] at e3
  have e4 : r = z := by simpa using e3
  subst e4
  have e5 : (List.take 1 (List.drop i cs))[0]? = some (.int k r) := by rw [e1]; rfl
  rw [List.getElem?_take, if_pos (by omega), List.getElem?_drop] at e5
  simpa using e5
theorem rd_u32 {H : Type} {enc : TypeId × Value → H} {P : Program} {w : World} {t : TypeId} {cs : List Value} (ht : P.underlying t = some (.int .u32)) (h : Rd enc P w t cs) : ∃ x : BitVec 32, cs = [.int .u32 (x.toNat : Int)] ∧ True := by
  obtain ⟨n, h1, h2⟩ := rd_int ht h
  have hb : 0 ≤ n ∧ n < 4294967296 := by
    simp [Lit.wf, IntKind.min, IntKind.max, IntKind.signed, IntKind.bits] at h2
    omega
  refine ⟨BitVec.ofNat 32 n.toNat, ?_, trivial⟩
  rw [h1, BitVec.toNat_ofNat, Nat.mod_eq_of_lt (by omega), Int.toNat_of_nonneg hb.1]
end Go.Q
namespace Go.Q
open Go.Proofs
set_option linter.unusedVariables false
set_option maxRecDepth 100000
attribute [local irreducible] wpList OK Code.wp
theorem rd_cel {H : Type} {enc : TypeId × Value → H} {w : World} {cs : List Value} (h : Rd enc Tryd.prog w 45 cs) : ∃ a : Cel, cs = ceC a ∧ True := by
  obtain ⟨hl, hf⟩ := rd_struct Tryd.underlying45 h
  have hl : cs.length = 2 := hl.trans (by kernel_rfl)
  obtain ⟨c0, c1, rfl⟩ : ∃ c0 c1, cs = [c0, c1] := by
    match cs, hl with
    | [c0, c1], _ => exact ⟨c0, c1, rfl⟩
  have f0_6 : Rd enc Tryd.prog w 9 [c0] := rd_field (i := 0) (k := 1) hf rfl rfl (by kernel_rfl) rfl
  obtain ⟨n0, e0, b0⟩ := rd_string Tryd.underlying9 f0_6
  obtain rfl := (List.cons.inj e0).1
  have f1_9 : Rd enc Tryd.prog w 9 [c1] := rd_field (i := 1) (k := 1) hf rfl rfl (by kernel_rfl) rfl
  obtain ⟨n1, e1, b1⟩ := rd_string Tryd.underlying9 f1_9
  obtain rfl := (List.cons.inj e1).1
  exact ⟨(n0, n1), rfl, trivial⟩
theorem rd_cels {H : Type} {enc : TypeId × Value → H} {w : World} {cs : List Value} (h : Rd enc Tryd.prog w 22 cs) : ∃ (v : Value) (l : List Cel), cs = [v] ∧ Sl [Hp.of w] 2 v l.length (l.flatMap ceC) ∧ ∀ a ∈ l, True :=
  rd_rows Tryd.underlying22 (by kernel_rfl) (by decide) ceC_len (fun r hr => rd_cel hr) h
theorem rd_val {H : Type} {enc : TypeId × Value → H} {w : World} {cs : List Value} (h : Rd enc Tryd.prog w 29 cs) : ∃ a : Bool × Bs, cs = vlC a ∧ True := by
  obtain ⟨hl, hf⟩ := rd_struct Tryd.underlying29 h
  have hl : cs.length = 2 := hl.trans (by kernel_rfl)
  obtain ⟨c0, c1, rfl⟩ : ∃ c0 c1, cs = [c0, c1] := by
    match cs, hl with
    | [c0, c1], _ => exact ⟨c0, c1, rfl⟩
  have f0_6 : Rd enc Tryd.prog w 4 [c0] := rd_field (i := 0) (k := 1) hf rfl rfl (by kernel_rfl) rfl
  obtain ⟨n0, e0⟩ := rd_bool Tryd.underlying4 f0_6
  obtain rfl := (List.cons.inj e0).1
  have f1_9 : Rd enc Tryd.prog w 9 [c1] := rd_field (i := 1) (k := 1) hf rfl rfl (by kernel_rfl) rfl
  obtain ⟨n1, e1, b1⟩ := rd_string Tryd.underlying9 f1_9
  obtain rfl := (List.cons.inj e1).1
  exact ⟨(n0, n1), rfl, trivial⟩
theorem rd_vals {H : Type} {enc : TypeId × Value → H} {w : World} {cs : List Value} (h : Rd enc Tryd.prog w 33 cs) : ∃ (v : Value) (l : List (Bool × Bs)), cs = [v] ∧ Sl [Hp.of w] 2 v l.length (l.flatMap vlC) ∧ ∀ a ∈ l, True :=
  rd_rows Tryd.underlying33 (by kernel_rfl) (by decide) vlC_len (fun r hr => rd_val hr) h
theorem rd_page {H : Type} {enc : TypeId × Value → H} {w : World} {cs : List Value} (h : Rd enc Tryd.prog w 24 cs) : ∃ a : Int × Int × Value × List Cel, cs = pgC a ∧ (Sl [Hp.of w] 2 a.2.2.1 a.2.2.2.length (a.2.2.2.flatMap ceC)) ∧ ((-9223372036854775808 : Int) ≤ a.2.1 ∧ a.2.1 ≤ 9223372036854775807) := by
  obtain ⟨hl, hf⟩ := rd_struct Tryd.underlying24 h
  have hl : cs.length = 3 := hl.trans (by kernel_rfl)
  obtain ⟨c0, c1, c2, rfl⟩ : ∃ c0 c1 c2, cs = [c0, c1, c2] := by
    match cs, hl with
    | [c0, c1, c2], _ => exact ⟨c0, c1, c2, rfl⟩
  have f0_6 : Rd enc Tryd.prog w 3 [c0] := rd_field (i := 0) (k := 1) hf rfl rfl (by kernel_rfl) rfl
  obtain ⟨n0, e0, b0⟩ := rd_i64 Tryd.underlying3 f0_6
  obtain rfl := (List.cons.inj e0).1
  have f1_9 : Rd enc Tryd.prog w 3 [c1] := rd_field (i := 1) (k := 1) hf rfl rfl (by kernel_rfl) rfl
  obtain ⟨n1, e1, b1⟩ := rd_i64 Tryd.underlying3 f1_9
  obtain rfl := (List.cons.inj e1).1
  have f2_12 : Rd enc Tryd.prog w 22 [c2] := rd_field (i := 2) (k := 1) hf rfl rfl (by kernel_rfl) rfl
  obtain ⟨u2, n2, e2, s2, b2⟩ := rd_cels f2_12
  obtain rfl := (List.cons.inj e2).1
  exact ⟨(n0, n1, _, n2), rfl, s2, b1⟩
end Go.Q
