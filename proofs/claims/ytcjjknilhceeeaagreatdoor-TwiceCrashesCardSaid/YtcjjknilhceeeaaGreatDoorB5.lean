/-
  Parts of a walk: what functions of the program compute, each told by a theorem (QvL5, QYD, QvRd).
-/
import Derived.Test.YtcjjknilhceeeaaGreatDoorB4
import Derived.OpenShut
set_option linter.unusedVariables false
set_option linter.unusedSimpArgs false
set_option linter.unnecessarySimpa false
namespace Go.Q
open Go.Proofs
set_option linter.unusedVariables false
set_option maxRecDepth 100000
attribute [local irreducible] wpList OK Code.wp
set_option maxHeartbeats 4000000 in
theorem TwiceCrashes_c {E w : World} {R : List Hp} (hH : Has E w [R]) (hg : CellsAt R 1 0 nibV) {v vk vo : Value} {l : List Pg} (hv : Sl R 3 v l.length (l.flatMap pgC)) (hok : ∀ a ∈ l, PgIn R a) {arm_ again : Int} (harm : 0 ≤ arm_ ∧ arm_ ≤ 255) (hag : 0 ≤ again ∧ again ≤ 255) {keep other : List Int} (hk_ : Ints R vk keep) (ho_ : Ints R vo other) :
    Calls Tryz.prog 4 #[v, (.int .u8 arm_), (.int .u8 again), vk, vo] w fun e w' => e = .returned (.bool true) ∧ Has E w' [R] := by
  have hn_ := hv.le
  have hkn_ := hk_.le
  have hon_ := ho_.le
  refine c_enter (args := [v, (.int .u8 arm_), (.int .u8 again), vk, vo]) Tryz.func4 rfl Tryz.ntmps4 (by simp) ?_
  refine wp_seq_k fun K1 hK1 => ?_
  refine c_region ?_
  refine s_op (o_assign (v := (.bool false)) rfl ?_)
  refine s_nil ?_
  refine t_norm (hK1 _ _ ?_)
  refine wp_seq_k fun K2 hK2 => ?_
  refine wp_seq_k fun K3 hK3 => ?_
  refine c_region ?_
  refine s_op (o_move (v := v) rfl ?_)
  refine s_op (o_callf (vs := #[v]) ca16 rfl (args1 rfl) (great12_c hH.all (l := l) (hv.mono (seg_sub 0 rfl)) (fun a ha => (hok a ha).mono (seg_sub 0 rfl))) ?_)
  rintro _ w8 ⟨gb4, rfl, hg5, hX6⟩
  refine ⟨_, rfl, ?_⟩
  have hH7 : Has E w8 [R] := hX6.of_all
  refine s_op (o_move (v := (.bool gb4)) rfl ?_)
  rcases Bool.eq_false_or_eq_true gb4 with h9 | h9
  · -- gb4
    refine s_off (b' := true) 23 rfl (congrArg Value.bool h9) rfl ?_
    refine s_off (b' := true) 23 rfl (congrArg Value.bool h9) rfl ?_
    refine s_off (b' := true) 23 rfl (congrArg Value.bool h9) rfl ?_
    refine s_op (o_pick_t (u := (.bool true)) ((rfl : _ = _).trans (congrArg Value.bool h9)) rfl ?_)
    refine s_op (o_move (v := (.bool true)) rfl ?_)
    refine s_off (b' := true) 28 rfl rfl rfl ?_
    refine s_off (b' := true) 28 rfl rfl rfl ?_
    refine s_off (b' := true) 28 rfl rfl rfl ?_
    refine s_op (o_pick_t (u := (.bool true)) rfl rfl ?_)
    refine s_op (o_move (v := (.bool true)) rfl ?_)
    refine s_off (b' := true) 33 rfl rfl rfl ?_
    refine s_off (b' := true) 33 rfl rfl rfl ?_
    refine s_op (o_pick_t (u := (.bool true)) rfl rfl ?_)
    refine s_nil ?_
    refine t_norm (hK3 _ _ ?_)
    refine c_true rfl rfl ?_
    refine wp_seq_k fun K10 hK10 => ?_
    refine c_region ?_
    refine s_op (o_callf (vs := #[]) ca11 rfl (args0) (awake12_c hH7.all (hg.mono (seg_sub 0 rfl))) ?_)
    rintro _ w13 ⟨rfl, hX11⟩
    refine ⟨_, rfl, ?_⟩
    have hH12 := hX11.of_all
    refine s_op (o_assign (v := (.bool true)) rfl ?_)
    refine s_nil ?_
    refine t_norm (hK10 _ _ ?_)
    refine wp_ret ?_
    refine t_ret (c_ret1 Tryz.results4  (v := (.bool true)) rfl ?_)
    exact ⟨by first | rfl | (rw [decide_eq_true (by decide)]), hH12⟩
  · -- not: gb4
    have hl20_ := hg5 (by simpa using h9)
    refine s_on 23 rfl (congrArg Value.bool h9) (o_move (v := vk) rfl ?_)
    refine s_on 23 rfl (congrArg Value.bool h9) (o_lenS Tryz.underlying40 rfl hk_ ?_)
    refine s_on 23 rfl (congrArg Value.bool h9) (o_gtr (a := ((keep.length : Nat) : Int)) (b := 60) rfl rfl ?_)
    refine s_op (o_pick_f (u := (.bool (decide (60 < ((keep.length : Nat) : Int))))) ((rfl : _ = _).trans (congrArg Value.bool h9)) rfl ?_)
    refine s_op (o_move (v := (.bool (decide (60 < ((keep.length : Nat) : Int))))) rfl ?_)
    by_cases h14 : 60 < ((keep.length : Nat) : Int)
    · -- 60 < ((keep.length : Nat) : Int)
      refine s_off (b' := true) 28 rfl (congrArg Value.bool (decide_eq_true h14)) rfl ?_
      refine s_off (b' := true) 28 rfl (congrArg Value.bool (decide_eq_true h14)) rfl ?_
      refine s_off (b' := true) 28 rfl (congrArg Value.bool (decide_eq_true h14)) rfl ?_
      refine s_op (o_pick_t (u := (.bool true)) ((rfl : _ = _).trans (congrArg Value.bool (decide_eq_true h14))) rfl ?_)
      refine s_op (o_move (v := (.bool true)) rfl ?_)
      refine s_off (b' := true) 33 rfl rfl rfl ?_
      refine s_off (b' := true) 33 rfl rfl rfl ?_
      refine s_op (o_pick_t (u := (.bool true)) rfl rfl ?_)
      refine s_nil ?_
      refine t_norm (hK3 _ _ ?_)
      refine c_true rfl rfl ?_
      refine wp_seq_k fun K15 hK15 => ?_
      refine c_region ?_
      refine s_op (o_callf (vs := #[]) ca11 rfl (args0) (awake12_c hH7.all (hg.mono (seg_sub 0 rfl))) ?_)
      rintro _ w18 ⟨rfl, hX16⟩
      refine ⟨_, rfl, ?_⟩
      have hH17 := hX16.of_all
      refine s_op (o_assign (v := (.bool true)) rfl ?_)
      refine s_nil ?_
      refine t_norm (hK15 _ _ ?_)
      refine wp_ret ?_
      refine t_ret (c_ret1 Tryz.results4  (v := (.bool true)) rfl ?_)
      exact ⟨by first | rfl | (rw [decide_eq_true (by decide)]), hH17⟩
    · -- not: 60 < ((keep.length : Nat) : Int)
      refine s_on 28 rfl (congrArg Value.bool (decide_eq_false h14)) (o_move (v := vo) rfl ?_)
      refine s_on 28 rfl (congrArg Value.bool (decide_eq_false h14)) (o_lenS Tryz.underlying40 rfl ho_ ?_)
      refine s_on 28 rfl (congrArg Value.bool (decide_eq_false h14)) (o_gtr (a := ((other.length : Nat) : Int)) (b := 60) rfl rfl ?_)
      refine s_op (o_pick_f (u := (.bool (decide (60 < ((other.length : Nat) : Int))))) ((rfl : _ = _).trans (congrArg Value.bool (decide_eq_false h14))) rfl ?_)
      refine s_op (o_move (v := (.bool (decide (60 < ((other.length : Nat) : Int))))) rfl ?_)
      by_cases h19 : 60 < ((other.length : Nat) : Int)
      · -- 60 < ((other.length : Nat) : Int)
        refine s_off (b' := true) 33 rfl (congrArg Value.bool (decide_eq_true h19)) rfl ?_
        refine s_off (b' := true) 33 rfl (congrArg Value.bool (decide_eq_true h19)) rfl ?_
        refine s_op (o_pick_t (u := (.bool true)) ((rfl : _ = _).trans (congrArg Value.bool (decide_eq_true h19))) rfl ?_)
        refine s_nil ?_
        refine t_norm (hK3 _ _ ?_)
        refine c_true rfl rfl ?_
        refine wp_seq_k fun K20 hK20 => ?_
        refine c_region ?_
        refine s_op (o_callf (vs := #[]) ca11 rfl (args0) (awake12_c hH7.all (hg.mono (seg_sub 0 rfl))) ?_)
        rintro _ w23 ⟨rfl, hX21⟩
        refine ⟨_, rfl, ?_⟩
        have hH22 := hX21.of_all
        refine s_op (o_assign (v := (.bool true)) rfl ?_)
        refine s_nil ?_
        refine t_norm (hK20 _ _ ?_)
        refine wp_ret ?_
        refine t_ret (c_ret1 Tryz.results4  (v := (.bool true)) rfl ?_)
        exact ⟨by first | rfl | (rw [decide_eq_true (by decide)]), hH22⟩
      · -- not: 60 < ((other.length : Nat) : Int)
        refine s_on 33 rfl (congrArg Value.bool (decide_eq_false h19)) (o_callf (vs := #[]) ca11 rfl (args0) (awake12_c hH7.all (hg.mono (seg_sub 0 rfl))) ?_)
        rintro _ w26 ⟨rfl, hX24⟩
        refine ⟨_, rfl, ?_⟩
        have hH25 := hX24.of_all
        refine s_on 33 rfl (congrArg Value.bool (decide_eq_false h19)) (o_not rfl ?_)
        refine s_op (o_pick_f (u := (.bool false)) ((rfl : _ = _).trans (congrArg Value.bool (decide_eq_false h19))) rfl ?_)
        refine s_nil ?_
        refine t_norm (hK3 _ _ ?_)
        refine c_false rfl rfl ?_
        refine wp_skip ?_
        refine t_norm (hK2 _ _ ?_)
        refine wp_seq_k fun K27 hK27 => ?_
        refine c_region ?_
        refine s_op (o_callf (vs := #[(.int .i64 6)]) ca12 rfl (args1 rfl) (need6_c hH25.all) ?_)
        rintro _ w30 ⟨rfl, hX28⟩
        refine ⟨_, rfl, ?_⟩
        have hH29 := hX28.of_all
        refine s_op (o_callf (vs := #[(.pointer none), (.int .i64 (29 : Int))]) ca14 rfl (args2 rfl rfl) (new_nil hH29.all (n := 29) (by decide)) ?_)
        rintro _ w37 ⟨db31, pb32, sg33, rfl, hd34, hX35⟩
        refine ⟨_, rfl, ?_⟩
        have hH36 : Has E w37 [sg33, [Hp.one pb32 (.cells #[(.bool (Pw.mk false false 0 0).off), (.bool (Pw.mk false false 0 0).armed), (.int .i64 (Pw.mk false false 0 0).left), (.int .i64 (Pw.mk false false 0 0).uses)] 101 (0, 0))], R] := hX35.of_all2
        refine s_op (o_assign (v := (.pointer (some ⟨db31, 0, none⟩))) rfl ?_)
        refine s_nil ?_
        refine t_norm (hK27 _ _ ?_)
        refine wp_seq_k fun K38 hK38 => ?_
        refine c_region ?_
        refine s_op (o_move (v := (.pointer (some ⟨db31, 0, none⟩))) rfl ?_)
        refine s_op (o_callf (vs := #[(.pointer (some ⟨db31, 0, none⟩)), (.int .i64 6)]) ca13 rfl (args2 rfl rfl) (tfmt_ok (p := (Pw.mk false false 0 0)) (m := 29) ((hH36.front 1 rfl).front 1 rfl).all2 hd34 (n := 6) ⟨rfl, rfl⟩ Few.new (by decide) (by decide) (by decide) (by decide)) ?_)
        rintro _ w44 ⟨tb39, sg40, rfl, hd41, hX42⟩
        refine ⟨_, rfl, ?_⟩
        have hH43 : Has E w44 [[Hp.one tb39 (.cells #[(.pointer (some ⟨db31, 0, none⟩)), (.int .i64 6)] 98 (0, 0))], sg40, [Hp.one pb32 (.cells #[(.bool (Pw.mk false false (0 - (((29 : Nat) : Int) + 1)) (0 + (((29 : Nat) : Int) + 1))).off), (.bool (Pw.mk false false (0 - (((29 : Nat) : Int) + 1)) (0 + (((29 : Nat) : Int) + 1))).armed), (.int .i64 (Pw.mk false false (0 - (((29 : Nat) : Int) + 1)) (0 + (((29 : Nat) : Int) + 1))).left), (.int .i64 (Pw.mk false false (0 - (((29 : Nat) : Int) + 1)) (0 + (((29 : Nat) : Int) + 1))).uses)] 101 (0, 0))], R] := hX42.of_all3
        refine s_op (o_move (v := (.tuple #[(.pointer (some ⟨tb39, 0, none⟩)), (.int .i64 (0 : Int))])) rfl ?_)
        refine s_op (o_extract (v := (.pointer (some ⟨tb39, 0, none⟩))) rfl rfl ?_)
        refine s_op (o_extract (v := (.int .i64 (0 : Int))) rfl rfl ?_)
        refine s_op (o_assign (v := (.pointer (some ⟨tb39, 0, none⟩))) rfl ?_)
        refine s_op (o_assign (v := (.int .i64 (0 : Int))) rfl ?_)
        refine s_nil ?_
        refine t_norm (hK38 _ _ ?_)
        refine wp_seq_k fun K45 hK45 => ?_
        refine wp_seq_k fun K46 hK46 => ?_
        refine c_region ?_
        refine s_op (o_move (v := (.pointer (some ⟨tb39, 0, none⟩))) rfl ?_)
        refine s_op (o_pnil (p := some _) Tryz.underlying25 rfl rfl ?_)
        refine s_op (o_move (v := (.bool false)) rfl ?_)
        refine s_on 47 rfl rfl (o_move (v := (.int .i64 (0 : Int))) rfl ?_)
        refine s_on 47 rfl rfl (o_neq (a := (0 : Int)) (b := 0) rfl rfl ?_)
        refine s_op (o_pick_f (u := (.bool (decide ((0 : Int) ≠ 0)))) rfl rfl ?_)
        refine s_nil ?_
        refine t_norm (hK46 _ _ ?_)
        refine c_cond rfl (fun h47 => ?_) (fun h47 => ?_)
        · -- (0 : Int) ≠ 0
          exact absurd h47 (by decide)
        · -- not: (0 : Int) ≠ 0
          refine wp_skip ?_
          refine t_norm (hK45 _ _ ?_)
          refine wp_seq_k fun K48 hK48 => ?_
          refine c_region ?_
          refine s_op (o_callf (vs := #[(.int .i64 6)]) ca15 rfl (args1 rfl) (empty12_c hH43.all (m := 6) (by omega)) ?_)
          rintro _ w54 ⟨v49, s50, rfl, ho51, hX52⟩
          refine ⟨_, rfl, ?_⟩
          have hH53 : Has E w54 [s50, [Hp.one tb39 (.cells #[(.pointer (some ⟨db31, 0, none⟩)), (.int .i64 6)] 98 (0, 0))], sg40, [Hp.one pb32 (.cells #[(.bool (Pw.mk false false (0 - (((29 : Nat) : Int) + 1)) (0 + (((29 : Nat) : Int) + 1))).off), (.bool (Pw.mk false false (0 - (((29 : Nat) : Int) + 1)) (0 + (((29 : Nat) : Int) + 1))).armed), (.int .i64 (Pw.mk false false (0 - (((29 : Nat) : Int) + 1)) (0 + (((29 : Nat) : Int) + 1))).left), (.int .i64 (Pw.mk false false (0 - (((29 : Nat) : Int) + 1)) (0 + (((29 : Nat) : Int) + 1))).uses)] 101 (0, 0))], R] := hX52.of_all1
          refine s_op (o_assign (v := v49) rfl ?_)
          refine s_nil ?_
          refine t_norm (hK48 _ _ ?_)
          refine wp_seq_k fun K55 hK55 => ?_
          refine c_region ?_
          refine s_op (o_move (v := (.pointer (some ⟨db31, 0, none⟩))) rfl ?_)
          refine s_op (o_move (v := (.int .u8 arm_)) rfl ?_)
          refine s_op (o_conv (c := arm_) Tryz.underlying5 Tryz.underlying3 rfl (w64 (by omega) (by omega)) ?_)
          refine s_op (o_callf (vs := #[(.pointer (some ⟨db31, 0, none⟩)), (.int .i64 arm_)]) ca22 rfl (args2 rfl rfl) (dv_ar (d := (Dv.mk (Pw.mk false false (0 - (((29 : Nat) : Int) + 1)) (0 + (((29 : Nat) : Int) + 1))) (List.replicate 29 blankS) [])) ((hH53.front 3 rfl).front 3 rfl).all2 hd41 arm_) ?_)
          rintro _ w59 ⟨rfl, hd56, hX57⟩
          refine ⟨_, rfl, ?_⟩
          have hH58 : Has E w59 [sg40, [Hp.one pb32 (.cells #[(.bool ((Dv.mk (Pw.mk false false (0 - (((29 : Nat) : Int) + 1)) (0 + (((29 : Nat) : Int) + 1))) (List.replicate 29 blankS) []).ar arm_).p.off), (.bool ((Dv.mk (Pw.mk false false (0 - (((29 : Nat) : Int) + 1)) (0 + (((29 : Nat) : Int) + 1))) (List.replicate 29 blankS) []).ar arm_).p.armed), (.int .i64 ((Dv.mk (Pw.mk false false (0 - (((29 : Nat) : Int) + 1)) (0 + (((29 : Nat) : Int) + 1))) (List.replicate 29 blankS) []).ar arm_).p.left), (.int .i64 ((Dv.mk (Pw.mk false false (0 - (((29 : Nat) : Int) + 1)) (0 + (((29 : Nat) : Int) + 1))) (List.replicate 29 blankS) []).ar arm_).p.uses)] 101 (0, 0))], s50, [Hp.one tb39 (.cells #[(.pointer (some ⟨db31, 0, none⟩)), (.int .i64 6)] 98 (0, 0))], R] := hX57.of_all2
          refine s_nil ?_
          refine t_norm (hK55 _ _ ?_)
          refine wp_seq_k fun K60 hK60 => ?_
          refine c_region ?_
          refine s_op (o_assign (v := (.slice none 0 0)) rfl ?_)
          refine s_nil ?_
          refine t_norm (hK60 _ _ ?_)
          refine wp_seq_k fun K61 hK61 => ?_
          refine wp_seq_k fun K62 hK62 => ?_
          refine c_region ?_
          refine s_op (o_assign (v := (.int .i64 0)) rfl ?_)
          refine s_nil ?_
          refine t_norm (hK62 _ _ ?_)
          refine wp_block ?_
          let I64 : Nat → (Nat → Value) → World → Prop := fun n__ r__ w__ => ∃ (i : Nat) (ul : List Pg) (uv : Value) (dc : Dv) (sgc : List Hp) (now : List Pg) (sn : List Hp) (B : Nat → Bs), n__ = l.length - i ∧ Has E w__ [sgc, [Hp.one pb32 (.cells #[(.bool dc.p.off), (.bool dc.p.armed), (.int .i64 dc.p.left), (.int .i64 dc.p.uses)] 101 (0, 0))], sn, [Hp.one tb39 (.cells #[(.pointer (some ⟨db31, 0, none⟩)), (.int .i64 6)] 98 (0, 0))], R] ∧ (i ≤ l.length) ∧ (DevAt pb32 sgc db31 dc.la dc.lo) ∧ (Few dc.p (60 + 14 * i)) ∧ (dc.la.length = 29) ∧ (Full64 dc.la) ∧ (TcS dc now ul B) ∧ (Sl R 3 uv ul.length (ul.flatMap pgC)) ∧ (∀ a ∈ ul, PgIn R a) ∧ (Own 36 3 v49 now.length (now.flatMap pgC) sn) ∧ (∀ a ∈ now, PgIn R a) ∧ r__ 0 = v ∧ r__ 1 = (.int .u8 arm_) ∧ r__ 2 = (.int .u8 again) ∧ r__ 3 = vk ∧ r__ 4 = vo ∧ r__ 10 = (.bool false) ∧ r__ 11 = (.pointer (some ⟨db31, 0, none⟩)) ∧ r__ 12 = (.pointer (some ⟨tb39, 0, none⟩)) ∧ r__ 13 = (.int .i64 (0 : Int)) ∧ r__ 14 = v49 ∧ r__ 15 = uv ∧ r__ 16 = (.int .i64 (i : Int)) ∧ r__ 36 = (.bool false) ∧ r__ 50 = (.bool (decide ((0 : Int) ≠ 0)))
          refine c_loop I64 _ ⟨0, [], (.slice none 0 0), ((Dv.mk (Pw.mk false false (0 - (((29 : Nat) : Int) + 1)) (0 + (((29 : Nat) : Int) + 1))) (List.replicate 29 blankS) []).ar arm_), sg40, (emptyS 6), s50, (fun _ => zer 256), rfl, hH58, Nat.zero_le _, hd56, (few_ar (n := arm_) (few_fm 29) (by omega)).mono (by omega), List.length_replicate, full_blank _, tcs_start rfl, sl_nil 3, (fun a ha => by cases ha), ho51, empty_in, rfl, rfl, rfl, rfl, rfl, rfl, rfl, rfl, rfl, rfl, rfl, rfl, rfl, rfl⟩ ?_
          rintro n_ r67 w65 ⟨i, ul, uv, dc, sgc, now, sn, B, rfl, hH66, hi, hdc, hfc, hnc, h64c, hts, huv, hun, hnw, hokn, e63_0, e63_1, e63_2, e63_3, e63_4, e63_10, e63_11, e63_12, e63_13, e63_14, e63_15, e63_16, e63_36, e63_50⟩
          refine wp_seq_k fun K68 hK68 => ?_
          refine wp_seq_k fun K69 hK69 => ?_
          refine c_region ?_
          refine s_op (o_move (v := (.int .i64 (i : Int))) e63_16 ?_)
          refine s_op (o_move (v := v) e63_0 ?_)
          refine s_op (o_lenS Tryz.underlying31 rfl hv ?_)
          refine s_op (o_lss (a := (i : Int)) (b := ((l.length : Nat) : Int)) rfl rfl ?_)
          refine s_op (o_move (v := (.bool (decide ((i : Int) < ((l.length : Nat) : Int))))) rfl ?_)
          by_cases h70 : (i : Int) < ((l.length : Nat) : Int)
          · -- (i : Int) < ((l.length : Nat) : Int)
            refine s_on 60 rfl (congrArg Value.bool (decide_eq_true h70)) (o_move (v := uv) e63_15 ?_)
            refine s_on 60 rfl (congrArg Value.bool (decide_eq_true h70)) (o_lenS Tryz.underlying31 rfl huv ?_)
            refine s_on 60 rfl (congrArg Value.bool (decide_eq_true h70)) (o_eql (a := ((ul.length : Nat) : Int)) (b := 0) rfl rfl ?_)
            refine s_op (o_pick_t (u := (.bool (decide (((ul.length : Nat) : Int) = 0)))) ((rfl : _ = _).trans (congrArg Value.bool (decide_eq_true h70))) rfl ?_)
            refine s_nil ?_
            refine t_norm (hK69 _ _ ?_)
            refine c_cond rfl (fun h71 => ?_) (fun h71 => ?_)
            · -- ((ul.length : Nat) : Int) = 0
              refine wp_skip ?_
              refine t_norm (hK68 _ _ ?_)
              refine wp_seq_k fun K72 hK72 => ?_
              refine wp_block ?_
              refine wp_seq_k fun K73 hK73 => ?_
              refine c_region ?_
              refine s_op (o_move (v := (.pointer (some ⟨tb39, 0, none⟩))) e63_12 ?_)
              refine s_op (o_move (v := v) e63_0 ?_)
              refine s_op (o_move (v := (.int .i64 (i : Int))) e63_16 ?_)
              obtain ⟨x77, hx78⟩ : ∃ x_, l[((i : Int)).toNat]? = some x_ := get_some (by omega)
              refine s_op (o_indexF pgC_len Tryz.underlying31 ti36 rfl hv rfl rfl (by omega) hx78 fun b74 o75 hc76 => ?_)
              refine s_op (o_loadN (cs := [(.int .i64 x77.1), (.int .i64 x77.2.1), x77.2.2.1]) Tryz.underlying36 rfl ti36 rfl hH66 (seg_sub 4 rfl) hc76 ?_)
              refine s_op (o_buildSlice (ps := #[(0, (.agg #[(.int .i64 x77.1), (.int .i64 x77.2.1), x77.2.2.1]))]) (cells := #[(.int .i64 x77.1), (.int .i64 x77.2.1), x77.2.2.1]) Tryz.underlying31 ti36 (by decide) (parts1 rfl) (by kernel_rfl) hH66 fun b79 w80 hH81 => ?_)
              have hul_ : ul = [] := List.length_eq_zero_iff.1 (by omega)
              have hts0 : TcS dc now [] B := by have h_ := hts; rw [hul_] at h_; exact h_
              refine s_op (o_callf (vs := #[(.pointer (some ⟨tb39, 0, none⟩)), (.slice (some ⟨b79, 0, none⟩) 1 1)]) ca18 rfl (args2 rfl rfl) (tstore1_c (d := dc) (n := 6) (((hH81.front 4 rfl).front 3 rfl).front 3 rfl).all3 hdc hfc (by omega) hts0.go.2.1 (by rw [hnc]; decide) (hg.mono (seg_sub 2 rfl)) (a := x77) ((sl_litF (f := pgC) (l := [x77]) pgC_len rfl rfl (by simp)).mono (seg_sub 0 rfl)) (PgIn.mono (hok x77 (List.mem_of_getElem? hx78)) (seg_sub 2 rfl))) ?_)
              rintro _ w86 ⟨sg82, rfl, hd83, hX84⟩
              refine ⟨_, rfl, ?_⟩
              have hH85 : Has E w86 [sg82, [Hp.one pb32 (.cells #[(.bool ((st1 dc 6 x77).2).p.off), (.bool ((st1 dc 6 x77).2).p.armed), (.int .i64 ((st1 dc 6 x77).2).p.left), (.int .i64 ((st1 dc 6 x77).2).p.uses)] 101 (0, 0))], [Hp.one tb39 (.cells #[(.pointer (some ⟨db31, 0, none⟩)), (.int .i64 6)] 98 (0, 0))], [Hp.one b79 (.cells #[(.int .i64 x77.1), (.int .i64 x77.2.1), x77.2.2.1] 36 (0, 0))], sn, R] := hX84.of_all3
              refine s_op (o_assign (v := (.int .i64 ((st1 dc 6 x77).1))) rfl ?_)
              refine s_nil ?_
              refine t_norm (hK73 _ _ ?_)
              refine wp_seq_k fun K87 hK87 => ?_
              refine c_region ?_
              refine s_op (o_move (v := (.int .i64 ((st1 dc 6 x77).1))) rfl ?_)
              refine s_nil ?_
              refine t_norm (hK87 _ _ ?_)
              refine wp_block ?_
              refine wp_seq_k fun K88 hK88 => ?_
              refine c_region ?_
              refine s_op (o_eql (a := (st1 dc 6 x77).1) (b := 0) rfl rfl ?_)
              refine s_op (o_assign (v := (.bool (decide ((st1 dc 6 x77).1 = 0)))) rfl ?_)
              refine s_nil ?_
              refine t_norm (hK88 _ _ ?_)
              refine c_cond rfl (fun h89 => ?_) (fun h89 => ?_)
              · -- (st1 dc 6 x77).1 = 0
                have hno_ := (hts0.ok h89).1
                have hnl_ : now.length = 6 := hts0.1.1
                refine Rest.region mixed (by kernel_rfl) ?_
                have hH90 : Has E { w86 with drawn := w86.drawn + 1 } [sg82, [Hp.one pb32 (.cells #[(.bool ((st1 dc 6 x77).2).p.off), (.bool ((st1 dc 6 x77).2).p.armed), (.int .i64 ((st1 dc 6 x77).2).p.left), (.int .i64 ((st1 dc 6 x77).2).p.uses)] 101 (0, 0))], [Hp.one tb39 (.cells #[(.pointer (some ⟨db31, 0, none⟩)), (.int .i64 6)] 98 (0, 0))], [Hp.one b79 (.cells #[(.int .i64 x77.1), (.int .i64 x77.2.1), x77.2.2.1] 36 (0, 0))], sn, R] := Has0.drew hH85 _
                refine Rest.phaseA (fun w_ => Has E w_ [R]) 0 10 10 rfl (by decide) (by kernel_rfl) ?_
                refine a_op 0 rfl (by kernel_rfl) (fun w_ h_ => o_move (v := v49) e63_14 ⟨rfl, rfl⟩) ?_
                refine a_op 1 rfl (by kernel_rfl) (fun w_ h_ => o_move (v := v) e63_0 ⟨rfl, rfl⟩) ?_
                refine a_op 2 rfl (by kernel_rfl) (fun w_ h_ => o_move (v := (.int .i64 (i : Int))) e63_16 ⟨rfl, rfl⟩) ?_
                obtain ⟨b91, o92, hc93, ho94⟩ := ix_exF pgC_len Tryz.underlying31 ti36 hv (by omega) hx78
                refine a_op 3 rfl (by kernel_rfl) (fun w_ h_ => ho94 rfl rfl ⟨rfl, rfl⟩) ?_
                refine a_op 4 rfl (by kernel_rfl) (fun w_ h_ => o_fieldAddr (k := o92) (fun _ => by kernel_rfl) rfl ⟨rfl, rfl⟩) ?_
                refine a_op 5 rfl (by kernel_rfl) (fun w_ h_ => o_load1 (v := (.int .i64 x77.1)) Tryz.underlying3 rfl rfl h_ (seg_sub 0 rfl) (CellsAt.field (k := 0) (ds := [(.int .i64 x77.1)]) hc93 rfl) ⟨rfl, rfl⟩) ?_
                refine a_op 6 rfl (by kernel_rfl) (fun w_ h_ => o_move (v := v) e63_0 ⟨rfl, rfl⟩) ?_
                refine a_op 7 rfl (by kernel_rfl) (fun w_ h_ => o_move (v := (.int .i64 (i : Int))) e63_16 ⟨rfl, rfl⟩) ?_
                obtain ⟨b95, o96, hc97, ho98⟩ := ix_exF pgC_len Tryz.underlying31 ti36 hv (by omega) hx78
                refine a_op 8 rfl (by kernel_rfl) (fun w_ h_ => ho98 rfl rfl ⟨rfl, rfl⟩) ?_
                refine a_op 9 rfl (by kernel_rfl) (fun w_ h_ => o_loadN (cs := [(.int .i64 x77.1), (.int .i64 x77.2.1), x77.2.2.1]) Tryz.underlying36 rfl ti36 rfl h_ (seg_sub 0 rfl) hc97 ⟨rfl, rfl⟩) ?_
                have hH99 : Has E { w86 with drawn := w86.drawn + 1 } [R] := (hH90.front 5 rfl).first 1 rfl
                refine a_done (by kernel_rfl) hH99 ?_
                refine r_op 10 rfl (by kernel_rfl) (o_ownAddrF Tryz.underlying31 ti36 rfl hnw rfl (by omega) (by first | omega | (simp only [List.length_append, List.length_cons, List.length_nil, List.length_set]; omega)) fun b100 ho101 => ?_)
                refine r_eff 11 rfl (by kernel_rfl) (o_ownStoreF (f := pgC) (l := now) (a := x77) (i := (x77.1).toNat) pgC_len ti36 rfl rfl rfl (fun u_ hu_ => (one_pgA (hok x77 (List.mem_of_getElem? hx78))) u_ (by simpa using hu_)) ho101 (by first | rfl | (simp only [List.length_append, List.length_cons, List.length_nil, List.length_set]; done) | simp) (by first | omega | (simp only [List.length_append, List.length_cons, List.length_nil, List.length_set]; omega)) (hH90.front 4 rfl) fun s102 w103 ho104 hH105 => ?_)
                refine Rest.done (by kernel_rfl) ?_
                refine b_norm ?_
                refine b_norm ?_
                refine t_norm (hK72 _ _ ?_)
                refine c_region ?_
                refine s_op (o_move (v := (.int .i64 (i : Int))) e63_16 ?_)
                refine s_op (o_add (a := (i : Int)) (b := 1) rfl rfl (w64 (by omega) (by omega)) ?_)
                refine s_op (o_assign (v := (.int .i64 ((i : Int) + 1))) rfl ?_)
                refine s_nil ?_
                have hH106 : Has E w103 [sg82, [Hp.one pb32 (.cells #[(.bool ((st1 dc 6 x77).2).p.off), (.bool ((st1 dc 6 x77).2).p.armed), (.int .i64 ((st1 dc 6 x77).2).p.left), (.int .i64 ((st1 dc 6 x77).2).p.uses)] 101 (0, 0))], s102, [Hp.one tb39 (.cells #[(.pointer (some ⟨db31, 0, none⟩)), (.int .i64 6)] 98 (0, 0))], R] := (((((hH105.front 5 rfl).front 4 rfl).front 2 rfl).front 4 rfl).front 4 rfl).first 5 rfl
                refine t_norm ⟨l.length - (i + 1), _, rfl, ?_, ?_⟩
                · omega
                · exact ⟨(i + 1), ul, uv, ((st1 dc 6 x77).2), sg82, (now.set ((x77.1).toNat) x77), s102, (updB B x77.1.toNat (lpg x77)), rfl, hH106, (by omega), (hd83), ((few_st1 hfc).mono (by omega)), (by rw [st1_len]; exact hnc), (full_st1 hts0.go.2.1 h64c), (by rw [hul_]; exact (hts0.ok h89).2), (huv), (hun), (ho104), (fun a ha => (List.mem_or_eq_of_mem_set ha).elim (hokn a) (fun k => by rw [k]; exact hok _ (List.mem_of_getElem? hx78))), e63_0, e63_1, e63_2, e63_3, e63_4, e63_10, e63_11, e63_12, e63_13, e63_14, e63_15, rfl, e63_36, e63_50⟩
              · -- not: (st1 dc 6 x77).1 = 0
                refine wp_seq_k fun K107 hK107 => ?_
                refine c_region ?_
                refine s_op (o_eql (a := (st1 dc 6 x77).1) (b := 6) rfl rfl ?_)
                refine s_op (o_assign (v := (.bool (decide ((st1 dc 6 x77).1 = 6)))) rfl ?_)
                refine s_nil ?_
                refine t_norm (hK107 _ _ ?_)
                refine c_cond rfl (fun h108 => ?_) (fun h108 => ?_)
                · -- (st1 dc 6 x77).1 = 6
                  refine c_region ?_
                  refine s_op (o_move (v := v) e63_0 ?_)
                  refine s_op (o_move (v := (.int .i64 (i : Int))) e63_16 ?_)
                  refine s_op (o_move (v := (.int .i64 (i : Int))) e63_16 ?_)
                  refine s_op (o_add (a := (i : Int)) (b := 1) rfl rfl (w64 (by omega) (by omega)) ?_)
                  refine s_op (o_sl Tryz.underlying31 ti36 rfl hv rfl rfl (by omega) (by omega) (by omega) fun v109 hv110 => ?_)
                  have hv111 := sl_partF pgC_len hv110 (by omega)
                  refine s_op (o_assign (v := v109) rfl ?_)
                  refine s_nil ?_
                  refine b_norm ?_
                  refine b_norm ?_
                  refine t_norm (hK72 _ _ ?_)
                  refine c_region ?_
                  refine s_op (o_move (v := (.int .i64 (i : Int))) e63_16 ?_)
                  refine s_op (o_add (a := (i : Int)) (b := 1) rfl rfl (w64 (by omega) (by omega)) ?_)
                  refine s_op (o_assign (v := (.int .i64 ((i : Int) + 1))) rfl ?_)
                  refine s_nil ?_
                  have hH112 : Has E w86 [sg82, [Hp.one pb32 (.cells #[(.bool ((st1 dc 6 x77).2).p.off), (.bool ((st1 dc 6 x77).2).p.armed), (.int .i64 ((st1 dc 6 x77).2).p.left), (.int .i64 ((st1 dc 6 x77).2).p.uses)] 101 (0, 0))], sn, [Hp.one tb39 (.cells #[(.pointer (some ⟨db31, 0, none⟩)), (.int .i64 6)] 98 (0, 0))], R] := (((((hH85.front 5 rfl).front 3 rfl).front 5 rfl).front 4 rfl).front 4 rfl).first 5 rfl
                  refine t_norm ⟨l.length - (i + 1), _, rfl, ?_, ?_⟩
                  · omega
                  · exact ⟨(i + 1), [x77], v109, ((st1 dc 6 x77).2), sg82, now, sn, B, rfl, hH112, (by omega), (hd83), ((few_st1 hfc).mono (by omega)), (by rw [st1_len]; exact hnc), (full_st1 hts0.go.2.1 h64c), (hts0.off h108), (by have h_ := hv111; rw [show (l.take ((i : Int) + 1).toNat).drop ((i : Int)).toNat = [x77] from part_one (show l[i]? = some _ from hx78)] at h_; exact h_), (fun a ha => by rw [List.mem_singleton.1 ha]; exact hok _ (List.mem_of_getElem? hx78)), (hnw), (hokn), e63_0, e63_1, e63_2, e63_3, e63_4, e63_10, e63_11, e63_12, e63_13, e63_14, rfl, rfl, e63_36, e63_50⟩
                · -- not: (st1 dc 6 x77).1 = 6
                  refine wp_skip ?_
                  refine b_norm ?_
                  refine b_norm ?_
                  refine t_norm (hK72 _ _ ?_)
                  refine c_region ?_
                  refine s_op (o_move (v := (.int .i64 (i : Int))) e63_16 ?_)
                  refine s_op (o_add (a := (i : Int)) (b := 1) rfl rfl (w64 (by omega) (by omega)) ?_)
                  refine s_op (o_assign (v := (.int .i64 ((i : Int) + 1))) rfl ?_)
                  refine s_nil ?_
                  have hH113 : Has E w86 [sg82, [Hp.one pb32 (.cells #[(.bool ((st1 dc 6 x77).2).p.off), (.bool ((st1 dc 6 x77).2).p.armed), (.int .i64 ((st1 dc 6 x77).2).p.left), (.int .i64 ((st1 dc 6 x77).2).p.uses)] 101 (0, 0))], sn, [Hp.one tb39 (.cells #[(.pointer (some ⟨db31, 0, none⟩)), (.int .i64 6)] 98 (0, 0))], R] := (((((hH85.front 5 rfl).front 3 rfl).front 5 rfl).front 4 rfl).front 4 rfl).first 5 rfl
                  refine t_norm ⟨l.length - (i + 1), _, rfl, ?_, ?_⟩
                  · omega
                  · exact ⟨(i + 1), ul, uv, ((st1 dc 6 x77).2), sg82, now, sn, B, rfl, hH113, (by omega), (hd83), ((few_st1 hfc).mono (by omega)), (by rw [st1_len]; exact hnc), (full_st1 hts0.go.2.1 h64c), (by rw [hul_]; exact hts0.arg h89 h108), (huv), (hun), (hnw), (hokn), e63_0, e63_1, e63_2, e63_3, e63_4, e63_10, e63_11, e63_12, e63_13, e63_14, e63_15, rfl, e63_36, e63_50⟩
            · -- not: ((ul.length : Nat) : Int) = 0
              refine wp_exit ?_
              refine t_exit (t_exit (x_in (?_)))
              refine t_norm (hK61 _ _ ?_)
              refine wp_seq_k fun K114 hK114 => ?_
              refine c_region ?_
              refine s_op (o_move (v := (.pointer (some ⟨db31, 0, none⟩))) e63_11 ?_)
              refine s_op (o_move (v := vk) e63_3 ?_)
              have hP1 := hts.crash keep
              refine s_op (o_callf (vs := #[(.pointer (some ⟨db31, 0, none⟩)), vk]) ca23 rfl (args2 rfl rfl) (dv_cr (d := dc) ((hH66.front 1 rfl).front 1 rfl).all2 hdc hts.2.1 (keep := keep) (hk_.mono (seg_sub 2 rfl))) ?_)
              rintro _ w119 ⟨sg115, rfl, hd116, hX117⟩
              refine ⟨_, rfl, ?_⟩
              have hH118 : Has E w119 [sg115, [Hp.one pb32 (.cells #[(.bool (dc.cr keep).p.off), (.bool (dc.cr keep).p.armed), (.int .i64 (dc.cr keep).p.left), (.int .i64 (dc.cr keep).p.uses)] 101 (0, 0))], sn, [Hp.one tb39 (.cells #[(.pointer (some ⟨db31, 0, none⟩)), (.int .i64 6)] 98 (0, 0))], R] := hX117.of_all2
              have hL1 : (dc.cr keep).la.length = 29 := by rw [dcr_len]; exact hnc
              have h641 : Full64 (dc.cr keep).la := full_settle hts.2.1 keep _ h64c
              refine s_nil ?_
              refine t_norm (hK114 _ _ ?_)
              refine wp_seq_k fun K120 hK120 => ?_
              refine c_region ?_
              refine s_op (o_move (v := (.pointer (some ⟨db31, 0, none⟩))) e63_11 ?_)
              refine s_op (o_move (v := (.int .u8 again)) e63_2 ?_)
              refine s_op (o_rem (a := again) (b := 16) (c := again % 16) rfl rfl (by omega) ((Int.tmod_eq_emod_of_nonneg (by first | exact Int.natCast_nonneg _ | omega))) ?_)
              refine s_op (o_conv (c := (again % 16)) Tryz.underlying5 Tryz.underlying3 rfl (w64 (by omega) (by omega)) ?_)
              refine s_op (o_callf (vs := #[(.pointer (some ⟨db31, 0, none⟩)), (.int .i64 (again % 16))]) ca22 rfl (args2 rfl rfl) (dv_ar (d := (dc.cr keep)) ((hH118.front 1 rfl).front 1 rfl).all2 hd116 (again % 16)) ?_)
              rintro _ w124 ⟨rfl, hd121, hX122⟩
              refine ⟨_, rfl, ?_⟩
              have hH123 : Has E w124 [sg115, [Hp.one pb32 (.cells #[(.bool ((dc.cr keep).ar (again % 16)).p.off), (.bool ((dc.cr keep).ar (again % 16)).p.armed), (.int .i64 ((dc.cr keep).ar (again % 16)).p.left), (.int .i64 ((dc.cr keep).ar (again % 16)).p.uses)] 101 (0, 0))], sn, [Hp.one tb39 (.cells #[(.pointer (some ⟨db31, 0, none⟩)), (.int .i64 6)] 98 (0, 0))], R] := hX122.of_all2
              refine s_nil ?_
              refine t_norm (hK120 _ _ ?_)
              refine wp_seq_k fun K125 hK125 => ?_
              refine c_region ?_
              refine s_op (o_move (v := (.pointer (some ⟨db31, 0, none⟩))) e63_11 ?_)
              have hP2 := TcP.mend (d := ((dc.cr keep).ar (again % 16))) hP1 rfl rfl other
              have hL2 : (mendR ((dc.cr keep).ar (again % 16)) 6).2.la.length = 29 := by rw [mend_len]; exact hL1
              have h642 : Full64 (mendR ((dc.cr keep).ar (again % 16)) 6).2.la := full_mend rfl h641
              have hL3 : ((mendR ((dc.cr keep).ar (again % 16)) 6).2.cr other).la.length = 29 := by rw [dcr_len]; exact hL2
              have h643 : Full64 ((mendR ((dc.cr keep).ar (again % 16)) 6).2.cr other).la := full_settle hP2.1 other _ h642
              have hP3 := hP2.2.open rfl rfl rfl
              have hL4 : (mendR ((mendR ((dc.cr keep).ar (again % 16)) 6).2.cr other) 6).2.la.length = 29 := by rw [mend_len]; exact hL3
              have h644 : Full64 (mendR ((mendR ((dc.cr keep).ar (again % 16)) 6).2.cr other) 6).2.la := full_mend rfl h643
              have hn_6 : (6 : Int).toNat = 6 := rfl
              refine s_op (o_callf (vs := #[(.pointer (some ⟨db31, 0, none⟩)), (.int .i64 6)]) ca21 rfl (args2 rfl rfl) (topen_any (d := ((dc.cr keep).ar (again % 16))) ((hH123.front 1 rfl).front 1 rfl).all2 hd121 (n := 6) (few_ar (n := again % 16) (few_cr hfc _) (by omega)) (by omega) rfl (l4_29 hL1) ⟨by decide, by decide⟩ (ln29 hL1) (hg.mono (seg_sub 2 rfl)) h641 rfl) ?_)
              rintro _ w132 ⟨v128, z129, sg126, rfl, hd127, hX130⟩
              refine ⟨_, rfl, ?_⟩
              have hH131 : Has E w132 [sg126, [Hp.one pb32 (.cells #[(.bool ((mendR ((dc.cr keep).ar (again % 16)) 6).2).p.off), (.bool ((mendR ((dc.cr keep).ar (again % 16)) 6).2).p.armed), (.int .i64 ((mendR ((dc.cr keep).ar (again % 16)) 6).2).p.left), (.int .i64 ((mendR ((dc.cr keep).ar (again % 16)) 6).2).p.uses)] 101 (0, 0))], sn, [Hp.one tb39 (.cells #[(.pointer (some ⟨db31, 0, none⟩)), (.int .i64 6)] 98 (0, 0))], R] := hX130.of_all2
              refine s_nil ?_
              refine t_norm (hK125 _ _ ?_)
              refine wp_seq_k fun K133 hK133 => ?_
              refine c_region ?_
              refine s_op (o_move (v := (.pointer (some ⟨db31, 0, none⟩))) e63_11 ?_)
              refine s_op (o_move (v := vo) e63_4 ?_)
              refine s_op (o_callf (vs := #[(.pointer (some ⟨db31, 0, none⟩)), vo]) ca23 rfl (args2 rfl rfl) (dv_cr (d := (mendR ((dc.cr keep).ar (again % 16)) 6).2) ((hH131.front 1 rfl).front 1 rfl).all2 hd127 hP2.1 (keep := other) (ho_.mono (seg_sub 2 rfl))) ?_)
              rintro _ w138 ⟨sg134, rfl, hd135, hX136⟩
              refine ⟨_, rfl, ?_⟩
              have hH137 : Has E w138 [sg134, [Hp.one pb32 (.cells #[(.bool (((mendR ((dc.cr keep).ar (again % 16)) 6).2).cr other).p.off), (.bool (((mendR ((dc.cr keep).ar (again % 16)) 6).2).cr other).p.armed), (.int .i64 (((mendR ((dc.cr keep).ar (again % 16)) 6).2).cr other).p.left), (.int .i64 (((mendR ((dc.cr keep).ar (again % 16)) 6).2).cr other).p.uses)] 101 (0, 0))], sn, [Hp.one tb39 (.cells #[(.pointer (some ⟨db31, 0, none⟩)), (.int .i64 6)] 98 (0, 0))], R] := hX136.of_all2
              refine s_nil ?_
              refine t_norm (hK133 _ _ ?_)
              refine wp_seq_k fun K139 hK139 => ?_
              refine c_region ?_
              refine s_op (o_move (v := (.pointer (some ⟨db31, 0, none⟩))) e63_11 ?_)
              refine s_op (o_callf (vs := #[(.pointer (some ⟨db31, 0, none⟩)), (.int .i64 6)]) ca21 rfl (args2 rfl rfl) (topen_ok (d := (((mendR ((dc.cr keep).ar (again % 16)) 6).2).cr other)) ((hH137.front 1 rfl).front 1 rfl).all2 hd135 (n := 6) (few_cr (few_mend (few_ar (n := again % 16) (few_cr hfc _) (by omega))) _) (by omega) rfl (l4_29 hL3) ⟨by decide, by decide⟩ (ln29 hL3) (hg.mono (seg_sub 2 rfl)) h643 rfl hP3.1) ?_)
              rintro _ w145 ⟨tb142, sg140, rfl, hd141, hX143⟩
              refine ⟨_, rfl, ?_⟩
              have hH144 : Has E w145 [[Hp.one tb142 (.cells #[(.pointer (some ⟨db31, 0, none⟩)), (.int .i64 6)] 98 (0, 0))], sg140, [Hp.one pb32 (.cells #[(.bool ((mendR (((mendR ((dc.cr keep).ar (again % 16)) 6).2).cr other) 6).2).p.off), (.bool ((mendR (((mendR ((dc.cr keep).ar (again % 16)) 6).2).cr other) 6).2).p.armed), (.int .i64 ((mendR (((mendR ((dc.cr keep).ar (again % 16)) 6).2).cr other) 6).2).p.left), (.int .i64 ((mendR (((mendR ((dc.cr keep).ar (again % 16)) 6).2).cr other) 6).2).p.uses)] 101 (0, 0))], sn, [Hp.one tb39 (.cells #[(.pointer (some ⟨db31, 0, none⟩)), (.int .i64 6)] 98 (0, 0))], R] := hX143.of_all3
              refine s_op (o_move (v := (.tuple #[(.pointer (some ⟨tb142, 0, none⟩)), (.int .i64 (0 : Int))])) rfl ?_)
              refine s_op (o_extract (v := (.pointer (some ⟨tb142, 0, none⟩))) rfl rfl ?_)
              refine s_op (o_extract (v := (.int .i64 (0 : Int))) rfl rfl ?_)
              refine s_op (o_assign (v := (.pointer (some ⟨tb142, 0, none⟩))) rfl ?_)
              refine s_op (o_assign (v := (.int .i64 (0 : Int))) rfl ?_)
              refine s_nil ?_
              refine t_norm (hK139 _ _ ?_)
              refine wp_seq_k fun K146 hK146 => ?_
              refine wp_seq_k fun K147 hK147 => ?_
              refine c_region ?_
              refine s_op (o_move (v := (.pointer (some ⟨tb142, 0, none⟩))) rfl ?_)
              refine s_op (o_pnil (p := some _) Tryz.underlying25 rfl rfl ?_)
              refine s_op (o_move (v := (.bool false)) rfl ?_)
              refine s_on 115 rfl rfl (o_move (v := (.int .i64 (0 : Int))) rfl ?_)
              refine s_on 115 rfl rfl (o_neq (a := (0 : Int)) (b := 0) rfl rfl ?_)
              refine s_op (o_pick_f (u := (.bool (decide ((0 : Int) ≠ 0)))) rfl rfl ?_)
              refine s_nil ?_
              refine t_norm (hK147 _ _ ?_)
              refine c_false rfl (decide_eq_false h47) ?_
              refine wp_skip ?_
              refine t_norm (hK146 _ _ ?_)
              refine wp_seq_k fun K148 hK148 => ?_
              refine wp_seq_k fun K149 hK149 => ?_
              refine c_region ?_
              refine s_op (o_move (v := uv) e63_15 ?_)
              refine s_op (o_lenS Tryz.underlying31 rfl huv ?_)
              refine s_op (o_gtr (a := ((ul.length : Nat) : Int)) (b := 0) rfl rfl ?_)
              refine s_nil ?_
              refine t_norm (hK149 _ _ ?_)
              refine c_cond rfl (fun h150 => ?_) (fun h150 => ?_)
              · -- 0 < ((ul.length : Nat) : Int)
                refine wp_seq_k fun K151 hK151 => ?_
                refine c_region ?_
                refine s_op (o_move (v := (.pointer (some ⟨tb142, 0, none⟩))) rfl ?_)
                refine s_op (o_move (v := uv) e63_15 ?_)
                obtain ⟨x155, hx156⟩ : ∃ x_, ul[((0 : Int)).toNat]? = some x_ := get_some (by omega)
                refine s_op (o_indexF pgC_len Tryz.underlying31 ti36 rfl huv rfl rfl (by omega) hx156 fun b152 o153 hc154 => ?_)
                refine s_op (o_fieldAddr (k := o153) (fun _ => by kernel_rfl) rfl ?_)
                refine s_op (o_load1 (v := (.int .i64 x155.1)) Tryz.underlying3 rfl rfl hH144 (seg_sub 5 rfl) (CellsAt.field (k := 0) (ds := [(.int .i64 x155.1)]) hc154 rfl) ?_)
                have hu_ := TcP.un hP3.2.2.2 (show ul[0]? = some x155 from hx156)
                have hub_ := lpg_no hu_.1
                refine s_op (o_callf (vs := #[(.pointer (some ⟨tb142, 0, none⟩)), (.int .i64 x155.1)]) ca24 rfl (args2 rfl rfl) (tpage_on (d := (mendR (((mendR ((dc.cr keep).ar (again % 16)) 6).2).cr other) 6).2) (n := 6) ((hH144.front 2 rfl).front 2 rfl).all3 hd141 hP3.2.1 hP3.2.2.1 h644 (l4_29 hL4) ⟨by decide, by decide⟩ (ln29 hL4) (hg.mono (seg_sub 2 rfl)) (x := x155.1) ⟨by omega, by omega⟩) ?_)
                rintro _ w162 ⟨v157, hs158, rfl, ho159, hX160⟩
                refine ⟨_, rfl, ?_⟩
                have hH161 : Has E w162 [hs158, sg140, [Hp.one pb32 (.cells #[(.bool ((mendR (((mendR ((dc.cr keep).ar (again % 16)) 6).2).cr other) 6).2).p.off), (.bool ((mendR (((mendR ((dc.cr keep).ar (again % 16)) 6).2).cr other) 6).2).p.armed), (.int .i64 ((mendR (((mendR ((dc.cr keep).ar (again % 16)) 6).2).cr other) 6).2).p.left), (.int .i64 ((mendR (((mendR ((dc.cr keep).ar (again % 16)) 6).2).cr other) 6).2).p.uses)] 101 (0, 0))], [Hp.one tb142 (.cells #[(.pointer (some ⟨db31, 0, none⟩)), (.int .i64 6)] 98 (0, 0))], sn, [Hp.one tb39 (.cells #[(.pointer (some ⟨db31, 0, none⟩)), (.int .i64 6)] 98 (0, 0))], R] := hX160.of_all4
                have hE_ := tc_end (p := (((pgOf (pgB ((mendR (((mendR ((dc.cr keep).ar (again % 16)) 6).2).cr other) 6).2).la (plc x155.1)) x155.1).1.1, (pgOf (pgB ((mendR (((mendR ((dc.cr keep).ar (again % 16)) 6).2).cr other) 6).2).la (plc x155.1)) x155.1).1.2.1, v157, (pgOf (pgB ((mendR (((mendR ((dc.cr keep).ar (again % 16)) 6).2).cr other) 6).2).la (plc x155.1)) x155.1).1.2.2) : Pg)) hts.1 hu_.1 hu_.2.1 hu_.2.2
                refine s_op (o_move (v := (.tuple #[(.agg #[(.int .i64 ((pgOf (pgB ((mendR (((mendR ((dc.cr keep).ar (again % 16)) 6).2).cr other) 6).2).la (plc x155.1)) x155.1).1.1)), (.int .i64 ((pgOf (pgB ((mendR (((mendR ((dc.cr keep).ar (again % 16)) 6).2).cr other) 6).2).la (plc x155.1)) x155.1).1.2.1)), v157]), (.int .i64 ((pgOf (pgB ((mendR (((mendR ((dc.cr keep).ar (again % 16)) 6).2).cr other) 6).2).la (plc x155.1)) x155.1).2))])) rfl ?_)
                refine s_op (o_extract (v := (.agg #[(.int .i64 ((pgOf (pgB ((mendR (((mendR ((dc.cr keep).ar (again % 16)) 6).2).cr other) 6).2).la (plc x155.1)) x155.1).1.1)), (.int .i64 ((pgOf (pgB ((mendR (((mendR ((dc.cr keep).ar (again % 16)) 6).2).cr other) 6).2).la (plc x155.1)) x155.1).1.2.1)), v157])) rfl rfl ?_)
                refine s_op (o_extract (v := (.int .i64 ((pgOf (pgB ((mendR (((mendR ((dc.cr keep).ar (again % 16)) 6).2).cr other) 6).2).la (plc x155.1)) x155.1).2))) rfl rfl ?_)
                refine s_op (o_alloc (cs := #[(.int .i64 0), (.int .i64 0), (.slice none 0 0)]) ti36 rfl hH161 fun b163 w164 hH165 => ?_)
                refine s_eff (o_storeN (vs := [(.int .i64 ((pgOf (pgB ((mendR (((mendR ((dc.cr keep).ar (again % 16)) 6).2).cr other) 6).2).la (plc x155.1)) x155.1).1.1)), (.int .i64 ((pgOf (pgB ((mendR (((mendR ((dc.cr keep).ar (again % 16)) 6).2).cr other) 6).2).la (plc x155.1)) x155.1).1.2.1)), v157]) (c' := #[(.int .i64 ((pgOf (pgB ((mendR (((mendR ((dc.cr keep).ar (again % 16)) 6).2).cr other) 6).2).la (plc x155.1)) x155.1).1.1)), (.int .i64 ((pgOf (pgB ((mendR (((mendR ((dc.cr keep).ar (again % 16)) 6).2).cr other) 6).2).la (plc x155.1)) x155.1).1.2.1)), v157]) ti36 rfl rfl rfl rfl (by intro u hu; simp only [List.mem_cons, List.not_mem_nil, or_false] at hu; rcases hu with rfl | rfl | rfl <;> first | rfl | exact ho159.one) (by simp) (by kernel_rfl) (hH165.front 0 rfl) fun w166 hH167 => ?_)
                refine s_op (o_assign (v := (.int .i64 ((pgOf (pgB ((mendR (((mendR ((dc.cr keep).ar (again % 16)) 6).2).cr other) 6).2).la (plc x155.1)) x155.1).2))) rfl ?_)
                refine s_nil ?_
                refine t_norm (hK151 _ _ ?_)
                refine wp_seq_k fun K168 hK168 => ?_
                refine wp_seq_k fun K169 hK169 => ?_
                refine c_region ?_
                refine s_op (o_move (v := (.int .i64 ((pgOf (pgB ((mendR (((mendR ((dc.cr keep).ar (again % 16)) 6).2).cr other) 6).2).la (plc x155.1)) x155.1).2))) rfl ?_)
                refine s_op (o_neq (a := (pgOf (pgB ((mendR (((mendR ((dc.cr keep).ar (again % 16)) 6).2).cr other) 6).2).la (plc x155.1)) x155.1).2) (b := 0) rfl rfl ?_)
                refine s_nil ?_
                refine t_norm (hK169 _ _ ?_)
                refine c_cond rfl (fun h170 => ?_) (fun h170 => ?_)
                · -- (pgOf (pgB ((mendR (((mendR ((dc.cr keep).ar (again % 16)) 6).2).cr other) 6).2).la (plc x155.1)) x155.1).2 ≠ 0
                  exact absurd hE_.1 h170
                · -- not: (pgOf (pgB ((mendR (((mendR ((dc.cr keep).ar (again % 16)) 6).2).cr other) 6).2).la (plc x155.1)) x155.1).2 ≠ 0
                  refine wp_skip ?_
                  refine t_norm (hK168 _ _ ?_)
                  refine wp_seq_k fun K171 hK171 => ?_
                  refine Rest.region mixed (by kernel_rfl) ?_
                  have hH172 : Has E { w166 with drawn := w166.drawn + 1 } [[Hp.one b163 (.cells #[(.int .i64 ((pgOf (pgB ((mendR (((mendR ((dc.cr keep).ar (again % 16)) 6).2).cr other) 6).2).la (plc x155.1)) x155.1).1.1)), (.int .i64 ((pgOf (pgB ((mendR (((mendR ((dc.cr keep).ar (again % 16)) 6).2).cr other) 6).2).la (plc x155.1)) x155.1).1.2.1)), v157] 36 (0, 0))], hs158, sg140, [Hp.one pb32 (.cells #[(.bool ((mendR (((mendR ((dc.cr keep).ar (again % 16)) 6).2).cr other) 6).2).p.off), (.bool ((mendR (((mendR ((dc.cr keep).ar (again % 16)) 6).2).cr other) 6).2).p.armed), (.int .i64 ((mendR (((mendR ((dc.cr keep).ar (again % 16)) 6).2).cr other) 6).2).p.left), (.int .i64 ((mendR (((mendR ((dc.cr keep).ar (again % 16)) 6).2).cr other) 6).2).p.uses)] 101 (0, 0))], [Hp.one tb142 (.cells #[(.pointer (some ⟨db31, 0, none⟩)), (.int .i64 6)] 98 (0, 0))], sn, [Hp.one tb39 (.cells #[(.pointer (some ⟨db31, 0, none⟩)), (.int .i64 6)] 98 (0, 0))], R] := Has0.drew hH167 _
                  refine Rest.phaseA (fun w_ => Has E w_ [[Hp.one b163 (.cells #[(.int .i64 ((pgOf (pgB ((mendR (((mendR ((dc.cr keep).ar (again % 16)) 6).2).cr other) 6).2).la (plc x155.1)) x155.1).1.1)), (.int .i64 ((pgOf (pgB ((mendR (((mendR ((dc.cr keep).ar (again % 16)) 6).2).cr other) 6).2).la (plc x155.1)) x155.1).1.2.1)), v157] 36 (0, 0))], R]) 0 4 4 rfl (by decide) (by kernel_rfl) ?_
                  refine a_op 0 rfl (by kernel_rfl) (fun w_ h_ => o_loadN (cs := [(.int .i64 ((pgOf (pgB ((mendR (((mendR ((dc.cr keep).ar (again % 16)) 6).2).cr other) 6).2).la (plc x155.1)) x155.1).1.1)), (.int .i64 ((pgOf (pgB ((mendR (((mendR ((dc.cr keep).ar (again % 16)) 6).2).cr other) 6).2).la (plc x155.1)) x155.1).1.2.1)), v157]) Tryz.underlying36 rfl ti36 rfl h_ (seg_sub 0 rfl) (CellsAt.one rfl) ⟨rfl, rfl⟩) ?_
                  refine a_op 1 rfl (by kernel_rfl) (fun w_ h_ => o_move (v := uv) e63_15 ⟨rfl, rfl⟩) ?_
                  obtain ⟨b173, o174, hc175, ho176⟩ := ix_exF pgC_len Tryz.underlying31 ti36 huv (by omega) hx156
                  refine a_op 2 rfl (by kernel_rfl) (fun w_ h_ => ho176 rfl rfl ⟨rfl, rfl⟩) ?_
                  refine a_op 3 rfl (by kernel_rfl) (fun w_ h_ => o_loadN (cs := [(.int .i64 x155.1), (.int .i64 x155.2.1), x155.2.2.1]) Tryz.underlying36 rfl ti36 rfl h_ (seg_sub 1 rfl) hc175 ⟨rfl, rfl⟩) ?_
                  have hH177 : Has E { w166 with drawn := w166.drawn + 1 } [[Hp.one b163 (.cells #[(.int .i64 ((pgOf (pgB ((mendR (((mendR ((dc.cr keep).ar (again % 16)) 6).2).cr other) 6).2).la (plc x155.1)) x155.1).1.1)), (.int .i64 ((pgOf (pgB ((mendR (((mendR ((dc.cr keep).ar (again % 16)) 6).2).cr other) 6).2).la (plc x155.1)) x155.1).1.2.1)), v157] 36 (0, 0))], R] := ((hH172.front 7 rfl).front 1 rfl).first 2 rfl
                  refine a_done (by kernel_rfl) hH177 ?_
                  refine r_op 4 rfl (by kernel_rfl) (o_callf (vs := #[(.agg #[(.int .i64 ((pgOf (pgB ((mendR (((mendR ((dc.cr keep).ar (again % 16)) 6).2).cr other) 6).2).la (plc x155.1)) x155.1).1.1)), (.int .i64 ((pgOf (pgB ((mendR (((mendR ((dc.cr keep).ar (again % 16)) 6).2).cr other) 6).2).la (plc x155.1)) x155.1).1.2.1)), v157]), (.agg #[(.int .i64 x155.1), (.int .i64 x155.2.1), x155.2.2.1])]) ca25 rfl (args2 rfl rfl) (r11same_c (noa := (pgOf (pgB ((mendR (((mendR ((dc.cr keep).ar (again % 16)) 6).2).cr other) 6).2).la (plc x155.1)) x155.1).1.1) (gsna := (pgOf (pgB ((mendR (((mendR ((dc.cr keep).ar (again % 16)) 6).2).cr other) 6).2).la (plc x155.1)) x155.1).1.2.1) (la := (pgOf (pgB ((mendR (((mendR ((dc.cr keep).ar (again % 16)) 6).2).cr other) 6).2).la (plc x155.1)) x155.1).1.2.2) (nob := x155.1) (gsnb := x155.2.1) (lb := x155.2.2.2) hH172.all (ho159.sl.mono (seg_sub 1 rfl)) ((hun x155 (List.mem_of_getElem? hx156)).mono (seg_sub 7 rfl))) ?_)
                  rintro _ w180 ⟨rfl, hX178⟩
                  refine ⟨_, rfl, ?_⟩
                  have hH179 := hX178.of_all
                  refine Rest.done (by kernel_rfl) ?_
                  refine t_norm (hK171 _ _ ?_)
                  refine c_condb rfl (fun h181 => ?_) (fun h181 => ?_)
                  · -- (decide (((pgOf (pgB ((mendR (((mendR ((dc.cr keep).ar (again % 16)) 6).2).cr other) 6).2).la (plc x155.1)) x155.1).1.1) = x155.1 ∧ ((pgOf (pgB ((mendR (((mendR ((dc.cr keep).ar (again % 16)) 6).2).cr other) 6).2).la (plc x155.1)) x155.1).1.2.1) = x155.2.1 ∧ ((pgOf (pgB ((mendR (((mendR ((dc.cr keep).ar (again % 16)) 6).2).cr other) 6).2).la (plc x155.1)) x155.1).1.2.2) = x155.2.2.2))
                    have hq_ := of_decide_eq_true h181
                    have hps_ : pgT (((pgOf (pgB ((mendR (((mendR ((dc.cr keep).ar (again % 16)) 6).2).cr other) 6).2).la (plc x155.1)) x155.1).1.1, (pgOf (pgB ((mendR (((mendR ((dc.cr keep).ar (again % 16)) 6).2).cr other) 6).2).la (plc x155.1)) x155.1).1.2.1, v157, (pgOf (pgB ((mendR (((mendR ((dc.cr keep).ar (again % 16)) 6).2).cr other) 6).2).la (plc x155.1)) x155.1).1.2.2) : Pg) = pgT x155 := Prod.ext hq_.1 (Prod.ext hq_.2.1 hq_.2.2)
                    obtain ⟨B2, hTw2, hTo2⟩ := hE_.2.1 hps_ rfl
                    have hpn_ : (pgOf (pgB ((mendR (((mendR ((dc.cr keep).ar (again % 16)) 6).2).cr other) 6).2).la (plc x155.1)) x155.1).1.1 = x155.1 := hq_.1
                    have hnl_ : now.length = 6 := hts.1.1
                    refine c_region ?_
                    refine s_op (o_move (v := v49) e63_14 ?_)
                    refine s_op (o_fieldAddr (k := 0) (fun _ => by kernel_rfl) rfl ?_)
                    refine s_op (o_load1 (v := (.int .i64 ((pgOf (pgB ((mendR (((mendR ((dc.cr keep).ar (again % 16)) 6).2).cr other) 6).2).la (plc x155.1)) x155.1).1.1))) Tryz.underlying3 rfl rfl hH179 (seg_sub 0 rfl) (CellsAt.one rfl) ?_)
                    refine s_op (o_loadN (cs := [(.int .i64 ((pgOf (pgB ((mendR (((mendR ((dc.cr keep).ar (again % 16)) 6).2).cr other) 6).2).la (plc x155.1)) x155.1).1.1)), (.int .i64 ((pgOf (pgB ((mendR (((mendR ((dc.cr keep).ar (again % 16)) 6).2).cr other) 6).2).la (plc x155.1)) x155.1).1.2.1)), v157]) Tryz.underlying36 rfl ti36 rfl hH179 (seg_sub 0 rfl) (CellsAt.one rfl) ?_)
                    refine s_op (o_ownAddrF Tryz.underlying31 ti36 rfl hnw rfl (by omega) (by first | omega | (simp only [List.length_append, List.length_cons, List.length_nil, List.length_set]; omega)) fun b182 ho183 => ?_)
                    refine s_eff (o_ownStoreF (f := pgC) (l := now) (a := (((pgOf (pgB ((mendR (((mendR ((dc.cr keep).ar (again % 16)) 6).2).cr other) 6).2).la (plc x155.1)) x155.1).1.1, (pgOf (pgB ((mendR (((mendR ((dc.cr keep).ar (again % 16)) 6).2).cr other) 6).2).la (plc x155.1)) x155.1).1.2.1, v157, (pgOf (pgB ((mendR (((mendR ((dc.cr keep).ar (again % 16)) 6).2).cr other) 6).2).la (plc x155.1)) x155.1).1.2.2) : Pg)) (i := ((pgOf (pgB ((mendR (((mendR ((dc.cr keep).ar (again % 16)) 6).2).cr other) 6).2).la (plc x155.1)) x155.1).1.1).toNat) pgC_len ti36 rfl rfl rfl (fun u_ hu_ => (one_pgA (L := hs158) (a := (((pgOf (pgB ((mendR (((mendR ((dc.cr keep).ar (again % 16)) 6).2).cr other) 6).2).la (plc x155.1)) x155.1).1.1, (pgOf (pgB ((mendR (((mendR ((dc.cr keep).ar (again % 16)) 6).2).cr other) 6).2).la (plc x155.1)) x155.1).1.2.1, v157, (pgOf (pgB ((mendR (((mendR ((dc.cr keep).ar (again % 16)) 6).2).cr other) 6).2).la (plc x155.1)) x155.1).1.2.2) : Pg)) (Own.sl ho159)) u_ (by simpa using hu_)) ho183 (by first | rfl | (simp only [List.length_append, List.length_cons, List.length_nil, List.length_set]; done) | simp) (by first | omega | (simp only [List.length_append, List.length_cons, List.length_nil, List.length_set]; omega)) (hH179.front 5 rfl) fun s184 w185 ho186 hH187 => ?_)
                    refine s_nil ?_
                    refine t_norm (hK148 _ _ ?_)
                    refine wp_seq_k fun K188 hK188 => ?_
                    refine c_region ?_
                    refine s_op (o_move (v := (.pointer (some ⟨tb142, 0, none⟩))) rfl ?_)
                    refine s_op (o_move (v := v49) e63_14 ?_)
                    refine s_op (o_callf (vs := #[(.pointer (some ⟨tb142, 0, none⟩)), v49]) ca19 rfl (args2 rfl rfl) (same12_c (d := (mendR (((mendR ((dc.cr keep).ar (again % 16)) 6).2).cr other) 6).2) (n := 6) (((hH187.front 5 rfl).front 5 rfl).front 5 rfl).all3 hd141 hP3.2.1 hP3.2.2.1 h644 (l4_29 hL4) ⟨by decide, by decide⟩ (ln29 hL4) (hg.mono (seg_sub 4 rfl)) (now := (now.set (((pgOf (pgB ((mendR (((mendR ((dc.cr keep).ar (again % 16)) 6).2).cr other) 6).2).la (plc x155.1)) x155.1).1.1).toNat) (((pgOf (pgB ((mendR (((mendR ((dc.cr keep).ar (again % 16)) 6).2).cr other) 6).2).la (plc x155.1)) x155.1).1.1, (pgOf (pgB ((mendR (((mendR ((dc.cr keep).ar (again % 16)) 6).2).cr other) 6).2).la (plc x155.1)) x155.1).1.2.1, v157, (pgOf (pgB ((mendR (((mendR ((dc.cr keep).ar (again % 16)) 6).2).cr other) 6).2).la (plc x155.1)) x155.1).1.2.2) : Pg))) (ho186.sl.mono (seg_sub 0 rfl)) (fun a ha => (List.mem_or_eq_of_mem_set ha).elim (fun k => (hokn a k).mono (seg_sub 4 rfl)) (fun k => by rw [k]; exact (Own.sl ho159).mono (seg_sub 2 rfl))) (B := B2) hTo2 (fun k hk => hTw2.pg k hk)) ?_)
                    rintro _ w191 ⟨rfl, hX189⟩
                    refine ⟨_, rfl, ?_⟩
                    have hH190 : Has E w191 [sg140, [Hp.one pb32 (.cells #[(.bool ((mendR (((mendR ((dc.cr keep).ar (again % 16)) 6).2).cr other) 6).2).p.off), (.bool ((mendR (((mendR ((dc.cr keep).ar (again % 16)) 6).2).cr other) 6).2).p.armed), (.int .i64 ((mendR (((mendR ((dc.cr keep).ar (again % 16)) 6).2).cr other) 6).2).p.left), (.int .i64 ((mendR (((mendR ((dc.cr keep).ar (again % 16)) 6).2).cr other) 6).2).p.uses)] 101 (0, 0))], [Hp.one tb142 (.cells #[(.pointer (some ⟨db31, 0, none⟩)), (.int .i64 6)] 98 (0, 0))], s184, [Hp.one b163 (.cells #[(.int .i64 ((pgOf (pgB ((mendR (((mendR ((dc.cr keep).ar (again % 16)) 6).2).cr other) 6).2).la (plc x155.1)) x155.1).1.1)), (.int .i64 ((pgOf (pgB ((mendR (((mendR ((dc.cr keep).ar (again % 16)) 6).2).cr other) 6).2).la (plc x155.1)) x155.1).1.2.1)), v157] 36 (0, 0))], hs158, [Hp.one tb39 (.cells #[(.pointer (some ⟨db31, 0, none⟩)), (.int .i64 6)] 98 (0, 0))], R] := hX189.of_all3
                    refine s_op (o_assign (v := (.bool true)) rfl ?_)
                    refine s_nil ?_
                    refine t_norm (hK188 _ _ ?_)
                    refine wp_ret ?_
                    refine c_ret1 Tryz.results4  (v := (.bool true)) rfl ?_
                    have hH192 : Has E w191 [R] := (hH190.front 7 rfl).first 1 rfl
                    exact ⟨by first | rfl | (rw [decide_eq_true (by decide)]), hH192⟩
                  · -- not: (decide (((pgOf (pgB ((mendR (((mendR ((dc.cr keep).ar (again % 16)) 6).2).cr other) 6).2).la (plc x155.1)) x155.1).1.1) = x155.1 ∧ ((pgOf (pgB ((mendR (((mendR ((dc.cr keep).ar (again % 16)) 6).2).cr other) 6).2).la (plc x155.1)) x155.1).1.2.1) = x155.2.1 ∧ ((pgOf (pgB ((mendR (((mendR ((dc.cr keep).ar (again % 16)) 6).2).cr other) 6).2).la (plc x155.1)) x155.1).1.2.2) = x155.2.2.2))
                    obtain ⟨B2, hTw2, hTo2⟩ := hE_.2.2 (fun g => of_decide_eq_false h181 ⟨congrArg (fun z : Int × Int × List Cel => z.1) g, congrArg (fun z : Int × Int × List Cel => z.2.1) g, congrArg (fun z : Int × Int × List Cel => z.2.2) g⟩)
                    refine wp_skip ?_
                    refine t_norm (hK148 _ _ ?_)
                    refine wp_seq_k fun K193 hK193 => ?_
                    refine c_region ?_
                    refine s_op (o_move (v := (.pointer (some ⟨tb142, 0, none⟩))) rfl ?_)
                    refine s_op (o_move (v := v49) e63_14 ?_)
                    refine s_op (o_callf (vs := #[(.pointer (some ⟨tb142, 0, none⟩)), v49]) ca19 rfl (args2 rfl rfl) (same12_c (d := (mendR (((mendR ((dc.cr keep).ar (again % 16)) 6).2).cr other) 6).2) (n := 6) (((hH179.front 4 rfl).front 4 rfl).front 4 rfl).all3 hd141 hP3.2.1 hP3.2.2.1 h644 (l4_29 hL4) ⟨by decide, by decide⟩ (ln29 hL4) (hg.mono (seg_sub 4 rfl)) (now := now) (hnw.sl.mono (seg_sub 2 rfl)) (fun a ha => (hokn a ha).mono (seg_sub 4 rfl)) (B := B2) hTo2 (fun k hk => hTw2.pg k hk)) ?_)
                    rintro _ w196 ⟨rfl, hX194⟩
                    refine ⟨_, rfl, ?_⟩
                    have hH195 : Has E w196 [sg140, [Hp.one pb32 (.cells #[(.bool ((mendR (((mendR ((dc.cr keep).ar (again % 16)) 6).2).cr other) 6).2).p.off), (.bool ((mendR (((mendR ((dc.cr keep).ar (again % 16)) 6).2).cr other) 6).2).p.armed), (.int .i64 ((mendR (((mendR ((dc.cr keep).ar (again % 16)) 6).2).cr other) 6).2).p.left), (.int .i64 ((mendR (((mendR ((dc.cr keep).ar (again % 16)) 6).2).cr other) 6).2).p.uses)] 101 (0, 0))], [Hp.one tb142 (.cells #[(.pointer (some ⟨db31, 0, none⟩)), (.int .i64 6)] 98 (0, 0))], [Hp.one b163 (.cells #[(.int .i64 ((pgOf (pgB ((mendR (((mendR ((dc.cr keep).ar (again % 16)) 6).2).cr other) 6).2).la (plc x155.1)) x155.1).1.1)), (.int .i64 ((pgOf (pgB ((mendR (((mendR ((dc.cr keep).ar (again % 16)) 6).2).cr other) 6).2).la (plc x155.1)) x155.1).1.2.1)), v157] 36 (0, 0))], hs158, sn, [Hp.one tb39 (.cells #[(.pointer (some ⟨db31, 0, none⟩)), (.int .i64 6)] 98 (0, 0))], R] := hX194.of_all3
                    refine s_op (o_assign (v := (.bool true)) rfl ?_)
                    refine s_nil ?_
                    refine t_norm (hK193 _ _ ?_)
                    refine wp_ret ?_
                    refine c_ret1 Tryz.results4  (v := (.bool true)) rfl ?_
                    have hH197 : Has E w196 [R] := (hH195.front 7 rfl).first 1 rfl
                    exact ⟨by first | rfl | (rw [decide_eq_true (by decide)]), hH197⟩
              · -- not: 0 < ((ul.length : Nat) : Int)
                refine wp_skip ?_
                refine t_norm (hK148 _ _ ?_)
                refine wp_seq_k fun K198 hK198 => ?_
                refine c_region ?_
                refine s_op (o_move (v := (.pointer (some ⟨tb142, 0, none⟩))) rfl ?_)
                refine s_op (o_move (v := v49) e63_14 ?_)
                have hTw2 := TcP.un0 hP3.2.2.2 (by omega)
                refine s_op (o_callf (vs := #[(.pointer (some ⟨tb142, 0, none⟩)), v49]) ca19 rfl (args2 rfl rfl) (same12_c (d := (mendR (((mendR ((dc.cr keep).ar (again % 16)) 6).2).cr other) 6).2) (n := 6) ((hH144.front 2 rfl).front 2 rfl).all3 hd141 hP3.2.1 hP3.2.2.1 h644 (l4_29 hL4) ⟨by decide, by decide⟩ (ln29 hL4) (hg.mono (seg_sub 2 rfl)) (now := now) (hnw.sl.mono (seg_sub 0 rfl)) (fun a ha => (hokn a ha).mono (seg_sub 2 rfl)) (B := B) hts.1 (fun k hk => hTw2.pg k hk)) ?_)
                rintro _ w201 ⟨rfl, hX199⟩
                refine ⟨_, rfl, ?_⟩
                have hH200 : Has E w201 [sg140, [Hp.one pb32 (.cells #[(.bool ((mendR (((mendR ((dc.cr keep).ar (again % 16)) 6).2).cr other) 6).2).p.off), (.bool ((mendR (((mendR ((dc.cr keep).ar (again % 16)) 6).2).cr other) 6).2).p.armed), (.int .i64 ((mendR (((mendR ((dc.cr keep).ar (again % 16)) 6).2).cr other) 6).2).p.left), (.int .i64 ((mendR (((mendR ((dc.cr keep).ar (again % 16)) 6).2).cr other) 6).2).p.uses)] 101 (0, 0))], [Hp.one tb142 (.cells #[(.pointer (some ⟨db31, 0, none⟩)), (.int .i64 6)] 98 (0, 0))], sn, [Hp.one tb39 (.cells #[(.pointer (some ⟨db31, 0, none⟩)), (.int .i64 6)] 98 (0, 0))], R] := hX199.of_all3
                refine s_op (o_assign (v := (.bool true)) rfl ?_)
                refine s_nil ?_
                refine t_norm (hK198 _ _ ?_)
                refine wp_ret ?_
                refine c_ret1 Tryz.results4  (v := (.bool true)) rfl ?_
                have hH202 : Has E w201 [R] := (hH200.front 5 rfl).first 1 rfl
                exact ⟨by first | rfl | (rw [decide_eq_true (by decide)]), hH202⟩
          · -- not: (i : Int) < ((l.length : Nat) : Int)
            refine s_off (b' := false) 60 rfl (congrArg Value.bool (decide_eq_false h70)) rfl ?_
            refine s_off (b' := false) 60 rfl (congrArg Value.bool (decide_eq_false h70)) rfl ?_
            refine s_off (b' := false) 60 rfl (congrArg Value.bool (decide_eq_false h70)) rfl ?_
            refine s_op (o_pick_f (u := (.bool false)) ((rfl : _ = _).trans (congrArg Value.bool (decide_eq_false h70))) rfl ?_)
            refine s_nil ?_
            refine t_norm (hK69 _ _ ?_)
            refine c_false rfl rfl ?_
            refine wp_exit ?_
            refine t_exit (t_exit (x_in (?_)))
            refine t_norm (hK61 _ _ ?_)
            refine wp_seq_k fun K203 hK203 => ?_
            refine c_region ?_
            refine s_op (o_move (v := (.pointer (some ⟨db31, 0, none⟩))) e63_11 ?_)
            refine s_op (o_move (v := vk) e63_3 ?_)
            have hP1 := hts.crash keep
            refine s_op (o_callf (vs := #[(.pointer (some ⟨db31, 0, none⟩)), vk]) ca23 rfl (args2 rfl rfl) (dv_cr (d := dc) ((hH66.front 1 rfl).front 1 rfl).all2 hdc hts.2.1 (keep := keep) (hk_.mono (seg_sub 2 rfl))) ?_)
            rintro _ w208 ⟨sg204, rfl, hd205, hX206⟩
            refine ⟨_, rfl, ?_⟩
            have hH207 : Has E w208 [sg204, [Hp.one pb32 (.cells #[(.bool (dc.cr keep).p.off), (.bool (dc.cr keep).p.armed), (.int .i64 (dc.cr keep).p.left), (.int .i64 (dc.cr keep).p.uses)] 101 (0, 0))], sn, [Hp.one tb39 (.cells #[(.pointer (some ⟨db31, 0, none⟩)), (.int .i64 6)] 98 (0, 0))], R] := hX206.of_all2
            have hL1 : (dc.cr keep).la.length = 29 := by rw [dcr_len]; exact hnc
            have h641 : Full64 (dc.cr keep).la := full_settle hts.2.1 keep _ h64c
            refine s_nil ?_
            refine t_norm (hK203 _ _ ?_)
            refine wp_seq_k fun K209 hK209 => ?_
            refine c_region ?_
            refine s_op (o_move (v := (.pointer (some ⟨db31, 0, none⟩))) e63_11 ?_)
            refine s_op (o_move (v := (.int .u8 again)) e63_2 ?_)
            refine s_op (o_rem (a := again) (b := 16) (c := again % 16) rfl rfl (by omega) ((Int.tmod_eq_emod_of_nonneg (by first | exact Int.natCast_nonneg _ | omega))) ?_)
            refine s_op (o_conv (c := (again % 16)) Tryz.underlying5 Tryz.underlying3 rfl (w64 (by omega) (by omega)) ?_)
            refine s_op (o_callf (vs := #[(.pointer (some ⟨db31, 0, none⟩)), (.int .i64 (again % 16))]) ca22 rfl (args2 rfl rfl) (dv_ar (d := (dc.cr keep)) ((hH207.front 1 rfl).front 1 rfl).all2 hd205 (again % 16)) ?_)
            rintro _ w213 ⟨rfl, hd210, hX211⟩
            refine ⟨_, rfl, ?_⟩
            have hH212 : Has E w213 [sg204, [Hp.one pb32 (.cells #[(.bool ((dc.cr keep).ar (again % 16)).p.off), (.bool ((dc.cr keep).ar (again % 16)).p.armed), (.int .i64 ((dc.cr keep).ar (again % 16)).p.left), (.int .i64 ((dc.cr keep).ar (again % 16)).p.uses)] 101 (0, 0))], sn, [Hp.one tb39 (.cells #[(.pointer (some ⟨db31, 0, none⟩)), (.int .i64 6)] 98 (0, 0))], R] := hX211.of_all2
            refine s_nil ?_
            refine t_norm (hK209 _ _ ?_)
            refine wp_seq_k fun K214 hK214 => ?_
            refine c_region ?_
            refine s_op (o_move (v := (.pointer (some ⟨db31, 0, none⟩))) e63_11 ?_)
            have hP2 := TcP.mend (d := ((dc.cr keep).ar (again % 16))) hP1 rfl rfl other
            have hL2 : (mendR ((dc.cr keep).ar (again % 16)) 6).2.la.length = 29 := by rw [mend_len]; exact hL1
            have h642 : Full64 (mendR ((dc.cr keep).ar (again % 16)) 6).2.la := full_mend rfl h641
            have hL3 : ((mendR ((dc.cr keep).ar (again % 16)) 6).2.cr other).la.length = 29 := by rw [dcr_len]; exact hL2
            have h643 : Full64 ((mendR ((dc.cr keep).ar (again % 16)) 6).2.cr other).la := full_settle hP2.1 other _ h642
            have hP3 := hP2.2.open rfl rfl rfl
            have hL4 : (mendR ((mendR ((dc.cr keep).ar (again % 16)) 6).2.cr other) 6).2.la.length = 29 := by rw [mend_len]; exact hL3
            have h644 : Full64 (mendR ((mendR ((dc.cr keep).ar (again % 16)) 6).2.cr other) 6).2.la := full_mend rfl h643
            have hn_6 : (6 : Int).toNat = 6 := rfl
            refine s_op (o_callf (vs := #[(.pointer (some ⟨db31, 0, none⟩)), (.int .i64 6)]) ca21 rfl (args2 rfl rfl) (topen_any (d := ((dc.cr keep).ar (again % 16))) ((hH212.front 1 rfl).front 1 rfl).all2 hd210 (n := 6) (few_ar (n := again % 16) (few_cr hfc _) (by omega)) (by omega) rfl (l4_29 hL1) ⟨by decide, by decide⟩ (ln29 hL1) (hg.mono (seg_sub 2 rfl)) h641 rfl) ?_)
            rintro _ w221 ⟨v217, z218, sg215, rfl, hd216, hX219⟩
            refine ⟨_, rfl, ?_⟩
            have hH220 : Has E w221 [sg215, [Hp.one pb32 (.cells #[(.bool ((mendR ((dc.cr keep).ar (again % 16)) 6).2).p.off), (.bool ((mendR ((dc.cr keep).ar (again % 16)) 6).2).p.armed), (.int .i64 ((mendR ((dc.cr keep).ar (again % 16)) 6).2).p.left), (.int .i64 ((mendR ((dc.cr keep).ar (again % 16)) 6).2).p.uses)] 101 (0, 0))], sn, [Hp.one tb39 (.cells #[(.pointer (some ⟨db31, 0, none⟩)), (.int .i64 6)] 98 (0, 0))], R] := hX219.of_all2
            refine s_nil ?_
            refine t_norm (hK214 _ _ ?_)
            refine wp_seq_k fun K222 hK222 => ?_
            refine c_region ?_
            refine s_op (o_move (v := (.pointer (some ⟨db31, 0, none⟩))) e63_11 ?_)
            refine s_op (o_move (v := vo) e63_4 ?_)
            refine s_op (o_callf (vs := #[(.pointer (some ⟨db31, 0, none⟩)), vo]) ca23 rfl (args2 rfl rfl) (dv_cr (d := (mendR ((dc.cr keep).ar (again % 16)) 6).2) ((hH220.front 1 rfl).front 1 rfl).all2 hd216 hP2.1 (keep := other) (ho_.mono (seg_sub 2 rfl))) ?_)
            rintro _ w227 ⟨sg223, rfl, hd224, hX225⟩
            refine ⟨_, rfl, ?_⟩
            have hH226 : Has E w227 [sg223, [Hp.one pb32 (.cells #[(.bool (((mendR ((dc.cr keep).ar (again % 16)) 6).2).cr other).p.off), (.bool (((mendR ((dc.cr keep).ar (again % 16)) 6).2).cr other).p.armed), (.int .i64 (((mendR ((dc.cr keep).ar (again % 16)) 6).2).cr other).p.left), (.int .i64 (((mendR ((dc.cr keep).ar (again % 16)) 6).2).cr other).p.uses)] 101 (0, 0))], sn, [Hp.one tb39 (.cells #[(.pointer (some ⟨db31, 0, none⟩)), (.int .i64 6)] 98 (0, 0))], R] := hX225.of_all2
            refine s_nil ?_
            refine t_norm (hK222 _ _ ?_)
            refine wp_seq_k fun K228 hK228 => ?_
            refine c_region ?_
            refine s_op (o_move (v := (.pointer (some ⟨db31, 0, none⟩))) e63_11 ?_)
            refine s_op (o_callf (vs := #[(.pointer (some ⟨db31, 0, none⟩)), (.int .i64 6)]) ca21 rfl (args2 rfl rfl) (topen_ok (d := (((mendR ((dc.cr keep).ar (again % 16)) 6).2).cr other)) ((hH226.front 1 rfl).front 1 rfl).all2 hd224 (n := 6) (few_cr (few_mend (few_ar (n := again % 16) (few_cr hfc _) (by omega))) _) (by omega) rfl (l4_29 hL3) ⟨by decide, by decide⟩ (ln29 hL3) (hg.mono (seg_sub 2 rfl)) h643 rfl hP3.1) ?_)
            rintro _ w234 ⟨tb231, sg229, rfl, hd230, hX232⟩
            refine ⟨_, rfl, ?_⟩
            have hH233 : Has E w234 [[Hp.one tb231 (.cells #[(.pointer (some ⟨db31, 0, none⟩)), (.int .i64 6)] 98 (0, 0))], sg229, [Hp.one pb32 (.cells #[(.bool ((mendR (((mendR ((dc.cr keep).ar (again % 16)) 6).2).cr other) 6).2).p.off), (.bool ((mendR (((mendR ((dc.cr keep).ar (again % 16)) 6).2).cr other) 6).2).p.armed), (.int .i64 ((mendR (((mendR ((dc.cr keep).ar (again % 16)) 6).2).cr other) 6).2).p.left), (.int .i64 ((mendR (((mendR ((dc.cr keep).ar (again % 16)) 6).2).cr other) 6).2).p.uses)] 101 (0, 0))], sn, [Hp.one tb39 (.cells #[(.pointer (some ⟨db31, 0, none⟩)), (.int .i64 6)] 98 (0, 0))], R] := hX232.of_all3
            refine s_op (o_move (v := (.tuple #[(.pointer (some ⟨tb231, 0, none⟩)), (.int .i64 (0 : Int))])) rfl ?_)
            refine s_op (o_extract (v := (.pointer (some ⟨tb231, 0, none⟩))) rfl rfl ?_)
            refine s_op (o_extract (v := (.int .i64 (0 : Int))) rfl rfl ?_)
            refine s_op (o_assign (v := (.pointer (some ⟨tb231, 0, none⟩))) rfl ?_)
            refine s_op (o_assign (v := (.int .i64 (0 : Int))) rfl ?_)
            refine s_nil ?_
            refine t_norm (hK228 _ _ ?_)
            refine wp_seq_k fun K235 hK235 => ?_
            refine wp_seq_k fun K236 hK236 => ?_
            refine c_region ?_
            refine s_op (o_move (v := (.pointer (some ⟨tb231, 0, none⟩))) rfl ?_)
            refine s_op (o_pnil (p := some _) Tryz.underlying25 rfl rfl ?_)
            refine s_op (o_move (v := (.bool false)) rfl ?_)
            refine s_on 115 rfl rfl (o_move (v := (.int .i64 (0 : Int))) rfl ?_)
            refine s_on 115 rfl rfl (o_neq (a := (0 : Int)) (b := 0) rfl rfl ?_)
            refine s_op (o_pick_f (u := (.bool (decide ((0 : Int) ≠ 0)))) rfl rfl ?_)
            refine s_nil ?_
            refine t_norm (hK236 _ _ ?_)
            refine c_false rfl (decide_eq_false h47) ?_
            refine wp_skip ?_
            refine t_norm (hK235 _ _ ?_)
            refine wp_seq_k fun K237 hK237 => ?_
            refine wp_seq_k fun K238 hK238 => ?_
            refine c_region ?_
            refine s_op (o_move (v := uv) e63_15 ?_)
            refine s_op (o_lenS Tryz.underlying31 rfl huv ?_)
            refine s_op (o_gtr (a := ((ul.length : Nat) : Int)) (b := 0) rfl rfl ?_)
            refine s_nil ?_
            refine t_norm (hK238 _ _ ?_)
            refine c_cond rfl (fun h239 => ?_) (fun h239 => ?_)
            · -- 0 < ((ul.length : Nat) : Int)
              refine wp_seq_k fun K240 hK240 => ?_
              refine c_region ?_
              refine s_op (o_move (v := (.pointer (some ⟨tb231, 0, none⟩))) rfl ?_)
              refine s_op (o_move (v := uv) e63_15 ?_)
              obtain ⟨x244, hx245⟩ : ∃ x_, ul[((0 : Int)).toNat]? = some x_ := get_some (by omega)
              refine s_op (o_indexF pgC_len Tryz.underlying31 ti36 rfl huv rfl rfl (by omega) hx245 fun b241 o242 hc243 => ?_)
              refine s_op (o_fieldAddr (k := o242) (fun _ => by kernel_rfl) rfl ?_)
              refine s_op (o_load1 (v := (.int .i64 x244.1)) Tryz.underlying3 rfl rfl hH233 (seg_sub 5 rfl) (CellsAt.field (k := 0) (ds := [(.int .i64 x244.1)]) hc243 rfl) ?_)
              have hu_ := TcP.un hP3.2.2.2 (show ul[0]? = some x244 from hx245)
              have hub_ := lpg_no hu_.1
              refine s_op (o_callf (vs := #[(.pointer (some ⟨tb231, 0, none⟩)), (.int .i64 x244.1)]) ca24 rfl (args2 rfl rfl) (tpage_on (d := (mendR (((mendR ((dc.cr keep).ar (again % 16)) 6).2).cr other) 6).2) (n := 6) ((hH233.front 2 rfl).front 2 rfl).all3 hd230 hP3.2.1 hP3.2.2.1 h644 (l4_29 hL4) ⟨by decide, by decide⟩ (ln29 hL4) (hg.mono (seg_sub 2 rfl)) (x := x244.1) ⟨by omega, by omega⟩) ?_)
              rintro _ w251 ⟨v246, hs247, rfl, ho248, hX249⟩
              refine ⟨_, rfl, ?_⟩
              have hH250 : Has E w251 [hs247, sg229, [Hp.one pb32 (.cells #[(.bool ((mendR (((mendR ((dc.cr keep).ar (again % 16)) 6).2).cr other) 6).2).p.off), (.bool ((mendR (((mendR ((dc.cr keep).ar (again % 16)) 6).2).cr other) 6).2).p.armed), (.int .i64 ((mendR (((mendR ((dc.cr keep).ar (again % 16)) 6).2).cr other) 6).2).p.left), (.int .i64 ((mendR (((mendR ((dc.cr keep).ar (again % 16)) 6).2).cr other) 6).2).p.uses)] 101 (0, 0))], [Hp.one tb231 (.cells #[(.pointer (some ⟨db31, 0, none⟩)), (.int .i64 6)] 98 (0, 0))], sn, [Hp.one tb39 (.cells #[(.pointer (some ⟨db31, 0, none⟩)), (.int .i64 6)] 98 (0, 0))], R] := hX249.of_all4
              have hE_ := tc_end (p := (((pgOf (pgB ((mendR (((mendR ((dc.cr keep).ar (again % 16)) 6).2).cr other) 6).2).la (plc x244.1)) x244.1).1.1, (pgOf (pgB ((mendR (((mendR ((dc.cr keep).ar (again % 16)) 6).2).cr other) 6).2).la (plc x244.1)) x244.1).1.2.1, v246, (pgOf (pgB ((mendR (((mendR ((dc.cr keep).ar (again % 16)) 6).2).cr other) 6).2).la (plc x244.1)) x244.1).1.2.2) : Pg)) hts.1 hu_.1 hu_.2.1 hu_.2.2
              refine s_op (o_move (v := (.tuple #[(.agg #[(.int .i64 ((pgOf (pgB ((mendR (((mendR ((dc.cr keep).ar (again % 16)) 6).2).cr other) 6).2).la (plc x244.1)) x244.1).1.1)), (.int .i64 ((pgOf (pgB ((mendR (((mendR ((dc.cr keep).ar (again % 16)) 6).2).cr other) 6).2).la (plc x244.1)) x244.1).1.2.1)), v246]), (.int .i64 ((pgOf (pgB ((mendR (((mendR ((dc.cr keep).ar (again % 16)) 6).2).cr other) 6).2).la (plc x244.1)) x244.1).2))])) rfl ?_)
              refine s_op (o_extract (v := (.agg #[(.int .i64 ((pgOf (pgB ((mendR (((mendR ((dc.cr keep).ar (again % 16)) 6).2).cr other) 6).2).la (plc x244.1)) x244.1).1.1)), (.int .i64 ((pgOf (pgB ((mendR (((mendR ((dc.cr keep).ar (again % 16)) 6).2).cr other) 6).2).la (plc x244.1)) x244.1).1.2.1)), v246])) rfl rfl ?_)
              refine s_op (o_extract (v := (.int .i64 ((pgOf (pgB ((mendR (((mendR ((dc.cr keep).ar (again % 16)) 6).2).cr other) 6).2).la (plc x244.1)) x244.1).2))) rfl rfl ?_)
              refine s_op (o_alloc (cs := #[(.int .i64 0), (.int .i64 0), (.slice none 0 0)]) ti36 rfl hH250 fun b252 w253 hH254 => ?_)
              refine s_eff (o_storeN (vs := [(.int .i64 ((pgOf (pgB ((mendR (((mendR ((dc.cr keep).ar (again % 16)) 6).2).cr other) 6).2).la (plc x244.1)) x244.1).1.1)), (.int .i64 ((pgOf (pgB ((mendR (((mendR ((dc.cr keep).ar (again % 16)) 6).2).cr other) 6).2).la (plc x244.1)) x244.1).1.2.1)), v246]) (c' := #[(.int .i64 ((pgOf (pgB ((mendR (((mendR ((dc.cr keep).ar (again % 16)) 6).2).cr other) 6).2).la (plc x244.1)) x244.1).1.1)), (.int .i64 ((pgOf (pgB ((mendR (((mendR ((dc.cr keep).ar (again % 16)) 6).2).cr other) 6).2).la (plc x244.1)) x244.1).1.2.1)), v246]) ti36 rfl rfl rfl rfl (by intro u hu; simp only [List.mem_cons, List.not_mem_nil, or_false] at hu; rcases hu with rfl | rfl | rfl <;> first | rfl | exact ho248.one) (by simp) (by kernel_rfl) (hH254.front 0 rfl) fun w255 hH256 => ?_)
              refine s_op (o_assign (v := (.int .i64 ((pgOf (pgB ((mendR (((mendR ((dc.cr keep).ar (again % 16)) 6).2).cr other) 6).2).la (plc x244.1)) x244.1).2))) rfl ?_)
              refine s_nil ?_
              refine t_norm (hK240 _ _ ?_)
              refine wp_seq_k fun K257 hK257 => ?_
              refine wp_seq_k fun K258 hK258 => ?_
              refine c_region ?_
              refine s_op (o_move (v := (.int .i64 ((pgOf (pgB ((mendR (((mendR ((dc.cr keep).ar (again % 16)) 6).2).cr other) 6).2).la (plc x244.1)) x244.1).2))) rfl ?_)
              refine s_op (o_neq (a := (pgOf (pgB ((mendR (((mendR ((dc.cr keep).ar (again % 16)) 6).2).cr other) 6).2).la (plc x244.1)) x244.1).2) (b := 0) rfl rfl ?_)
              refine s_nil ?_
              refine t_norm (hK258 _ _ ?_)
              refine c_cond rfl (fun h259 => ?_) (fun h259 => ?_)
              · -- (pgOf (pgB ((mendR (((mendR ((dc.cr keep).ar (again % 16)) 6).2).cr other) 6).2).la (plc x244.1)) x244.1).2 ≠ 0
                exact absurd hE_.1 h259
              · -- not: (pgOf (pgB ((mendR (((mendR ((dc.cr keep).ar (again % 16)) 6).2).cr other) 6).2).la (plc x244.1)) x244.1).2 ≠ 0
                refine wp_skip ?_
                refine t_norm (hK257 _ _ ?_)
                refine wp_seq_k fun K260 hK260 => ?_
                refine Rest.region mixed (by kernel_rfl) ?_
                have hH261 : Has E { w255 with drawn := w255.drawn + 1 } [[Hp.one b252 (.cells #[(.int .i64 ((pgOf (pgB ((mendR (((mendR ((dc.cr keep).ar (again % 16)) 6).2).cr other) 6).2).la (plc x244.1)) x244.1).1.1)), (.int .i64 ((pgOf (pgB ((mendR (((mendR ((dc.cr keep).ar (again % 16)) 6).2).cr other) 6).2).la (plc x244.1)) x244.1).1.2.1)), v246] 36 (0, 0))], hs247, sg229, [Hp.one pb32 (.cells #[(.bool ((mendR (((mendR ((dc.cr keep).ar (again % 16)) 6).2).cr other) 6).2).p.off), (.bool ((mendR (((mendR ((dc.cr keep).ar (again % 16)) 6).2).cr other) 6).2).p.armed), (.int .i64 ((mendR (((mendR ((dc.cr keep).ar (again % 16)) 6).2).cr other) 6).2).p.left), (.int .i64 ((mendR (((mendR ((dc.cr keep).ar (again % 16)) 6).2).cr other) 6).2).p.uses)] 101 (0, 0))], [Hp.one tb231 (.cells #[(.pointer (some ⟨db31, 0, none⟩)), (.int .i64 6)] 98 (0, 0))], sn, [Hp.one tb39 (.cells #[(.pointer (some ⟨db31, 0, none⟩)), (.int .i64 6)] 98 (0, 0))], R] := Has0.drew hH256 _
                refine Rest.phaseA (fun w_ => Has E w_ [[Hp.one b252 (.cells #[(.int .i64 ((pgOf (pgB ((mendR (((mendR ((dc.cr keep).ar (again % 16)) 6).2).cr other) 6).2).la (plc x244.1)) x244.1).1.1)), (.int .i64 ((pgOf (pgB ((mendR (((mendR ((dc.cr keep).ar (again % 16)) 6).2).cr other) 6).2).la (plc x244.1)) x244.1).1.2.1)), v246] 36 (0, 0))], R]) 0 4 4 rfl (by decide) (by kernel_rfl) ?_
                refine a_op 0 rfl (by kernel_rfl) (fun w_ h_ => o_loadN (cs := [(.int .i64 ((pgOf (pgB ((mendR (((mendR ((dc.cr keep).ar (again % 16)) 6).2).cr other) 6).2).la (plc x244.1)) x244.1).1.1)), (.int .i64 ((pgOf (pgB ((mendR (((mendR ((dc.cr keep).ar (again % 16)) 6).2).cr other) 6).2).la (plc x244.1)) x244.1).1.2.1)), v246]) Tryz.underlying36 rfl ti36 rfl h_ (seg_sub 0 rfl) (CellsAt.one rfl) ⟨rfl, rfl⟩) ?_
                refine a_op 1 rfl (by kernel_rfl) (fun w_ h_ => o_move (v := uv) e63_15 ⟨rfl, rfl⟩) ?_
                obtain ⟨b262, o263, hc264, ho265⟩ := ix_exF pgC_len Tryz.underlying31 ti36 huv (by omega) hx245
                refine a_op 2 rfl (by kernel_rfl) (fun w_ h_ => ho265 rfl rfl ⟨rfl, rfl⟩) ?_
                refine a_op 3 rfl (by kernel_rfl) (fun w_ h_ => o_loadN (cs := [(.int .i64 x244.1), (.int .i64 x244.2.1), x244.2.2.1]) Tryz.underlying36 rfl ti36 rfl h_ (seg_sub 1 rfl) hc264 ⟨rfl, rfl⟩) ?_
                have hH266 : Has E { w255 with drawn := w255.drawn + 1 } [[Hp.one b252 (.cells #[(.int .i64 ((pgOf (pgB ((mendR (((mendR ((dc.cr keep).ar (again % 16)) 6).2).cr other) 6).2).la (plc x244.1)) x244.1).1.1)), (.int .i64 ((pgOf (pgB ((mendR (((mendR ((dc.cr keep).ar (again % 16)) 6).2).cr other) 6).2).la (plc x244.1)) x244.1).1.2.1)), v246] 36 (0, 0))], R] := ((hH261.front 7 rfl).front 1 rfl).first 2 rfl
                refine a_done (by kernel_rfl) hH266 ?_
                refine r_op 4 rfl (by kernel_rfl) (o_callf (vs := #[(.agg #[(.int .i64 ((pgOf (pgB ((mendR (((mendR ((dc.cr keep).ar (again % 16)) 6).2).cr other) 6).2).la (plc x244.1)) x244.1).1.1)), (.int .i64 ((pgOf (pgB ((mendR (((mendR ((dc.cr keep).ar (again % 16)) 6).2).cr other) 6).2).la (plc x244.1)) x244.1).1.2.1)), v246]), (.agg #[(.int .i64 x244.1), (.int .i64 x244.2.1), x244.2.2.1])]) ca25 rfl (args2 rfl rfl) (r11same_c (noa := (pgOf (pgB ((mendR (((mendR ((dc.cr keep).ar (again % 16)) 6).2).cr other) 6).2).la (plc x244.1)) x244.1).1.1) (gsna := (pgOf (pgB ((mendR (((mendR ((dc.cr keep).ar (again % 16)) 6).2).cr other) 6).2).la (plc x244.1)) x244.1).1.2.1) (la := (pgOf (pgB ((mendR (((mendR ((dc.cr keep).ar (again % 16)) 6).2).cr other) 6).2).la (plc x244.1)) x244.1).1.2.2) (nob := x244.1) (gsnb := x244.2.1) (lb := x244.2.2.2) hH261.all (ho248.sl.mono (seg_sub 1 rfl)) ((hun x244 (List.mem_of_getElem? hx245)).mono (seg_sub 7 rfl))) ?_)
                rintro _ w269 ⟨rfl, hX267⟩
                refine ⟨_, rfl, ?_⟩
                have hH268 := hX267.of_all
                refine Rest.done (by kernel_rfl) ?_
                refine t_norm (hK260 _ _ ?_)
                refine c_condb rfl (fun h270 => ?_) (fun h270 => ?_)
                · -- (decide (((pgOf (pgB ((mendR (((mendR ((dc.cr keep).ar (again % 16)) 6).2).cr other) 6).2).la (plc x244.1)) x244.1).1.1) = x244.1 ∧ ((pgOf (pgB ((mendR (((mendR ((dc.cr keep).ar (again % 16)) 6).2).cr other) 6).2).la (plc x244.1)) x244.1).1.2.1) = x244.2.1 ∧ ((pgOf (pgB ((mendR (((mendR ((dc.cr keep).ar (again % 16)) 6).2).cr other) 6).2).la (plc x244.1)) x244.1).1.2.2) = x244.2.2.2))
                  have hq_ := of_decide_eq_true h270
                  have hps_ : pgT (((pgOf (pgB ((mendR (((mendR ((dc.cr keep).ar (again % 16)) 6).2).cr other) 6).2).la (plc x244.1)) x244.1).1.1, (pgOf (pgB ((mendR (((mendR ((dc.cr keep).ar (again % 16)) 6).2).cr other) 6).2).la (plc x244.1)) x244.1).1.2.1, v246, (pgOf (pgB ((mendR (((mendR ((dc.cr keep).ar (again % 16)) 6).2).cr other) 6).2).la (plc x244.1)) x244.1).1.2.2) : Pg) = pgT x244 := Prod.ext hq_.1 (Prod.ext hq_.2.1 hq_.2.2)
                  obtain ⟨B2, hTw2, hTo2⟩ := hE_.2.1 hps_ rfl
                  have hpn_ : (pgOf (pgB ((mendR (((mendR ((dc.cr keep).ar (again % 16)) 6).2).cr other) 6).2).la (plc x244.1)) x244.1).1.1 = x244.1 := hq_.1
                  have hnl_ : now.length = 6 := hts.1.1
                  refine c_region ?_
                  refine s_op (o_move (v := v49) e63_14 ?_)
                  refine s_op (o_fieldAddr (k := 0) (fun _ => by kernel_rfl) rfl ?_)
                  refine s_op (o_load1 (v := (.int .i64 ((pgOf (pgB ((mendR (((mendR ((dc.cr keep).ar (again % 16)) 6).2).cr other) 6).2).la (plc x244.1)) x244.1).1.1))) Tryz.underlying3 rfl rfl hH268 (seg_sub 0 rfl) (CellsAt.one rfl) ?_)
                  refine s_op (o_loadN (cs := [(.int .i64 ((pgOf (pgB ((mendR (((mendR ((dc.cr keep).ar (again % 16)) 6).2).cr other) 6).2).la (plc x244.1)) x244.1).1.1)), (.int .i64 ((pgOf (pgB ((mendR (((mendR ((dc.cr keep).ar (again % 16)) 6).2).cr other) 6).2).la (plc x244.1)) x244.1).1.2.1)), v246]) Tryz.underlying36 rfl ti36 rfl hH268 (seg_sub 0 rfl) (CellsAt.one rfl) ?_)
                  refine s_op (o_ownAddrF Tryz.underlying31 ti36 rfl hnw rfl (by omega) (by first | omega | (simp only [List.length_append, List.length_cons, List.length_nil, List.length_set]; omega)) fun b271 ho272 => ?_)
                  refine s_eff (o_ownStoreF (f := pgC) (l := now) (a := (((pgOf (pgB ((mendR (((mendR ((dc.cr keep).ar (again % 16)) 6).2).cr other) 6).2).la (plc x244.1)) x244.1).1.1, (pgOf (pgB ((mendR (((mendR ((dc.cr keep).ar (again % 16)) 6).2).cr other) 6).2).la (plc x244.1)) x244.1).1.2.1, v246, (pgOf (pgB ((mendR (((mendR ((dc.cr keep).ar (again % 16)) 6).2).cr other) 6).2).la (plc x244.1)) x244.1).1.2.2) : Pg)) (i := ((pgOf (pgB ((mendR (((mendR ((dc.cr keep).ar (again % 16)) 6).2).cr other) 6).2).la (plc x244.1)) x244.1).1.1).toNat) pgC_len ti36 rfl rfl rfl (fun u_ hu_ => (one_pgA (L := hs247) (a := (((pgOf (pgB ((mendR (((mendR ((dc.cr keep).ar (again % 16)) 6).2).cr other) 6).2).la (plc x244.1)) x244.1).1.1, (pgOf (pgB ((mendR (((mendR ((dc.cr keep).ar (again % 16)) 6).2).cr other) 6).2).la (plc x244.1)) x244.1).1.2.1, v246, (pgOf (pgB ((mendR (((mendR ((dc.cr keep).ar (again % 16)) 6).2).cr other) 6).2).la (plc x244.1)) x244.1).1.2.2) : Pg)) (Own.sl ho248)) u_ (by simpa using hu_)) ho272 (by first | rfl | (simp only [List.length_append, List.length_cons, List.length_nil, List.length_set]; done) | simp) (by first | omega | (simp only [List.length_append, List.length_cons, List.length_nil, List.length_set]; omega)) (hH268.front 5 rfl) fun s273 w274 ho275 hH276 => ?_)
                  refine s_nil ?_
                  refine t_norm (hK237 _ _ ?_)
                  refine wp_seq_k fun K277 hK277 => ?_
                  refine c_region ?_
                  refine s_op (o_move (v := (.pointer (some ⟨tb231, 0, none⟩))) rfl ?_)
                  refine s_op (o_move (v := v49) e63_14 ?_)
                  refine s_op (o_callf (vs := #[(.pointer (some ⟨tb231, 0, none⟩)), v49]) ca19 rfl (args2 rfl rfl) (same12_c (d := (mendR (((mendR ((dc.cr keep).ar (again % 16)) 6).2).cr other) 6).2) (n := 6) (((hH276.front 5 rfl).front 5 rfl).front 5 rfl).all3 hd230 hP3.2.1 hP3.2.2.1 h644 (l4_29 hL4) ⟨by decide, by decide⟩ (ln29 hL4) (hg.mono (seg_sub 4 rfl)) (now := (now.set (((pgOf (pgB ((mendR (((mendR ((dc.cr keep).ar (again % 16)) 6).2).cr other) 6).2).la (plc x244.1)) x244.1).1.1).toNat) (((pgOf (pgB ((mendR (((mendR ((dc.cr keep).ar (again % 16)) 6).2).cr other) 6).2).la (plc x244.1)) x244.1).1.1, (pgOf (pgB ((mendR (((mendR ((dc.cr keep).ar (again % 16)) 6).2).cr other) 6).2).la (plc x244.1)) x244.1).1.2.1, v246, (pgOf (pgB ((mendR (((mendR ((dc.cr keep).ar (again % 16)) 6).2).cr other) 6).2).la (plc x244.1)) x244.1).1.2.2) : Pg))) (ho275.sl.mono (seg_sub 0 rfl)) (fun a ha => (List.mem_or_eq_of_mem_set ha).elim (fun k => (hokn a k).mono (seg_sub 4 rfl)) (fun k => by rw [k]; exact (Own.sl ho248).mono (seg_sub 2 rfl))) (B := B2) hTo2 (fun k hk => hTw2.pg k hk)) ?_)
                  rintro _ w280 ⟨rfl, hX278⟩
                  refine ⟨_, rfl, ?_⟩
                  have hH279 : Has E w280 [sg229, [Hp.one pb32 (.cells #[(.bool ((mendR (((mendR ((dc.cr keep).ar (again % 16)) 6).2).cr other) 6).2).p.off), (.bool ((mendR (((mendR ((dc.cr keep).ar (again % 16)) 6).2).cr other) 6).2).p.armed), (.int .i64 ((mendR (((mendR ((dc.cr keep).ar (again % 16)) 6).2).cr other) 6).2).p.left), (.int .i64 ((mendR (((mendR ((dc.cr keep).ar (again % 16)) 6).2).cr other) 6).2).p.uses)] 101 (0, 0))], [Hp.one tb231 (.cells #[(.pointer (some ⟨db31, 0, none⟩)), (.int .i64 6)] 98 (0, 0))], s273, [Hp.one b252 (.cells #[(.int .i64 ((pgOf (pgB ((mendR (((mendR ((dc.cr keep).ar (again % 16)) 6).2).cr other) 6).2).la (plc x244.1)) x244.1).1.1)), (.int .i64 ((pgOf (pgB ((mendR (((mendR ((dc.cr keep).ar (again % 16)) 6).2).cr other) 6).2).la (plc x244.1)) x244.1).1.2.1)), v246] 36 (0, 0))], hs247, [Hp.one tb39 (.cells #[(.pointer (some ⟨db31, 0, none⟩)), (.int .i64 6)] 98 (0, 0))], R] := hX278.of_all3
                  refine s_op (o_assign (v := (.bool true)) rfl ?_)
                  refine s_nil ?_
                  refine t_norm (hK277 _ _ ?_)
                  refine wp_ret ?_
                  refine c_ret1 Tryz.results4  (v := (.bool true)) rfl ?_
                  have hH281 : Has E w280 [R] := (hH279.front 7 rfl).first 1 rfl
                  exact ⟨by first | rfl | (rw [decide_eq_true (by decide)]), hH281⟩
                · -- not: (decide (((pgOf (pgB ((mendR (((mendR ((dc.cr keep).ar (again % 16)) 6).2).cr other) 6).2).la (plc x244.1)) x244.1).1.1) = x244.1 ∧ ((pgOf (pgB ((mendR (((mendR ((dc.cr keep).ar (again % 16)) 6).2).cr other) 6).2).la (plc x244.1)) x244.1).1.2.1) = x244.2.1 ∧ ((pgOf (pgB ((mendR (((mendR ((dc.cr keep).ar (again % 16)) 6).2).cr other) 6).2).la (plc x244.1)) x244.1).1.2.2) = x244.2.2.2))
                  obtain ⟨B2, hTw2, hTo2⟩ := hE_.2.2 (fun g => of_decide_eq_false h270 ⟨congrArg (fun z : Int × Int × List Cel => z.1) g, congrArg (fun z : Int × Int × List Cel => z.2.1) g, congrArg (fun z : Int × Int × List Cel => z.2.2) g⟩)
                  refine wp_skip ?_
                  refine t_norm (hK237 _ _ ?_)
                  refine wp_seq_k fun K282 hK282 => ?_
                  refine c_region ?_
                  refine s_op (o_move (v := (.pointer (some ⟨tb231, 0, none⟩))) rfl ?_)
                  refine s_op (o_move (v := v49) e63_14 ?_)
                  refine s_op (o_callf (vs := #[(.pointer (some ⟨tb231, 0, none⟩)), v49]) ca19 rfl (args2 rfl rfl) (same12_c (d := (mendR (((mendR ((dc.cr keep).ar (again % 16)) 6).2).cr other) 6).2) (n := 6) (((hH268.front 4 rfl).front 4 rfl).front 4 rfl).all3 hd230 hP3.2.1 hP3.2.2.1 h644 (l4_29 hL4) ⟨by decide, by decide⟩ (ln29 hL4) (hg.mono (seg_sub 4 rfl)) (now := now) (hnw.sl.mono (seg_sub 2 rfl)) (fun a ha => (hokn a ha).mono (seg_sub 4 rfl)) (B := B2) hTo2 (fun k hk => hTw2.pg k hk)) ?_)
                  rintro _ w285 ⟨rfl, hX283⟩
                  refine ⟨_, rfl, ?_⟩
                  have hH284 : Has E w285 [sg229, [Hp.one pb32 (.cells #[(.bool ((mendR (((mendR ((dc.cr keep).ar (again % 16)) 6).2).cr other) 6).2).p.off), (.bool ((mendR (((mendR ((dc.cr keep).ar (again % 16)) 6).2).cr other) 6).2).p.armed), (.int .i64 ((mendR (((mendR ((dc.cr keep).ar (again % 16)) 6).2).cr other) 6).2).p.left), (.int .i64 ((mendR (((mendR ((dc.cr keep).ar (again % 16)) 6).2).cr other) 6).2).p.uses)] 101 (0, 0))], [Hp.one tb231 (.cells #[(.pointer (some ⟨db31, 0, none⟩)), (.int .i64 6)] 98 (0, 0))], [Hp.one b252 (.cells #[(.int .i64 ((pgOf (pgB ((mendR (((mendR ((dc.cr keep).ar (again % 16)) 6).2).cr other) 6).2).la (plc x244.1)) x244.1).1.1)), (.int .i64 ((pgOf (pgB ((mendR (((mendR ((dc.cr keep).ar (again % 16)) 6).2).cr other) 6).2).la (plc x244.1)) x244.1).1.2.1)), v246] 36 (0, 0))], hs247, sn, [Hp.one tb39 (.cells #[(.pointer (some ⟨db31, 0, none⟩)), (.int .i64 6)] 98 (0, 0))], R] := hX283.of_all3
                  refine s_op (o_assign (v := (.bool true)) rfl ?_)
                  refine s_nil ?_
                  refine t_norm (hK282 _ _ ?_)
                  refine wp_ret ?_
                  refine c_ret1 Tryz.results4  (v := (.bool true)) rfl ?_
                  have hH286 : Has E w285 [R] := (hH284.front 7 rfl).first 1 rfl
                  exact ⟨by first | rfl | (rw [decide_eq_true (by decide)]), hH286⟩
            · -- not: 0 < ((ul.length : Nat) : Int)
              refine wp_skip ?_
              refine t_norm (hK237 _ _ ?_)
              refine wp_seq_k fun K287 hK287 => ?_
              refine c_region ?_
              refine s_op (o_move (v := (.pointer (some ⟨tb231, 0, none⟩))) rfl ?_)
              refine s_op (o_move (v := v49) e63_14 ?_)
              have hTw2 := TcP.un0 hP3.2.2.2 (by omega)
              refine s_op (o_callf (vs := #[(.pointer (some ⟨tb231, 0, none⟩)), v49]) ca19 rfl (args2 rfl rfl) (same12_c (d := (mendR (((mendR ((dc.cr keep).ar (again % 16)) 6).2).cr other) 6).2) (n := 6) ((hH233.front 2 rfl).front 2 rfl).all3 hd230 hP3.2.1 hP3.2.2.1 h644 (l4_29 hL4) ⟨by decide, by decide⟩ (ln29 hL4) (hg.mono (seg_sub 2 rfl)) (now := now) (hnw.sl.mono (seg_sub 0 rfl)) (fun a ha => (hokn a ha).mono (seg_sub 2 rfl)) (B := B) hts.1 (fun k hk => hTw2.pg k hk)) ?_)
              rintro _ w290 ⟨rfl, hX288⟩
              refine ⟨_, rfl, ?_⟩
              have hH289 : Has E w290 [sg229, [Hp.one pb32 (.cells #[(.bool ((mendR (((mendR ((dc.cr keep).ar (again % 16)) 6).2).cr other) 6).2).p.off), (.bool ((mendR (((mendR ((dc.cr keep).ar (again % 16)) 6).2).cr other) 6).2).p.armed), (.int .i64 ((mendR (((mendR ((dc.cr keep).ar (again % 16)) 6).2).cr other) 6).2).p.left), (.int .i64 ((mendR (((mendR ((dc.cr keep).ar (again % 16)) 6).2).cr other) 6).2).p.uses)] 101 (0, 0))], [Hp.one tb231 (.cells #[(.pointer (some ⟨db31, 0, none⟩)), (.int .i64 6)] 98 (0, 0))], sn, [Hp.one tb39 (.cells #[(.pointer (some ⟨db31, 0, none⟩)), (.int .i64 6)] 98 (0, 0))], R] := hX288.of_all3
              refine s_op (o_assign (v := (.bool true)) rfl ?_)
              refine s_nil ?_
              refine t_norm (hK287 _ _ ?_)
              refine wp_ret ?_
              refine c_ret1 Tryz.results4  (v := (.bool true)) rfl ?_
              have hH291 : Has E w290 [R] := (hH289.front 5 rfl).first 1 rfl
              exact ⟨by first | rfl | (rw [decide_eq_true (by decide)]), hH291⟩
end Go.Q
namespace Go.Q
theorem arr_cells {H : Type} {enc : TypeId × Value → H} {P : Program} {w : World} {base : Nat} {spare : Nat → Bool} {held : Bool} {fuel n : Nat} {t e : TypeId} {k : IntKind} {cs : List Value} {l : List Int} {p : List MemPlace}
    (ht : P.underlying t = some (.array n e)) (he : P.underlying e = some (.int k)) (hc : P.cellsOf e = 1) (hl : l.length = n)
    (h : DataW.trod enc P w base spare held fuel t cs = some (.agg (l.map fun z => (DataW.lit (Lit.int k z) : DataW H)), p)) : ∀ (i : Nat) (z : Int), l[i]? = some z → cs[i]? = some (Value.int k z) := by
  intro i z hz
  obtain ⟨xs, m, _, hx, _, hn, hel⟩ := DataW.trod_array ht h
  simp only [Prod.mk.injEq, DataW.agg.injEq] at hx
  have hi : i < n := by rw [← hl]; exact (List.getElem?_eq_some_iff.1 hz).1
  have h1 := hel i hi
  rw [hc, Nat.mul_one, List.getElem?_eq_getElem (by omega)] at h1
  obtain ⟨r, e1, e2, _⟩ := DataW.trod_int he h1
  have e3 : (xs.map (·.1))[i]? = some (DataW.lit (Lit.int k z)) := by rw [← hx.1, List.getElem?_map, hz]; rfl
  rw [List.getElem?_map, List.getElem?_eq_getElem (by omega), Option.map_some] at e3
  rw [e2] at e3
  have e4 : r = z := by simpa using e3
  subst e4
  have e5 : (List.take 1 (List.drop i cs))[0]? = some (.int k r) := by rw [e1]; rfl
  rw [List.getElem?_take, if_pos (by omega), List.getElem?_drop] at e5
  simpa using e5
end Go.Q
namespace Go.Q
open Go.Proofs
set_option linter.unusedVariables false
set_option maxRecDepth 100000
attribute [local irreducible] wpList OK Code.wp
theorem rd_cel {H : Type} {enc : TypeId × Value → H} {w : World} {cs : List Value} (h : Rd enc Tryz.prog w 70 cs) : ∃ a : Cel, cs = ceC a ∧ True := by
  obtain ⟨hl, hf⟩ := rd_struct Tryz.underlying70 h
  have hl : cs.length = 2 := hl.trans (by kernel_rfl)
  obtain ⟨c0, c1, rfl⟩ : ∃ c0 c1, cs = [c0, c1] := by
    match cs, hl with
    | [c0, c1], _ => exact ⟨c0, c1, rfl⟩
  have f0_6 : Rd enc Tryz.prog w 9 [c0] := rd_field (i := 0) (k := 1) hf rfl rfl (by kernel_rfl) rfl
  obtain ⟨n0, e0, b0⟩ := rd_string Tryz.underlying9 f0_6
  obtain rfl := (List.cons.inj e0).1
  have f1_9 : Rd enc Tryz.prog w 9 [c1] := rd_field (i := 1) (k := 1) hf rfl rfl (by kernel_rfl) rfl
  obtain ⟨n1, e1, b1⟩ := rd_string Tryz.underlying9 f1_9
  obtain rfl := (List.cons.inj e1).1
  exact ⟨(n0, n1), rfl, trivial⟩
theorem rd_cels {H : Type} {enc : TypeId × Value → H} {w : World} {cs : List Value} (h : Rd enc Tryz.prog w 34 cs) : ∃ (v : Value) (l : List Cel), cs = [v] ∧ Sl [Hp.of w] 2 v l.length (l.flatMap ceC) ∧ ∀ a ∈ l, True :=
  rd_rows Tryz.underlying34 (by kernel_rfl) (by decide) ceC_len (fun r hr => rd_cel hr) h
theorem rd_page {H : Type} {enc : TypeId × Value → H} {w : World} {cs : List Value} (h : Rd enc Tryz.prog w 36 cs) : ∃ a : Pg, cs = pgC a ∧ PgIn [Hp.of w] a := by
  obtain ⟨hl, hf⟩ := rd_struct Tryz.underlying36 h
  have hl : cs.length = 3 := hl.trans (by kernel_rfl)
  obtain ⟨c0, c1, c2, rfl⟩ : ∃ c0 c1 c2, cs = [c0, c1, c2] := by
    match cs, hl with
    | [c0, c1, c2], _ => exact ⟨c0, c1, c2, rfl⟩
  have f0_6 : Rd enc Tryz.prog w 3 [c0] := rd_field (i := 0) (k := 1) hf rfl rfl (by kernel_rfl) rfl
  obtain ⟨n0, e0, b0⟩ := rd_i64 Tryz.underlying3 f0_6
  obtain rfl := (List.cons.inj e0).1
  have f1_9 : Rd enc Tryz.prog w 3 [c1] := rd_field (i := 1) (k := 1) hf rfl rfl (by kernel_rfl) rfl
  obtain ⟨n1, e1, b1⟩ := rd_i64 Tryz.underlying3 f1_9
  obtain rfl := (List.cons.inj e1).1
  have f2_12 : Rd enc Tryz.prog w 34 [c2] := rd_field (i := 2) (k := 1) hf rfl rfl (by kernel_rfl) rfl
  obtain ⟨u2, n2, e2, s2, b2⟩ := rd_cels f2_12
  obtain rfl := (List.cons.inj e2).1
  exact ⟨(n0, n1, _, n2), rfl, s2⟩
theorem rd_pages {H : Type} {enc : TypeId × Value → H} {w : World} {cs : List Value} (h : Rd enc Tryz.prog w 31 cs) : ∃ (v : Value) (l : List Pg), cs = [v] ∧ Sl [Hp.of w] 3 v l.length (l.flatMap pgC) ∧ ∀ a ∈ l, PgIn [Hp.of w] a :=
  rd_rows Tryz.underlying31 (by kernel_rfl) (by decide) pgC_len (fun r hr => rd_page hr) h
end Go.Q
