/-
  Parts of a walk: what functions of the program compute, each told by a theorem.
-/
import Derived.Test.YtcffibbdbalmjaaQEA4
set_option linter.unusedVariables false
set_option linter.unusedSimpArgs false
namespace Go.Q
open Go.Proofs
set_option linter.unusedVariables false
set_option maxRecDepth 100000
attribute [local irreducible] wpList OK Code.wp
set_option maxHeartbeats 4000000 in
theorem AreaApart_c {E w : World} {R : List Hp} (hH : Has E w [R]) {nn : Int} (hnn : 0 ≤ nn ∧ nn ≤ 255) (first : Bs) {v : Value} {l : List AAct} (hv : Sl R 5 v l.length (l.flatMap aaC)) (hok : ∀ a ∈ l, AaOk R a) :
    Calls Try.prog 5 #[(.int .u8 nn), (S first), v] w fun e w' => e = .returned (.bool true) ∧ Has E w' [R] := by
  have hn_ := hv.le
  obtain ⟨hnn1, hnn2⟩ := hnn
  refine c_enter (args := [(.int .u8 nn), (S first), v]) Try.func5 rfl Try.ntmps5 (by simp) ?_
  refine wp_seq_k fun K1 hK1 => ?_
  refine c_region ?_
  refine s_op (o_assign (v := (.bool false)) rfl ?_)
  refine s_nil ?_
  refine t_norm (hK1 _ _ ?_)
  refine wp_seq_k fun K2 hK2 => ?_
  refine wp_seq_k fun K3 hK3 => ?_
  refine c_region ?_
  refine s_op (o_move (v := v) rfl ?_)
  refine s_op (o_callf (vs := #[v]) ca21 rfl (args1 rfl) (great6_c hH.all (l := l) (hv.mono (seg_sub 0 rfl)) (fun a ha => (hok a ha).mono (seg_sub 0 rfl))) ?_)
  rintro _ w8 ⟨gb4, rfl, hg5, hX6⟩
  refine ⟨_, rfl, ?_⟩
  have hH7 : Has E w8 [R] := hX6.of_all
  refine s_op (o_move (v := (.bool gb4)) rfl ?_)
  rcases Bool.eq_false_or_eq_true gb4 with h9 | h9
  · -- gb4
    refine s_off (b' := true) 18 rfl (congrArg Value.bool h9) rfl ?_
    refine s_off (b' := true) 18 rfl (congrArg Value.bool h9) rfl ?_
    refine s_off (b' := true) 18 rfl (congrArg Value.bool h9) rfl ?_
    refine s_op (o_pick_t (u := (.bool true)) ((rfl : _ = _).trans (congrArg Value.bool h9)) rfl ?_)
    refine s_op (o_move (v := (.bool true)) rfl ?_)
    refine s_off (b' := true) 23 rfl rfl rfl ?_
    refine s_off (b' := true) 23 rfl rfl rfl ?_
    refine s_op (o_pick_t (u := (.bool true)) rfl rfl ?_)
    refine s_nil ?_
    refine t_norm (hK3 _ _ ?_)
    refine c_true rfl rfl ?_
    refine wp_seq_k fun K10 hK10 => ?_
    refine c_region ?_
    refine s_op (o_callf (vs := #[]) ca22 rfl (args0) (awake6_c hH7.all) ?_)
    rintro _ w13 ⟨rfl, hX11⟩
    refine ⟨_, rfl, ?_⟩
    have hH12 := hX11.of_all
    refine s_op (o_assign (v := (.bool true)) rfl ?_)
    refine s_nil ?_
    refine t_norm (hK10 _ _ ?_)
    refine wp_ret ?_
    refine t_ret (c_ret1 Try.results5  (v := (.bool true)) rfl ?_)
    exact ⟨by first | rfl | rw [decide_eq_true rfl], hH12⟩
  · -- not: gb4
    have hfine := hg5 h9
    have hl30 := hfine.1
    refine s_on 18 rfl (congrArg Value.bool h9) (o_move (v := (S first)) rfl ?_)
    refine s_on 18 rfl (congrArg Value.bool h9) (o_slen Try.underlying9 rfl ?_)
    refine s_on 18 rfl (congrArg Value.bool h9) (o_gtr (a := (first.length : Int)) (b := 128) rfl rfl ?_)
    refine s_op (o_pick_f (u := (.bool (decide (128 < (first.length : Int))))) ((rfl : _ = _).trans (congrArg Value.bool h9)) rfl ?_)
    refine s_op (o_move (v := (.bool (decide (128 < (first.length : Int))))) rfl ?_)
    by_cases h14 : 128 < (first.length : Int)
    · -- 128 < (first.length : Int)
      refine s_off (b' := true) 23 rfl (congrArg Value.bool (decide_eq_true h14)) rfl ?_
      refine s_off (b' := true) 23 rfl (congrArg Value.bool (decide_eq_true h14)) rfl ?_
      refine s_op (o_pick_t (u := (.bool true)) ((rfl : _ = _).trans (congrArg Value.bool (decide_eq_true h14))) rfl ?_)
      refine s_nil ?_
      refine t_norm (hK3 _ _ ?_)
      refine c_true rfl rfl ?_
      refine wp_seq_k fun K15 hK15 => ?_
      refine c_region ?_
      refine s_op (o_callf (vs := #[]) ca22 rfl (args0) (awake6_c hH7.all) ?_)
      rintro _ w18 ⟨rfl, hX16⟩
      refine ⟨_, rfl, ?_⟩
      have hH17 := hX16.of_all
      refine s_op (o_assign (v := (.bool true)) rfl ?_)
      refine s_nil ?_
      refine t_norm (hK15 _ _ ?_)
      refine wp_ret ?_
      refine t_ret (c_ret1 Try.results5  (v := (.bool true)) rfl ?_)
      exact ⟨by first | rfl | rw [decide_eq_true rfl], hH17⟩
    · -- not: 128 < (first.length : Int)
      refine s_on 23 rfl (congrArg Value.bool (decide_eq_false h14)) (o_callf (vs := #[]) ca22 rfl (args0) (awake6_c hH7.all) ?_)
      rintro _ w21 ⟨rfl, hX19⟩
      refine ⟨_, rfl, ?_⟩
      have hH20 := hX19.of_all
      refine s_on 23 rfl (congrArg Value.bool (decide_eq_false h14)) (o_not rfl ?_)
      refine s_op (o_pick_f (u := (.bool false)) ((rfl : _ = _).trans (congrArg Value.bool (decide_eq_false h14))) rfl ?_)
      refine s_nil ?_
      refine t_norm (hK3 _ _ ?_)
      refine c_false rfl rfl ?_
      refine wp_skip ?_
      refine t_norm (hK2 _ _ ?_)
      refine wp_seq_k fun K22 hK22 => ?_
      refine c_region ?_
      refine s_op (o_callf (vs := #[(.pointer none), (.int .i64 12)]) ca23 rfl (args2 rfl rfl) (new_nil hH20.all (n := 12) (by decide)) ?_)
      rintro _ w29 ⟨db23, pb24, sg25, rfl, hd26, hX27⟩
      refine ⟨_, rfl, ?_⟩
      have hH28 : Has E w29 [sg25, [Hp.one pb24 (.cells #[(.bool (Pw.mk false false 0 0).off), (.bool (Pw.mk false false 0 0).armed), (.int .i64 (Pw.mk false false 0 0).left), (.int .i64 (Pw.mk false false 0 0).uses)] 101 (0, 0))], R] := hX27.of_all2
      refine s_op (o_assign (v := (.pointer (some ⟨db23, 0, none⟩))) rfl ?_)
      refine s_nil ?_
      refine t_norm (hK22 _ _ ?_)
      refine wp_seq_k fun K30 hK30 => ?_
      refine c_region ?_
      refine s_op (o_move (v := (.int .u8 nn)) rfl ?_)
      refine s_op (o_rem (a := nn) (b := 8) (c := nn % 8) rfl rfl (by omega) ((Int.tmod_eq_emod_of_nonneg (by first | exact Int.natCast_nonneg _ | omega))) ?_)
      refine s_op (o_conv (c := (nn % 8)) Try.underlying5 Try.underlying3 rfl (w64 (by omega) (by omega)) ?_)
      refine s_op (o_add (a := 1) (b := nn % 8) rfl rfl (w64 (by omega) (by omega)) ?_)
      refine s_op (o_assign (v := (.int .i64 (1 + (nn % 8)))) rfl ?_)
      refine s_nil ?_
      refine t_norm (hK30 _ _ ?_)
      refine wp_seq_k fun K31 hK31 => ?_
      refine c_region ?_
      refine s_op (o_move (v := (.pointer (some ⟨db23, 0, none⟩))) rfl ?_)
      refine s_op (o_callf (vs := #[(.pointer (some ⟨db23, 0, none⟩)), (.int .i64 1), (.int .i64 2)]) ca24 rfl (args3 rfl rfl rfl) (anew_c ((hH28.front 1 rfl).front 1 rfl).all2 hd26 (by omega) (by omega) (by first | omega | (simp; omega) | simp) (by first | omega | (simp; omega) | simp)) ?_)
      rintro _ w35 ⟨ab32, rfl, hX33⟩
      refine ⟨_, rfl, ?_⟩
      have hH34 : Has E w35 [[Hp.one ab32 (.cells #[(.pointer (some ⟨db23, 0, none⟩)), (.int .i64 1), (.int .i64 2)] 139 (0, 0))], sg25, [Hp.one pb24 (.cells #[(.bool (Pw.mk false false 0 0).off), (.bool (Pw.mk false false 0 0).armed), (.int .i64 (Pw.mk false false 0 0).left), (.int .i64 (Pw.mk false false 0 0).uses)] 101 (0, 0))], R] := hX33.of_all3
      refine s_op (o_move (v := (.pointer (some ⟨db23, 0, none⟩))) rfl ?_)
      refine s_op (o_move (v := (.int .i64 (1 + (nn % 8)))) rfl ?_)
      refine s_op (o_callf (vs := #[(.pointer (some ⟨db23, 0, none⟩)), (.int .i64 3), (.int .i64 (1 + (nn % 8)))]) ca24 rfl (args3 rfl rfl rfl) (anew_c ((hH34.front 2 rfl).front 2 rfl).all2 hd26 (by omega) (by omega) (by first | omega | (simp; omega) | simp) (by first | omega | (simp; omega) | simp)) ?_)
      rintro _ w39 ⟨ab36, rfl, hX37⟩
      refine ⟨_, rfl, ?_⟩
      have hH38 : Has E w39 [[Hp.one ab36 (.cells #[(.pointer (some ⟨db23, 0, none⟩)), (.int .i64 3), (.int .i64 (1 + (nn % 8)))] 139 (0, 0))], sg25, [Hp.one pb24 (.cells #[(.bool (Pw.mk false false 0 0).off), (.bool (Pw.mk false false 0 0).armed), (.int .i64 (Pw.mk false false 0 0).left), (.int .i64 (Pw.mk false false 0 0).uses)] 101 (0, 0))], [Hp.one ab32 (.cells #[(.pointer (some ⟨db23, 0, none⟩)), (.int .i64 1), (.int .i64 2)] 139 (0, 0))], R] := hX37.of_all3
      refine s_op (o_assign (v := (.pointer (some ⟨ab32, 0, none⟩))) rfl ?_)
      refine s_op (o_assign (v := (.pointer (some ⟨ab36, 0, none⟩))) rfl ?_)
      refine s_nil ?_
      refine t_norm (hK31 _ _ ?_)
      refine wp_seq_k fun K40 hK40 => ?_
      refine wp_seq_k fun K41 hK41 => ?_
      refine c_region ?_
      refine s_op (o_move (v := (.pointer (some ⟨ab32, 0, none⟩))) rfl ?_)
      refine s_op (o_pnil (p := some _) Try.underlying48 rfl rfl ?_)
      refine s_op (o_move (v := (.bool false)) rfl ?_)
      refine s_on 40 rfl rfl (o_move (v := (.pointer (some ⟨ab36, 0, none⟩))) rfl ?_)
      refine s_on 40 rfl rfl (o_pnil (p := some _) Try.underlying48 rfl rfl ?_)
      refine s_op (o_pick_f (u := (.bool false)) rfl rfl ?_)
      refine s_op (o_move (v := (.bool false)) rfl ?_)
      refine s_on 44 rfl rfl (o_move (v := (.pointer (some ⟨ab32, 0, none⟩))) rfl ?_)
      refine s_on 44 rfl rfl (o_move (v := (.int .u8 nn)) rfl ?_)
      refine s_on 44 rfl rfl (o_conv (c := nn) Try.underlying5 Try.underlying3 rfl (w64 (by omega) (by omega)) ?_)
      refine s_on 44 rfl rfl (o_move (v := (S first)) rfl ?_)
      refine s_on 44 rfl rfl (o_buildSlice (ps := #[(0, (S first))]) (cells := #[(S first)]) Try.underlying53 ti9 (by decide) (parts1 rfl) (by kernel_rfl) hH38 fun b42 w43 hH44 => ?_)
      refine s_on 44 rfl rfl (o_callf (vs := #[(.pointer (some ⟨ab32, 0, none⟩)), (.int .i64 nn), (.slice (some ⟨b42, 0, none⟩) 1 1)]) ca25 rfl (args3 rfl rfl rfl) (aset_yes (((hH44.front 4 rfl).front 4 rfl).front 4 rfl).all3 hd26 Calm.new (by first | omega | decide | (simp; omega)) (full_blank _) (LoOk.nil _) (by omega) (by omega) (by first | omega | (simp; omega) | simp) (by first | omega | (simp; omega) | simp) (at_ := nn) (data := [first]) ((sl_lit (f := sV) (l := [first]) rfl rfl (by simp)).mono (seg_sub 0 rfl)) (by first | omega | (simp; omega) | simp) (by first | omega | (simp; omega) | simp) ⟨by first | omega | simp, by first | omega | simp⟩ (by first | omega | (simp; omega) | simp)) ?_)
      rintro _ w52 ⟨sg45, p46, rfl, hd47, hlo48, hp49, hX50⟩
      refine ⟨_, rfl, ?_⟩
      have hH51 : Has E w52 [sg45, [Hp.one pb24 (.cells #[(.bool p46.off), (.bool p46.armed), (.int .i64 p46.left), (.int .i64 p46.uses)] 101 (0, 0))], [Hp.one ab32 (.cells #[(.pointer (some ⟨db23, 0, none⟩)), (.int .i64 1), (.int .i64 2)] 139 (0, 0))], [Hp.one b42 (.cells #[(S first)] 9 (0, 0))], [Hp.one ab36 (.cells #[(.pointer (some ⟨db23, 0, none⟩)), (.int .i64 3), (.int .i64 (1 + (nn % 8)))] 139 (0, 0))], R] := hX50.of_all3
      refine s_on 44 rfl rfl (o_neq (a := (0 : Int)) (b := 0) rfl rfl ?_)
      refine s_op (o_pick_f (u := (.bool (decide ((0 : Int) ≠ 0)))) rfl rfl ?_)
      refine s_nil ?_
      refine t_norm (hK41 _ _ ?_)
      refine c_cond rfl (fun h53 => ?_) (fun h53 => ?_)
      · -- (0 : Int) ≠ 0
        exact absurd rfl h53
      · -- not: (0 : Int) ≠ 0
        refine wp_skip ?_
        refine t_norm (hK40 _ _ ?_)
        refine wp_seq_k fun K54 hK54 => ?_
        refine c_region ?_
        refine s_op (o_move (v := (.pointer (some ⟨ab32, 0, none⟩))) rfl ?_)
        refine s_op (o_callf (vs := #[(.pointer (some ⟨ab32, 0, none⟩)), (.int .i64 0), (.int .i64 128)]) ca26 rfl (args3 rfl rfl rfl) (aget_c (((hH51.front 2 rfl).front 2 rfl).front 2 rfl).all3 hd47 hp49 (by first | omega | decide | (simp; omega)) (full_blank _) hlo48 (by omega) (by omega) (by first | omega | (simp; omega) | simp) (by first | omega | (simp; omega) | simp) (at_ := 0) ⟨by omega, by omega⟩ (size := 128) ⟨by omega, by omega⟩) ?_)
        rintro _ w57 ⟨rfl, hX55⟩
        refine ⟨_, rfl, ?_⟩
        have hH56 : Has E w57 [sg45, [Hp.one pb24 (.cells #[(.bool p46.off), (.bool p46.armed), (.int .i64 p46.left), (.int .i64 p46.uses)] 101 (0, 0))], [Hp.one ab32 (.cells #[(.pointer (some ⟨db23, 0, none⟩)), (.int .i64 1), (.int .i64 2)] 139 (0, 0))], [Hp.one b42 (.cells #[(S first)] 9 (0, 0))], [Hp.one ab36 (.cells #[(.pointer (some ⟨db23, 0, none⟩)), (.int .i64 3), (.int .i64 (1 + (nn % 8)))] 139 (0, 0))], R] := hX55.of_all3
        refine s_op (o_move (v := (.tuple #[(S (getP (List.replicate 12 blankS) (setP (List.replicate 12 blankS) (allP 1 (2 * 64) (nn % (2 * 64)) (([first].flatten).length : Int)) ([] : List (Int × Bs)) ([first].flatten)) (allP 1 (2 * 64) (0 % (2 * 64)) 128))), (.int .i64 (0 : Int))])) rfl ?_)
        refine s_op (o_extract (v := (S (getP (List.replicate 12 blankS) (setP (List.replicate 12 blankS) (allP 1 (2 * 64) (nn % (2 * 64)) (([first].flatten).length : Int)) ([] : List (Int × Bs)) ([first].flatten)) (allP 1 (2 * 64) (0 % (2 * 64)) 128)))) rfl rfl ?_)
        refine s_op (o_extract (v := (.int .i64 (0 : Int))) rfl rfl ?_)
        refine s_op (o_assign (v := (S (getP (List.replicate 12 blankS) (setP (List.replicate 12 blankS) (allP 1 (2 * 64) (nn % (2 * 64)) (([first].flatten).length : Int)) ([] : List (Int × Bs)) ([first].flatten)) (allP 1 (2 * 64) (0 % (2 * 64)) 128)))) rfl ?_)
        refine s_op (o_assign (v := (.int .i64 (0 : Int))) rfl ?_)
        refine s_nil ?_
        refine t_norm (hK54 _ _ ?_)
        refine wp_seq_k fun K58 hK58 => ?_
        refine wp_seq_k fun K59 hK59 => ?_
        refine c_region ?_
        refine s_op (o_assign (v := (.int .i64 0)) rfl ?_)
        refine s_nil ?_
        refine t_norm (hK59 _ _ ?_)
        refine wp_block ?_
        let I61 : Nat → (Nat → Value) → World → Prop := fun n__ r__ w__ => ∃ (i : Nat) (p3 : Pw) (lo3 : List (Int × Bs)) (sg3 : List Hp), n__ = l.length - i ∧ Has E w__ [sg3, [Hp.one pb24 (.cells #[(.bool p3.off), (.bool p3.armed), (.int .i64 p3.left), (.int .i64 p3.uses)] 101 (0, 0))], [Hp.one ab32 (.cells #[(.pointer (some ⟨db23, 0, none⟩)), (.int .i64 1), (.int .i64 2)] 139 (0, 0))], [Hp.one b42 (.cells #[(S first)] 9 (0, 0))], [Hp.one ab36 (.cells #[(.pointer (some ⟨db23, 0, none⟩)), (.int .i64 3), (.int .i64 (1 + (nn % 8)))] 139 (0, 0))], R] ∧ (i ≤ l.length) ∧ (DevAt pb24 sg3 db23 (List.replicate 12 blankS) lo3) ∧ (Calm p3 (200 + i * 2000)) ∧ (LoOk lo3 (List.replicate 12 blankS).length) ∧ (getP (List.replicate 12 blankS) lo3 (allP 1 (2 * 64) (0 % (2 * 64)) 128) = getP (List.replicate 12 blankS) (setP (List.replicate 12 blankS) (allP 1 (2 * 64) (nn % (2 * 64)) (([first].flatten).length : Int)) ([] : List (Int × Bs)) ([first].flatten)) (allP 1 (2 * 64) (0 % (2 * 64)) 128)) ∧ r__ 0 = (.int .u8 nn) ∧ r__ 1 = (S first) ∧ r__ 2 = v ∧ r__ 7 = (.pointer (some ⟨db23, 0, none⟩)) ∧ r__ 8 = (.int .i64 (1 + (nn % 8))) ∧ r__ 9 = (.pointer (some ⟨ab32, 0, none⟩)) ∧ r__ 10 = (.pointer (some ⟨ab36, 0, none⟩)) ∧ r__ 11 = (S (getP (List.replicate 12 blankS) (setP (List.replicate 12 blankS) (allP 1 (2 * 64) (nn % (2 * 64)) (([first].flatten).length : Int)) ([] : List (Int × Bs)) ([first].flatten)) (allP 1 (2 * 64) (0 % (2 * 64)) 128))) ∧ r__ 12 = (.int .i64 (0 : Int)) ∧ r__ 13 = (.int .i64 (i : Int)) ∧ r__ 26 = (.bool false) ∧ r__ 52 = (.bool (decide ((0 : Int) ≠ 0)))
        refine c_loop I61 _ ⟨0, p46, (setP (List.replicate 12 blankS) (allP 1 (2 * 64) (nn % (2 * 64)) (([first].flatten).length : Int)) ([] : List (Int × Bs)) ([first].flatten)), sg45, rfl, hH56, Nat.zero_le _, hd47, hp49.mono (by simp; omega), hlo48, rfl, rfl, rfl, rfl, rfl, rfl, rfl, rfl, rfl, rfl, rfl, rfl, rfl⟩ ?_
        rintro n_ r64 w62 ⟨i, p3, lo3, sg3, rfl, hH63, hi, hd3, hp3, hlo3, hsm, e60_0, e60_1, e60_2, e60_7, e60_8, e60_9, e60_10, e60_11, e60_12, e60_13, e60_26, e60_52⟩
        refine wp_seq_k fun K65 hK65 => ?_
        refine wp_seq_k fun K66 hK66 => ?_
        refine c_region ?_
        refine s_op (o_move (v := (.int .i64 (i : Int))) e60_13 ?_)
        refine s_op (o_move (v := v) e60_2 ?_)
        refine s_op (o_lenS Try.underlying44 rfl hv ?_)
        refine s_op (o_lss (a := (i : Int)) (b := ((l.length : Nat) : Int)) rfl rfl ?_)
        refine s_nil ?_
        refine t_norm (hK66 _ _ ?_)
        refine c_cond rfl (fun h67 => ?_) (fun h67 => ?_)
        · -- (i : Int) < ((l.length : Nat) : Int)
          refine wp_skip ?_
          refine t_norm (hK65 _ _ ?_)
          refine wp_seq_k fun K68 hK68 => ?_
          refine wp_block ?_
          refine wp_seq_k fun K69 hK69 => ?_
          let J71 : (Nat → Value) → World → Prop := fun r__ w__ => ∃ (p4 : Pw) (lo4 : List (Int × Bs)) (sg4 : List Hp), Has E w__ [sg4, [Hp.one pb24 (.cells #[(.bool p4.off), (.bool p4.armed), (.int .i64 p4.left), (.int .i64 p4.uses)] 101 (0, 0))], [Hp.one ab32 (.cells #[(.pointer (some ⟨db23, 0, none⟩)), (.int .i64 1), (.int .i64 2)] 139 (0, 0))], [Hp.one b42 (.cells #[(S first)] 9 (0, 0))], [Hp.one ab36 (.cells #[(.pointer (some ⟨db23, 0, none⟩)), (.int .i64 3), (.int .i64 (1 + (nn % 8)))] 139 (0, 0))], R] ∧ (DevAt pb24 sg4 db23 (List.replicate 12 blankS) lo4) ∧ (Calm p4 (200 + i * 2000 + 2000)) ∧ (LoOk lo4 (List.replicate 12 blankS).length) ∧ (getP (List.replicate 12 blankS) lo4 (allP 1 (2 * 64) (0 % (2 * 64)) 128) = getP (List.replicate 12 blankS) (setP (List.replicate 12 blankS) (allP 1 (2 * 64) (nn % (2 * 64)) (([first].flatten).length : Int)) ([] : List (Int × Bs)) ([first].flatten)) (allP 1 (2 * 64) (0 % (2 * 64)) 128)) ∧ r__ 0 = (.int .u8 nn) ∧ r__ 1 = (S first) ∧ r__ 2 = v ∧ r__ 7 = (.pointer (some ⟨db23, 0, none⟩)) ∧ r__ 8 = (.int .i64 (1 + (nn % 8))) ∧ r__ 9 = (.pointer (some ⟨ab32, 0, none⟩)) ∧ r__ 10 = (.pointer (some ⟨ab36, 0, none⟩)) ∧ r__ 11 = (S (getP (List.replicate 12 blankS) (setP (List.replicate 12 blankS) (allP 1 (2 * 64) (nn % (2 * 64)) (([first].flatten).length : Int)) ([] : List (Int × Bs)) ([first].flatten)) (allP 1 (2 * 64) (0 % (2 * 64)) 128))) ∧ r__ 12 = (.int .i64 (0 : Int)) ∧ r__ 13 = (.int .i64 (i : Int)) ∧ r__ 26 = (.bool false) ∧ r__ 52 = (.bool (decide ((0 : Int) ≠ 0))) ∧ r__ 61 = (.bool (decide ((i : Int) < ((l.length : Nat) : Int))))
          have hJ72 : ∀ r w, J71 r w → K69 (Go.Q.fr 96 r) w := by
            rintro r75 w73 ⟨p4, lo4, sg4, hH74, hd4, hp4, hlo4, hsm4, e70_0, e70_1, e70_2, e70_7, e70_8, e70_9, e70_10, e70_11, e70_12, e70_13, e70_26, e70_52, e70_61⟩
            refine hK69 _ _ ?_
            refine wp_seq_k fun K76 hK76 => ?_
            refine c_region ?_
            refine s_op (o_move (v := (.pointer (some ⟨ab32, 0, none⟩))) e70_9 ?_)
            refine s_op (o_callf (vs := #[(.pointer (some ⟨ab32, 0, none⟩)), (.int .i64 0), (.int .i64 128)]) ca26 rfl (args3 rfl rfl rfl) (aget_c (((hH74.front 2 rfl).front 2 rfl).front 2 rfl).all3 hd4 hp4 (by first | omega | decide | (simp; omega)) (full_blank _) hlo4 (by omega) (by omega) (by first | omega | (simp; omega) | simp) (by first | omega | (simp; omega) | simp) (at_ := 0) ⟨by omega, by omega⟩ (size := 128) ⟨by omega, by omega⟩) ?_)
            rintro _ w79 ⟨rfl, hX77⟩
            refine ⟨_, rfl, ?_⟩
            have hH78 : Has E w79 [sg4, [Hp.one pb24 (.cells #[(.bool p4.off), (.bool p4.armed), (.int .i64 p4.left), (.int .i64 p4.uses)] 101 (0, 0))], [Hp.one ab32 (.cells #[(.pointer (some ⟨db23, 0, none⟩)), (.int .i64 1), (.int .i64 2)] 139 (0, 0))], [Hp.one b42 (.cells #[(S first)] 9 (0, 0))], [Hp.one ab36 (.cells #[(.pointer (some ⟨db23, 0, none⟩)), (.int .i64 3), (.int .i64 (1 + (nn % 8)))] 139 (0, 0))], R] := hX77.of_all3
            refine s_op (o_move (v := (.tuple #[(S (getP (List.replicate 12 blankS) lo4 (allP 1 (2 * 64) (0 % (2 * 64)) 128))), (.int .i64 (0 : Int))])) rfl ?_)
            refine s_op (o_extract (v := (S (getP (List.replicate 12 blankS) lo4 (allP 1 (2 * 64) (0 % (2 * 64)) 128)))) rfl rfl ?_)
            refine s_op (o_extract (v := (.int .i64 (0 : Int))) rfl rfl ?_)
            refine s_op (o_assign (v := (S (getP (List.replicate 12 blankS) lo4 (allP 1 (2 * 64) (0 % (2 * 64)) 128)))) rfl ?_)
            refine s_op (o_assign (v := (.int .i64 (0 : Int))) rfl ?_)
            refine s_nil ?_
            refine t_norm (hK76 _ _ ?_)
            refine wp_seq_k fun K80 hK80 => ?_
            refine c_region ?_
            refine s_op (o_move (v := (.int .i64 (0 : Int))) rfl ?_)
            refine s_op (o_neq (a := (0 : Int)) (b := 0) rfl rfl ?_)
            refine s_op (o_move (v := (.bool (decide ((0 : Int) ≠ 0)))) rfl ?_)
            refine s_on 89 rfl (congrArg Value.bool (decide_eq_false h53)) (o_move (v := (S (getP (List.replicate 12 blankS) lo4 (allP 1 (2 * 64) (0 % (2 * 64)) 128)))) rfl ?_)
            refine s_on 89 rfl (congrArg Value.bool (decide_eq_false h53)) (o_move (v := (S (getP (List.replicate 12 blankS) (setP (List.replicate 12 blankS) (allP 1 (2 * 64) (nn % (2 * 64)) (([first].flatten).length : Int)) ([] : List (Int × Bs)) ([first].flatten)) (allP 1 (2 * 64) (0 % (2 * 64)) 128)))) e70_11 ?_)
            refine s_on 89 rfl (congrArg Value.bool (decide_eq_false h53)) (o_sneq (a := (getP (List.replicate 12 blankS) lo4 (allP 1 (2 * 64) (0 % (2 * 64)) 128))) (b := (getP (List.replicate 12 blankS) (setP (List.replicate 12 blankS) (allP 1 (2 * 64) (nn % (2 * 64)) (([first].flatten).length : Int)) ([] : List (Int × Bs)) ([first].flatten)) (allP 1 (2 * 64) (0 % (2 * 64)) 128))) rfl rfl ?_)
            refine s_op (o_pick_f (u := (.bool (decide ((getP (List.replicate 12 blankS) lo4 (allP 1 (2 * 64) (0 % (2 * 64)) 128)) ≠ (getP (List.replicate 12 blankS) (setP (List.replicate 12 blankS) (allP 1 (2 * 64) (nn % (2 * 64)) (([first].flatten).length : Int)) ([] : List (Int × Bs)) ([first].flatten)) (allP 1 (2 * 64) (0 % (2 * 64)) 128)))))) ((rfl : _ = _).trans (congrArg Value.bool (decide_eq_false h53))) rfl ?_)
            refine s_nil ?_
            refine t_norm (hK80 _ _ ?_)
            refine c_cond rfl (fun h81 => ?_) (fun h81 => ?_)
            · -- (getP (List.replicate 12 blankS) lo4 (allP 1 (2 * 64) (0 % (2 * 64)) 128)) ≠ (getP (List.replicate 12 blankS) (setP (List.replicate 12 blankS) (allP 1 (2 * 64) (nn % (2 * 64)) (([first].flatten).length : Int)) ([] : List (Int × Bs)) ([first].flatten)) (allP 1 (2 * 64) (0 % (2 * 64)) 128))
              exact absurd hsm4 h81
            · -- not: (getP (List.replicate 12 blankS) lo4 (allP 1 (2 * 64) (0 % (2 * 64)) 128)) ≠ (getP (List.replicate 12 blankS) (setP (List.replicate 12 blankS) (allP 1 (2 * 64) (nn % (2 * 64)) (([first].flatten).length : Int)) ([] : List (Int × Bs)) ([first].flatten)) (allP 1 (2 * 64) (0 % (2 * 64)) 128))
              refine wp_skip ?_
              refine b_norm ?_
              refine t_norm (hK68 _ _ ?_)
              refine c_region ?_
              refine s_op (o_move (v := (.int .i64 (i : Int))) e70_13 ?_)
              refine s_op (o_add (a := (i : Int)) (b := 1) rfl rfl (w64 (by omega) (by omega)) ?_)
              refine s_op (o_assign (v := (.int .i64 ((i : Int) + 1))) rfl ?_)
              refine s_nil ?_
              refine t_norm ⟨l.length - (i + 1), _, rfl, ?_, ?_⟩
              · omega
              · exact ⟨(i + 1), p4, lo4, sg4, rfl, hH78, (by omega), (hd4), (hp4.mono (by omega)), (hlo4), (hsm4), e70_0, e70_1, e70_2, e70_7, e70_8, e70_9, e70_10, e70_11, e70_12, rfl, e70_26, e70_52⟩
          refine wp_seq_k fun K82 hK82 => ?_
          refine c_region ?_
          refine s_op (o_move (v := v) e60_2 ?_)
          refine s_op (o_move (v := (.int .i64 (i : Int))) e60_13 ?_)
          obtain ⟨x86, hx87⟩ : ∃ x_, l[((i : Int)).toNat]? = some x_ := get_some (by omega)
          refine s_op (o_indexF aaC_len Try.underlying44 ti56 rfl hv rfl rfl (by omega) hx87 fun b83 o84 hc85 => ?_)
          refine s_op (o_fieldAddr (k := o84) (fun _ => by kernel_rfl) rfl ?_)
          refine s_op (o_load1 (v := (.int .i64 x86.kind)) Try.underlying3 rfl rfl hH63 (seg_sub 5 rfl) (CellsAt.field (k := 0) (ds := [(.int .i64 x86.kind)]) hc85 rfl) ?_)
          refine s_op (o_eql (a := x86.kind) (b := 0) rfl rfl ?_)
          refine s_nil ?_
          refine t_norm (hK82 _ _ ?_)
          refine c_cond rfl (fun h88 => ?_) (fun h88 => ?_)
          · -- x86.kind = 0
            obtain ⟨hfa_, hfb_, hfc_⟩ := hfine.2 _ (List.mem_of_getElem? hx87)
            have hbb_ : 0 ≤ nn % 8 ∧ nn % 8 < 8 := ⟨by omega, by omega⟩
            refine c_flow4 [sg3, [Hp.one pb24 (.cells #[(.bool p3.off), (.bool p3.armed), (.int .i64 p3.left), (.int .i64 p3.uses)] 101 (0, 0))], [Hp.one ab32 (.cells #[(.pointer (some ⟨db23, 0, none⟩)), (.int .i64 1), (.int .i64 2)] 139 (0, 0))], [Hp.one b42 (.cells #[(S first)] 9 (0, 0))], [Hp.one ab36 (.cells #[(.pointer (some ⟨db23, 0, none⟩)), (.int .i64 3), (.int .i64 (1 + (nn % 8)))] 139 (0, 0))], R] (fun i_ => match i_ with | _ => []) (fun i_ v_ h_ m_ => match i_ with | 0 => v_ = (.pointer (some ⟨ab36, 0, none⟩)) ∧ h_ = [] | 1 => v_ = v ∧ h_ = [] | 2 => v_ = (.int .i64 (i : Int)) ∧ h_ = [] | 3 => ∃ (b89 : Nat) (o90 : Nat), v_ = (.pointer (some ⟨b89, o90, none⟩)) ∧ h_ = [] ∧ (CellsAt R b89 o90 [(.int .i64 x86.kind), (.int .i64 x86.at_), (.int .i64 x86.size), x86.dv, x86.kv]) | 4 => ∃ (b89 : Nat) (o90 : Nat), m_ 3 = (.pointer (some ⟨b89, o90, none⟩)) ∧ v_ = (.pointer (some ⟨b89, o90 + 1, none⟩)) ∧ h_ = [] | 5 => v_ = (.int .i64 x86.at_) ∧ h_ = [] | 6 => v_ = v ∧ h_ = [] | 7 => v_ = (.int .i64 (i : Int)) ∧ h_ = [] | 8 => ∃ (b92 : Nat) (o93 : Nat), v_ = (.pointer (some ⟨b92, o93, none⟩)) ∧ h_ = [] ∧ (CellsAt R b92 o93 [(.int .i64 x86.kind), (.int .i64 x86.at_), (.int .i64 x86.size), x86.dv, x86.kv]) | 9 => ∃ (b92 : Nat) (o93 : Nat), m_ 8 = (.pointer (some ⟨b92, o93, none⟩)) ∧ v_ = (.pointer (some ⟨b92, o93 + 3, none⟩)) ∧ h_ = [] | 10 => v_ = x86.dv ∧ h_ = [] | _ => True) mixed 11 (by kernel_rfl) (by decide) (by kernel_rfl) (flow_has (cs := []) hH63 rfl) ?_ ?_
            · intro i_ o_ him_ ho_ r' w' G hs_ ht
              match i_, ho_, him_ with
              | 0, ho_, him_ =>
                obtain rfl := Option.some.inj ho_
                have e10 : r' 10 = (.pointer (some ⟨ab36, 0, none⟩)) := (ht.was 10 (by kernel_rfl)).trans e60_10
                have hG := ht.has.drop
                refine GOK.free rfl ?_
                refine o_move (v := (.pointer (some ⟨ab36, 0, none⟩))) e10 ?_
                exact ⟨_, ⟨rfl, rfl⟩, hG⟩
              | 1, ho_, him_ =>
                obtain rfl := Option.some.inj ho_
                have e2 : r' 2 = v := (ht.was 2 (by kernel_rfl)).trans e60_2
                have hG := ht.has.drop
                refine GOK.free rfl ?_
                refine o_move (v := v) e2 ?_
                exact ⟨_, ⟨rfl, rfl⟩, hG⟩
              | 2, ho_, him_ =>
                obtain rfl := Option.some.inj ho_
                have e13 : r' 13 = (.int .i64 (i : Int)) := (ht.was 13 (by kernel_rfl)).trans e60_13
                have hG := ht.has.drop
                refine GOK.free rfl ?_
                refine o_move (v := (.int .i64 (i : Int))) e13 ?_
                exact ⟨_, ⟨rfl, rfl⟩, hG⟩
              | 3, ho_, him_ =>
                obtain rfl := Option.some.inj ho_
                obtain ⟨e71, eh1⟩ := (ht.done 1 _ rfl rfl).1
                obtain ⟨e72, eh2⟩ := (ht.done 2 _ rfl rfl).1
                have hG := ht.has.drop
                refine GOK.free rfl ?_
                refine o_indexF aaC_len Try.underlying44 ti56 e71 hv rfl e72 (by omega) hx87 fun b89 o90 hc91 => ?_
                exact ⟨_, ⟨b89, o90, rfl, rfl, hc91⟩, hG⟩
              | 4, ho_, him_ =>
                obtain rfl := Option.some.inj ho_
                obtain ⟨b89, o90, e73, eh3, hc91⟩ := (ht.done 3 _ rfl rfl).1
                have hG := ht.has.drop
                refine GOK.free rfl ?_
                refine o_fieldAddr (k := o90 + 1) (fun _ => by kernel_rfl) e73 ?_
                exact ⟨_, ⟨b89, o90, e73, rfl, rfl⟩, hG⟩
              | 5, ho_, him_ =>
                obtain rfl := Option.some.inj ho_
                obtain ⟨b89, o90, e73, eh3, hc91⟩ := (ht.done 3 _ rfl rfl).1
                obtain ⟨b89_4, o90_4, q4_3, e74, eh4⟩ := (ht.done 4 _ rfl rfl).1
                have z_ : b89 = b89_4 := by have z0_ := Eq.trans (Eq.symm e73) q4_3; first | simpa using z0_ | (simp at z0_; first | exact z0_.1 | exact z0_.2)
                subst z_
                have z_ : o90 = o90_4 := by have z0_ := Eq.trans (Eq.symm e73) q4_3; first | simpa using z0_ | (simp at z0_; first | exact z0_.1 | exact z0_.2)
                subst z_
                have hG := ht.has.drop
                refine GOK.free rfl ?_
                refine o_load1 (v := (.int .i64 x86.at_)) Try.underlying3 rfl e74 hG (ht.fr R (by simp)) (CellsAt.field (k := 1) (ds := [(.int .i64 x86.at_)]) hc91 rfl) ?_
                exact ⟨_, ⟨rfl, rfl⟩, hG⟩
              | 6, ho_, him_ =>
                obtain rfl := Option.some.inj ho_
                have e2 : r' 2 = v := (ht.was 2 (by kernel_rfl)).trans e60_2
                have hG := ht.has.drop
                refine GOK.free rfl ?_
                refine o_move (v := v) e2 ?_
                exact ⟨_, ⟨rfl, rfl⟩, hG⟩
              | 7, ho_, him_ =>
                obtain rfl := Option.some.inj ho_
                have e13 : r' 13 = (.int .i64 (i : Int)) := (ht.was 13 (by kernel_rfl)).trans e60_13
                have hG := ht.has.drop
                refine GOK.free rfl ?_
                refine o_move (v := (.int .i64 (i : Int))) e13 ?_
                exact ⟨_, ⟨rfl, rfl⟩, hG⟩
              | 8, ho_, him_ =>
                obtain rfl := Option.some.inj ho_
                obtain ⟨e76, eh6⟩ := (ht.done 6 _ rfl rfl).1
                obtain ⟨e77, eh7⟩ := (ht.done 7 _ rfl rfl).1
                have hG := ht.has.drop
                refine GOK.free rfl ?_
                refine o_indexF aaC_len Try.underlying44 ti56 e76 hv rfl e77 (by omega) hx87 fun b92 o93 hc94 => ?_
                exact ⟨_, ⟨b92, o93, rfl, rfl, hc94⟩, hG⟩
              | 9, ho_, him_ =>
                obtain rfl := Option.some.inj ho_
                obtain ⟨b92, o93, e78, eh8, hc94⟩ := (ht.done 8 _ rfl rfl).1
                have hG := ht.has.drop
                refine GOK.free rfl ?_
                refine o_fieldAddr (k := o93 + 3) (fun _ => by kernel_rfl) e78 ?_
                exact ⟨_, ⟨b92, o93, e78, rfl, rfl⟩, hG⟩
              | 10, ho_, him_ =>
                obtain rfl := Option.some.inj ho_
                obtain ⟨b92, o93, e78, eh8, hc94⟩ := (ht.done 8 _ rfl rfl).1
                obtain ⟨b92_9, o93_9, q9_8, e79, eh9⟩ := (ht.done 9 _ rfl rfl).1
                have z_ : b92 = b92_9 := by have z0_ := Eq.trans (Eq.symm e78) q9_8; first | simpa using z0_ | (simp at z0_; first | exact z0_.1 | exact z0_.2)
                subst z_
                have z_ : o93 = o93_9 := by have z0_ := Eq.trans (Eq.symm e78) q9_8; first | simpa using z0_ | (simp at z0_; first | exact z0_.1 | exact z0_.2)
                subst z_
                have hG := ht.has.drop
                refine GOK.free rfl ?_
                refine o_load1 (v := x86.dv) Try.underlying53 rfl e79 hG (ht.fr R (by simp)) (CellsAt.field (k := 3) (ds := [x86.dv]) hc94 rfl) ?_
                exact ⟨_, ⟨rfl, rfl⟩, hG⟩
              | i_ + 11, ho_, him_ => exact absurd him_ (by omega)
            · intro vs95 hs96 w97 hT98 hC_ hH99
              obtain ⟨e0_, eh0_⟩ := hT98 0 _ (by decide) rfl
              obtain ⟨e1_, eh1_⟩ := hT98 1 _ (by decide) rfl
              obtain ⟨e2_, eh2_⟩ := hT98 2 _ (by decide) rfl
              obtain ⟨b89, o90, e3_, eh3_, hc91⟩ := hT98 3 _ (by decide) rfl
              obtain ⟨b89_4, o90_4, q4_3, e4_, eh4_⟩ := hT98 4 _ (by decide) rfl
              have z_ : b89 = b89_4 := by have z0_ := Eq.trans (Eq.symm e3_) q4_3; first | simpa using z0_ | (simp at z0_; first | exact z0_.1 | exact z0_.2)
              subst z_
              have z_ : o90 = o90_4 := by have z0_ := Eq.trans (Eq.symm e3_) q4_3; first | simpa using z0_ | (simp at z0_; first | exact z0_.1 | exact z0_.2)
              subst z_
              obtain ⟨e5_, eh5_⟩ := hT98 5 _ (by decide) rfl
              obtain ⟨e6_, eh6_⟩ := hT98 6 _ (by decide) rfl
              obtain ⟨e7_, eh7_⟩ := hT98 7 _ (by decide) rfl
              obtain ⟨b92, o93, e8_, eh8_, hc94⟩ := hT98 8 _ (by decide) rfl
              obtain ⟨b92_9, o93_9, q9_8, e9_, eh9_⟩ := hT98 9 _ (by decide) rfl
              have z_ : b92 = b92_9 := by have z0_ := Eq.trans (Eq.symm e8_) q9_8; first | simpa using z0_ | (simp at z0_; first | exact z0_.1 | exact z0_.2)
              subst z_
              have z_ : o93 = o93_9 := by have z0_ := Eq.trans (Eq.symm e8_) q9_8; first | simpa using z0_ | (simp at z0_; first | exact z0_.1 | exact z0_.2)
              subst z_
              obtain ⟨e10_, eh10_⟩ := hT98 10 _ (by decide) rfl
              have hH100 : Has E w97 ([sg3, [Hp.one pb24 (.cells #[(.bool p3.off), (.bool p3.armed), (.int .i64 p3.left), (.int .i64 p3.uses)] 101 (0, 0))], [Hp.one ab32 (.cells #[(.pointer (some ⟨db23, 0, none⟩)), (.int .i64 1), (.int .i64 2)] 139 (0, 0))], [Hp.one b42 (.cells #[(S first)] 9 (0, 0))], [Hp.one ab36 (.cells #[(.pointer (some ⟨db23, 0, none⟩)), (.int .i64 3), (.int .i64 (1 + (nn % 8)))] 139 (0, 0))], R] ++ []) := flow_back (cs := []) hH99 (by show (hs96 0 ++ (hs96 1 ++ (hs96 2 ++ (hs96 3 ++ (hs96 4 ++ (hs96 5 ++ (hs96 6 ++ (hs96 7 ++ (hs96 8 ++ (hs96 9 ++ (hs96 10 ++ (hs96 11 ++ [])))))))))))) = _; rw [eh0_, eh1_, eh2_, eh3_, eh4_, eh5_, eh6_, eh7_, eh8_, eh9_, eh10_, hC_ 11 (by decide) (by decide)]; rfl)
              generalize hr102 : puts vs95 _ 0 _ = r101
              have e103_0 : r101 0 = (.int .u8 nn) := by rw [← hr102]; exact e60_0
              have e103_1 : r101 1 = (S first) := by rw [← hr102]; exact e60_1
              have e103_2 : r101 2 = v := by rw [← hr102]; exact e60_2
              have e103_7 : r101 7 = (.pointer (some ⟨db23, 0, none⟩)) := by rw [← hr102]; exact e60_7
              have e103_8 : r101 8 = (.int .i64 (1 + (nn % 8))) := by rw [← hr102]; exact e60_8
              have e103_9 : r101 9 = (.pointer (some ⟨ab32, 0, none⟩)) := by rw [← hr102]; exact e60_9
              have e103_10 : r101 10 = (.pointer (some ⟨ab36, 0, none⟩)) := by rw [← hr102]; exact e60_10
              have e103_11 : r101 11 = (S (getP (List.replicate 12 blankS) (setP (List.replicate 12 blankS) (allP 1 (2 * 64) (nn % (2 * 64)) (([first].flatten).length : Int)) ([] : List (Int × Bs)) ([first].flatten)) (allP 1 (2 * 64) (0 % (2 * 64)) 128))) := by rw [← hr102]; exact e60_11
              have e103_12 : r101 12 = (.int .i64 (0 : Int)) := by rw [← hr102]; exact e60_12
              have e103_13 : r101 13 = (.int .i64 (i : Int)) := by rw [← hr102]; exact e60_13
              have e103_26 : r101 26 = (.bool false) := by rw [← hr102]; exact e60_26
              have e103_52 : r101 52 = (.bool (decide ((0 : Int) ≠ 0))) := by rw [← hr102]; exact e60_52
              have e103_61 : r101 61 = (.bool (decide ((i : Int) < ((l.length : Nat) : Int)))) := by rw [← hr102]; exact rfl
              have e103_69 : r101 69 = (.bool (decide (x86.kind = 0))) := by rw [← hr102]; exact rfl
              have e103_70 : r101 70 = (.pointer (some ⟨ab36, 0, none⟩)) := by rw [← hr102]; exact e0_
              have e103_75 : r101 75 = (.int .i64 x86.at_) := by rw [← hr102]; exact e5_
              have e103_80 : r101 80 = x86.dv := by rw [← hr102]; exact e10_
              by_cases hmay104 : 0 ≤ x86.at_ ∧ x86.at_ ≤ 4611686018427387904 ∧ 0 ≤ (x86.data.flatten.length : Int) ∧ (x86.data.flatten.length : Int) ≤ (1 + (nn % 8)) * 64
              · -- it may
                refine s_op (o_callf (vs := #[(.pointer (some ⟨ab36, 0, none⟩)), (.int .i64 x86.at_), x86.dv]) ca25 rfl (args3 e103_70 e103_75 e103_80) (aset_yes (((hH100.front 4 rfl).front 2 rfl).front 2 rfl).all3 hd3 hp3 (by first | omega | decide | (simp; omega)) (full_blank _) hlo3 (by omega) (by omega) (by first | omega | (simp; omega) | simp) (by first | omega | (simp; omega) | simp) (at_ := x86.at_) (data := x86.data) ((hok x86 (List.mem_of_getElem? hx87)).1.mono (seg_sub 2 rfl)) (by first | omega | (simp; omega) | simp) (by first | omega | (simp; omega) | simp) ⟨hmay104.1, hmay104.2.1⟩ hmay104.2.2.2) ?_)
                rintro _ w112 ⟨sg105, p106, rfl, hd107, hlo108, hp109, hX110⟩
                refine ⟨_, rfl, ?_⟩
                have hH111 : Has E w112 [sg105, [Hp.one pb24 (.cells #[(.bool p106.off), (.bool p106.armed), (.int .i64 p106.left), (.int .i64 p106.uses)] 101 (0, 0))], [Hp.one ab36 (.cells #[(.pointer (some ⟨db23, 0, none⟩)), (.int .i64 3), (.int .i64 (1 + (nn % 8)))] 139 (0, 0))], [Hp.one ab32 (.cells #[(.pointer (some ⟨db23, 0, none⟩)), (.int .i64 1), (.int .i64 2)] 139 (0, 0))], [Hp.one b42 (.cells #[(S first)] 9 (0, 0))], R] := hX110.of_all3
                refine s_nil ?_
                have hH113 : Has E w112 [sg105, [Hp.one pb24 (.cells #[(.bool p106.off), (.bool p106.armed), (.int .i64 p106.left), (.int .i64 p106.uses)] 101 (0, 0))], [Hp.one ab32 (.cells #[(.pointer (some ⟨db23, 0, none⟩)), (.int .i64 1), (.int .i64 2)] 139 (0, 0))], [Hp.one b42 (.cells #[(S first)] 9 (0, 0))], [Hp.one ab36 (.cells #[(.pointer (some ⟨db23, 0, none⟩)), (.int .i64 3), (.int .i64 (1 + (nn % 8)))] 139 (0, 0))], R] := Has.pick hH111 [0, 0, 1, 1, 0, 0] (by kernel_rfl)
                refine t_norm (hJ72 _ _ ⟨p106, (setP (List.replicate 12 blankS) (allP 3 ((1 + (nn % 8)) * 64) (x86.at_ % ((1 + (nn % 8)) * 64)) (x86.data.flatten.length : Int)) lo3 x86.data.flatten), sg105, hH113, (hd107), (hp109.mono (by omega)), (hlo108), (by rw [apart_get (by omega) (by omega) (by omega) (by omega)]; exact hsm), e103_0, e103_1, e103_2, e103_7, e103_8, e103_9, e103_10, e103_11, e103_12, e103_13, e103_26, e103_52, e103_61⟩)
              · -- it may not
                refine s_op (o_callf (vs := #[(.pointer (some ⟨ab36, 0, none⟩)), (.int .i64 x86.at_), x86.dv]) ca25 rfl (args3 e103_70 e103_75 e103_80) (aset_no (((hH100.front 4 rfl).front 2 rfl).front 2 rfl).all3 hd3 hp3 (by first | omega | decide | (simp; omega)) (full_blank _) hlo3 (by omega) (by omega) (by first | omega | (simp; omega) | simp) (by first | omega | (simp; omega) | simp) (at_ := x86.at_) (data := x86.data) ((hok x86 (List.mem_of_getElem? hx87)).1.mono (seg_sub 2 rfl)) (by first | omega | (simp; omega) | simp) (by first | omega | (simp; omega) | simp) hmay104) ?_)
                rintro _ w116 ⟨rfl, hX114⟩
                refine ⟨_, rfl, ?_⟩
                have hH115 : Has E w116 [sg3, [Hp.one pb24 (.cells #[(.bool p3.off), (.bool p3.armed), (.int .i64 p3.left), (.int .i64 p3.uses)] 101 (0, 0))], [Hp.one ab36 (.cells #[(.pointer (some ⟨db23, 0, none⟩)), (.int .i64 3), (.int .i64 (1 + (nn % 8)))] 139 (0, 0))], [Hp.one ab32 (.cells #[(.pointer (some ⟨db23, 0, none⟩)), (.int .i64 1), (.int .i64 2)] 139 (0, 0))], [Hp.one b42 (.cells #[(S first)] 9 (0, 0))], R] := hX114.of_all3
                refine s_nil ?_
                have hH117 : Has E w116 [sg3, [Hp.one pb24 (.cells #[(.bool p3.off), (.bool p3.armed), (.int .i64 p3.left), (.int .i64 p3.uses)] 101 (0, 0))], [Hp.one ab32 (.cells #[(.pointer (some ⟨db23, 0, none⟩)), (.int .i64 1), (.int .i64 2)] 139 (0, 0))], [Hp.one b42 (.cells #[(S first)] 9 (0, 0))], [Hp.one ab36 (.cells #[(.pointer (some ⟨db23, 0, none⟩)), (.int .i64 3), (.int .i64 (1 + (nn % 8)))] 139 (0, 0))], R] := Has.pick hH115 [0, 0, 1, 1, 0, 0] (by kernel_rfl)
                refine t_norm (hJ72 _ _ ⟨p3, lo3, sg3, hH117, (hd3), (hp3.mono (by omega)), (hlo3), (hsm), e103_0, e103_1, e103_2, e103_7, e103_8, e103_9, e103_10, e103_11, e103_12, e103_13, e103_26, e103_52, e103_61⟩)
          · -- not: x86.kind = 0
            refine wp_skip ?_
            refine t_norm (hJ72 _ _ ⟨p3, lo3, sg3, hH63, (hd3), (hp3.mono (by omega)), (hlo3), (hsm), e60_0, e60_1, e60_2, e60_7, e60_8, e60_9, e60_10, e60_11, e60_12, e60_13, e60_26, e60_52, rfl⟩)
        · -- not: (i : Int) < ((l.length : Nat) : Int)
          refine wp_exit ?_
          refine t_exit (t_exit (x_in (?_)))
          refine t_norm (hK58 _ _ ?_)
          refine wp_seq_k fun K118 hK118 => ?_
          refine c_region ?_
          refine s_op (o_move (v := (.int .i64 (0 : Int))) e60_12 ?_)
          refine s_op (o_eql (a := (0 : Int)) (b := 0) rfl rfl ?_)
          refine s_op (o_assign (v := (.bool (decide ((0 : Int) = 0)))) rfl ?_)
          refine s_nil ?_
          refine t_norm (hK118 _ _ ?_)
          refine wp_ret ?_
          refine c_ret1 Try.results5  (v := (.bool (decide ((0 : Int) = 0)))) rfl ?_
          have hH119 : Has E w62 [R] := (hH63.front 5 rfl).first 1 rfl
          exact ⟨by first | rfl | rw [decide_eq_true rfl], hH119⟩
end Go.Q
