/-
  Parts of a walk: what functions of the program compute, each told by a theorem.
-/
import Derived.Test.YtcffibbdbalmjaaQE7
set_option linter.unusedVariables false
set_option linter.unusedSimpArgs false
namespace Go.Q
open Go.Proofs
set_option linter.unusedVariables false
set_option maxRecDepth 100000
attribute [local irreducible] wpList OK Code.wp
set_option maxHeartbeats 4000000 in
theorem DeviceKeeps_c {E w : World} {R : List Hp} (hH : Has E w [R]) {v1 : Value} {first : List Bs} (hf : Sl R 1 v1 first.length (first.map sV)) {v2 : Value} {second : List Bs} (hs : Sl R 1 v2 second.length (second.map sV)) {v3 : Value} {keep : List Int} (hkp : Ints R v3 keep) :
    Calls Try.prog 6 #[v1, v2, v3] w fun e w' => e = .returned (.bool true) ∧ Has E w' [R] := by
  have hn1_ := hf.le
  have hn2_ := hs.le
  have hn3_ := hkp.le
  refine c_enter (args := [v1, v2, v3]) Try.func6 rfl Try.ntmps6 (by simp) ?_
  refine wp_seq_k fun K1 hK1 => ?_
  refine c_region ?_
  refine s_op (o_assign (v := (.bool false)) rfl ?_)
  refine s_nil ?_
  refine t_norm (hK1 _ _ ?_)
  refine wp_seq_k fun K2 hK2 => ?_
  refine wp_seq_k fun K3 hK3 => ?_
  refine c_region ?_
  refine s_op (o_move (v := v1) rfl ?_)
  refine s_op (o_lenS Try.underlying53 rfl hf ?_)
  refine s_op (o_gtr (a := ((first.length : Nat) : Int)) (b := 30) rfl rfl ?_)
  refine s_op (o_move (v := (.bool (decide (30 < ((first.length : Nat) : Int))))) rfl ?_)
  by_cases h4 : 30 < ((first.length : Nat) : Int)
  · -- 30 < ((first.length : Nat) : Int)
    refine s_off (b' := true) 18 rfl (congrArg Value.bool (decide_eq_true h4)) rfl ?_
    refine s_off (b' := true) 18 rfl (congrArg Value.bool (decide_eq_true h4)) rfl ?_
    refine s_off (b' := true) 18 rfl (congrArg Value.bool (decide_eq_true h4)) rfl ?_
    refine s_op (o_pick_t (u := (.bool true)) ((rfl : _ = _).trans (congrArg Value.bool (decide_eq_true h4))) rfl ?_)
    refine s_op (o_move (v := (.bool true)) rfl ?_)
    refine s_off (b' := true) 23 rfl rfl rfl ?_
    refine s_off (b' := true) 23 rfl rfl rfl ?_
    refine s_off (b' := true) 23 rfl rfl rfl ?_
    refine s_op (o_pick_t (u := (.bool true)) rfl rfl ?_)
    refine s_op (o_move (v := (.bool true)) rfl ?_)
    refine s_off (b' := true) 28 rfl rfl rfl ?_
    refine s_off (b' := true) 28 rfl rfl rfl ?_
    refine s_op (o_pick_t (u := (.bool true)) rfl rfl ?_)
    refine s_nil ?_
    refine t_norm (hK3 _ _ ?_)
    refine c_true rfl rfl ?_
    refine wp_seq_k fun K5 hK5 => ?_
    refine c_region ?_
    refine s_op (o_callf (vs := #[]) ca27 rfl (args0) (awake5_c hH.all) ?_)
    rintro _ w8 ⟨rfl, hX6⟩
    refine ⟨_, rfl, ?_⟩
    have hH7 := hX6.of_all
    refine s_op (o_assign (v := (.bool true)) rfl ?_)
    refine s_nil ?_
    refine t_norm (hK5 _ _ ?_)
    refine wp_ret ?_
    refine t_ret (c_ret1 Try.results6  (v := (.bool true)) rfl ?_)
    exact ⟨rfl, hH7⟩
  · -- not: 30 < ((first.length : Nat) : Int)
    refine s_on 18 rfl (congrArg Value.bool (decide_eq_false h4)) (o_move (v := v2) rfl ?_)
    refine s_on 18 rfl (congrArg Value.bool (decide_eq_false h4)) (o_lenS Try.underlying53 rfl hs ?_)
    refine s_on 18 rfl (congrArg Value.bool (decide_eq_false h4)) (o_gtr (a := ((second.length : Nat) : Int)) (b := 30) rfl rfl ?_)
    refine s_op (o_pick_f (u := (.bool (decide (30 < ((second.length : Nat) : Int))))) ((rfl : _ = _).trans (congrArg Value.bool (decide_eq_false h4))) rfl ?_)
    refine s_op (o_move (v := (.bool (decide (30 < ((second.length : Nat) : Int))))) rfl ?_)
    by_cases h9 : 30 < ((second.length : Nat) : Int)
    · -- 30 < ((second.length : Nat) : Int)
      refine s_off (b' := true) 23 rfl (congrArg Value.bool (decide_eq_true h9)) rfl ?_
      refine s_off (b' := true) 23 rfl (congrArg Value.bool (decide_eq_true h9)) rfl ?_
      refine s_off (b' := true) 23 rfl (congrArg Value.bool (decide_eq_true h9)) rfl ?_
      refine s_op (o_pick_t (u := (.bool true)) ((rfl : _ = _).trans (congrArg Value.bool (decide_eq_true h9))) rfl ?_)
      refine s_op (o_move (v := (.bool true)) rfl ?_)
      refine s_off (b' := true) 28 rfl rfl rfl ?_
      refine s_off (b' := true) 28 rfl rfl rfl ?_
      refine s_op (o_pick_t (u := (.bool true)) rfl rfl ?_)
      refine s_nil ?_
      refine t_norm (hK3 _ _ ?_)
      refine c_true rfl rfl ?_
      refine wp_seq_k fun K10 hK10 => ?_
      refine c_region ?_
      refine s_op (o_callf (vs := #[]) ca27 rfl (args0) (awake5_c hH.all) ?_)
      rintro _ w13 ⟨rfl, hX11⟩
      refine ⟨_, rfl, ?_⟩
      have hH12 := hX11.of_all
      refine s_op (o_assign (v := (.bool true)) rfl ?_)
      refine s_nil ?_
      refine t_norm (hK10 _ _ ?_)
      refine wp_ret ?_
      refine t_ret (c_ret1 Try.results6  (v := (.bool true)) rfl ?_)
      exact ⟨rfl, hH12⟩
    · -- not: 30 < ((second.length : Nat) : Int)
      refine s_on 23 rfl (congrArg Value.bool (decide_eq_false h9)) (o_move (v := v3) rfl ?_)
      refine s_on 23 rfl (congrArg Value.bool (decide_eq_false h9)) (o_lenS Try.underlying54 rfl hkp ?_)
      refine s_on 23 rfl (congrArg Value.bool (decide_eq_false h9)) (o_gtr (a := ((keep.length : Nat) : Int)) (b := 40) rfl rfl ?_)
      refine s_op (o_pick_f (u := (.bool (decide (40 < ((keep.length : Nat) : Int))))) ((rfl : _ = _).trans (congrArg Value.bool (decide_eq_false h9))) rfl ?_)
      refine s_op (o_move (v := (.bool (decide (40 < ((keep.length : Nat) : Int))))) rfl ?_)
      by_cases h14 : 40 < ((keep.length : Nat) : Int)
      · -- 40 < ((keep.length : Nat) : Int)
        refine s_off (b' := true) 28 rfl (congrArg Value.bool (decide_eq_true h14)) rfl ?_
        refine s_off (b' := true) 28 rfl (congrArg Value.bool (decide_eq_true h14)) rfl ?_
        refine s_op (o_pick_t (u := (.bool true)) ((rfl : _ = _).trans (congrArg Value.bool (decide_eq_true h14))) rfl ?_)
        refine s_nil ?_
        refine t_norm (hK3 _ _ ?_)
        refine c_true rfl rfl ?_
        refine wp_seq_k fun K15 hK15 => ?_
        refine c_region ?_
        refine s_op (o_callf (vs := #[]) ca27 rfl (args0) (awake5_c hH.all) ?_)
        rintro _ w18 ⟨rfl, hX16⟩
        refine ⟨_, rfl, ?_⟩
        have hH17 := hX16.of_all
        refine s_op (o_assign (v := (.bool true)) rfl ?_)
        refine s_nil ?_
        refine t_norm (hK15 _ _ ?_)
        refine wp_ret ?_
        refine t_ret (c_ret1 Try.results6  (v := (.bool true)) rfl ?_)
        exact ⟨rfl, hH17⟩
      · -- not: 40 < ((keep.length : Nat) : Int)
        refine s_on 28 rfl (congrArg Value.bool (decide_eq_false h14)) (o_callf (vs := #[]) ca27 rfl (args0) (awake5_c hH.all) ?_)
        rintro _ w21 ⟨rfl, hX19⟩
        refine ⟨_, rfl, ?_⟩
        have hH20 := hX19.of_all
        refine s_on 28 rfl (congrArg Value.bool (decide_eq_false h14)) (o_not rfl ?_)
        refine s_op (o_pick_f (u := (.bool false)) ((rfl : _ = _).trans (congrArg Value.bool (decide_eq_false h14))) rfl ?_)
        refine s_nil ?_
        refine t_norm (hK3 _ _ ?_)
        refine c_false rfl rfl ?_
        refine wp_skip ?_
        refine t_norm (hK2 _ _ ?_)
        refine wp_seq_k fun K22 hK22 => ?_
        refine c_region ?_
        refine s_op (o_callf (vs := #[(.pointer none), (.int .i64 30)]) ca23 rfl (args2 rfl rfl) (new_nil hH20.all (n := 30) (by decide)) ?_)
        rintro _ w29 ⟨db23, pb24, sg25, rfl, hd26, hX27⟩
        refine ⟨_, rfl, ?_⟩
        have hH28 : Has E w29 [sg25, [Hp.one pb24 (.cells #[(.bool (Pw.mk false false 0 0).off), (.bool (Pw.mk false false 0 0).armed), (.int .i64 (Pw.mk false false 0 0).left), (.int .i64 (Pw.mk false false 0 0).uses)] 101 (0, 0))], R] := hX27.of_all2
        refine s_op (o_assign (v := (.pointer (some ⟨db23, 0, none⟩))) rfl ?_)
        refine s_nil ?_
        refine t_norm (hK22 _ _ ?_)
        refine wp_seq_k fun K30 hK30 => ?_
        refine c_region ?_
        refine s_op (o_assign (v := (.slice none 0 0)) rfl ?_)
        refine s_op (o_assign (v := (.slice none 0 0)) rfl ?_)
        refine s_nil ?_
        refine t_norm (hK30 _ _ ?_)
        refine wp_seq_k fun K31 hK31 => ?_
        refine wp_seq_k fun K32 hK32 => ?_
        refine c_region ?_
        refine s_op (o_assign (v := (.int .i64 0)) rfl ?_)
        refine s_nil ?_
        refine t_norm (hK32 _ _ ?_)
        refine wp_block ?_
        let I34 : Nat → (Nat → Value) → World → Prop := fun n__ r__ w__ => ∃ (iA : Nat) (vaA : Value) (haA : List Hp) (WA : List Bs) (pA : Pw) (loA : List (Int × Bs)) (sgA : List Hp), n__ = 30 - iA ∧ Has E w__ [haA, sgA, [Hp.one pb24 (.cells #[(.bool pA.off), (.bool pA.armed), (.int .i64 pA.left), (.int .i64 pA.uses)] 101 (0, 0))], R] ∧ (iA ≤ 30) ∧ (Own 9 1 vaA WA.length (WA.map sV) haA) ∧ (DevAt pb24 sgA db23 (List.replicate 30 blankS) loA) ∧ (Calm pA (iA + 0)) ∧ (WR 30 first iA loA) ∧ (WA = (List.range iA).map (secT (List.replicate 30 blankS) first)) ∧ (WA.length = iA) ∧ r__ 0 = v1 ∧ r__ 1 = v2 ∧ r__ 2 = v3 ∧ r__ 6 = (.bool false) ∧ r__ 7 = (.pointer (some ⟨db23, 0, none⟩)) ∧ r__ 8 = vaA ∧ r__ 9 = (.slice none 0 0) ∧ r__ 10 = (.int .i64 (iA : Int)) ∧ r__ 31 = (.bool false)
        have hH35 : Has E w29 [[], sg25, [Hp.one pb24 (.cells #[(.bool (Pw.mk false false 0 0).off), (.bool (Pw.mk false false 0 0).armed), (.int .i64 (Pw.mk false false 0 0).left), (.int .i64 (Pw.mk false false 0 0).uses)] 101 (0, 0))], R] := (Has.nil (((hH28.front 2 rfl).front 2 rfl).front 2 rfl)).first 4 rfl
        refine c_loop I34 _ ⟨0, (.slice none 0 0), [], [], (Pw.mk false false 0 0), ([] : List (Int × Bs)), sg25, rfl, hH35, Nat.zero_le _, Own.nil 9 1, hd26, Calm.new, WR.start 30 _, rfl, rfl, rfl, rfl, rfl, rfl, rfl, rfl, rfl, rfl, rfl⟩ ?_
        rintro n_ r38 w36 ⟨iA, vaA, haA, WA, pA, loA, sgA, rfl, hH37, hiA, hvaA, hdA, hpA, hwrA, hWA, hWlA, e33_0, e33_1, e33_2, e33_6, e33_7, e33_8, e33_9, e33_10, e33_31⟩
        refine wp_seq_k fun K39 hK39 => ?_
        refine wp_seq_k fun K40 hK40 => ?_
        refine c_region ?_
        refine s_op (o_move (v := (.int .i64 (iA : Int))) e33_10 ?_)
        refine s_op (o_lss (a := (iA : Int)) (b := 30) rfl rfl ?_)
        refine s_nil ?_
        refine t_norm (hK40 _ _ ?_)
        refine c_cond rfl (fun h41 => ?_) (fun h41 => ?_)
        · -- (iA : Int) < 30
          refine wp_skip ?_
          refine t_norm (hK39 _ _ ?_)
          refine wp_seq_k fun K42 hK42 => ?_
          refine wp_block ?_
          refine wp_seq_k fun K43 hK43 => ?_
          refine c_region ?_
          refine s_op (o_move (v := vaA) e33_8 ?_)
          refine s_op (o_callf (vs := #[]) ca28 rfl (args0) (lblank_c hH37.all) ?_)
          rintro _ w46 ⟨rfl, hX44⟩
          refine ⟨_, rfl, ?_⟩
          have hH45 := hX44.of_all
          refine s_op (o_buildSlice (ps := #[(0, (S blankS))]) (cells := #[(S blankS)]) Try.underlying53 ti9 (by decide) (parts1 rfl) (by kernel_rfl) hH45 fun b47 w48 hH49 => ?_)
          refine s_op (o_append Try.underlying53 ti9 rfl (by decide) rfl hvaA rfl (sl_lit (f := sV) (l := [blankS]) rfl rfl (by simp)) (hH49.front 1 rfl) (seg_sub 0 rfl) (one_sV _) (by simp; omega) (by simp; omega) fun v50 s51 w53 ho52 hH54 => ?_)
          have ho52 : Own 9 1 v50 (WA ++ [blankS]).length ((WA ++ [blankS]).map sV) s51 := ho52.app
          refine s_op (o_assign (v := v50) rfl ?_)
          refine s_nil ?_
          refine t_norm (hK43 _ _ ?_)
          refine wp_seq_k fun K55 hK55 => ?_
          refine c_region ?_
          refine s_op (o_move (v := (.int .i64 (iA : Int))) e33_10 ?_)
          refine s_op (o_move (v := v1) e33_0 ?_)
          refine s_op (o_lenS Try.underlying53 rfl hf ?_)
          refine s_op (o_lss (a := (iA : Int)) (b := ((first.length : Nat) : Int)) rfl rfl ?_)
          refine s_op (o_move (v := (.bool (decide ((iA : Int) < ((first.length : Nat) : Int))))) rfl ?_)
          by_cases h56 : (iA : Int) < ((first.length : Nat) : Int)
          · -- (iA : Int) < ((first.length : Nat) : Int)
            refine s_on 46 rfl (congrArg Value.bool (decide_eq_true h56)) (o_move (v := v1) e33_0 ?_)
            refine s_on 46 rfl (congrArg Value.bool (decide_eq_true h56)) (o_move (v := (.int .i64 (iA : Int))) e33_10 ?_)
            obtain ⟨x60, hx61⟩ : ∃ x_, first[((iA : Int)).toNat]? = some x_ := get_some (by omega)
            refine s_on 46 rfl (congrArg Value.bool (decide_eq_true h56)) (o_index1 Try.underlying53 ti9 rfl hf rfl (by omega) hx61 fun b57 o58 hc59 => ?_)
            refine s_on 46 rfl (congrArg Value.bool (decide_eq_true h56)) (o_load1 (v := (S x60)) Try.underlying9 rfl rfl hH54 (seg_sub 4 rfl) hc59 ?_)
            refine s_on 46 rfl (congrArg Value.bool (decide_eq_true h56)) (o_slen Try.underlying9 rfl ?_)
            refine s_on 46 rfl (congrArg Value.bool (decide_eq_true h56)) (o_leq (a := (x60.length : Int)) (b := 64) rfl rfl ?_)
            refine s_op (o_pick_t (u := (.bool (decide ((x60.length : Int) ≤ 64)))) ((rfl : _ = _).trans (congrArg Value.bool (decide_eq_true h56))) rfl ?_)
            refine s_nil ?_
            refine t_norm (hK55 _ _ ?_)
            refine c_cond rfl (fun h62 => ?_) (fun h62 => ?_)
            · -- (x60.length : Int) ≤ 64
              refine wp_seq_k fun K63 hK63 => ?_
              refine c_region ?_
              refine s_op (o_move (v := (.pointer (some ⟨db23, 0, none⟩))) e33_7 ?_)
              refine s_op (o_move (v := (.int .i64 (iA : Int))) e33_10 ?_)
              refine s_op (o_move (v := v1) e33_0 ?_)
              refine s_op (o_move (v := (.int .i64 (iA : Int))) e33_10 ?_)
              refine s_op (o_index1 Try.underlying53 ti9 rfl hf rfl (by omega) hx61 fun b64 o65 hc66 => ?_)
              refine s_op (o_load1 (v := (S x60)) Try.underlying9 rfl rfl hH54 (seg_sub 4 rfl) hc66 ?_)
              refine s_op (o_buildSlice (ps := #[(0, (S x60))]) (cells := #[(S x60)]) Try.underlying53 ti9 (by decide) (parts1 rfl) (by kernel_rfl) hH54 fun b67 w68 hH69 => ?_)
              refine s_op (o_callf (vs := #[(.pointer (some ⟨db23, 0, none⟩)), (.int .i64 (iA : Int)), (.slice (some ⟨b67, 0, none⟩) 1 1)]) ca29 rfl (args3 rfl rfl rfl) (write_d (p := pA) (la := (List.replicate 30 blankS)) (lo := loA) ((hH69.front 4 rfl).front 4 rfl).all2 hdA (hpA.ok (by omega)) (by first | simp | omega) (iA : Int) (l := [x60]) ((sl_lit (f := sV) (l := [x60]) rfl rfl (by simp)).mono (seg_sub 0 rfl)) (by simp) (by simp; omega)) ?_)
              rintro _ w74 ⟨sg70, rfl, hd71, hX72⟩
              refine ⟨_, rfl, ?_⟩
              have hH73 : Has E w74 [sg70, [Hp.one pb24 (.cells #[(.bool (useS pA).off), (.bool (useS pA).armed), (.int .i64 (useS pA).left), (.int .i64 (useS pA).uses)] 101 (0, 0))], [Hp.one b67 (.cells #[(S x60)] 9 (0, 0))], s51, [Hp.one b47 (.cells #[(S blankS)] 9 (0, 0))], R] := hX72.of_all2
              refine s_nil ?_
              refine t_norm (hK63 _ _ ?_)
              refine c_region ?_
              refine s_op (o_move (v := v50) rfl ?_)
              refine s_op (o_move (v := (.int .i64 (iA : Int))) e33_10 ?_)
              refine s_op (o_move (v := v1) e33_0 ?_)
              refine s_op (o_move (v := (.int .i64 (iA : Int))) e33_10 ?_)
              refine s_op (o_index1 Try.underlying53 ti9 rfl hf rfl (by omega) hx61 fun b75 o76 hc77 => ?_)
              refine s_op (o_load1 (v := (S x60)) Try.underlying9 rfl rfl hH73 (seg_sub 5 rfl) hc77 ?_)
              refine s_op (o_callf (vs := #[(S x60)]) ca30 rfl (args1 rfl) (lfill_c hH73.all x60 (by omega)) ?_)
              rintro _ w80 ⟨rfl, hX78⟩
              refine ⟨_, rfl, ?_⟩
              have hH79 := hX78.of_all
              refine s_op (o_ownAddr Try.underlying53 ti9 rfl ho52 rfl (by omega) (by first | omega | (simp only [List.length_append, List.length_cons, List.length_nil, List.length_set]; omega)) fun b81 ho82 => ?_)
              refine s_eff (o_ownStore (f := sV) (l := WA ++ [blankS]) (a := (fillS x60)) ti9 rfl rfl rfl ho82 (by first | omega | (simp only [List.length_append, List.length_cons, List.length_nil, List.length_set]; omega)) (hH79.front 3 rfl) fun s83 w84 ho85 hH86 => ?_)
              refine s_nil ?_
              refine b_norm ?_
              refine t_norm (hK42 _ _ ?_)
              refine c_region ?_
              refine s_op (o_move (v := (.int .i64 (iA : Int))) e33_10 ?_)
              refine s_op (o_add (a := (iA : Int)) (b := 1) rfl rfl (w64 (by omega) (by omega)) ?_)
              refine s_op (o_assign (v := (.int .i64 ((iA : Int) + 1))) rfl ?_)
              refine s_nil ?_
              have hH87 : Has E w84 [s83, sg70, [Hp.one pb24 (.cells #[(.bool (useS pA).off), (.bool (useS pA).armed), (.int .i64 (useS pA).left), (.int .i64 (useS pA).uses)] 101 (0, 0))], R] := ((((hH86.front 5 rfl).front 3 rfl).front 3 rfl).front 3 rfl).first 4 rfl
              refine t_norm ⟨30 - (iA + 1), _, rfl, ?_, ?_⟩
              · omega
              · exact ⟨(iA + 1), v50, s83, ((WA ++ [blankS]).set (((iA : Int)).toNat) (fillS x60)), (useS pA), (writeS pA ((List.replicate 30 blankS).length) loA (iA : Int) [x60].flatten), sg70, rfl, hH87, (by omega), (ho85), (hd71), (hpA.use.mono (by omega)), (hwrA.yes (by omega) (show first[iA]? = some _ from hx61) (by omega) hpA), (by rw [range_snoc, secT_yes (show first[iA]? = some _ from hx61) (by omega), ← hWA, set_last _ _ _ (by omega)]), (by simp; omega), e33_0, e33_1, e33_2, e33_6, e33_7, rfl, e33_9, rfl, e33_31⟩
            · -- not: (x60.length : Int) ≤ 64
              refine wp_skip ?_
              refine b_norm ?_
              refine t_norm (hK42 _ _ ?_)
              refine c_region ?_
              refine s_op (o_move (v := (.int .i64 (iA : Int))) e33_10 ?_)
              refine s_op (o_add (a := (iA : Int)) (b := 1) rfl rfl (w64 (by omega) (by omega)) ?_)
              refine s_op (o_assign (v := (.int .i64 ((iA : Int) + 1))) rfl ?_)
              refine s_nil ?_
              have hH88 : Has E w53 [s51, sgA, [Hp.one pb24 (.cells #[(.bool pA.off), (.bool pA.armed), (.int .i64 pA.left), (.int .i64 pA.uses)] 101 (0, 0))], R] := ((((hH54.front 4 rfl).front 4 rfl).front 4 rfl).front 3 rfl).first 4 rfl
              refine t_norm ⟨30 - (iA + 1), _, rfl, ?_, ?_⟩
              · omega
              · exact ⟨(iA + 1), v50, s51, (WA ++ [blankS]), pA, loA, sgA, rfl, hH88, (by omega), (ho52), (hdA), (hpA.mono (by omega)), (hwrA.no (fun g => by have := g.2; rw [show first[iA]? = some _ from hx61] at this; simp at this; omega)), (by rw [range_snoc, secT_no (fun g => by have := g.2; rw [show first[iA]? = some _ from hx61] at this; simp at this; omega), ← hWA, show ((List.replicate 30 blankS)[iA]?).getD [] = blankS from by rw [List.getElem?_replicate, if_pos (by omega)]; rfl]), (by simp; omega), e33_0, e33_1, e33_2, e33_6, e33_7, rfl, e33_9, rfl, e33_31⟩
          · -- not: (iA : Int) < ((first.length : Nat) : Int)
            refine s_off (b' := false) 46 rfl (congrArg Value.bool (decide_eq_false h56)) rfl ?_
            refine s_off (b' := false) 46 rfl (congrArg Value.bool (decide_eq_false h56)) rfl ?_
            refine s_off (b' := false) 46 rfl (congrArg Value.bool (decide_eq_false h56)) rfl ?_
            refine s_off (b' := false) 46 rfl (congrArg Value.bool (decide_eq_false h56)) rfl ?_
            refine s_off (b' := false) 46 rfl (congrArg Value.bool (decide_eq_false h56)) rfl ?_
            refine s_off (b' := false) 46 rfl (congrArg Value.bool (decide_eq_false h56)) rfl ?_
            refine s_op (o_pick_f (u := (.bool false)) ((rfl : _ = _).trans (congrArg Value.bool (decide_eq_false h56))) rfl ?_)
            refine s_nil ?_
            refine t_norm (hK55 _ _ ?_)
            refine c_false rfl rfl ?_
            refine wp_skip ?_
            refine b_norm ?_
            refine t_norm (hK42 _ _ ?_)
            refine c_region ?_
            refine s_op (o_move (v := (.int .i64 (iA : Int))) e33_10 ?_)
            refine s_op (o_add (a := (iA : Int)) (b := 1) rfl rfl (w64 (by omega) (by omega)) ?_)
            refine s_op (o_assign (v := (.int .i64 ((iA : Int) + 1))) rfl ?_)
            refine s_nil ?_
            have hH89 : Has E w53 [s51, sgA, [Hp.one pb24 (.cells #[(.bool pA.off), (.bool pA.armed), (.int .i64 pA.left), (.int .i64 pA.uses)] 101 (0, 0))], R] := ((((hH54.front 4 rfl).front 4 rfl).front 4 rfl).front 3 rfl).first 4 rfl
            refine t_norm ⟨30 - (iA + 1), _, rfl, ?_, ?_⟩
            · omega
            · exact ⟨(iA + 1), v50, s51, (WA ++ [blankS]), pA, loA, sgA, rfl, hH89, (by omega), (ho52), (hdA), (hpA.mono (by omega)), (hwrA.no (fun g => by have := g.1; omega)), (by rw [range_snoc, secT_no (fun g => by have := g.1; omega), ← hWA, show ((List.replicate 30 blankS)[iA]?).getD [] = blankS from by rw [List.getElem?_replicate, if_pos (by omega)]; rfl]), (by simp; omega), e33_0, e33_1, e33_2, e33_6, e33_7, rfl, e33_9, rfl, e33_31⟩
        · -- not: (iA : Int) < 30
          refine wp_exit ?_
          refine t_exit (t_exit (x_in (?_)))
          refine t_norm (hK31 _ _ ?_)
          refine wp_seq_k fun K90 hK90 => ?_
          refine wp_seq_k fun K91 hK91 => ?_
          refine c_region ?_
          refine s_op (o_move (v := (.pointer (some ⟨db23, 0, none⟩))) e33_7 ?_)
          have hiA30 : iA = 30 := by omega
          have hwrA30 : WR 30 first 30 loA := hiA30 ▸ hwrA
          have hWA30 : WA = (List.range 30).map (secT (List.replicate 30 blankS) first) := hiA30 ▸ hWA
          have hWlA30 : WA.length = 30 := hiA30 ▸ hWlA
          obtain ⟨hs1_, hs2_, hs3_⟩ := sync_calm hpA (List.replicate 30 blankS) loA
          have hsy_ : settleS loA (List.replicate 30 blankS) (keysS loA) = WA := (by rw [hWA30]; exact hwrA30.sync (by simp))
          refine s_op (o_callf (vs := #[(.pointer (some ⟨db23, 0, none⟩))]) ca31 rfl (args1 rfl) (sync_d (p := pA) (la := (List.replicate 30 blankS)) (lo := loA) ((hH37.front 2 rfl).front 2 rfl).all2 hdA (hpA.ok (by omega)) (by first | simp | omega) (by rw [List.length_replicate]; exact hwrA.2)) ?_)
          rintro _ w96 ⟨sg92, rfl, hd93, hX94⟩
          refine ⟨_, rfl, ?_⟩
          have hH95 : Has E w96 [sg92, [Hp.one pb24 (.cells #[(.bool (useS pA).off), (.bool (useS pA).armed), (.int .i64 (useS pA).left), (.int .i64 (useS pA).uses)] 101 (0, 0))], haA, R] := hX94.of_all2
          have hd97 : DevAt pb24 sg92 db23 WA ([] : List (Int × Bs)) := (by have h_ := hd93; rw [hs2_, hs3_, hsy_] at h_; exact h_)
          have hsy : Calm (useS pA) (0 + 31) := hpA.use.mono (by omega)
          refine s_op (o_neq (a := syncE pA) (b := 0) rfl rfl ?_)
          refine s_nil ?_
          refine t_norm (hK91 _ _ ?_)
          refine c_cond rfl (fun h98 => ?_) (fun h98 => ?_)
          · -- syncE pA ≠ 0
            exact absurd hs1_ h98
          · -- not: syncE pA ≠ 0
            refine wp_skip ?_
            refine t_norm (hK90 _ _ ?_)
            refine wp_seq_k fun K99 hK99 => ?_
            refine wp_seq_k fun K100 hK100 => ?_
            refine c_region ?_
            refine s_op (o_assign (v := (.int .i64 0)) rfl ?_)
            refine s_nil ?_
            refine t_norm (hK100 _ _ ?_)
            refine wp_block ?_
            let I102 : Nat → (Nat → Value) → World → Prop := fun n__ r__ w__ => ∃ (iB : Nat) (vaB : Value) (haB : List Hp) (WB : List Bs) (pB : Pw) (loB : List (Int × Bs)) (sgB : List Hp), n__ = 30 - iB ∧ Has E w__ [haB, sgB, [Hp.one pb24 (.cells #[(.bool pB.off), (.bool pB.armed), (.int .i64 pB.left), (.int .i64 pB.uses)] 101 (0, 0))], haA, R] ∧ (iB ≤ 30) ∧ (Own 9 1 vaB WB.length (WB.map sV) haB) ∧ (DevAt pb24 sgB db23 WA loB) ∧ (Calm pB (iB + 31)) ∧ (WR 30 second iB loB) ∧ (WB = (List.range iB).map (secT WA second)) ∧ (WB.length = iB) ∧ r__ 0 = v1 ∧ r__ 1 = v2 ∧ r__ 2 = v3 ∧ r__ 6 = (.bool false) ∧ r__ 7 = (.pointer (some ⟨db23, 0, none⟩)) ∧ r__ 8 = vaA ∧ r__ 9 = vaB ∧ r__ 10 = (.int .i64 (iA : Int)) ∧ r__ 11 = (.int .i64 (iB : Int)) ∧ r__ 31 = (.bool false) ∧ r__ 35 = (.bool (decide ((iA : Int) < 30))) ∧ r__ 72 = (.bool (decide (syncE pA ≠ 0)))
            have hH103 : Has E w96 [[], sg92, [Hp.one pb24 (.cells #[(.bool (useS pA).off), (.bool (useS pA).armed), (.int .i64 (useS pA).left), (.int .i64 (useS pA).uses)] 101 (0, 0))], haA, R] := (Has.nil ((((hH95.front 3 rfl).front 3 rfl).front 3 rfl).front 3 rfl)).first 5 rfl
            refine c_loop I102 _ ⟨0, (.slice none 0 0), [], [], (useS pA), ([] : List (Int × Bs)), sg92, rfl, hH103, Nat.zero_le _, Own.nil 9 1, hd97, hsy, WR.start 30 _, rfl, rfl, e33_0, e33_1, e33_2, e33_6, e33_7, e33_8, e33_9, e33_10, rfl, e33_31, rfl, rfl⟩ ?_
            rintro n_ r106 w104 ⟨iB, vaB, haB, WB, pB, loB, sgB, rfl, hH105, hiB, hvaB, hdB, hpB, hwrB, hWB, hWlB, e101_0, e101_1, e101_2, e101_6, e101_7, e101_8, e101_9, e101_10, e101_11, e101_31, e101_35, e101_72⟩
            refine wp_seq_k fun K107 hK107 => ?_
            refine wp_seq_k fun K108 hK108 => ?_
            refine c_region ?_
            refine s_op (o_move (v := (.int .i64 (iB : Int))) e101_11 ?_)
            refine s_op (o_lss (a := (iB : Int)) (b := 30) rfl rfl ?_)
            refine s_nil ?_
            refine t_norm (hK108 _ _ ?_)
            refine c_cond rfl (fun h109 => ?_) (fun h109 => ?_)
            · -- (iB : Int) < 30
              refine wp_skip ?_
              refine t_norm (hK107 _ _ ?_)
              refine wp_seq_k fun K110 hK110 => ?_
              refine wp_block ?_
              refine wp_seq_k fun K111 hK111 => ?_
              refine c_region ?_
              refine s_op (o_move (v := vaB) e101_9 ?_)
              refine s_op (o_move (v := vaA) e101_8 ?_)
              refine s_op (o_move (v := (.int .i64 (iB : Int))) e101_11 ?_)
              obtain ⟨x115, hx116⟩ : ∃ x_, WA[((iB : Int)).toNat]? = some x_ := get_some (by omega)
              refine s_op (o_index1 Try.underlying53 ti9 rfl hvaA.sl rfl (by omega) hx116 fun b112 o113 hc114 => ?_)
              refine s_op (o_load1 (v := (S x115)) Try.underlying9 rfl rfl hH105 (seg_sub 3 rfl) hc114 ?_)
              refine s_op (o_buildSlice (ps := #[(0, (S x115))]) (cells := #[(S x115)]) Try.underlying53 ti9 (by decide) (parts1 rfl) (by kernel_rfl) hH105 fun b117 w118 hH119 => ?_)
              refine s_op (o_append Try.underlying53 ti9 rfl (by decide) rfl hvaB rfl (sl_lit (f := sV) (l := [x115]) rfl rfl (by simp)) (hH119.front 1 rfl) (seg_sub 0 rfl) (one_sV _) (by simp; omega) (by simp; omega) fun v120 s121 w123 ho122 hH124 => ?_)
              have ho122 : Own 9 1 v120 (WB ++ [x115]).length ((WB ++ [x115]).map sV) s121 := ho122.app
              refine s_op (o_assign (v := v120) rfl ?_)
              refine s_nil ?_
              refine t_norm (hK111 _ _ ?_)
              refine wp_seq_k fun K125 hK125 => ?_
              refine c_region ?_
              refine s_op (o_move (v := (.int .i64 (iB : Int))) e101_11 ?_)
              refine s_op (o_move (v := v2) e101_1 ?_)
              refine s_op (o_lenS Try.underlying53 rfl hs ?_)
              refine s_op (o_lss (a := (iB : Int)) (b := ((second.length : Nat) : Int)) rfl rfl ?_)
              refine s_op (o_move (v := (.bool (decide ((iB : Int) < ((second.length : Nat) : Int))))) rfl ?_)
              by_cases h126 : (iB : Int) < ((second.length : Nat) : Int)
              · -- (iB : Int) < ((second.length : Nat) : Int)
                refine s_on 88 rfl (congrArg Value.bool (decide_eq_true h126)) (o_move (v := v2) e101_1 ?_)
                refine s_on 88 rfl (congrArg Value.bool (decide_eq_true h126)) (o_move (v := (.int .i64 (iB : Int))) e101_11 ?_)
                obtain ⟨x130, hx131⟩ : ∃ x_, second[((iB : Int)).toNat]? = some x_ := get_some (by omega)
                refine s_on 88 rfl (congrArg Value.bool (decide_eq_true h126)) (o_index1 Try.underlying53 ti9 rfl hs rfl (by omega) hx131 fun b127 o128 hc129 => ?_)
                refine s_on 88 rfl (congrArg Value.bool (decide_eq_true h126)) (o_load1 (v := (S x130)) Try.underlying9 rfl rfl hH124 (seg_sub 5 rfl) hc129 ?_)
                refine s_on 88 rfl (congrArg Value.bool (decide_eq_true h126)) (o_slen Try.underlying9 rfl ?_)
                refine s_on 88 rfl (congrArg Value.bool (decide_eq_true h126)) (o_leq (a := (x130.length : Int)) (b := 64) rfl rfl ?_)
                refine s_op (o_pick_t (u := (.bool (decide ((x130.length : Int) ≤ 64)))) ((rfl : _ = _).trans (congrArg Value.bool (decide_eq_true h126))) rfl ?_)
                refine s_nil ?_
                refine t_norm (hK125 _ _ ?_)
                refine c_cond rfl (fun h132 => ?_) (fun h132 => ?_)
                · -- (x130.length : Int) ≤ 64
                  refine wp_seq_k fun K133 hK133 => ?_
                  refine c_region ?_
                  refine s_op (o_move (v := (.pointer (some ⟨db23, 0, none⟩))) e101_7 ?_)
                  refine s_op (o_move (v := (.int .i64 (iB : Int))) e101_11 ?_)
                  refine s_op (o_move (v := v2) e101_1 ?_)
                  refine s_op (o_move (v := (.int .i64 (iB : Int))) e101_11 ?_)
                  refine s_op (o_index1 Try.underlying53 ti9 rfl hs rfl (by omega) hx131 fun b134 o135 hc136 => ?_)
                  refine s_op (o_load1 (v := (S x130)) Try.underlying9 rfl rfl hH124 (seg_sub 5 rfl) hc136 ?_)
                  refine s_op (o_buildSlice (ps := #[(0, (S x130))]) (cells := #[(S x130)]) Try.underlying53 ti9 (by decide) (parts1 rfl) (by kernel_rfl) hH124 fun b137 w138 hH139 => ?_)
                  refine s_op (o_callf (vs := #[(.pointer (some ⟨db23, 0, none⟩)), (.int .i64 (iB : Int)), (.slice (some ⟨b137, 0, none⟩) 1 1)]) ca29 rfl (args3 rfl rfl rfl) (write_d (p := pB) (la := WA) (lo := loB) ((hH139.front 4 rfl).front 4 rfl).all2 hdB (hpB.ok (by omega)) (by first | omega | (rw [settle_len]; omega)) (iB : Int) (l := [x130]) ((sl_lit (f := sV) (l := [x130]) rfl rfl (by simp)).mono (seg_sub 0 rfl)) (by simp) (by simp; omega)) ?_)
                  rintro _ w144 ⟨sg140, rfl, hd141, hX142⟩
                  refine ⟨_, rfl, ?_⟩
                  have hH143 : Has E w144 [sg140, [Hp.one pb24 (.cells #[(.bool (useS pB).off), (.bool (useS pB).armed), (.int .i64 (useS pB).left), (.int .i64 (useS pB).uses)] 101 (0, 0))], [Hp.one b137 (.cells #[(S x130)] 9 (0, 0))], s121, [Hp.one b117 (.cells #[(S x115)] 9 (0, 0))], haA, R] := hX142.of_all2
                  refine s_nil ?_
                  refine t_norm (hK133 _ _ ?_)
                  refine c_region ?_
                  refine s_op (o_move (v := v120) rfl ?_)
                  refine s_op (o_move (v := (.int .i64 (iB : Int))) e101_11 ?_)
                  refine s_op (o_move (v := v2) e101_1 ?_)
                  refine s_op (o_move (v := (.int .i64 (iB : Int))) e101_11 ?_)
                  refine s_op (o_index1 Try.underlying53 ti9 rfl hs rfl (by omega) hx131 fun b145 o146 hc147 => ?_)
                  refine s_op (o_load1 (v := (S x130)) Try.underlying9 rfl rfl hH143 (seg_sub 6 rfl) hc147 ?_)
                  refine s_op (o_callf (vs := #[(S x130)]) ca30 rfl (args1 rfl) (lfill_c hH143.all x130 (by omega)) ?_)
                  rintro _ w150 ⟨rfl, hX148⟩
                  refine ⟨_, rfl, ?_⟩
                  have hH149 := hX148.of_all
                  refine s_op (o_ownAddr Try.underlying53 ti9 rfl ho122 rfl (by omega) (by first | omega | (simp only [List.length_append, List.length_cons, List.length_nil, List.length_set]; omega)) fun b151 ho152 => ?_)
                  refine s_eff (o_ownStore (f := sV) (l := WB ++ [x115]) (a := (fillS x130)) ti9 rfl rfl rfl ho152 (by first | omega | (simp only [List.length_append, List.length_cons, List.length_nil, List.length_set]; omega)) (hH149.front 3 rfl) fun s153 w154 ho155 hH156 => ?_)
                  refine s_nil ?_
                  refine b_norm ?_
                  refine t_norm (hK110 _ _ ?_)
                  refine c_region ?_
                  refine s_op (o_move (v := (.int .i64 (iB : Int))) e101_11 ?_)
                  refine s_op (o_add (a := (iB : Int)) (b := 1) rfl rfl (w64 (by omega) (by omega)) ?_)
                  refine s_op (o_assign (v := (.int .i64 ((iB : Int) + 1))) rfl ?_)
                  refine s_nil ?_
                  have hH157 : Has E w154 [s153, sg140, [Hp.one pb24 (.cells #[(.bool (useS pB).off), (.bool (useS pB).armed), (.int .i64 (useS pB).left), (.int .i64 (useS pB).uses)] 101 (0, 0))], haA, R] := (((((hH156.front 6 rfl).front 6 rfl).front 4 rfl).front 4 rfl).front 4 rfl).first 5 rfl
                  refine t_norm ⟨30 - (iB + 1), _, rfl, ?_, ?_⟩
                  · omega
                  · exact ⟨(iB + 1), v120, s153, ((WB ++ [x115]).set (((iB : Int)).toNat) (fillS x130)), (useS pB), (writeS pB WA.length loB (iB : Int) [x130].flatten), sg140, rfl, hH157, (by omega), (ho155), (hd141), (hpB.use.mono (by omega)), (by rw [hWlA30]; exact hwrB.yes (by omega) (show second[iB]? = some _ from hx131) (by omega) hpB), (by rw [range_snoc, secT_yes (show second[iB]? = some _ from hx131) (by omega), ← hWB, set_last _ _ _ (by omega)]), (by simp; omega), e101_0, e101_1, e101_2, e101_6, e101_7, e101_8, rfl, e101_10, rfl, e101_31, e101_35, e101_72⟩
                · -- not: (x130.length : Int) ≤ 64
                  refine wp_skip ?_
                  refine b_norm ?_
                  refine t_norm (hK110 _ _ ?_)
                  refine c_region ?_
                  refine s_op (o_move (v := (.int .i64 (iB : Int))) e101_11 ?_)
                  refine s_op (o_add (a := (iB : Int)) (b := 1) rfl rfl (w64 (by omega) (by omega)) ?_)
                  refine s_op (o_assign (v := (.int .i64 ((iB : Int) + 1))) rfl ?_)
                  refine s_nil ?_
                  have hH158 : Has E w123 [s121, sgB, [Hp.one pb24 (.cells #[(.bool pB.off), (.bool pB.armed), (.int .i64 pB.left), (.int .i64 pB.uses)] 101 (0, 0))], haA, R] := (((((hH124.front 5 rfl).front 5 rfl).front 5 rfl).front 5 rfl).front 4 rfl).first 5 rfl
                  refine t_norm ⟨30 - (iB + 1), _, rfl, ?_, ?_⟩
                  · omega
                  · exact ⟨(iB + 1), v120, s121, (WB ++ [x115]), pB, loB, sgB, rfl, hH158, (by omega), (ho122), (hdB), (hpB.mono (by omega)), (hwrB.no (fun g => by have := g.2; rw [show second[iB]? = some _ from hx131] at this; simp at this; omega)), (by rw [range_snoc, secT_no (fun g => by have := g.2; rw [show second[iB]? = some _ from hx131] at this; simp at this; omega), ← hWB, show WA[iB]? = some _ from hx116]; rfl), (by simp; omega), e101_0, e101_1, e101_2, e101_6, e101_7, e101_8, rfl, e101_10, rfl, e101_31, e101_35, e101_72⟩
              · -- not: (iB : Int) < ((second.length : Nat) : Int)
                refine s_off (b' := false) 88 rfl (congrArg Value.bool (decide_eq_false h126)) rfl ?_
                refine s_off (b' := false) 88 rfl (congrArg Value.bool (decide_eq_false h126)) rfl ?_
                refine s_off (b' := false) 88 rfl (congrArg Value.bool (decide_eq_false h126)) rfl ?_
                refine s_off (b' := false) 88 rfl (congrArg Value.bool (decide_eq_false h126)) rfl ?_
                refine s_off (b' := false) 88 rfl (congrArg Value.bool (decide_eq_false h126)) rfl ?_
                refine s_off (b' := false) 88 rfl (congrArg Value.bool (decide_eq_false h126)) rfl ?_
                refine s_op (o_pick_f (u := (.bool false)) ((rfl : _ = _).trans (congrArg Value.bool (decide_eq_false h126))) rfl ?_)
                refine s_nil ?_
                refine t_norm (hK125 _ _ ?_)
                refine c_false rfl rfl ?_
                refine wp_skip ?_
                refine b_norm ?_
                refine t_norm (hK110 _ _ ?_)
                refine c_region ?_
                refine s_op (o_move (v := (.int .i64 (iB : Int))) e101_11 ?_)
                refine s_op (o_add (a := (iB : Int)) (b := 1) rfl rfl (w64 (by omega) (by omega)) ?_)
                refine s_op (o_assign (v := (.int .i64 ((iB : Int) + 1))) rfl ?_)
                refine s_nil ?_
                have hH159 : Has E w123 [s121, sgB, [Hp.one pb24 (.cells #[(.bool pB.off), (.bool pB.armed), (.int .i64 pB.left), (.int .i64 pB.uses)] 101 (0, 0))], haA, R] := (((((hH124.front 5 rfl).front 5 rfl).front 5 rfl).front 5 rfl).front 4 rfl).first 5 rfl
                refine t_norm ⟨30 - (iB + 1), _, rfl, ?_, ?_⟩
                · omega
                · exact ⟨(iB + 1), v120, s121, (WB ++ [x115]), pB, loB, sgB, rfl, hH159, (by omega), (ho122), (hdB), (hpB.mono (by omega)), (hwrB.no (fun g => by have := g.1; omega)), (by rw [range_snoc, secT_no (fun g => by have := g.1; omega), ← hWB, show WA[iB]? = some _ from hx116]; rfl), (by simp; omega), e101_0, e101_1, e101_2, e101_6, e101_7, e101_8, rfl, e101_10, rfl, e101_31, e101_35, e101_72⟩
            · -- not: (iB : Int) < 30
              refine wp_exit ?_
              refine t_exit (t_exit (x_in (?_)))
              refine t_norm (hK99 _ _ ?_)
              refine wp_seq_k fun K160 hK160 => ?_
              refine c_region ?_
              refine s_op (o_move (v := (.pointer (some ⟨db23, 0, none⟩))) e101_7 ?_)
              refine s_op (o_move (v := v3) e101_2 ?_)
              refine s_op (o_callf (vs := #[(.pointer (some ⟨db23, 0, none⟩)), v3]) ca32 rfl (args2 rfl rfl) (crash_d (p := pB) (la := WA) (lo := loB) ((hH105.front 2 rfl).front 2 rfl).all2 hdB (by rw [hWlA30]; exact hwrB.2) (keep := keep) (hkp.mono (seg_sub 2 rfl))) ?_)
              rintro _ w165 ⟨sg161, rfl, hd162, hX163⟩
              refine ⟨_, rfl, ?_⟩
              have hH164 : Has E w165 [sg161, [Hp.one pb24 (.cells #[(.bool (backS pB).off), (.bool (backS pB).armed), (.int .i64 (backS pB).left), (.int .i64 (backS pB).uses)] 101 (0, 0))], haB, haA, R] := hX163.of_all2
              refine s_nil ?_
              refine t_norm (hK160 _ _ ?_)
              refine wp_seq_k fun K166 hK166 => ?_
              refine wp_seq_k fun K167 hK167 => ?_
              refine c_region ?_
              refine s_op (o_assign (v := (.int .i64 0)) rfl ?_)
              refine s_nil ?_
              refine t_norm (hK167 _ _ ?_)
              refine wp_block ?_
              have hiB30 : iB = 30 := by omega
              have hwrB30 : WR 30 second 30 loB := hiB30 ▸ hwrB
              have hWB30 : WB = (List.range 30).map (secT WA second) := hiB30 ▸ hWB
              let I169 : Nat → (Nat → Value) → World → Prop := fun n__ r__ w__ => ∃ (k : Nat), n__ = 30 - k ∧ Has E w__ [sg161, [Hp.one pb24 (.cells #[(.bool (backS pB).off), (.bool (backS pB).armed), (.int .i64 (backS pB).left), (.int .i64 (backS pB).uses)] 101 (0, 0))], haB, haA, R] ∧ (k ≤ 30) ∧ r__ 0 = v1 ∧ r__ 1 = v2 ∧ r__ 2 = v3 ∧ r__ 7 = (.pointer (some ⟨db23, 0, none⟩)) ∧ r__ 8 = vaA ∧ r__ 9 = vaB ∧ r__ 10 = (.int .i64 (iA : Int)) ∧ r__ 11 = (.int .i64 (iB : Int)) ∧ r__ 12 = (.int .i64 (k : Int)) ∧ r__ 31 = (.bool false) ∧ r__ 35 = (.bool (decide ((iA : Int) < 30))) ∧ r__ 72 = (.bool (decide (syncE pA ≠ 0))) ∧ r__ 74 = (.bool (decide ((iB : Int) < 30)))
              refine c_loop I169 _ ⟨0, rfl, hH164, Nat.zero_le _, e101_0, e101_1, e101_2, e101_7, e101_8, e101_9, e101_10, e101_11, rfl, e101_31, e101_35, e101_72, rfl⟩ ?_
              rintro n_ r172 w170 ⟨k, rfl, hH171, hk, e168_0, e168_1, e168_2, e168_7, e168_8, e168_9, e168_10, e168_11, e168_12, e168_31, e168_35, e168_72, e168_74⟩
              refine wp_seq_k fun K173 hK173 => ?_
              refine wp_seq_k fun K174 hK174 => ?_
              refine c_region ?_
              refine s_op (o_move (v := (.int .i64 (k : Int))) e168_12 ?_)
              refine s_op (o_lss (a := (k : Int)) (b := 30) rfl rfl ?_)
              refine s_nil ?_
              refine t_norm (hK174 _ _ ?_)
              refine c_cond rfl (fun h175 => ?_) (fun h175 => ?_)
              · -- (k : Int) < 30
                have hrd_ := read_calm hpB.back (la := settleS loB WA keep) (n := (k : Int)) ⟨by omega, by rw [settle_len]; omega⟩
                rw [show ((k : Int)).toNat = k from (by omega), hwrB30.at hWlA30 (by omega) keep] at hrd_
                refine wp_skip ?_
                refine t_norm (hK173 _ _ ?_)
                refine wp_seq_k fun K176 hK176 => ?_
                refine wp_block ?_
                refine wp_seq_k fun K177 hK177 => ?_
                refine c_region ?_
                refine s_op (o_move (v := (.pointer (some ⟨db23, 0, none⟩))) e168_7 ?_)
                refine s_op (o_move (v := (.int .i64 (k : Int))) e168_12 ?_)
                refine s_op (o_callf (vs := #[(.pointer (some ⟨db23, 0, none⟩)), (.int .i64 (k : Int))]) ca33 rfl (args2 rfl rfl) (read_d (p := (backS pB)) (la := (settleS loB WA keep)) (lo := ([] : List (Int × Bs))) ((hH171.front 1 rfl).front 1 rfl).all2 hd162 (k : Int)) ?_)
                rintro _ w180 ⟨rfl, hX178⟩
                refine ⟨_, rfl, ?_⟩
                have hH179 : Has E w180 [sg161, [Hp.one pb24 (.cells #[(.bool (backS pB).off), (.bool (backS pB).armed), (.int .i64 (backS pB).left), (.int .i64 (backS pB).uses)] 101 (0, 0))], haB, haA, R] := hX178.of_all2
                refine s_op (o_move (v := (.tuple #[(S (readS (backS pB) (settleS loB WA keep) ([] : List (Int × Bs)) (k : Int))), (.int .i64 (readE (backS pB) (settleS loB WA keep) (k : Int)))])) rfl ?_)
                refine s_op (o_extract (v := (S (readS (backS pB) (settleS loB WA keep) ([] : List (Int × Bs)) (k : Int)))) rfl rfl ?_)
                refine s_op (o_extract (v := (.int .i64 (readE (backS pB) (settleS loB WA keep) (k : Int)))) rfl rfl ?_)
                refine s_op (o_assign (v := (S (readS (backS pB) (settleS loB WA keep) ([] : List (Int × Bs)) (k : Int)))) rfl ?_)
                refine s_op (o_assign (v := (.int .i64 (readE (backS pB) (settleS loB WA keep) (k : Int)))) rfl ?_)
                refine s_nil ?_
                refine t_norm (hK177 _ _ ?_)
                refine wp_seq_k fun K181 hK181 => ?_
                refine c_region ?_
                refine s_op (o_move (v := (.int .i64 (readE (backS pB) (settleS loB WA keep) (k : Int)))) rfl ?_)
                refine s_op (o_neq (a := readE (backS pB) (settleS loB WA keep) (k : Int)) (b := 0) rfl rfl ?_)
                refine s_op (o_move (v := (.bool (decide (readE (backS pB) (settleS loB WA keep) (k : Int) ≠ 0)))) rfl ?_)
                by_cases h182 : readE (backS pB) (settleS loB WA keep) (k : Int) ≠ 0
                · -- readE (backS pB) (settleS loB WA keep) (k : Int) ≠ 0
                  exact absurd hrd_.2 h182
                · -- not: readE (backS pB) (settleS loB WA keep) (k : Int) ≠ 0
                  refine s_on 127 rfl (congrArg Value.bool (decide_eq_false h182)) (o_move (v := v3) e168_2 ?_)
                  refine s_on 127 rfl (congrArg Value.bool (decide_eq_false h182)) (o_move (v := (.int .i64 (k : Int))) e168_12 ?_)
                  refine s_on 127 rfl (congrArg Value.bool (decide_eq_false h182)) (o_callf (vs := #[v3, (.int .i64 (k : Int))]) ca34 rfl (args2 rfl rfl) (refhas_c hH179.all (l := keep) (hkp.mono (seg_sub 4 rfl)) (k : Int)) ?_)
                  rintro _ w185 ⟨rfl, hX183⟩
                  refine ⟨_, rfl, ?_⟩
                  have hH184 := hX183.of_all
                  refine s_on 127 rfl (congrArg Value.bool (decide_eq_false h182)) (o_move (v := (.bool (decide ((k : Int) ∈ keep)))) rfl ?_)
                  by_cases h186 : (k : Int) ∈ keep
                  · -- (k : Int) ∈ keep
                    refine s_on 131 rfl (congrArg Value.bool (decide_eq_true h186)) (o_move (v := (S (readS (backS pB) (settleS loB WA keep) ([] : List (Int × Bs)) (k : Int)))) rfl ?_)
                    refine s_on 131 rfl (congrArg Value.bool (decide_eq_true h186)) (o_move (v := vaB) e168_9 ?_)
                    refine s_on 131 rfl (congrArg Value.bool (decide_eq_true h186)) (o_move (v := (.int .i64 (k : Int))) e168_12 ?_)
                    obtain ⟨x190, hx191⟩ : ∃ x_, WB[((k : Int)).toNat]? = some x_ := get_some (by omega)
                    refine s_on 131 rfl (congrArg Value.bool (decide_eq_true h186)) (o_index1 Try.underlying53 ti9 rfl hvaB.sl rfl (by omega) hx191 fun b187 o188 hc189 => ?_)
                    refine s_on 131 rfl (congrArg Value.bool (decide_eq_true h186)) (o_load1 (v := (S x190)) Try.underlying9 rfl rfl hH184 (seg_sub 2 rfl) hc189 ?_)
                    refine s_on 131 rfl (congrArg Value.bool (decide_eq_true h186)) (o_sneq (a := (readS (backS pB) (settleS loB WA keep) ([] : List (Int × Bs)) (k : Int))) (b := x190) rfl rfl ?_)
                    refine s_on 127 rfl (congrArg Value.bool (decide_eq_false h182)) (o_pick_t (u := (.bool (decide ((readS (backS pB) (settleS loB WA keep) ([] : List (Int × Bs)) (k : Int)) ≠ x190)))) ((rfl : _ = _).trans (congrArg Value.bool (decide_eq_true h186))) rfl ?_)
                    refine s_op (o_pick_f (u := (.bool (decide ((readS (backS pB) (settleS loB WA keep) ([] : List (Int × Bs)) (k : Int)) ≠ x190)))) ((rfl : _ = _).trans (congrArg Value.bool (decide_eq_false h182))) rfl ?_)
                    refine s_op (o_move (v := (.bool (decide ((readS (backS pB) (settleS loB WA keep) ([] : List (Int × Bs)) (k : Int)) ≠ x190)))) rfl ?_)
                    by_cases h192 : (readS (backS pB) (settleS loB WA keep) ([] : List (Int × Bs)) (k : Int)) ≠ x190
                    · -- (readS (backS pB) (settleS loB WA keep) ([] : List (Int × Bs)) (k : Int)) ≠ x190
                      exact absurd (by rw [hrd_.1, if_pos h186]; have g_ := (show WB[k]? = some _ from hx191); rw [hWB30, map_range_get _ (by omega)] at g_; exact Option.some.inj g_) h192
                    · -- not: (readS (backS pB) (settleS loB WA keep) ([] : List (Int × Bs)) (k : Int)) ≠ x190
                      refine s_on 140 rfl (congrArg Value.bool (decide_eq_false h192)) (o_move (v := v3) e168_2 ?_)
                      refine s_on 140 rfl (congrArg Value.bool (decide_eq_false h192)) (o_move (v := (.int .i64 (k : Int))) e168_12 ?_)
                      refine s_on 140 rfl (congrArg Value.bool (decide_eq_false h192)) (o_callf (vs := #[v3, (.int .i64 (k : Int))]) ca34 rfl (args2 rfl rfl) (refhas_c hH184.all (l := keep) (hkp.mono (seg_sub 4 rfl)) (k : Int)) ?_)
                      rintro _ w195 ⟨rfl, hX193⟩
                      refine ⟨_, rfl, ?_⟩
                      have hH194 := hX193.of_all
                      refine s_on 140 rfl (congrArg Value.bool (decide_eq_false h192)) (o_not (b := true) ((rfl : _ = _).trans (congrArg Value.bool (decide_eq_true h186))) ?_)
                      refine s_on 140 rfl (congrArg Value.bool (decide_eq_false h192)) (o_move (v := (.bool false)) rfl ?_)
                      refine s_off (b' := false) 145 rfl rfl rfl ?_
                      refine s_off (b' := false) 145 rfl rfl rfl ?_
                      refine s_off (b' := false) 145 rfl rfl rfl ?_
                      refine s_off (b' := false) 145 rfl rfl rfl ?_
                      refine s_off (b' := false) 145 rfl rfl rfl ?_
                      refine s_off (b' := false) 145 rfl rfl rfl ?_
                      refine s_on 140 rfl (congrArg Value.bool (decide_eq_false h192)) (o_pick_f (u := (.bool false)) rfl rfl ?_)
                      refine s_op (o_pick_f (u := (.bool false)) ((rfl : _ = _).trans (congrArg Value.bool (decide_eq_false h192))) rfl ?_)
                      refine s_nil ?_
                      refine t_norm (hK181 _ _ ?_)
                      refine c_false rfl rfl ?_
                      refine wp_skip ?_
                      refine b_norm ?_
                      refine t_norm (hK176 _ _ ?_)
                      refine c_region ?_
                      refine s_op (o_move (v := (.int .i64 (k : Int))) e168_12 ?_)
                      refine s_op (o_add (a := (k : Int)) (b := 1) rfl rfl (w64 (by omega) (by omega)) ?_)
                      refine s_op (o_assign (v := (.int .i64 ((k : Int) + 1))) rfl ?_)
                      refine s_nil ?_
                      refine t_norm ⟨30 - (k + 1), _, rfl, ?_, ?_⟩
                      · omega
                      · exact ⟨(k + 1), rfl, hH194, (by omega), e168_0, e168_1, e168_2, e168_7, e168_8, e168_9, e168_10, e168_11, rfl, e168_31, e168_35, e168_72, e168_74⟩
                  · -- not: (k : Int) ∈ keep
                    refine s_off (b' := false) 131 rfl (congrArg Value.bool (decide_eq_false h186)) rfl ?_
                    refine s_off (b' := false) 131 rfl (congrArg Value.bool (decide_eq_false h186)) rfl ?_
                    refine s_off (b' := false) 131 rfl (congrArg Value.bool (decide_eq_false h186)) rfl ?_
                    refine s_off (b' := false) 131 rfl (congrArg Value.bool (decide_eq_false h186)) rfl ?_
                    refine s_off (b' := false) 131 rfl (congrArg Value.bool (decide_eq_false h186)) rfl ?_
                    refine s_off (b' := false) 131 rfl (congrArg Value.bool (decide_eq_false h186)) rfl ?_
                    refine s_on 127 rfl (congrArg Value.bool (decide_eq_false h182)) (o_pick_f (u := (.bool false)) ((rfl : _ = _).trans (congrArg Value.bool (decide_eq_false h186))) rfl ?_)
                    refine s_op (o_pick_f (u := (.bool false)) ((rfl : _ = _).trans (congrArg Value.bool (decide_eq_false h182))) rfl ?_)
                    refine s_op (o_move (v := (.bool false)) rfl ?_)
                    refine s_on 140 rfl rfl (o_move (v := v3) e168_2 ?_)
                    refine s_on 140 rfl rfl (o_move (v := (.int .i64 (k : Int))) e168_12 ?_)
                    refine s_on 140 rfl rfl (o_callf (vs := #[v3, (.int .i64 (k : Int))]) ca34 rfl (args2 rfl rfl) (refhas_c hH184.all (l := keep) (hkp.mono (seg_sub 4 rfl)) (k : Int)) ?_)
                    rintro _ w198 ⟨rfl, hX196⟩
                    refine ⟨_, rfl, ?_⟩
                    have hH197 := hX196.of_all
                    refine s_on 140 rfl rfl (o_not (b := false) ((rfl : _ = _).trans (congrArg Value.bool (decide_eq_false h186))) ?_)
                    refine s_on 140 rfl rfl (o_move (v := (.bool true)) rfl ?_)
                    refine s_on 145 rfl rfl (o_move (v := (S (readS (backS pB) (settleS loB WA keep) ([] : List (Int × Bs)) (k : Int)))) rfl ?_)
                    refine s_on 145 rfl rfl (o_move (v := vaA) e168_8 ?_)
                    refine s_on 145 rfl rfl (o_move (v := (.int .i64 (k : Int))) e168_12 ?_)
                    obtain ⟨x202, hx203⟩ : ∃ x_, WA[((k : Int)).toNat]? = some x_ := get_some (by omega)
                    refine s_on 145 rfl rfl (o_index1 Try.underlying53 ti9 rfl hvaA.sl rfl (by omega) hx203 fun b199 o200 hc201 => ?_)
                    refine s_on 145 rfl rfl (o_load1 (v := (S x202)) Try.underlying9 rfl rfl hH197 (seg_sub 3 rfl) hc201 ?_)
                    refine s_on 145 rfl rfl (o_sneq (a := (readS (backS pB) (settleS loB WA keep) ([] : List (Int × Bs)) (k : Int))) (b := x202) rfl rfl ?_)
                    refine s_on 140 rfl rfl (o_pick_t (u := (.bool (decide ((readS (backS pB) (settleS loB WA keep) ([] : List (Int × Bs)) (k : Int)) ≠ x202)))) rfl rfl ?_)
                    refine s_op (o_pick_f (u := (.bool (decide ((readS (backS pB) (settleS loB WA keep) ([] : List (Int × Bs)) (k : Int)) ≠ x202)))) rfl rfl ?_)
                    refine s_nil ?_
                    refine t_norm (hK181 _ _ ?_)
                    refine c_cond rfl (fun h204 => ?_) (fun h204 => ?_)
                    · -- (readS (backS pB) (settleS loB WA keep) ([] : List (Int × Bs)) (k : Int)) ≠ x202
                      exact absurd (by rw [hrd_.1, if_neg h186, show WA[k]? = some _ from hx203]; rfl) h204
                    · -- not: (readS (backS pB) (settleS loB WA keep) ([] : List (Int × Bs)) (k : Int)) ≠ x202
                      refine wp_skip ?_
                      refine b_norm ?_
                      refine t_norm (hK176 _ _ ?_)
                      refine c_region ?_
                      refine s_op (o_move (v := (.int .i64 (k : Int))) e168_12 ?_)
                      refine s_op (o_add (a := (k : Int)) (b := 1) rfl rfl (w64 (by omega) (by omega)) ?_)
                      refine s_op (o_assign (v := (.int .i64 ((k : Int) + 1))) rfl ?_)
                      refine s_nil ?_
                      refine t_norm ⟨30 - (k + 1), _, rfl, ?_, ?_⟩
                      · omega
                      · exact ⟨(k + 1), rfl, hH197, (by omega), e168_0, e168_1, e168_2, e168_7, e168_8, e168_9, e168_10, e168_11, rfl, e168_31, e168_35, e168_72, e168_74⟩
              · -- not: (k : Int) < 30
                refine wp_exit ?_
                refine t_exit (t_exit (x_in (?_)))
                refine t_norm (hK166 _ _ ?_)
                refine wp_seq_k fun K205 hK205 => ?_
                refine c_region ?_
                refine s_op (o_move (v := (.pointer (some ⟨db23, 0, none⟩))) e168_7 ?_)
                refine s_op (o_callf (vs := #[(.pointer (some ⟨db23, 0, none⟩))]) ca35 rfl (args1 rfl) (loose_d (p := (backS pB)) (la := (settleS loB WA keep)) (lo := ([] : List (Int × Bs))) ((hH171.front 1 rfl).front 1 rfl).all2 hd162 (LoOk.nil _) (by first | omega | (rw [settle_len]; omega))) ?_)
                rintro _ w211 ⟨v206, s207, rfl, ho208, hX209⟩
                refine ⟨_, rfl, ?_⟩
                have hH210 : Has E w211 [s207, sg161, [Hp.one pb24 (.cells #[(.bool (backS pB).off), (.bool (backS pB).armed), (.int .i64 (backS pB).left), (.int .i64 (backS pB).uses)] 101 (0, 0))], haB, haA, R] := hX209.of_all3
                refine s_op (o_lenS Try.underlying54 rfl ho208.sl ?_)
                refine s_op (o_eql (a := (((keysS ([] : List (Int × Bs))).length : Nat) : Int)) (b := 0) rfl rfl ?_)
                refine s_op (o_assign (v := (.bool (decide ((((keysS ([] : List (Int × Bs))).length : Nat) : Int) = 0)))) rfl ?_)
                refine s_nil ?_
                refine t_norm (hK205 _ _ ?_)
                refine wp_ret ?_
                refine c_ret1 Try.results6  (v := (.bool (decide ((((keysS ([] : List (Int × Bs))).length : Nat) : Int) = 0)))) rfl ?_
                have hH212 : Has E w211 [R] := (hH210.front 5 rfl).first 1 rfl
                exact ⟨by rw [decide_eq_true (show (((keysS ([] : List (Int × Bs))).length : Nat) : Int) = 0 by rw [keys_nil]; rfl)], hH212⟩
end Go.Q
