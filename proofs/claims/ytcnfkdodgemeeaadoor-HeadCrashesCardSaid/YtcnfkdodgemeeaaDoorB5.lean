/-
  Parts of a walk: what functions of the program compute, each told by a theorem (QyL4, QYD, QyRd).
-/
import Derived.Test.YtcnfkdodgemeeaaDoorB4
import Derived.OpenShut
set_option linter.unusedVariables false
set_option linter.unusedSimpArgs false
set_option linter.unnecessarySimpa false
namespace Go.Q
open Go.Proofs
set_option linter.unusedVariables false
set_option maxRecDepth 100000
attribute [local irreducible] wpList OK Code.wp
set_option maxHeartbeats 4000000 in
theorem HeadCrashes_c {E w : World} {R : List Hp} (hH : Has E w [R]) (hg : CellsAt R 0 0 nibV) {v vk : Value} {l : List Hd} (hv : Sl R 5 v l.length (l.flatMap hdC)) {arm_ : Int} (harm : 0 ≤ arm_ ∧ arm_ ≤ 255) {keep : List Int} (hk_ : Ints R vk keep) :
    Calls Tryd.prog 4 #[v, (.int .u8 arm_), vk] w fun e w' => e = .returned (.bool true) ∧ Has E w' [R] := by
  have hn_ := hv.le
  have hkn_ := hk_.le
  refine c_enter (args := [v, (.int .u8 arm_), vk]) Tryd.func4 rfl Tryd.ntmps4 (by simp) ?_
  refine wp_seq_k fun K1 hK1 => ?_
  refine c_region ?_
  refine s_op (o_assign (v := (.bool false)) rfl ?_)
  refine s_nil ?_
  refine t_norm (hK1 _ _ ?_)
  refine wp_seq_k fun K2 hK2 => ?_
  refine wp_seq_k fun K3 hK3 => ?_
  refine c_region ?_
  refine s_op (o_move (v := v) rfl ?_)
  refine s_op (o_lenS Tryd.underlying35 rfl hv ?_)
  refine s_op (o_gtr (a := ((l.length : Nat) : Int)) (b := 20) rfl rfl ?_)
  refine s_op (o_move (v := (.bool (decide (20 < ((l.length : Nat) : Int))))) rfl ?_)
  by_cases h4 : 20 < ((l.length : Nat) : Int)
  · -- 20 < ((l.length : Nat) : Int)
    refine s_off (b' := true) 21 rfl (congrArg Value.bool (decide_eq_true h4)) rfl ?_
    refine s_off (b' := true) 21 rfl (congrArg Value.bool (decide_eq_true h4)) rfl ?_
    refine s_off (b' := true) 21 rfl (congrArg Value.bool (decide_eq_true h4)) rfl ?_
    refine s_op (o_pick_t (u := (.bool true)) ((rfl : _ = _).trans (congrArg Value.bool (decide_eq_true h4))) rfl ?_)
    refine s_op (o_move (v := (.bool true)) rfl ?_)
    refine s_off (b' := true) 26 rfl rfl rfl ?_
    refine s_off (b' := true) 26 rfl rfl rfl ?_
    refine s_op (o_pick_t (u := (.bool true)) rfl rfl ?_)
    refine s_nil ?_
    refine t_norm (hK3 _ _ ?_)
    refine c_true rfl rfl ?_
    refine wp_seq_k fun K5 hK5 => ?_
    refine c_region ?_
    refine s_op (o_callf (vs := #[]) ca5 rfl (args0) (awake7_c hH.all (hg.mono (seg_sub 0 rfl))) ?_)
    rintro _ w8 ⟨rfl, hX6⟩
    refine ⟨_, rfl, ?_⟩
    have hH7 := hX6.of_all
    refine s_op (o_assign (v := (.bool true)) rfl ?_)
    refine s_nil ?_
    refine t_norm (hK5 _ _ ?_)
    refine wp_ret ?_
    refine t_ret (c_ret1 Tryd.results4  (v := (.bool true)) rfl ?_)
    exact ⟨rfl, hH7⟩
  · -- not: 20 < ((l.length : Nat) : Int)
    refine s_on 21 rfl (congrArg Value.bool (decide_eq_false h4)) (o_move (v := vk) rfl ?_)
    refine s_on 21 rfl (congrArg Value.bool (decide_eq_false h4)) (o_lenS Tryd.underlying36 rfl hk_ ?_)
    refine s_on 21 rfl (congrArg Value.bool (decide_eq_false h4)) (o_gtr (a := ((keep.length : Nat) : Int)) (b := 40) rfl rfl ?_)
    refine s_op (o_pick_f (u := (.bool (decide (40 < ((keep.length : Nat) : Int))))) ((rfl : _ = _).trans (congrArg Value.bool (decide_eq_false h4))) rfl ?_)
    refine s_op (o_move (v := (.bool (decide (40 < ((keep.length : Nat) : Int))))) rfl ?_)
    by_cases h9 : 40 < ((keep.length : Nat) : Int)
    · -- 40 < ((keep.length : Nat) : Int)
      refine s_off (b' := true) 26 rfl (congrArg Value.bool (decide_eq_true h9)) rfl ?_
      refine s_off (b' := true) 26 rfl (congrArg Value.bool (decide_eq_true h9)) rfl ?_
      refine s_op (o_pick_t (u := (.bool true)) ((rfl : _ = _).trans (congrArg Value.bool (decide_eq_true h9))) rfl ?_)
      refine s_nil ?_
      refine t_norm (hK3 _ _ ?_)
      refine c_true rfl rfl ?_
      refine wp_seq_k fun K10 hK10 => ?_
      refine c_region ?_
      refine s_op (o_callf (vs := #[]) ca5 rfl (args0) (awake7_c hH.all (hg.mono (seg_sub 0 rfl))) ?_)
      rintro _ w13 ⟨rfl, hX11⟩
      refine ⟨_, rfl, ?_⟩
      have hH12 := hX11.of_all
      refine s_op (o_assign (v := (.bool true)) rfl ?_)
      refine s_nil ?_
      refine t_norm (hK10 _ _ ?_)
      refine wp_ret ?_
      refine t_ret (c_ret1 Tryd.results4  (v := (.bool true)) rfl ?_)
      exact ⟨rfl, hH12⟩
    · -- not: 40 < ((keep.length : Nat) : Int)
      refine s_on 26 rfl (congrArg Value.bool (decide_eq_false h9)) (o_callf (vs := #[]) ca5 rfl (args0) (awake7_c hH.all (hg.mono (seg_sub 0 rfl))) ?_)
      rintro _ w16 ⟨rfl, hX14⟩
      refine ⟨_, rfl, ?_⟩
      have hH15 := hX14.of_all
      refine s_on 26 rfl (congrArg Value.bool (decide_eq_false h9)) (o_not rfl ?_)
      refine s_op (o_pick_f (u := (.bool false)) ((rfl : _ = _).trans (congrArg Value.bool (decide_eq_false h9))) rfl ?_)
      refine s_nil ?_
      refine t_norm (hK3 _ _ ?_)
      refine c_false rfl rfl ?_
      refine wp_skip ?_
      refine t_norm (hK2 _ _ ?_)
      refine wp_seq_k fun K17 hK17 => ?_
      refine c_region ?_
      refine s_op (o_callf (vs := #[(.pointer none), (.int .i64 2)]) ca8 rfl (args2 rfl rfl) (new_nil hH15.all (n := 2) (by decide)) ?_)
      rintro _ w24 ⟨db18, pb19, sg20, rfl, hd21, hX22⟩
      refine ⟨_, rfl, ?_⟩
      have hH23 : Has E w24 [sg20, [Hp.one pb19 (.cells #[(.bool (Pw.mk false false 0 0).off), (.bool (Pw.mk false false 0 0).armed), (.int .i64 (Pw.mk false false 0 0).left), (.int .i64 (Pw.mk false false 0 0).uses)] 50 (0, 0))], R] := hX22.of_all2
      refine s_op (o_assign (v := (.pointer (some ⟨db18, 0, none⟩))) rfl ?_)
      refine s_nil ?_
      refine t_norm (hK17 _ _ ?_)
      refine wp_seq_k fun K25 hK25 => ?_
      refine c_region ?_
      refine s_op (o_move (v := (.pointer (some ⟨db18, 0, none⟩))) rfl ?_)
      refine s_op (o_sight (v := (.agg #[(.int .i64 0), (.int .i64 0), (.int .i64 0), (.int .i64 0), (.int .i64 0)])) (fun _ => by kernel_rfl) ?_)
      refine s_op (o_callf (vs := #[(.pointer (some ⟨db18, 0, none⟩)), (.int .i64 0), (.agg #[(.int .i64 0), (.int .i64 0), (.int .i64 0), (.int .i64 0), (.int .i64 0)])]) ca7 rfl (args3 rfl rfl rfl) (hsave_ok (p := (Pw.mk false false 0 0)) (la := (List.replicate 2 blankS)) ((hH23.front 1 rfl).front 1 rfl).all2 hd21 (hg.mono (seg_sub 0 rfl)) (by unfold PwOk; decide +kernel) (by unfold PwOk; decide +kernel) (by decide +kernel) (x := 0) (h := (Hd.mk 0 0 0 0 0)) (by decide +kernel) (by decide +kernel) (by decide +kernel)) ?_)
      rintro _ w30 ⟨sg26, rfl, hd27, hX28⟩
      refine ⟨_, rfl, ?_⟩
      have hH29 : Has E w30 [sg26, [Hp.one pb19 (.cells #[(.bool (useS (useS (Pw.mk false false 0 0))).off), (.bool (useS (useS (Pw.mk false false 0 0))).armed), (.int .i64 (useS (useS (Pw.mk false false 0 0))).left), (.int .i64 (useS (useS (Pw.mk false false 0 0))).uses)] 50 (0, 0))], R] := hX28.of_all2
      refine s_op (o_move (v := (.tuple #[(.agg #[(.int .i64 (hdUp (Hd.mk 0 0 0 0 0)).seq), (.int .i64 (hdUp (Hd.mk 0 0 0 0 0)).ep), (.int .i64 (hdUp (Hd.mk 0 0 0 0 0)).cut), (.int .i64 (hdUp (Hd.mk 0 0 0 0 0)).st), (.int .i64 (hdUp (Hd.mk 0 0 0 0 0)).mrk)]), (.int .i64 (0 : Int))])) rfl ?_)
      refine s_op (o_extract (v := (.agg #[(.int .i64 (hdUp (Hd.mk 0 0 0 0 0)).seq), (.int .i64 (hdUp (Hd.mk 0 0 0 0 0)).ep), (.int .i64 (hdUp (Hd.mk 0 0 0 0 0)).cut), (.int .i64 (hdUp (Hd.mk 0 0 0 0 0)).st), (.int .i64 (hdUp (Hd.mk 0 0 0 0 0)).mrk)])) rfl rfl ?_)
      refine s_op (o_extract (v := (.int .i64 (0 : Int))) rfl rfl ?_)
      refine s_op (o_alloc (cs := #[(.int .i64 0), (.int .i64 0), (.int .i64 0), (.int .i64 0), (.int .i64 0)]) ti25 rfl hH29 fun b31 w32 hH33 => ?_)
      refine s_eff (o_storeN (vs := [(.int .i64 (hdUp (Hd.mk 0 0 0 0 0)).seq), (.int .i64 (hdUp (Hd.mk 0 0 0 0 0)).ep), (.int .i64 (hdUp (Hd.mk 0 0 0 0 0)).cut), (.int .i64 (hdUp (Hd.mk 0 0 0 0 0)).st), (.int .i64 (hdUp (Hd.mk 0 0 0 0 0)).mrk)]) (c' := #[(.int .i64 (hdUp (Hd.mk 0 0 0 0 0)).seq), (.int .i64 (hdUp (Hd.mk 0 0 0 0 0)).ep), (.int .i64 (hdUp (Hd.mk 0 0 0 0 0)).cut), (.int .i64 (hdUp (Hd.mk 0 0 0 0 0)).st), (.int .i64 (hdUp (Hd.mk 0 0 0 0 0)).mrk)]) ti25 rfl rfl rfl rfl (by intro u hu; simp only [List.mem_cons, List.not_mem_nil, or_false] at hu; rcases hu with rfl | rfl | rfl | rfl | rfl <;> first | rfl) (by simp) (by kernel_rfl) (hH33.front 0 rfl) fun w34 hH35 => ?_)
      refine s_op (o_assign (v := (.int .i64 (0 : Int))) rfl ?_)
      refine s_nil ?_
      refine t_norm (hK25 _ _ ?_)
      refine wp_seq_k fun K36 hK36 => ?_
      refine wp_seq_k fun K37 hK37 => ?_
      refine c_region ?_
      refine s_op (o_move (v := (.int .i64 (0 : Int))) rfl ?_)
      refine s_op (o_neq (a := (0 : Int)) (b := 0) rfl rfl ?_)
      refine s_nil ?_
      refine t_norm (hK37 _ _ ?_)
      refine c_cond rfl (fun h38 => ?_) (fun h38 => ?_)
      · -- (0 : Int) ≠ 0
        exact absurd h38 (by decide)
      · -- not: (0 : Int) ≠ 0
        refine wp_skip ?_
        refine t_norm (hK36 _ _ ?_)
        refine wp_seq_k fun K39 hK39 => ?_
        refine c_region ?_
        refine s_op (o_move (v := (.pointer (some ⟨db18, 0, none⟩))) rfl ?_)
        refine s_op (o_move (v := (.int .u8 arm_)) rfl ?_)
        refine s_op (o_rem (a := arm_) (b := 30) (c := arm_ % 30) rfl rfl (by omega) ((Int.tmod_eq_emod_of_nonneg (by first | exact Int.natCast_nonneg _ | omega))) ?_)
        refine s_op (o_conv (c := (arm_ % 30)) Tryd.underlying5 Tryd.underlying3 rfl (w64 (by omega) (by omega)) ?_)
        refine s_op (o_callf (vs := #[(.pointer (some ⟨db18, 0, none⟩)), (.int .i64 (arm_ % 30))]) ca9 rfl (args2 rfl rfl) (darm_d (p := (useS (useS (Pw.mk false false 0 0)))) (la := ((List.replicate 2 blankS).set (svN 0 (Hd.mk 0 0 0 0 0)).toNat (hdL (hdUp (Hd.mk 0 0 0 0 0))))) (lo := ([] : List (Int × Bs))) ((hH35.front 2 rfl).front 2 rfl).all2 hd27 (arm_ % 30)) ?_)
        rintro _ w42 ⟨rfl, hX40⟩
        refine ⟨_, rfl, ?_⟩
        have hH41 : Has E w42 [sg26, [Hp.one pb19 (.cells #[(.bool (armS (useS (useS (Pw.mk false false 0 0))) (arm_ % 30)).off), (.bool (armS (useS (useS (Pw.mk false false 0 0))) (arm_ % 30)).armed), (.int .i64 (armS (useS (useS (Pw.mk false false 0 0))) (arm_ % 30)).left), (.int .i64 (armS (useS (useS (Pw.mk false false 0 0))) (arm_ % 30)).uses)] 50 (0, 0))], [Hp.one b31 (.cells #[(.int .i64 (hdUp (Hd.mk 0 0 0 0 0)).seq), (.int .i64 (hdUp (Hd.mk 0 0 0 0 0)).ep), (.int .i64 (hdUp (Hd.mk 0 0 0 0 0)).cut), (.int .i64 (hdUp (Hd.mk 0 0 0 0 0)).st), (.int .i64 (hdUp (Hd.mk 0 0 0 0 0)).mrk)] 25 (0, 0))], R] := hX40.of_all2
        refine s_nil ?_
        refine t_norm (hK39 _ _ ?_)
        refine wp_seq_k fun K43 hK43 => ?_
        refine wp_seq_k fun K44 hK44 => ?_
        refine c_region ?_
        refine s_op (o_assign (v := (.int .i64 0)) rfl ?_)
        refine s_nil ?_
        refine t_norm (hK44 _ _ ?_)
        refine wp_block ?_
        let I46 : Nat → (Nat → Value) → World → Prop := fun n__ r__ w__ => ∃ (i : Nat) (now : Hd) (p3 : Pw) (la3 : List Bs) (sg3 : List Hp), n__ = l.length - i ∧ Has E w__ [sg3, [Hp.one pb19 (.cells #[(.bool p3.off), (.bool p3.armed), (.int .i64 p3.left), (.int .i64 p3.uses)] 50 (0, 0))], [Hp.one b31 (.cells #[(.int .i64 now.seq), (.int .i64 now.ep), (.int .i64 now.cut), (.int .i64 now.st), (.int .i64 now.mrk)] 25 (0, 0))], R] ∧ (i ≤ l.length) ∧ (DevAt pb19 sg3 db18 la3 []) ∧ (Few p3 (2 + 2 * i)) ∧ (p3.off = false) ∧ (la3.length = 2) ∧ (Full64 la3) ∧ (KpA la3 0 now) ∧ (1 ≤ now.seq ∧ now.seq ≤ 1 + i) ∧ r__ 0 = v ∧ r__ 1 = (.int .u8 arm_) ∧ r__ 2 = vk ∧ r__ 7 = (.pointer (some ⟨db18, 0, none⟩)) ∧ r__ 8 = (.pointer (some ⟨b31, 0, none⟩)) ∧ r__ 9 = (.int .i64 (0 : Int)) ∧ r__ 10 = (.int .i64 (i : Int)) ∧ r__ 29 = (.bool false) ∧ r__ 39 = (.bool (decide ((0 : Int) ≠ 0)))
        refine c_loop I46 _ ⟨0, (hdUp (Hd.mk 0 0 0 0 0)), (armS (useS (useS (Pw.mk false false 0 0))) (arm_ % 30)), ((List.replicate 2 blankS).set (svN 0 (Hd.mk 0 0 0 0 0)).toNat (hdL (hdUp (Hd.mk 0 0 0 0 0)))), sg26, rfl, hH41, Nat.zero_le _, hd27, (Few.new.use.use.arm (n := arm_ % 30) (by omega)), (show (useS (useS (Pw.mk false false 0 0))).off = false by decide +kernel), (by rw [List.length_set, List.length_replicate]), set_64 (full_blank _) (by decide +kernel), kp_start (by decide), (by decide), rfl, rfl, rfl, rfl, rfl, rfl, rfl, rfl, rfl⟩ ?_
        rintro n_ r49 w47 ⟨i, now, p3, la3, sg3, rfl, hH48, hi, hd3, hfw3, hon3, hln3, h643, hkp3, hsq3, e45_0, e45_1, e45_2, e45_7, e45_8, e45_9, e45_10, e45_29, e45_39⟩
        refine wp_seq_k fun K50 hK50 => ?_
        refine wp_seq_k fun K51 hK51 => ?_
        refine c_region ?_
        refine s_op (o_move (v := (.int .i64 (i : Int))) e45_10 ?_)
        refine s_op (o_move (v := v) e45_0 ?_)
        refine s_op (o_lenS Tryd.underlying35 rfl hv ?_)
        refine s_op (o_lss (a := (i : Int)) (b := ((l.length : Nat) : Int)) rfl rfl ?_)
        refine s_nil ?_
        refine t_norm (hK51 _ _ ?_)
        refine c_cond rfl (fun h52 => ?_) (fun h52 => ?_)
        · -- (i : Int) < ((l.length : Nat) : Int)
          refine wp_skip ?_
          refine t_norm (hK50 _ _ ?_)
          refine wp_seq_k fun K53 hK53 => ?_
          refine wp_block ?_
          refine wp_seq_k fun K54 hK54 => ?_
          refine c_region ?_
          refine s_op (o_move (v := v) e45_0 ?_)
          refine s_op (o_move (v := (.int .i64 (i : Int))) e45_10 ?_)
          obtain ⟨x58, hx59⟩ : ∃ x_, l[((i : Int)).toNat]? = some x_ := get_some (by omega)
          refine s_op (o_indexF hdC_len Tryd.underlying35 ti23 rfl hv rfl rfl (by omega) hx59 fun b55 o56 hc57 => ?_)
          refine s_op (o_loadN (cs := [(.int .i64 x58.seq), (.int .i64 x58.ep), (.int .i64 x58.cut), (.int .i64 x58.st), (.int .i64 x58.mrk)]) Tryd.underlying23 rfl ti23 rfl hH48 (seg_sub 3 rfl) hc57 ?_)
          refine s_op (o_alloc (cs := #[(.int .i64 0), (.int .i64 0), (.int .i64 0), (.int .i64 0), (.int .i64 0)]) ti25 rfl hH48 fun b60 w61 hH62 => ?_)
          refine s_eff (o_storeN (vs := [(.int .i64 x58.seq), (.int .i64 x58.ep), (.int .i64 x58.cut), (.int .i64 x58.st), (.int .i64 x58.mrk)]) (c' := #[(.int .i64 x58.seq), (.int .i64 x58.ep), (.int .i64 x58.cut), (.int .i64 x58.st), (.int .i64 x58.mrk)]) ti25 rfl rfl rfl rfl (by intro u hu; simp only [List.mem_cons, List.not_mem_nil, or_false] at hu; rcases hu with rfl | rfl | rfl | rfl | rfl <;> first | rfl) (by simp) (by kernel_rfl) (hH62.front 0 rfl) fun w63 hH64 => ?_)
          refine s_nil ?_
          refine t_norm (hK54 _ _ ?_)
          refine wp_seq_k fun K65 hK65 => ?_
          refine c_region ?_
          refine s_op (o_fieldAddr (k := 0) (fun _ => by kernel_rfl) e45_8 ?_)
          refine s_op (o_load1 (v := (.int .i64 now.seq)) Tryd.underlying3 rfl rfl hH64 (seg_sub 3 rfl) (CellsAt.one rfl) ?_)
          refine s_op (o_fieldAddr (k := 0) (fun _ => by kernel_rfl) rfl ?_)
          refine s_eff (o_store1 (c' := #[(.int .i64 now.seq), (.int .i64 x58.ep), (.int .i64 x58.cut), (.int .i64 x58.st), (.int .i64 x58.mrk)]) ti3 rfl rfl rfl (by simp) rfl (hH64.front 0 rfl) fun w66 hH67 => ?_)
          refine s_nil ?_
          refine t_norm (hK65 _ _ ?_)
          refine wp_seq_k fun K68 hK68 => ?_
          refine wp_seq_k fun K69 hK69 => ?_
          refine c_region ?_
          refine s_op (o_loadN (cs := [(.int .i64 now.seq), (.int .i64 x58.ep), (.int .i64 x58.cut), (.int .i64 x58.st), (.int .i64 x58.mrk)]) Tryd.underlying25 rfl ti25 rfl hH67 (seg_sub 0 rfl) (CellsAt.one rfl) ?_)
          refine s_op (o_callf (vs := #[(.agg #[(.int .i64 now.seq), (.int .i64 x58.ep), (.int .i64 x58.cut), (.int .i64 x58.st), (.int .i64 x58.mrk)])]) ca11 rfl (args1 rfl) (r7right_c (h := (Hd.mk now.seq x58.ep x58.cut x58.st x58.mrk)) hH67.all ) ?_)
          rintro _ w72 ⟨rfl, hX70⟩
          refine ⟨_, rfl, ?_⟩
          have hH71 := hX70.of_all
          refine s_op (o_not rfl ?_)
          refine s_nil ?_
          refine t_norm (hK69 _ _ ?_)
          refine c_condb rfl (fun h73 => ?_) (fun h73 => ?_)
          · -- !(hdR (Hd.mk now.seq x58.ep x58.cut x58.st x58.mrk))
            have h73_n : (hdR (Hd.mk now.seq x58.ep x58.cut x58.st x58.mrk)) = false := by simpa using h73
            have hr_ : hdR (Hd.mk now.seq x58.ep x58.cut x58.st x58.mrk) = false := by simpa using h73
            refine wp_exit ?_
            refine t_exit (x_in (?_))
            refine t_norm (hK53 _ _ ?_)
            refine c_region ?_
            refine s_op (o_move (v := (.int .i64 (i : Int))) e45_10 ?_)
            refine s_op (o_add (a := (i : Int)) (b := 1) rfl rfl (w64 (by omega) (by omega)) ?_)
            refine s_op (o_assign (v := (.int .i64 ((i : Int) + 1))) rfl ?_)
            refine s_nil ?_
            have hH74 : Has E w72 [sg3, [Hp.one pb19 (.cells #[(.bool p3.off), (.bool p3.armed), (.int .i64 p3.left), (.int .i64 p3.uses)] 50 (0, 0))], [Hp.one b31 (.cells #[(.int .i64 now.seq), (.int .i64 now.ep), (.int .i64 now.cut), (.int .i64 now.st), (.int .i64 now.mrk)] 25 (0, 0))], R] := ((((hH71.front 4 rfl).front 4 rfl).front 4 rfl).front 4 rfl).first 4 rfl
            refine t_norm ⟨l.length - (i + 1), _, rfl, ?_, ?_⟩
            · omega
            · exact ⟨(i + 1), now, p3, la3, sg3, rfl, hH74, (by omega), (hd3), (hfw3.mono (by omega)), (hon3), (hln3), (h643), (hkp3), (⟨by omega, by omega⟩), e45_0, e45_1, e45_2, e45_7, e45_8, e45_9, rfl, e45_29, e45_39⟩
          · -- not: !(hdR (Hd.mk now.seq x58.ep x58.cut x58.st x58.mrk))
            have h73_n : (hdR (Hd.mk now.seq x58.ep x58.cut x58.st x58.mrk)) = true := by simpa using h73
            have hr_ : hdR (Hd.mk now.seq x58.ep x58.cut x58.st x58.mrk) = true := by simpa using h73
            refine wp_skip ?_
            refine t_norm (hK68 _ _ ?_)
            refine wp_seq_k fun K75 hK75 => ?_
            refine c_region ?_
            refine s_op (o_move (v := (.pointer (some ⟨db18, 0, none⟩))) e45_7 ?_)
            refine s_op (o_loadN (cs := [(.int .i64 now.seq), (.int .i64 x58.ep), (.int .i64 x58.cut), (.int .i64 x58.st), (.int .i64 x58.mrk)]) Tryd.underlying25 rfl ti25 rfl hH71 (seg_sub 0 rfl) (CellsAt.one rfl) ?_)
            have hT_ : svTry la3.length 0 (Hd.mk now.seq x58.ep x58.cut x58.st x58.mrk) := ⟨⟨⟨by show 0 ≤ now.seq; omega, by show now.seq < _; omega⟩, hr_⟩, by rw [hln3]; decide⟩
            by_cases hc76 : useB p3 = true ∧ useB (useS p3) = true
            · -- yes
              refine s_op (o_callf (vs := #[(.pointer (some ⟨db18, 0, none⟩)), (.int .i64 0), (.agg #[(.int .i64 now.seq), (.int .i64 x58.ep), (.int .i64 x58.cut), (.int .i64 x58.st), (.int .i64 x58.mrk)])]) ca7 rfl (args3 rfl rfl rfl) (hsave_ok (p := p3) (la := la3) ((hH71.front 2 rfl).front 2 rfl).all2 hd3 (hg.mono (seg_sub 2 rfl)) (hfw3.ok (by omega)) (hfw3.use.ok (by omega)) (by rw [hln3]; decide) (x := 0) (h := (Hd.mk now.seq x58.ep x58.cut x58.st x58.mrk)) hT_ hc76.1 hc76.2) ?_)
              rintro _ w81 ⟨sg77, rfl, hd78, hX79⟩
              refine ⟨_, rfl, ?_⟩
              have hH80 : Has E w81 [sg77, [Hp.one pb19 (.cells #[(.bool (useS (useS p3)).off), (.bool (useS (useS p3)).armed), (.int .i64 (useS (useS p3)).left), (.int .i64 (useS (useS p3)).uses)] 50 (0, 0))], [Hp.one b60 (.cells #[(.int .i64 now.seq), (.int .i64 x58.ep), (.int .i64 x58.cut), (.int .i64 x58.st), (.int .i64 x58.mrk)] 25 (0, 0))], [Hp.one b31 (.cells #[(.int .i64 now.seq), (.int .i64 now.ep), (.int .i64 now.cut), (.int .i64 now.st), (.int .i64 now.mrk)] 25 (0, 0))], R] := hX79.of_all2
              refine s_op (o_move (v := (.tuple #[(.agg #[(.int .i64 (hdUp (Hd.mk now.seq x58.ep x58.cut x58.st x58.mrk)).seq), (.int .i64 (hdUp (Hd.mk now.seq x58.ep x58.cut x58.st x58.mrk)).ep), (.int .i64 (hdUp (Hd.mk now.seq x58.ep x58.cut x58.st x58.mrk)).cut), (.int .i64 (hdUp (Hd.mk now.seq x58.ep x58.cut x58.st x58.mrk)).st), (.int .i64 (hdUp (Hd.mk now.seq x58.ep x58.cut x58.st x58.mrk)).mrk)]), (.int .i64 (0 : Int))])) rfl ?_)
              refine s_op (o_extract (v := (.agg #[(.int .i64 (hdUp (Hd.mk now.seq x58.ep x58.cut x58.st x58.mrk)).seq), (.int .i64 (hdUp (Hd.mk now.seq x58.ep x58.cut x58.st x58.mrk)).ep), (.int .i64 (hdUp (Hd.mk now.seq x58.ep x58.cut x58.st x58.mrk)).cut), (.int .i64 (hdUp (Hd.mk now.seq x58.ep x58.cut x58.st x58.mrk)).st), (.int .i64 (hdUp (Hd.mk now.seq x58.ep x58.cut x58.st x58.mrk)).mrk)])) rfl rfl ?_)
              refine s_op (o_extract (v := (.int .i64 (0 : Int))) rfl rfl ?_)
              refine s_op (o_alloc (cs := #[(.int .i64 0), (.int .i64 0), (.int .i64 0), (.int .i64 0), (.int .i64 0)]) ti25 rfl hH80 fun b82 w83 hH84 => ?_)
              refine s_eff (o_storeN (vs := [(.int .i64 (hdUp (Hd.mk now.seq x58.ep x58.cut x58.st x58.mrk)).seq), (.int .i64 (hdUp (Hd.mk now.seq x58.ep x58.cut x58.st x58.mrk)).ep), (.int .i64 (hdUp (Hd.mk now.seq x58.ep x58.cut x58.st x58.mrk)).cut), (.int .i64 (hdUp (Hd.mk now.seq x58.ep x58.cut x58.st x58.mrk)).st), (.int .i64 (hdUp (Hd.mk now.seq x58.ep x58.cut x58.st x58.mrk)).mrk)]) (c' := #[(.int .i64 (hdUp (Hd.mk now.seq x58.ep x58.cut x58.st x58.mrk)).seq), (.int .i64 (hdUp (Hd.mk now.seq x58.ep x58.cut x58.st x58.mrk)).ep), (.int .i64 (hdUp (Hd.mk now.seq x58.ep x58.cut x58.st x58.mrk)).cut), (.int .i64 (hdUp (Hd.mk now.seq x58.ep x58.cut x58.st x58.mrk)).st), (.int .i64 (hdUp (Hd.mk now.seq x58.ep x58.cut x58.st x58.mrk)).mrk)]) ti25 rfl rfl rfl rfl (by intro u hu; simp only [List.mem_cons, List.not_mem_nil, or_false] at hu; rcases hu with rfl | rfl | rfl | rfl | rfl <;> first | rfl) (by simp) (by kernel_rfl) (hH84.front 0 rfl) fun w85 hH86 => ?_)
              refine s_op (o_assign (v := (.int .i64 (0 : Int))) rfl ?_)
              refine s_nil ?_
              refine t_norm (hK75 _ _ ?_)
              refine wp_seq_k fun K87 hK87 => ?_
              refine wp_seq_k fun K88 hK88 => ?_
              refine c_region ?_
              refine s_op (o_move (v := (.int .i64 (0 : Int))) rfl ?_)
              refine s_op (o_eql (a := (0 : Int)) (b := 0) rfl rfl ?_)
              refine s_nil ?_
              refine t_norm (hK88 _ _ ?_)
              refine c_cond rfl (fun h89 => ?_) (fun h89 => ?_)
              · -- (0 : Int) = 0
                refine wp_seq_k fun K90 hK90 => ?_
                refine c_region ?_
                refine s_op (o_loadN (cs := [(.int .i64 (hdUp (Hd.mk now.seq x58.ep x58.cut x58.st x58.mrk)).seq), (.int .i64 (hdUp (Hd.mk now.seq x58.ep x58.cut x58.st x58.mrk)).ep), (.int .i64 (hdUp (Hd.mk now.seq x58.ep x58.cut x58.st x58.mrk)).cut), (.int .i64 (hdUp (Hd.mk now.seq x58.ep x58.cut x58.st x58.mrk)).st), (.int .i64 (hdUp (Hd.mk now.seq x58.ep x58.cut x58.st x58.mrk)).mrk)]) Tryd.underlying25 rfl ti25 rfl hH86 (seg_sub 0 rfl) (CellsAt.one rfl) ?_)
                refine s_eff (o_storeN (vs := [(.int .i64 (hdUp (Hd.mk now.seq x58.ep x58.cut x58.st x58.mrk)).seq), (.int .i64 (hdUp (Hd.mk now.seq x58.ep x58.cut x58.st x58.mrk)).ep), (.int .i64 (hdUp (Hd.mk now.seq x58.ep x58.cut x58.st x58.mrk)).cut), (.int .i64 (hdUp (Hd.mk now.seq x58.ep x58.cut x58.st x58.mrk)).st), (.int .i64 (hdUp (Hd.mk now.seq x58.ep x58.cut x58.st x58.mrk)).mrk)]) (c' := #[(.int .i64 (hdUp (Hd.mk now.seq x58.ep x58.cut x58.st x58.mrk)).seq), (.int .i64 (hdUp (Hd.mk now.seq x58.ep x58.cut x58.st x58.mrk)).ep), (.int .i64 (hdUp (Hd.mk now.seq x58.ep x58.cut x58.st x58.mrk)).cut), (.int .i64 (hdUp (Hd.mk now.seq x58.ep x58.cut x58.st x58.mrk)).st), (.int .i64 (hdUp (Hd.mk now.seq x58.ep x58.cut x58.st x58.mrk)).mrk)]) ti25 e45_8 rfl rfl rfl (by intro u hu; simp only [List.mem_cons, List.not_mem_nil, or_false] at hu; rcases hu with rfl | rfl | rfl | rfl | rfl <;> first | rfl) (by simp) (by kernel_rfl) (hH86.front 4 rfl) fun w91 hH92 => ?_)
                refine s_nil ?_
                refine t_norm (hK90 _ _ ?_)
                refine wp_exit ?_
                refine t_exit (x_in (?_))
                refine t_norm (hK53 _ _ ?_)
                refine c_region ?_
                refine s_op (o_move (v := (.int .i64 (i : Int))) e45_10 ?_)
                refine s_op (o_add (a := (i : Int)) (b := 1) rfl rfl (w64 (by omega) (by omega)) ?_)
                refine s_op (o_assign (v := (.int .i64 ((i : Int) + 1))) rfl ?_)
                refine s_nil ?_
                have hH93 : Has E w91 [sg77, [Hp.one pb19 (.cells #[(.bool (useS (useS p3)).off), (.bool (useS (useS p3)).armed), (.int .i64 (useS (useS p3)).left), (.int .i64 (useS (useS p3)).uses)] 50 (0, 0))], [Hp.one b31 (.cells #[(.int .i64 (hdUp (Hd.mk now.seq x58.ep x58.cut x58.st x58.mrk)).seq), (.int .i64 (hdUp (Hd.mk now.seq x58.ep x58.cut x58.st x58.mrk)).ep), (.int .i64 (hdUp (Hd.mk now.seq x58.ep x58.cut x58.st x58.mrk)).cut), (.int .i64 (hdUp (Hd.mk now.seq x58.ep x58.cut x58.st x58.mrk)).st), (.int .i64 (hdUp (Hd.mk now.seq x58.ep x58.cut x58.st x58.mrk)).mrk)] 25 (0, 0))], R] := ((((hH92.front 5 rfl).front 1 rfl).front 4 rfl).front 4 rfl).first 4 rfl
                refine t_norm ⟨l.length - (i + 1), _, rfl, ?_, ?_⟩
                · omega
                · exact ⟨(i + 1), (hdUp (Hd.mk now.seq x58.ep x58.cut x58.st x58.mrk)), (useS (useS p3)), (la3.set (svN 0 (Hd.mk now.seq x58.ep x58.cut x58.st x58.mrk)).toNat (hdL (hdUp (Hd.mk now.seq x58.ep x58.cut x58.st x58.mrk)))), sg77, rfl, hH93, (by omega), (hd78), (hfw3.use.use.mono (by omega)), ((useB_on hc76.2)), (by rw [List.length_set]; exact hln3), (set_64 h643 hT_.1), (hkp3.set hT_ rfl), (⟨by show 1 ≤ now.seq + 1; omega, by show now.seq + 1 ≤ _; omega⟩), e45_0, e45_1, e45_2, e45_7, e45_8, e45_9, rfl, e45_29, e45_39⟩
              · -- not: (0 : Int) = 0
                exact absurd rfl h89
            · -- no
              refine s_op (o_callf (vs := #[(.pointer (some ⟨db18, 0, none⟩)), (.int .i64 0), (.agg #[(.int .i64 now.seq), (.int .i64 x58.ep), (.int .i64 x58.cut), (.int .i64 x58.st), (.int .i64 x58.mrk)])]) ca7 rfl (args3 rfl rfl rfl) (hsave_late (p := p3) (la := la3) ((hH71.front 2 rfl).front 2 rfl).all2 hd3 (hg.mono (seg_sub 2 rfl)) (hfw3.ok (by omega)) (hfw3.use.ok (by omega)) (by rw [hln3]; decide) (x := 0) (h := (Hd.mk now.seq x58.ep x58.cut x58.st x58.mrk)) hT_ hc76) ?_)
              rintro _ w102 ⟨sg94, p96, lo97, rfl, h98, hlo99, hd95, hX100⟩
              refine ⟨_, rfl, ?_⟩
              have hH101 : Has E w102 [sg94, [Hp.one pb19 (.cells #[(.bool p96.off), (.bool p96.armed), (.int .i64 p96.left), (.int .i64 p96.uses)] 50 (0, 0))], [Hp.one b60 (.cells #[(.int .i64 now.seq), (.int .i64 x58.ep), (.int .i64 x58.cut), (.int .i64 x58.st), (.int .i64 x58.mrk)] 25 (0, 0))], [Hp.one b31 (.cells #[(.int .i64 now.seq), (.int .i64 now.ep), (.int .i64 now.cut), (.int .i64 now.st), (.int .i64 now.mrk)] 25 (0, 0))], R] := hX100.of_all2
              refine s_op (o_move (v := (.tuple #[(.agg #[(.int .i64 hdZ.seq), (.int .i64 hdZ.ep), (.int .i64 hdZ.cut), (.int .i64 hdZ.st), (.int .i64 hdZ.mrk)]), (.int .i64 (6 : Int))])) rfl ?_)
              refine s_op (o_extract (v := (.agg #[(.int .i64 hdZ.seq), (.int .i64 hdZ.ep), (.int .i64 hdZ.cut), (.int .i64 hdZ.st), (.int .i64 hdZ.mrk)])) rfl rfl ?_)
              refine s_op (o_extract (v := (.int .i64 (6 : Int))) rfl rfl ?_)
              refine s_op (o_alloc (cs := #[(.int .i64 0), (.int .i64 0), (.int .i64 0), (.int .i64 0), (.int .i64 0)]) ti25 rfl hH101 fun b103 w104 hH105 => ?_)
              refine s_eff (o_storeN (vs := [(.int .i64 hdZ.seq), (.int .i64 hdZ.ep), (.int .i64 hdZ.cut), (.int .i64 hdZ.st), (.int .i64 hdZ.mrk)]) (c' := #[(.int .i64 hdZ.seq), (.int .i64 hdZ.ep), (.int .i64 hdZ.cut), (.int .i64 hdZ.st), (.int .i64 hdZ.mrk)]) ti25 rfl rfl rfl rfl (by intro u hu; simp only [List.mem_cons, List.not_mem_nil, or_false] at hu; rcases hu with rfl | rfl | rfl | rfl | rfl <;> first | rfl) (by simp) (by kernel_rfl) (hH105.front 0 rfl) fun w106 hH107 => ?_)
              refine s_op (o_assign (v := (.int .i64 (6 : Int))) rfl ?_)
              refine s_nil ?_
              refine t_norm (hK75 _ _ ?_)
              refine wp_seq_k fun K108 hK108 => ?_
              refine wp_seq_k fun K109 hK109 => ?_
              refine c_region ?_
              refine s_op (o_move (v := (.int .i64 (6 : Int))) rfl ?_)
              refine s_op (o_eql (a := (6 : Int)) (b := 0) rfl rfl ?_)
              refine s_nil ?_
              refine t_norm (hK109 _ _ ?_)
              refine c_cond rfl (fun h110 => ?_) (fun h110 => ?_)
              · -- (6 : Int) = 0
                exact absurd h110 (by decide)
              · -- not: (6 : Int) = 0
                refine wp_skip ?_
                refine t_norm (hK108 _ _ ?_)
                refine wp_seq_k fun K111 hK111 => ?_
                refine c_region ?_
                refine s_op (o_move (v := (.pointer (some ⟨db18, 0, none⟩))) e45_7 ?_)
                refine s_op (o_move (v := vk) e45_2 ?_)
                refine s_op (o_callf (vs := #[(.pointer (some ⟨db18, 0, none⟩)), vk]) ca12 rfl (args2 rfl rfl) (crash_d (p := p96) (la := la3) (lo := lo97) ((hH107.front 2 rfl).front 2 rfl).all2 hd95 (lo_ok hT_ hlo99) (keep := keep) (hk_.mono (seg_sub 3 rfl))) ?_)
                rintro _ w116 ⟨sg112, rfl, hd113, hX114⟩
                refine ⟨_, rfl, ?_⟩
                have hH115 : Has E w116 [sg112, [Hp.one pb19 (.cells #[(.bool (backS p96).off), (.bool (backS p96).armed), (.int .i64 (backS p96).left), (.int .i64 (backS p96).uses)] 50 (0, 0))], [Hp.one b103 (.cells #[(.int .i64 hdZ.seq), (.int .i64 hdZ.ep), (.int .i64 hdZ.cut), (.int .i64 hdZ.st), (.int .i64 hdZ.mrk)] 25 (0, 0))], [Hp.one b60 (.cells #[(.int .i64 now.seq), (.int .i64 x58.ep), (.int .i64 x58.cut), (.int .i64 x58.st), (.int .i64 x58.mrk)] 25 (0, 0))], [Hp.one b31 (.cells #[(.int .i64 now.seq), (.int .i64 now.ep), (.int .i64 now.cut), (.int .i64 now.st), (.int .i64 now.mrk)] 25 (0, 0))], R] := hX114.of_all2
                have hcl_ := crash_ld (p := p96) hkp3 hT_ rfl hlo99 keep
                refine s_nil ?_
                refine t_norm (hK111 _ _ ?_)
                refine wp_seq_k fun K117 hK117 => ?_
                refine c_region ?_
                refine s_op (o_move (v := (.pointer (some ⟨db18, 0, none⟩))) e45_7 ?_)
                refine s_op (o_callf (vs := #[(.pointer (some ⟨db18, 0, none⟩)), (.int .i64 0)]) ca6 rfl (args2 rfl rfl) (hload_c (p := (backS p96)) (la := (settleS lo97 la3 keep)) ((hH115.front 1 rfl).front 1 rfl).all2 hd113 (hg.mono (seg_sub 3 rfl)) (crash_64 h643 hT_ hlo99 keep) (by rw [settle_len, hln3]; decide) 0) ?_)
                rintro _ w120 ⟨rfl, hX118⟩
                refine ⟨_, rfl, ?_⟩
                have hH119 : Has E w120 [sg112, [Hp.one pb19 (.cells #[(.bool (backS p96).off), (.bool (backS p96).armed), (.int .i64 (backS p96).left), (.int .i64 (backS p96).uses)] 50 (0, 0))], [Hp.one b103 (.cells #[(.int .i64 hdZ.seq), (.int .i64 hdZ.ep), (.int .i64 hdZ.cut), (.int .i64 hdZ.st), (.int .i64 hdZ.mrk)] 25 (0, 0))], [Hp.one b60 (.cells #[(.int .i64 now.seq), (.int .i64 x58.ep), (.int .i64 x58.cut), (.int .i64 x58.st), (.int .i64 x58.mrk)] 25 (0, 0))], [Hp.one b31 (.cells #[(.int .i64 now.seq), (.int .i64 now.ep), (.int .i64 now.cut), (.int .i64 now.st), (.int .i64 now.mrk)] 25 (0, 0))], R] := hX118.of_all2
                refine s_op (o_move (v := (.tuple #[(.agg #[(.int .i64 (ldH (backS p96) (settleS lo97 la3 keep) 0).seq), (.int .i64 (ldH (backS p96) (settleS lo97 la3 keep) 0).ep), (.int .i64 (ldH (backS p96) (settleS lo97 la3 keep) 0).cut), (.int .i64 (ldH (backS p96) (settleS lo97 la3 keep) 0).st), (.int .i64 (ldH (backS p96) (settleS lo97 la3 keep) 0).mrk)]), (.int .i64 (ldE (backS p96) (settleS lo97 la3 keep) 0))])) rfl ?_)
                refine s_op (o_extract (v := (.agg #[(.int .i64 (ldH (backS p96) (settleS lo97 la3 keep) 0).seq), (.int .i64 (ldH (backS p96) (settleS lo97 la3 keep) 0).ep), (.int .i64 (ldH (backS p96) (settleS lo97 la3 keep) 0).cut), (.int .i64 (ldH (backS p96) (settleS lo97 la3 keep) 0).st), (.int .i64 (ldH (backS p96) (settleS lo97 la3 keep) 0).mrk)])) rfl rfl ?_)
                refine s_op (o_extract (v := (.int .i64 (ldE (backS p96) (settleS lo97 la3 keep) 0))) rfl rfl ?_)
                refine s_op (o_alloc (cs := #[(.int .i64 0), (.int .i64 0), (.int .i64 0), (.int .i64 0), (.int .i64 0)]) ti25 rfl hH119 fun b121 w122 hH123 => ?_)
                refine s_eff (o_storeN (vs := [(.int .i64 (ldH (backS p96) (settleS lo97 la3 keep) 0).seq), (.int .i64 (ldH (backS p96) (settleS lo97 la3 keep) 0).ep), (.int .i64 (ldH (backS p96) (settleS lo97 la3 keep) 0).cut), (.int .i64 (ldH (backS p96) (settleS lo97 la3 keep) 0).st), (.int .i64 (ldH (backS p96) (settleS lo97 la3 keep) 0).mrk)]) (c' := #[(.int .i64 (ldH (backS p96) (settleS lo97 la3 keep) 0).seq), (.int .i64 (ldH (backS p96) (settleS lo97 la3 keep) 0).ep), (.int .i64 (ldH (backS p96) (settleS lo97 la3 keep) 0).cut), (.int .i64 (ldH (backS p96) (settleS lo97 la3 keep) 0).st), (.int .i64 (ldH (backS p96) (settleS lo97 la3 keep) 0).mrk)]) ti25 rfl rfl rfl rfl (by intro u hu; simp only [List.mem_cons, List.not_mem_nil, or_false] at hu; rcases hu with rfl | rfl | rfl | rfl | rfl <;> first | rfl) (by simp) (by kernel_rfl) (hH123.front 0 rfl) fun w124 hH125 => ?_)
                refine s_op (o_assign (v := (.int .i64 (ldE (backS p96) (settleS lo97 la3 keep) 0))) rfl ?_)
                refine s_nil ?_
                refine t_norm (hK117 _ _ ?_)
                refine wp_seq_k fun K126 hK126 => ?_
                refine c_region ?_
                refine s_op (o_fieldAddr (k := 0) (fun _ => by kernel_rfl) rfl ?_)
                refine s_op (o_load1 (v := (.int .i64 now.seq)) Tryd.underlying3 rfl rfl hH125 (seg_sub 4 rfl) (CellsAt.one rfl) ?_)
                refine s_op (o_add (a := now.seq) (b := 1) rfl rfl (w64 (by omega) (by omega)) ?_)
                refine s_op (o_fieldAddr (k := 0) (fun _ => by kernel_rfl) rfl ?_)
                refine s_eff (o_store1 (c' := #[(.int .i64 (now.seq + 1)), (.int .i64 x58.ep), (.int .i64 x58.cut), (.int .i64 x58.st), (.int .i64 x58.mrk)]) ti3 rfl rfl rfl (by simp) rfl (hH125.front 4 rfl) fun w127 hH128 => ?_)
                refine s_nil ?_
                refine t_norm (hK126 _ _ ?_)
                refine wp_seq_k fun K129 hK129 => ?_
                refine c_region ?_
                refine s_op (o_move (v := (.int .i64 (6 : Int))) rfl ?_)
                refine s_op (o_eql (a := (6 : Int)) (b := 6) rfl rfl ?_)
                refine s_op (o_move (v := (.bool (decide ((6 : Int) = 6)))) rfl ?_)
                by_cases h130 : (6 : Int) = 6
                · -- (6 : Int) = 6
                  refine s_on 84 rfl (congrArg Value.bool (decide_eq_true h130)) (o_move (v := (.int .i64 (ldE (backS p96) (settleS lo97 la3 keep) 0))) rfl ?_)
                  refine s_on 84 rfl (congrArg Value.bool (decide_eq_true h130)) (o_eql (a := ldE (backS p96) (settleS lo97 la3 keep) 0) (b := 0) rfl rfl ?_)
                  refine s_op (o_pick_t (u := (.bool (decide (ldE (backS p96) (settleS lo97 la3 keep) 0 = 0)))) ((rfl : _ = _).trans (congrArg Value.bool (decide_eq_true h130))) rfl ?_)
                  refine s_op (o_move (v := (.bool (decide (ldE (backS p96) (settleS lo97 la3 keep) 0 = 0)))) rfl ?_)
                  by_cases h131 : ldE (backS p96) (settleS lo97 la3 keep) 0 = 0
                  · -- ldE (backS p96) (settleS lo97 la3 keep) 0 = 0
                    refine s_on 88 rfl (congrArg Value.bool (decide_eq_true h131)) (o_loadN (cs := [(.int .i64 (ldH (backS p96) (settleS lo97 la3 keep) 0).seq), (.int .i64 (ldH (backS p96) (settleS lo97 la3 keep) 0).ep), (.int .i64 (ldH (backS p96) (settleS lo97 la3 keep) 0).cut), (.int .i64 (ldH (backS p96) (settleS lo97 la3 keep) 0).st), (.int .i64 (ldH (backS p96) (settleS lo97 la3 keep) 0).mrk)]) Tryd.underlying25 rfl ti25 rfl hH128 (seg_sub 1 rfl) (CellsAt.one rfl) ?_)
                    refine s_on 88 rfl (congrArg Value.bool (decide_eq_true h131)) (o_loadN (cs := [(.int .i64 now.seq), (.int .i64 now.ep), (.int .i64 now.cut), (.int .i64 now.st), (.int .i64 now.mrk)]) Tryd.underlying25 rfl ti25 e45_8 hH128 (seg_sub 5 rfl) (CellsAt.one rfl) ?_)
                    refine s_on 88 rfl (congrArg Value.bool (decide_eq_true h131)) (o_eql25 ((ldH (backS p96) (settleS lo97 la3 keep) 0).seq) ((ldH (backS p96) (settleS lo97 la3 keep) 0).ep) ((ldH (backS p96) (settleS lo97 la3 keep) 0).cut) ((ldH (backS p96) (settleS lo97 la3 keep) 0).st) ((ldH (backS p96) (settleS lo97 la3 keep) 0).mrk) now.seq now.ep now.cut now.st now.mrk rfl rfl ?_)
                    refine s_on 88 rfl (congrArg Value.bool (decide_eq_true h131)) (o_move (v := (.bool (eqv25 ((ldH (backS p96) (settleS lo97 la3 keep) 0).seq) ((ldH (backS p96) (settleS lo97 la3 keep) 0).ep) ((ldH (backS p96) (settleS lo97 la3 keep) 0).cut) ((ldH (backS p96) (settleS lo97 la3 keep) 0).st) ((ldH (backS p96) (settleS lo97 la3 keep) 0).mrk) now.seq now.ep now.cut now.st now.mrk))) rfl ?_)
                    rcases Bool.eq_false_or_eq_true (eqv25 ((ldH (backS p96) (settleS lo97 la3 keep) 0).seq) ((ldH (backS p96) (settleS lo97 la3 keep) 0).ep) ((ldH (backS p96) (settleS lo97 la3 keep) 0).cut) ((ldH (backS p96) (settleS lo97 la3 keep) 0).st) ((ldH (backS p96) (settleS lo97 la3 keep) 0).mrk) now.seq now.ep now.cut now.st now.mrk) with h132 | h132
                    · -- eqv25 ((ldH (backS p96) (settleS lo97 la3 keep) 0).seq) ((ldH (backS p96) (settleS lo97 la3 keep) 0).ep) ((ldH (backS p96) (settleS lo97 la3 keep) 0).cut) ((ldH (backS p96) (settleS lo97 la3 keep) 0).st) ((ldH (backS p96) (settleS lo97 la3 keep) 0).mrk) now.seq now.ep now.cut now.st now.mrk
                      refine s_off (b' := true) 92 rfl (congrArg Value.bool h132) rfl ?_
                      refine s_off (b' := true) 92 rfl (congrArg Value.bool h132) rfl ?_
                      refine s_off (b' := true) 92 rfl (congrArg Value.bool h132) rfl ?_
                      refine s_on 88 rfl (congrArg Value.bool (decide_eq_true h131)) (o_pick_t (u := (.bool true)) ((rfl : _ = _).trans (congrArg Value.bool h132)) rfl ?_)
                      refine s_op (o_pick_t (u := (.bool true)) ((rfl : _ = _).trans (congrArg Value.bool (decide_eq_true h131))) rfl ?_)
                      refine s_op (o_assign (v := (.bool true)) rfl ?_)
                      refine s_nil ?_
                      refine t_norm (hK129 _ _ ?_)
                      refine wp_ret ?_
                      refine b_ret (t_ret (t_ret (b_ret (t_ret (c_ret1 Tryd.results4  (v := (.bool true)) rfl ?_)))))
                      have hH133 : Has E w127 [R] := (hH128.front 6 rfl).first 1 rfl
                      exact ⟨rfl, hH133⟩
                    · -- not: eqv25 ((ldH (backS p96) (settleS lo97 la3 keep) 0).seq) ((ldH (backS p96) (settleS lo97 la3 keep) 0).ep) ((ldH (backS p96) (settleS lo97 la3 keep) 0).cut) ((ldH (backS p96) (settleS lo97 la3 keep) 0).st) ((ldH (backS p96) (settleS lo97 la3 keep) 0).mrk) now.seq now.ep now.cut now.st now.mrk
                      refine s_on 92 rfl (congrArg Value.bool h132) (o_loadN (cs := [(.int .i64 (ldH (backS p96) (settleS lo97 la3 keep) 0).seq), (.int .i64 (ldH (backS p96) (settleS lo97 la3 keep) 0).ep), (.int .i64 (ldH (backS p96) (settleS lo97 la3 keep) 0).cut), (.int .i64 (ldH (backS p96) (settleS lo97 la3 keep) 0).st), (.int .i64 (ldH (backS p96) (settleS lo97 la3 keep) 0).mrk)]) Tryd.underlying25 rfl ti25 rfl hH128 (seg_sub 1 rfl) (CellsAt.one rfl) ?_)
                      refine s_on 92 rfl (congrArg Value.bool h132) (o_loadN (cs := [(.int .i64 (now.seq + 1)), (.int .i64 x58.ep), (.int .i64 x58.cut), (.int .i64 x58.st), (.int .i64 x58.mrk)]) Tryd.underlying25 rfl ti25 rfl hH128 (seg_sub 0 rfl) (CellsAt.one rfl) ?_)
                      refine s_on 92 rfl (congrArg Value.bool h132) (o_eql25 ((ldH (backS p96) (settleS lo97 la3 keep) 0).seq) ((ldH (backS p96) (settleS lo97 la3 keep) 0).ep) ((ldH (backS p96) (settleS lo97 la3 keep) 0).cut) ((ldH (backS p96) (settleS lo97 la3 keep) 0).st) ((ldH (backS p96) (settleS lo97 la3 keep) 0).mrk) (now.seq + 1) x58.ep x58.cut x58.st x58.mrk rfl rfl ?_)
                      refine s_on 88 rfl (congrArg Value.bool (decide_eq_true h131)) (o_pick_f (u := (.bool (eqv25 ((ldH (backS p96) (settleS lo97 la3 keep) 0).seq) ((ldH (backS p96) (settleS lo97 la3 keep) 0).ep) ((ldH (backS p96) (settleS lo97 la3 keep) 0).cut) ((ldH (backS p96) (settleS lo97 la3 keep) 0).st) ((ldH (backS p96) (settleS lo97 la3 keep) 0).mrk) (now.seq + 1) x58.ep x58.cut x58.st x58.mrk))) ((rfl : _ = _).trans (congrArg Value.bool h132)) rfl ?_)
                      refine s_op (o_pick_t (u := (.bool (eqv25 ((ldH (backS p96) (settleS lo97 la3 keep) 0).seq) ((ldH (backS p96) (settleS lo97 la3 keep) 0).ep) ((ldH (backS p96) (settleS lo97 la3 keep) 0).cut) ((ldH (backS p96) (settleS lo97 la3 keep) 0).st) ((ldH (backS p96) (settleS lo97 la3 keep) 0).mrk) (now.seq + 1) x58.ep x58.cut x58.st x58.mrk))) ((rfl : _ = _).trans (congrArg Value.bool (decide_eq_true h131))) rfl ?_)
                      refine s_op (o_assign (v := (.bool (eqv25 ((ldH (backS p96) (settleS lo97 la3 keep) 0).seq) ((ldH (backS p96) (settleS lo97 la3 keep) 0).ep) ((ldH (backS p96) (settleS lo97 la3 keep) 0).cut) ((ldH (backS p96) (settleS lo97 la3 keep) 0).st) ((ldH (backS p96) (settleS lo97 la3 keep) 0).mrk) (now.seq + 1) x58.ep x58.cut x58.st x58.mrk))) rfl ?_)
                      refine s_nil ?_
                      refine t_norm (hK129 _ _ ?_)
                      refine wp_ret ?_
                      refine b_ret (t_ret (t_ret (b_ret (t_ret (c_ret1 Tryd.results4  (v := (.bool (eqv25 ((ldH (backS p96) (settleS lo97 la3 keep) 0).seq) ((ldH (backS p96) (settleS lo97 la3 keep) 0).ep) ((ldH (backS p96) (settleS lo97 la3 keep) 0).cut) ((ldH (backS p96) (settleS lo97 la3 keep) 0).st) ((ldH (backS p96) (settleS lo97 la3 keep) 0).mrk) (now.seq + 1) x58.ep x58.cut x58.st x58.mrk))) rfl ?_)))))
                      have hH134 : Has E w127 [R] := (hH128.front 6 rfl).first 1 rfl
                      have hT2_ : eqv25 ((ldH (backS p96) (settleS lo97 la3 keep) 0).seq) ((ldH (backS p96) (settleS lo97 la3 keep) 0).ep) ((ldH (backS p96) (settleS lo97 la3 keep) 0).cut) ((ldH (backS p96) (settleS lo97 la3 keep) 0).st) ((ldH (backS p96) (settleS lo97 la3 keep) 0).mrk) (now.seq + 1) x58.ep x58.cut x58.st x58.mrk = true := by
                        rcases hcl_.2 with q_ | q_
                        · exact absurd (show eqv25 ((ldH (backS p96) (settleS lo97 la3 keep) 0).seq) ((ldH (backS p96) (settleS lo97 la3 keep) 0).ep) ((ldH (backS p96) (settleS lo97 la3 keep) 0).cut) ((ldH (backS p96) (settleS lo97 la3 keep) 0).st) ((ldH (backS p96) (settleS lo97 la3 keep) 0).mrk) now.seq now.ep now.cut now.st now.mrk = true from (eqv25_iff _ _ _ _ _ _ _ _ _ _).2 (by rw [q_]; exact ⟨rfl, rfl, rfl, rfl, rfl⟩)) (by rw [h132]; decide)
                        · exact (eqv25_iff _ _ _ _ _ _ _ _ _ _).2 (by rw [q_]; exact ⟨rfl, rfl, rfl, rfl, rfl⟩)
                      exact ⟨by rw [hT2_], hH134⟩
                  · -- not: ldE (backS p96) (settleS lo97 la3 keep) 0 = 0
                    exact absurd hcl_.1 h131
                · -- not: (6 : Int) = 6
                  exact absurd rfl h130
        · -- not: (i : Int) < ((l.length : Nat) : Int)
          refine wp_exit ?_
          refine t_exit (t_exit (x_in (?_)))
          refine t_norm (hK43 _ _ ?_)
          refine wp_seq_k fun K135 hK135 => ?_
          refine c_region ?_
          refine s_op (o_move (v := (.pointer (some ⟨db18, 0, none⟩))) e45_7 ?_)
          refine s_op (o_move (v := vk) e45_2 ?_)
          refine s_op (o_callf (vs := #[(.pointer (some ⟨db18, 0, none⟩)), vk]) ca12 rfl (args2 rfl rfl) (crash_d (p := p3) (la := la3) (lo := ([] : List (Int × Bs))) ((hH48.front 1 rfl).front 1 rfl).all2 hd3 (LoOk.nil _) (keep := keep) (hk_.mono (seg_sub 1 rfl))) ?_)
          rintro _ w140 ⟨sg136, rfl, hd137, hX138⟩
          refine ⟨_, rfl, ?_⟩
          have hH139 : Has E w140 [sg136, [Hp.one pb19 (.cells #[(.bool (backS p3).off), (.bool (backS p3).armed), (.int .i64 (backS p3).left), (.int .i64 (backS p3).uses)] 50 (0, 0))], [Hp.one b31 (.cells #[(.int .i64 now.seq), (.int .i64 now.ep), (.int .i64 now.cut), (.int .i64 now.st), (.int .i64 now.mrk)] 25 (0, 0))], R] := hX138.of_all2
          have hd141 : DevAt pb19 sg136 db18 la3 [] := by have h_ := hd137; rw [settle_none] at h_; exact h_
          refine s_nil ?_
          refine t_norm (hK135 _ _ ?_)
          refine wp_seq_k fun K142 hK142 => ?_
          refine c_region ?_
          refine s_op (o_move (v := (.pointer (some ⟨db18, 0, none⟩))) e45_7 ?_)
          refine s_op (o_callf (vs := #[(.pointer (some ⟨db18, 0, none⟩)), (.int .i64 0)]) ca6 rfl (args2 rfl rfl) (hload_c (p := (backS p3)) (la := la3) ((hH139.front 1 rfl).front 1 rfl).all2 hd141 (hg.mono (seg_sub 1 rfl)) h643 (by rw [hln3]; decide) 0) ?_)
          rintro _ w145 ⟨rfl, hX143⟩
          refine ⟨_, rfl, ?_⟩
          have hH144 : Has E w145 [sg136, [Hp.one pb19 (.cells #[(.bool (backS p3).off), (.bool (backS p3).armed), (.int .i64 (backS p3).left), (.int .i64 (backS p3).uses)] 50 (0, 0))], [Hp.one b31 (.cells #[(.int .i64 now.seq), (.int .i64 now.ep), (.int .i64 now.cut), (.int .i64 now.st), (.int .i64 now.mrk)] 25 (0, 0))], R] := hX143.of_all2
          refine s_op (o_move (v := (.tuple #[(.agg #[(.int .i64 (ldH (backS p3) la3 0).seq), (.int .i64 (ldH (backS p3) la3 0).ep), (.int .i64 (ldH (backS p3) la3 0).cut), (.int .i64 (ldH (backS p3) la3 0).st), (.int .i64 (ldH (backS p3) la3 0).mrk)]), (.int .i64 (ldE (backS p3) la3 0))])) rfl ?_)
          refine s_op (o_extract (v := (.agg #[(.int .i64 (ldH (backS p3) la3 0).seq), (.int .i64 (ldH (backS p3) la3 0).ep), (.int .i64 (ldH (backS p3) la3 0).cut), (.int .i64 (ldH (backS p3) la3 0).st), (.int .i64 (ldH (backS p3) la3 0).mrk)])) rfl rfl ?_)
          refine s_op (o_extract (v := (.int .i64 (ldE (backS p3) la3 0))) rfl rfl ?_)
          refine s_op (o_alloc (cs := #[(.int .i64 0), (.int .i64 0), (.int .i64 0), (.int .i64 0), (.int .i64 0)]) ti25 rfl hH144 fun b146 w147 hH148 => ?_)
          refine s_eff (o_storeN (vs := [(.int .i64 (ldH (backS p3) la3 0).seq), (.int .i64 (ldH (backS p3) la3 0).ep), (.int .i64 (ldH (backS p3) la3 0).cut), (.int .i64 (ldH (backS p3) la3 0).st), (.int .i64 (ldH (backS p3) la3 0).mrk)]) (c' := #[(.int .i64 (ldH (backS p3) la3 0).seq), (.int .i64 (ldH (backS p3) la3 0).ep), (.int .i64 (ldH (backS p3) la3 0).cut), (.int .i64 (ldH (backS p3) la3 0).st), (.int .i64 (ldH (backS p3) la3 0).mrk)]) ti25 rfl rfl rfl rfl (by intro u hu; simp only [List.mem_cons, List.not_mem_nil, or_false] at hu; rcases hu with rfl | rfl | rfl | rfl | rfl <;> first | rfl) (by simp) (by kernel_rfl) (hH148.front 0 rfl) fun w149 hH150 => ?_)
          refine s_op (o_assign (v := (.int .i64 (ldE (backS p3) la3 0))) rfl ?_)
          refine s_nil ?_
          refine t_norm (hK142 _ _ ?_)
          refine wp_seq_k fun K151 hK151 => ?_
          refine c_region ?_
          refine s_op (o_move (v := (.int .i64 (ldE (backS p3) la3 0))) rfl ?_)
          refine s_op (o_eql (a := ldE (backS p3) la3 0) (b := 0) rfl rfl ?_)
          refine s_op (o_move (v := (.bool (decide (ldE (backS p3) la3 0 = 0)))) rfl ?_)
          by_cases h152 : ldE (backS p3) la3 0 = 0
          · -- ldE (backS p3) la3 0 = 0
            refine s_on 108 rfl (congrArg Value.bool (decide_eq_true h152)) (o_loadN (cs := [(.int .i64 (ldH (backS p3) la3 0).seq), (.int .i64 (ldH (backS p3) la3 0).ep), (.int .i64 (ldH (backS p3) la3 0).cut), (.int .i64 (ldH (backS p3) la3 0).st), (.int .i64 (ldH (backS p3) la3 0).mrk)]) Tryd.underlying25 rfl ti25 rfl hH150 (seg_sub 0 rfl) (CellsAt.one rfl) ?_)
            refine s_on 108 rfl (congrArg Value.bool (decide_eq_true h152)) (o_loadN (cs := [(.int .i64 now.seq), (.int .i64 now.ep), (.int .i64 now.cut), (.int .i64 now.st), (.int .i64 now.mrk)]) Tryd.underlying25 rfl ti25 e45_8 hH150 (seg_sub 3 rfl) (CellsAt.one rfl) ?_)
            refine s_on 108 rfl (congrArg Value.bool (decide_eq_true h152)) (o_eql25 ((ldH (backS p3) la3 0).seq) ((ldH (backS p3) la3 0).ep) ((ldH (backS p3) la3 0).cut) ((ldH (backS p3) la3 0).st) ((ldH (backS p3) la3 0).mrk) now.seq now.ep now.cut now.st now.mrk rfl rfl ?_)
            refine s_op (o_pick_t (u := (.bool (eqv25 ((ldH (backS p3) la3 0).seq) ((ldH (backS p3) la3 0).ep) ((ldH (backS p3) la3 0).cut) ((ldH (backS p3) la3 0).st) ((ldH (backS p3) la3 0).mrk) now.seq now.ep now.cut now.st now.mrk))) ((rfl : _ = _).trans (congrArg Value.bool (decide_eq_true h152))) rfl ?_)
            refine s_op (o_assign (v := (.bool (eqv25 ((ldH (backS p3) la3 0).seq) ((ldH (backS p3) la3 0).ep) ((ldH (backS p3) la3 0).cut) ((ldH (backS p3) la3 0).st) ((ldH (backS p3) la3 0).mrk) now.seq now.ep now.cut now.st now.mrk))) rfl ?_)
            refine s_nil ?_
            refine t_norm (hK151 _ _ ?_)
            refine wp_ret ?_
            refine c_ret1 Tryd.results4  (v := (.bool (eqv25 ((ldH (backS p3) la3 0).seq) ((ldH (backS p3) la3 0).ep) ((ldH (backS p3) la3 0).cut) ((ldH (backS p3) la3 0).st) ((ldH (backS p3) la3 0).mrk) now.seq now.ep now.cut now.st now.mrk))) rfl ?_
            have hH153 : Has E w149 [R] := (hH150.front 4 rfl).first 1 rfl
            have hT2_ : eqv25 ((ldH (backS p3) la3 0).seq) ((ldH (backS p3) la3 0).ep) ((ldH (backS p3) la3 0).cut) ((ldH (backS p3) la3 0).st) ((ldH (backS p3) la3 0).mrk) now.seq now.ep now.cut now.st now.mrk = true := (eqv25_iff _ _ _ _ _ _ _ _ _ _).2 (by rw [(hkp3.ld (by rw [hln3]; decide) rfl).1]; exact ⟨rfl, rfl, rfl, rfl, rfl⟩)
            exact ⟨by rw [hT2_], hH153⟩
          · -- not: ldE (backS p3) la3 0 = 0
            exact absurd (hkp3.ld (by rw [hln3]; decide) rfl).2 h152
end Go.Q
namespace Go.Q
theorem arr_cells {H : Type} {enc : TypeId × Value → H} {P : Program} {w : World} {base : Nat} {spare : Nat → Bool} {held : Bool} {fuel n : Nat} {t e : TypeId} {k : IntKind} {cs : List Value} {l : List Int} {p : List MemPlace}
    (ht : P.underlying t = some (.array n e)) (he : P.underlying e = some (.int k)) (hc : P.cellsOf e = 1) (hl : l.length = n)
    (h : DataW.trod enc P w base spare held fuel t cs = some (.agg (l.map fun z => (DataW.lit (Lit.int k z) : DataW H)), p)) : ∀ (i : Nat) (z : Int), l[i]? = some z → cs[i]? = some (Value.int k z) := by
  intro i z hz
  obtain ⟨xs, m, _, hx, _, hn, hel⟩ := DataW.trod_array ht h
  simp only [Prod.mk.injEq, DataW.agg.injEq] at hx
  have hi : i < n := by rw [← hl]; exact (List.getElem?_eq_some_iff.1 hz).1
  have h1 := hel i hi
  rw [hc, Nat.mul_one, List.getElem?_eq_getElem (by omega)] at h1
  obtain ⟨r, e1, e2, _⟩ := DataW.trod_int he h1
  have e3 : (xs.map (·.1))[i]? = some (DataW.lit (Lit.int k z)) := by rw [← hx.1, List.getElem?_map, hz]; rfl
  rw [List.getElem?_map, List.getElem?_eq_getElem (by omega), Option.map_some] at e3
  rw [e2] at e3
  have e4 : r = z := by simpa using e3
  subst e4
  have e5 : (List.take 1 (List.drop i cs))[0]? = some (.int k r) := by rw [e1]; rfl
  rw [List.getElem?_take, if_pos (by omega), List.getElem?_drop] at e5
  simpa using e5
theorem rd_u32 {H : Type} {enc : TypeId × Value → H} {P : Program} {w : World} {t : TypeId} {cs : List Value} (ht : P.underlying t = some (.int .u32)) (h : Rd enc P w t cs) : ∃ x : BitVec 32, cs = [.int .u32 (x.toNat : Int)] ∧ True := by
  obtain ⟨n, h1, h2⟩ := rd_int ht h
  have hb : 0 ≤ n ∧ n < 4294967296 := by
    simp [Lit.wf, IntKind.min, IntKind.max, IntKind.signed, IntKind.bits] at h2
    omega
  refine ⟨BitVec.ofNat 32 n.toNat, ?_, trivial⟩
  rw [h1, BitVec.toNat_ofNat, Nat.mod_eq_of_lt (by omega), Int.toNat_of_nonneg hb.1]
end Go.Q
namespace Go.Q
open Go.Proofs
set_option linter.unusedVariables false
set_option maxRecDepth 100000
attribute [local irreducible] wpList OK Code.wp
theorem rd_rhead {H : Type} {enc : TypeId × Value → H} {w : World} {cs : List Value} (h : Rd enc Tryd.prog w 23 cs) : ∃ a : Hd, cs = hdC a ∧ True := by
  obtain ⟨hl, hf⟩ := rd_struct Tryd.underlying23 h
  have hl : cs.length = 5 := hl.trans (by kernel_rfl)
  obtain ⟨c0, c1, c2, c3, c4, rfl⟩ : ∃ c0 c1 c2 c3 c4, cs = [c0, c1, c2, c3, c4] := by
    match cs, hl with
    | [c0, c1, c2, c3, c4], _ => exact ⟨c0, c1, c2, c3, c4, rfl⟩
  have f0_6 : Rd enc Tryd.prog w 3 [c0] := rd_field (i := 0) (k := 1) hf rfl rfl (by kernel_rfl) rfl
  obtain ⟨n0, e0, b0⟩ := rd_i64 Tryd.underlying3 f0_6
  obtain rfl := (List.cons.inj e0).1
  have f1_9 : Rd enc Tryd.prog w 3 [c1] := rd_field (i := 1) (k := 1) hf rfl rfl (by kernel_rfl) rfl
  obtain ⟨n1, e1, b1⟩ := rd_i64 Tryd.underlying3 f1_9
  obtain rfl := (List.cons.inj e1).1
  have f2_12 : Rd enc Tryd.prog w 3 [c2] := rd_field (i := 2) (k := 1) hf rfl rfl (by kernel_rfl) rfl
  obtain ⟨n2, e2, b2⟩ := rd_i64 Tryd.underlying3 f2_12
  obtain rfl := (List.cons.inj e2).1
  have f3_15 : Rd enc Tryd.prog w 3 [c3] := rd_field (i := 3) (k := 1) hf rfl rfl (by kernel_rfl) rfl
  obtain ⟨n3, e3, b3⟩ := rd_i64 Tryd.underlying3 f3_15
  obtain rfl := (List.cons.inj e3).1
  have f4_18 : Rd enc Tryd.prog w 3 [c4] := rd_field (i := 4) (k := 1) hf rfl rfl (by kernel_rfl) rfl
  obtain ⟨n4, e4, b4⟩ := rd_i64 Tryd.underlying3 f4_18
  obtain rfl := (List.cons.inj e4).1
  exact ⟨⟨n0, n1, n2, n3, n4⟩, rfl, trivial⟩
theorem rd_rheads {H : Type} {enc : TypeId × Value → H} {w : World} {cs : List Value} (h : Rd enc Tryd.prog w 35 cs) : ∃ (v : Value) (l : List (Hd)), cs = [v] ∧ Sl [Hp.of w] 5 v l.length (l.flatMap hdC) ∧ ∀ a ∈ l, True :=
  rd_rows Tryd.underlying35 (by kernel_rfl) (by decide) hdC_len (fun r hr => rd_rhead hr) h
theorem rd_head {H : Type} {enc : TypeId × Value → H} {w : World} {cs : List Value} (h : Rd enc Tryd.prog w 25 cs) : ∃ a : Hd, cs = hdC a ∧ True := by
  obtain ⟨hl, hf⟩ := rd_struct Tryd.underlying25 h
  have hl : cs.length = 5 := hl.trans (by kernel_rfl)
  obtain ⟨c0, c1, c2, c3, c4, rfl⟩ : ∃ c0 c1 c2 c3 c4, cs = [c0, c1, c2, c3, c4] := by
    match cs, hl with
    | [c0, c1, c2, c3, c4], _ => exact ⟨c0, c1, c2, c3, c4, rfl⟩
  have f0_6 : Rd enc Tryd.prog w 3 [c0] := rd_field (i := 0) (k := 1) hf rfl rfl (by kernel_rfl) rfl
  obtain ⟨n0, e0, b0⟩ := rd_i64 Tryd.underlying3 f0_6
  obtain rfl := (List.cons.inj e0).1
  have f1_9 : Rd enc Tryd.prog w 3 [c1] := rd_field (i := 1) (k := 1) hf rfl rfl (by kernel_rfl) rfl
  obtain ⟨n1, e1, b1⟩ := rd_i64 Tryd.underlying3 f1_9
  obtain rfl := (List.cons.inj e1).1
  have f2_12 : Rd enc Tryd.prog w 3 [c2] := rd_field (i := 2) (k := 1) hf rfl rfl (by kernel_rfl) rfl
  obtain ⟨n2, e2, b2⟩ := rd_i64 Tryd.underlying3 f2_12
  obtain rfl := (List.cons.inj e2).1
  have f3_15 : Rd enc Tryd.prog w 3 [c3] := rd_field (i := 3) (k := 1) hf rfl rfl (by kernel_rfl) rfl
  obtain ⟨n3, e3, b3⟩ := rd_i64 Tryd.underlying3 f3_15
  obtain rfl := (List.cons.inj e3).1
  have f4_18 : Rd enc Tryd.prog w 3 [c4] := rd_field (i := 4) (k := 1) hf rfl rfl (by kernel_rfl) rfl
  obtain ⟨n4, e4, b4⟩ := rd_i64 Tryd.underlying3 f4_18
  obtain rfl := (List.cons.inj e4).1
  exact ⟨⟨n0, n1, n2, n3, n4⟩, rfl, trivial⟩
end Go.Q
