/-
  Parts of a walk: what functions of the program compute, each told by a theorem (QDL6, QDRdA).
-/
import Derived.Test.YtcffibbdbalmjaaDoorB3
set_option linter.unusedVariables false
set_option linter.unusedSimpArgs false
set_option linter.unnecessarySimpa false
namespace Go.Q
open Go.Proofs
set_option linter.unusedVariables false
set_option maxRecDepth 100000
attribute [local irreducible] wpList OK Code.wp
theorem new_nilI {E w : World} {R : List Hp} (hH : Has E w [R]) {k : Int} (hk : 1 ≤ k ∧ k ≤ 4096) :
    Calls Tryd.prog 26 #[.pointer none, .int .i64 k] w fun e w' => ∃ db pb sg, e = .returned (.pointer (some ⟨db, 0, none⟩)) ∧ DevAt pb sg db (List.replicate k.toNat blankS) [] ∧ Has E w' [sg, [Hp.one pb (.cells #[(.bool false), (.bool false), (.int .i64 0), (.int .i64 0)] 104 (0, 0))], R] := by
  obtain ⟨m, rfl⟩ : ∃ m : Nat, k = (m : Int) := ⟨k.toNat, by omega⟩
  exact new_nil hH ⟨by omega, by omega⟩
set_option maxHeartbeats 4000000 in
theorem AreaPlays_c {E w : World} {R : List Hp} (hH : Has E w [R]) {k fr n : Int} {v : Value} {l : List AAct} (hv : Sl R 5 v l.length (l.flatMap aaC)) (hok : ∀ a ∈ l, AaOk R a) :
    Calls Tryd.prog 7 #[(.int .i64 k), (.int .i64 fr), (.int .i64 n), v] w fun e w' => e = .returned (.bool true) ∧ Has E w' [R] := by
  have hn_ := hv.le
  refine c_enter (args := [(.int .i64 k), (.int .i64 fr), (.int .i64 n), v]) Tryd.func7 rfl Tryd.ntmps7 (by simp) ?_
  refine wp_seq_k fun K1 hK1 => ?_
  refine c_region ?_
  refine s_op (o_assign (v := (.bool false)) rfl ?_)
  refine s_nil ?_
  refine t_norm (hK1 _ _ ?_)
  refine wp_seq_k fun K2 hK2 => ?_
  refine wp_seq_k fun K3 hK3 => ?_
  refine c_region ?_
  refine s_op (o_move (v := v) rfl ?_)
  refine s_op (o_callf (vs := #[v]) ca24 rfl (args1 rfl) (great6_c hH.all (l := l) (hv.mono (seg_sub 0 rfl)) (fun a ha => (hok a ha).mono (seg_sub 0 rfl))) ?_)
  rintro _ w8 ⟨gb4, rfl, hg5, hX6⟩
  refine ⟨_, rfl, ?_⟩
  have hH7 : Has E w8 [R] := hX6.of_all
  refine s_op (o_move (v := (.bool gb4)) rfl ?_)
  rcases Bool.eq_false_or_eq_true gb4 with h9 | h9
  · -- gb4
    refine s_off (b' := true) 29 rfl (congrArg Value.bool h9) rfl ?_
    refine s_off (b' := true) 29 rfl (congrArg Value.bool h9) rfl ?_
    refine s_off (b' := true) 29 rfl (congrArg Value.bool h9) rfl ?_
    refine s_offu 32 rfl rfl ?_
    refine s_offu 32 rfl rfl ?_
    refine s_off (b' := true) 29 rfl (congrArg Value.bool h9) rfl ?_
    refine s_op (o_pick_t (u := (.bool true)) ((rfl : _ = _).trans (congrArg Value.bool h9)) rfl ?_)
    refine s_op (o_move (v := (.bool true)) rfl ?_)
    refine s_off (b' := true) 37 rfl rfl rfl ?_
    refine s_off (b' := true) 37 rfl rfl rfl ?_
    refine s_op (o_pick_t (u := (.bool true)) rfl rfl ?_)
    refine s_nil ?_
    refine t_norm (hK3 _ _ ?_)
    refine c_true rfl rfl ?_
    refine wp_seq_k fun K10 hK10 => ?_
    refine c_region ?_
    refine s_op (o_callf (vs := #[]) ca25 rfl (args0) (awake6_c hH7.all) ?_)
    rintro _ w13 ⟨rfl, hX11⟩
    refine ⟨_, rfl, ?_⟩
    have hH12 := hX11.of_all
    refine s_op (o_assign (v := (.bool true)) rfl ?_)
    refine s_nil ?_
    refine t_norm (hK10 _ _ ?_)
    refine wp_ret ?_
    refine t_ret (c_ret1 Tryd.results7  (v := (.bool true)) rfl ?_)
    exact ⟨by first | rfl | rw [decide_eq_true rfl], hH12⟩
  · -- not: gb4
    have hfine := hg5 h9
    have hl30 := hfine.1
    refine s_on 29 rfl (congrArg Value.bool h9) (o_move (v := (.int .i64 k)) rfl ?_)
    refine s_on 29 rfl (congrArg Value.bool h9) (o_gtr (a := k) (b := 20) rfl rfl ?_)
    refine s_on 29 rfl (congrArg Value.bool h9) (o_move (v := (.bool (decide (20 < k)))) rfl ?_)
    by_cases h14 : 20 < k
    · -- 20 < k
      refine s_on 32 rfl (congrArg Value.bool (decide_eq_true h14)) (o_move (v := (.int .i64 k)) rfl ?_)
      refine s_on 32 rfl (congrArg Value.bool (decide_eq_true h14)) (o_leq (a := k) (b := 4096) rfl rfl ?_)
      refine s_on 29 rfl (congrArg Value.bool h9) (o_pick_t (u := (.bool (decide (k ≤ 4096)))) ((rfl : _ = _).trans (congrArg Value.bool (decide_eq_true h14))) rfl ?_)
      refine s_op (o_pick_f (u := (.bool (decide (k ≤ 4096)))) ((rfl : _ = _).trans (congrArg Value.bool h9)) rfl ?_)
      refine s_op (o_move (v := (.bool (decide (k ≤ 4096)))) rfl ?_)
      by_cases h15 : k ≤ 4096
      · -- k ≤ 4096
        refine s_off (b' := true) 37 rfl (congrArg Value.bool (decide_eq_true h15)) rfl ?_
        refine s_off (b' := true) 37 rfl (congrArg Value.bool (decide_eq_true h15)) rfl ?_
        refine s_op (o_pick_t (u := (.bool true)) ((rfl : _ = _).trans (congrArg Value.bool (decide_eq_true h15))) rfl ?_)
        refine s_nil ?_
        refine t_norm (hK3 _ _ ?_)
        refine c_true rfl rfl ?_
        refine wp_seq_k fun K16 hK16 => ?_
        refine c_region ?_
        refine s_op (o_callf (vs := #[]) ca25 rfl (args0) (awake6_c hH7.all) ?_)
        rintro _ w19 ⟨rfl, hX17⟩
        refine ⟨_, rfl, ?_⟩
        have hH18 := hX17.of_all
        refine s_op (o_assign (v := (.bool true)) rfl ?_)
        refine s_nil ?_
        refine t_norm (hK16 _ _ ?_)
        refine wp_ret ?_
        refine t_ret (c_ret1 Tryd.results7  (v := (.bool true)) rfl ?_)
        exact ⟨by first | rfl | rw [decide_eq_true rfl], hH18⟩
      · -- not: k ≤ 4096
        refine s_on 37 rfl (congrArg Value.bool (decide_eq_false h15)) (o_callf (vs := #[]) ca25 rfl (args0) (awake6_c hH7.all) ?_)
        rintro _ w22 ⟨rfl, hX20⟩
        refine ⟨_, rfl, ?_⟩
        have hH21 := hX20.of_all
        refine s_on 37 rfl (congrArg Value.bool (decide_eq_false h15)) (o_not rfl ?_)
        refine s_op (o_pick_f (u := (.bool false)) ((rfl : _ = _).trans (congrArg Value.bool (decide_eq_false h15))) rfl ?_)
        refine s_nil ?_
        refine t_norm (hK3 _ _ ?_)
        refine c_false rfl rfl ?_
        refine wp_skip ?_
        refine t_norm (hK2 _ _ ?_)
        refine wp_seq_k fun K23 hK23 => ?_
        refine c_region ?_
        refine s_op (o_move (v := (.int .i64 k)) rfl ?_)
        refine s_op (o_callf (vs := #[(.pointer none), (.int .i64 k)]) ca26 rfl (args2 rfl rfl) (new_bad hH21.all (v := .pointer none) (n := k) (by omega)) ?_)
        rintro _ w26 ⟨rfl, hX24⟩
        refine ⟨_, rfl, ?_⟩
        have hH25 := hX24.of_all
        refine s_op (o_assign (v := (.pointer none)) rfl ?_)
        refine s_nil ?_
        refine t_norm (hK23 _ _ ?_)
        refine wp_seq_k fun K27 hK27 => ?_
        refine c_region ?_
        refine s_op (o_move (v := (.pointer none)) rfl ?_)
        refine s_op (o_move (v := (.int .i64 fr)) rfl ?_)
        refine s_op (o_move (v := (.int .i64 n)) rfl ?_)
        refine s_op (o_callf (vs := #[(.pointer none), (.int .i64 fr), (.int .i64 n)]) ca27 rfl (args3 rfl rfl rfl) (anew_nil hH25.all fr n) ?_)
        rintro _ w30 ⟨rfl, hX28⟩
        refine ⟨_, rfl, ?_⟩
        have hH29 := hX28.of_all
        refine s_op (o_assign (v := (.pointer none)) rfl ?_)
        refine s_nil ?_
        refine t_norm (hK27 _ _ ?_)
        refine wp_seq_k fun K31 hK31 => ?_
        refine wp_seq_k fun K32 hK32 => ?_
        refine c_region ?_
        refine s_op (o_move (v := (.pointer none)) rfl ?_)
        refine s_op (o_pnil (p := none) Tryd.underlying50 rfl rfl ?_)
        refine s_op (o_move (v := (.bool true)) rfl ?_)
        refine s_off (b' := true) 50 rfl rfl rfl ?_
        refine s_off (b' := true) 50 rfl rfl rfl ?_
        refine s_op (o_pick_t (u := (.bool true)) rfl rfl ?_)
        refine s_op (o_move (v := (.bool true)) rfl ?_)
        refine s_off (b' := true) 54 rfl rfl rfl ?_
        refine s_off (b' := true) 54 rfl rfl rfl ?_
        refine s_op (o_pick_t (u := (.bool true)) rfl rfl ?_)
        refine s_op (o_move (v := (.bool true)) rfl ?_)
        refine s_off (b' := true) 58 rfl rfl rfl ?_
        refine s_off (b' := true) 58 rfl rfl rfl ?_
        refine s_off (b' := true) 58 rfl rfl rfl ?_
        refine s_op (o_pick_t (u := (.bool true)) rfl rfl ?_)
        refine s_op (o_move (v := (.bool true)) rfl ?_)
        refine s_off (b' := true) 63 rfl rfl rfl ?_
        refine s_off (b' := true) 63 rfl rfl rfl ?_
        refine s_off (b' := true) 63 rfl rfl rfl ?_
        refine s_off (b' := true) 63 rfl rfl rfl ?_
        refine s_off (b' := true) 63 rfl rfl rfl ?_
        refine s_op (o_pick_t (u := (.bool true)) rfl rfl ?_)
        refine s_nil ?_
        refine t_norm (hK32 _ _ ?_)
        refine c_true rfl rfl ?_
        refine wp_seq_k fun K33 hK33 => ?_
        refine c_region ?_
        refine s_op (o_move (v := (.pointer none)) rfl ?_)
        refine s_op (o_pnil (p := none) Tryd.underlying52 rfl rfl ?_)
        refine s_op (o_assign (v := (.bool true)) rfl ?_)
        refine s_nil ?_
        refine t_norm (hK33 _ _ ?_)
        refine wp_ret ?_
        refine t_ret (c_ret1 Tryd.results7  (v := (.bool true)) rfl ?_)
        exact ⟨by first | rfl | rw [decide_eq_true rfl], hH29⟩
    · -- not: 20 < k
      refine s_off (b' := false) 32 rfl (congrArg Value.bool (decide_eq_false h14)) rfl ?_
      refine s_off (b' := false) 32 rfl (congrArg Value.bool (decide_eq_false h14)) rfl ?_
      refine s_on 29 rfl (congrArg Value.bool h9) (o_pick_f (u := (.bool false)) ((rfl : _ = _).trans (congrArg Value.bool (decide_eq_false h14))) rfl ?_)
      refine s_op (o_pick_f (u := (.bool false)) ((rfl : _ = _).trans (congrArg Value.bool h9)) rfl ?_)
      refine s_op (o_move (v := (.bool false)) rfl ?_)
      refine s_on 37 rfl rfl (o_callf (vs := #[]) ca25 rfl (args0) (awake6_c hH7.all) ?_)
      rintro _ w36 ⟨rfl, hX34⟩
      refine ⟨_, rfl, ?_⟩
      have hH35 := hX34.of_all
      refine s_on 37 rfl rfl (o_not rfl ?_)
      refine s_op (o_pick_f (u := (.bool false)) rfl rfl ?_)
      refine s_nil ?_
      refine t_norm (hK3 _ _ ?_)
      refine c_false rfl rfl ?_
      refine wp_skip ?_
      refine t_norm (hK2 _ _ ?_)
      refine wp_seq_k fun K37 hK37 => ?_
      refine c_region ?_
      refine s_op (o_move (v := (.int .i64 k)) rfl ?_)
      by_cases hc38 : 1 ≤ k ∧ k ≤ 4096
      · -- yes
        refine s_op (o_callf (vs := #[(.pointer none), (.int .i64 k)]) ca26 rfl (args2 rfl rfl) (new_nilI hH35.all hc38) ?_)
        rintro _ w45 ⟨db39, pb40, sg41, rfl, hd42, hX43⟩
        refine ⟨_, rfl, ?_⟩
        have hH44 : Has E w45 [sg41, [Hp.one pb40 (.cells #[(.bool (Pw.mk false false 0 0).off), (.bool (Pw.mk false false 0 0).armed), (.int .i64 (Pw.mk false false 0 0).left), (.int .i64 (Pw.mk false false 0 0).uses)] 104 (0, 0))], R] := hX43.of_all2
        refine s_op (o_assign (v := (.pointer (some ⟨db39, 0, none⟩))) rfl ?_)
        refine s_nil ?_
        refine t_norm (hK37 _ _ ?_)
        refine wp_seq_k fun K46 hK46 => ?_
        refine c_region ?_
        refine s_op (o_move (v := (.pointer (some ⟨db39, 0, none⟩))) rfl ?_)
        refine s_op (o_move (v := (.int .i64 fr)) rfl ?_)
        refine s_op (o_move (v := (.int .i64 n)) rfl ?_)
        by_cases hc47 : 0 ≤ fr ∧ 1 ≤ n ∧ fr + n ≤ k
        · -- yes
          obtain ⟨hfr, hn, hfk⟩ := hc47
          have hfn : fr + n ≤ ((List.replicate k.toNat blankS).length : Int) := by rw [List.length_replicate]; omega
          refine s_op (o_callf (vs := #[(.pointer (some ⟨db39, 0, none⟩)), (.int .i64 fr), (.int .i64 n)]) ca27 rfl (args3 rfl rfl rfl) (anew_c ((hH44.front 1 rfl).front 1 rfl).all2 hd42 hfr hn hfn (by rw [List.length_replicate]; omega)) ?_)
          rintro _ w51 ⟨ab48, rfl, hX49⟩
          refine ⟨_, rfl, ?_⟩
          have hH50 : Has E w51 [[Hp.one ab48 (.cells #[(.pointer (some ⟨db39, 0, none⟩)), (.int .i64 fr), (.int .i64 n)] 65 (0, 0))], sg41, [Hp.one pb40 (.cells #[(.bool (Pw.mk false false 0 0).off), (.bool (Pw.mk false false 0 0).armed), (.int .i64 (Pw.mk false false 0 0).left), (.int .i64 (Pw.mk false false 0 0).uses)] 104 (0, 0))], R] := hX49.of_all3
          refine s_op (o_assign (v := (.pointer (some ⟨ab48, 0, none⟩))) rfl ?_)
          refine s_nil ?_
          refine t_norm (hK46 _ _ ?_)
          refine wp_seq_k fun K52 hK52 => ?_
          refine wp_seq_k fun K53 hK53 => ?_
          refine c_region ?_
          refine s_op (o_move (v := (.pointer (some ⟨db39, 0, none⟩))) rfl ?_)
          refine s_op (o_pnil (p := some _) Tryd.underlying50 rfl rfl ?_)
          refine s_op (o_move (v := (.bool false)) rfl ?_)
          refine s_on 50 rfl rfl (o_move (v := (.int .i64 fr)) rfl ?_)
          refine s_on 50 rfl rfl (o_lss (a := fr) (b := 0) rfl rfl ?_)
          refine s_op (o_pick_f (u := (.bool (decide (fr < 0)))) rfl rfl ?_)
          refine s_op (o_move (v := (.bool (decide (fr < 0)))) rfl ?_)
          by_cases h54 : fr < 0
          · -- fr < 0
            exfalso; omega
          · -- not: fr < 0
            refine s_on 54 rfl (congrArg Value.bool (decide_eq_false h54)) (o_move (v := (.int .i64 n)) rfl ?_)
            refine s_on 54 rfl (congrArg Value.bool (decide_eq_false h54)) (o_lss (a := n) (b := 1) rfl rfl ?_)
            refine s_op (o_pick_f (u := (.bool (decide (n < 1)))) ((rfl : _ = _).trans (congrArg Value.bool (decide_eq_false h54))) rfl ?_)
            refine s_op (o_move (v := (.bool (decide (n < 1)))) rfl ?_)
            by_cases h55 : n < 1
            · -- n < 1
              exfalso; omega
            · -- not: n < 1
              refine s_on 58 rfl (congrArg Value.bool (decide_eq_false h55)) (o_move (v := (.int .i64 n)) rfl ?_)
              refine s_on 58 rfl (congrArg Value.bool (decide_eq_false h55)) (o_move (v := (.int .i64 k)) rfl ?_)
              refine s_on 58 rfl (congrArg Value.bool (decide_eq_false h55)) (o_gtr (a := n) (b := k) rfl rfl ?_)
              refine s_op (o_pick_f (u := (.bool (decide (k < n)))) ((rfl : _ = _).trans (congrArg Value.bool (decide_eq_false h55))) rfl ?_)
              refine s_op (o_move (v := (.bool (decide (k < n)))) rfl ?_)
              by_cases h56 : k < n
              · -- k < n
                exfalso; omega
              · -- not: k < n
                refine s_on 63 rfl (congrArg Value.bool (decide_eq_false h56)) (o_move (v := (.int .i64 fr)) rfl ?_)
                refine s_on 63 rfl (congrArg Value.bool (decide_eq_false h56)) (o_move (v := (.int .i64 k)) rfl ?_)
                refine s_on 63 rfl (congrArg Value.bool (decide_eq_false h56)) (o_move (v := (.int .i64 n)) rfl ?_)
                refine s_on 63 rfl (congrArg Value.bool (decide_eq_false h56)) (o_sub (a := k) (b := n) rfl rfl (w64 (by omega) (by omega)) ?_)
                refine s_on 63 rfl (congrArg Value.bool (decide_eq_false h56)) (o_gtr (a := fr) (b := k - n) rfl rfl ?_)
                refine s_op (o_pick_f (u := (.bool (decide (k - n < fr)))) ((rfl : _ = _).trans (congrArg Value.bool (decide_eq_false h56))) rfl ?_)
                refine s_nil ?_
                refine t_norm (hK53 _ _ ?_)
                refine c_cond rfl (fun h57 => ?_) (fun h57 => ?_)
                · -- k - n < fr
                  exfalso; omega
                · -- not: k - n < fr
                  refine wp_skip ?_
                  refine t_norm (hK52 _ _ ?_)
                  refine wp_seq_k fun K58 hK58 => ?_
                  refine wp_seq_k fun K59 hK59 => ?_
                  refine c_region ?_
                  refine s_op (o_move (v := (.pointer (some ⟨ab48, 0, none⟩))) rfl ?_)
                  refine s_op (o_callf (vs := #[(.pointer (some ⟨ab48, 0, none⟩))]) ca28 rfl (args1 rfl) (alen_c hH50.all1 ⟨by omega, by omega⟩) ?_)
                  rintro _ w62 ⟨rfl, hX60⟩
                  refine ⟨_, rfl, ?_⟩
                  have hH61 : Has E w62 [[Hp.one ab48 (.cells #[(.pointer (some ⟨db39, 0, none⟩)), (.int .i64 fr), (.int .i64 n)] 65 (0, 0))], sg41, [Hp.one pb40 (.cells #[(.bool (Pw.mk false false 0 0).off), (.bool (Pw.mk false false 0 0).armed), (.int .i64 (Pw.mk false false 0 0).left), (.int .i64 (Pw.mk false false 0 0).uses)] 104 (0, 0))], R] := hX60.of_all1
                  refine s_op (o_move (v := (.int .i64 n)) rfl ?_)
                  refine s_op (o_mul (a := 64) (b := n) rfl rfl (w64 (by omega) (by omega)) ?_)
                  refine s_op (o_neq (a := n * 64) (b := 64 * n) rfl rfl ?_)
                  refine s_op (o_move (v := (.bool (decide (n * 64 ≠ 64 * n)))) rfl ?_)
                  by_cases h63 : n * 64 ≠ 64 * n
                  · -- n * 64 ≠ 64 * n
                    exfalso; omega
                  · -- not: n * 64 ≠ 64 * n
                    refine s_on 77 rfl (congrArg Value.bool (decide_eq_false h63)) (o_move (v := (.pointer (some ⟨ab48, 0, none⟩))) rfl ?_)
                    refine s_on 77 rfl (congrArg Value.bool (decide_eq_false h63)) (o_callf (vs := #[(.pointer (some ⟨ab48, 0, none⟩))]) ca29 rfl (args1 rfl) (ablank_c ((hH61.front 2 rfl).front 2 rfl).all3 hd42 Calm.new (by omega) (full_blank _) (LoOk.nil _) hfr hn hfn (by rw [List.length_replicate]; omega)) ?_)
                    rintro _ w66 ⟨rfl, hX64⟩
                    refine ⟨_, rfl, ?_⟩
                    have hH65 : Has E w66 [sg41, [Hp.one pb40 (.cells #[(.bool (Pw.mk false false 0 0).off), (.bool (Pw.mk false false 0 0).armed), (.int .i64 (Pw.mk false false 0 0).left), (.int .i64 (Pw.mk false false 0 0).uses)] 104 (0, 0))], [Hp.one ab48 (.cells #[(.pointer (some ⟨db39, 0, none⟩)), (.int .i64 fr), (.int .i64 n)] 65 (0, 0))], R] := hX64.of_all3
                    refine s_on 77 rfl (congrArg Value.bool (decide_eq_false h63)) (o_not rfl ?_)
                    refine s_op (o_pick_f (u := (.bool (!(decide (Lib.trimB (getP (List.replicate k.toNat blankS) ([] : List (Int × Bs)) (allP fr (n * 64) (0 % (n * 64)) (n * 64))) 0 = []))))) ((rfl : _ = _).trans (congrArg Value.bool (decide_eq_false h63))) rfl ?_)
                    refine s_nil ?_
                    refine t_norm (hK59 _ _ ?_)
                    refine c_condb rfl (fun h67 => ?_) (fun h67 => ?_)
                    · -- !(decide (Lib.trimB (getP (List.replicate k.toNat blankS) ([] : List (Int × Bs)) (allP fr (n * 64) (0 % (n * 64)) (n * 64))) 0 = []))
                      have h67_n : (decide (Lib.trimB (getP (List.replicate k.toNat blankS) ([] : List (Int × Bs)) (allP fr (n * 64) (0 % (n * 64)) (n * 64))) 0 = [])) = false := by simpa using h67
                      have hb0_ : Lib.trimB (getP (List.replicate k.toNat blankS) ([] : List (Int × Bs)) (allP fr (n * 64) (0 % (n * 64)) (n * 64))) 0 = [] := by rw [getP_all (cn_blank (by omega)) (area_64 (full_blank _) (LoOk.nil _) hfr hn hfn) hfr hn]; exact trim_zero.2 (by rw [List.length_replicate])
                      exact absurd h67 (by rw [hb0_]; decide)
                    · -- not: !(decide (Lib.trimB (getP (List.replicate k.toNat blankS) ([] : List (Int × Bs)) (allP fr (n * 64) (0 % (n * 64)) (n * 64))) 0 = []))
                      have h67_n : (decide (Lib.trimB (getP (List.replicate k.toNat blankS) ([] : List (Int × Bs)) (allP fr (n * 64) (0 % (n * 64)) (n * 64))) 0 = [])) = true := by simpa using h67
                      have hb0_ : Lib.trimB (getP (List.replicate k.toNat blankS) ([] : List (Int × Bs)) (allP fr (n * 64) (0 % (n * 64)) (n * 64))) 0 = [] := by rw [getP_all (cn_blank (by omega)) (area_64 (full_blank _) (LoOk.nil _) hfr hn hfn) hfr hn]; exact trim_zero.2 (by rw [List.length_replicate])
                      refine wp_skip ?_
                      refine t_norm (hK58 _ _ ?_)
                      refine wp_seq_k fun K68 hK68 => ?_
                      refine c_region ?_
                      refine s_op (o_move (v := (.int .i64 n)) rfl ?_)
                      refine s_op (o_mul (a := 64) (b := n) rfl rfl (w64 (by omega) (by omega)) ?_)
                      refine s_op (o_make Tryd.underlying55 ti5 rfl rfl (by omega) (by omega) (by omega) (by omega) hH65 fun v69 s70 w72 ho71 hH73 => ?_)
                      have ho74 : Own 5 1 v69 (List.replicate (64 * n).toNat (0 : UInt8)).length ((List.replicate (64 * n).toNat (0 : UInt8)).map bV) s70 := by rw [List.length_replicate, List.map_replicate, ← made_rep]; exact ho71
                      obtain ⟨p75, c76, rfl⟩ := (Own.sl ho71).form
                      refine s_op (o_assign (v := (.slice p75 (64 * n).toNat c76)) rfl ?_)
                      refine s_nil ?_
                      refine t_norm (hK68 _ _ ?_)
                      refine wp_seq_k fun K77 hK77 => ?_
                      refine wp_seq_k fun K78 hK78 => ?_
                      refine c_region ?_
                      refine s_op (o_assign (v := (.int .i64 0)) rfl ?_)
                      refine s_nil ?_
                      refine t_norm (hK78 _ _ ?_)
                      refine wp_block ?_
                      have hk0 : 1 ≤ k ∧ k ≤ 20 := by omega
                      let I80 : Nat → (Nat → Value) → World → Prop := fun n__ r__ w__ => ∃ (i : Nat) (p3 : Pw) (la3 : List Bs) (lo3 : List (Int × Bs)) (sg3 : List Hp) (now3 : Bs) (sn3 : List Hp), n__ = l.length - i ∧ Has E w__ [sg3, sn3, [Hp.one pb40 (.cells #[(.bool p3.off), (.bool p3.armed), (.int .i64 p3.left), (.int .i64 p3.uses)] 104 (0, 0))], [Hp.one ab48 (.cells #[(.pointer (some ⟨db39, 0, none⟩)), (.int .i64 fr), (.int .i64 n)] 65 (0, 0))], R] ∧ (i ≤ l.length) ∧ (DevAt pb40 sg3 db39 la3 lo3) ∧ (Own 5 1 (.slice p75 (64 * n).toNat c76) now3.length (now3.map bV) sn3) ∧ (Calm p3 (100 + i * 2100)) ∧ (la3.length = k.toNat) ∧ (Full64 la3) ∧ (LoOk lo3 la3.length) ∧ (Cn now3 la3 lo3 fr.toNat n.toNat) ∧ (∀ j : Nat, ((j : Int) < fr ∨ fr + n ≤ (j : Int)) → j < k.toNat → nowAt la3 lo3 j = blankS) ∧ r__ 0 = (.int .i64 k) ∧ r__ 1 = (.int .i64 fr) ∧ r__ 2 = (.int .i64 n) ∧ r__ 3 = v ∧ r__ 9 = (.pointer (some ⟨db39, 0, none⟩)) ∧ r__ 10 = (.pointer (some ⟨ab48, 0, none⟩)) ∧ r__ 11 = (.slice p75 (64 * n).toNat c76) ∧ r__ 12 = (.int .i64 (i : Int)) ∧ r__ 40 = (.bool false) ∧ r__ 69 = (.bool (decide (k - n < fr))) ∧ r__ 81 = (.bool (!(decide (Lib.trimB (getP (List.replicate k.toNat blankS) ([] : List (Int × Bs)) (allP fr (n * 64) (0 % (n * 64)) (n * 64))) 0 = []))))
                      have hH81 : Has E w72 [sg41, s70, [Hp.one pb40 (.cells #[(.bool (Pw.mk false false 0 0).off), (.bool (Pw.mk false false 0 0).armed), (.int .i64 (Pw.mk false false 0 0).left), (.int .i64 (Pw.mk false false 0 0).uses)] 104 (0, 0))], [Hp.one ab48 (.cells #[(.pointer (some ⟨db39, 0, none⟩)), (.int .i64 fr), (.int .i64 n)] 65 (0, 0))], R] := (((((hH73.front 4 rfl).front 4 rfl).front 4 rfl).front 3 rfl).front 4 rfl).first 5 rfl
                      refine c_loop I80 _ ⟨0, (Pw.mk false false 0 0), (List.replicate k.toNat blankS), ([] : List (Int × Bs)), sg41, (List.replicate (64 * n).toNat (0 : UInt8)), s70, rfl, hH81, Nat.zero_le _, hd42, ho74, Calm.new.mono (by omega), List.length_replicate, (full_blank _), (LoOk.nil _), (by rw [show (64 * n).toNat = n.toNat * 64 by omega]; exact cn_blank (by omega)), fun j hj hk_ => by unfold nowAt; rw [show getB ([] : List (Int × Bs)) (j : Int) = none from rfl, Option.getD_none, List.getElem?_replicate, if_pos hk_]; rfl, rfl, rfl, rfl, rfl, rfl, rfl, rfl, rfl, rfl, rfl, rfl⟩ ?_
                      rintro n_ r84 w82 ⟨i, p3, la3, lo3, sg3, now3, sn3, rfl, hH83, hi, hd3, hn3, hp3, hl3, h643, hlo3, hcn3, hou3, e79_0, e79_1, e79_2, e79_3, e79_9, e79_10, e79_11, e79_12, e79_40, e79_69, e79_81⟩
                      refine wp_seq_k fun K85 hK85 => ?_
                      refine wp_seq_k fun K86 hK86 => ?_
                      refine c_region ?_
                      refine s_op (o_move (v := (.int .i64 (i : Int))) e79_12 ?_)
                      refine s_op (o_move (v := v) e79_3 ?_)
                      refine s_op (o_lenS Tryd.underlying48 rfl hv ?_)
                      refine s_op (o_lss (a := (i : Int)) (b := ((l.length : Nat) : Int)) rfl rfl ?_)
                      refine s_nil ?_
                      refine t_norm (hK86 _ _ ?_)
                      refine c_cond rfl (fun h87 => ?_) (fun h87 => ?_)
                      · -- (i : Int) < ((l.length : Nat) : Int)
                        refine wp_skip ?_
                        refine t_norm (hK85 _ _ ?_)
                        refine wp_seq_k fun K88 hK88 => ?_
                        refine wp_block ?_
                        refine wp_seq_k fun K89 hK89 => ?_
                        refine c_region ?_
                        refine s_op (o_move (v := v) e79_3 ?_)
                        refine s_op (o_move (v := (.int .i64 (i : Int))) e79_12 ?_)
                        obtain ⟨x93, hx94⟩ : ∃ x_, l[((i : Int)).toNat]? = some x_ := get_some (by omega)
                        refine s_op (o_indexF aaC_len Tryd.underlying48 ti58 rfl hv rfl rfl (by omega) hx94 fun b90 o91 hc92 => ?_)
                        refine s_op (o_loadN (cs := [(.int .i64 x93.kind), (.int .i64 x93.at_), (.int .i64 x93.size), x93.dv, x93.kv]) Tryd.underlying58 rfl ti58 rfl hH83 (seg_sub 4 rfl) hc92 ?_)
                        refine s_op (o_alloc (cs := #[(.int .i64 0), (.int .i64 0), (.int .i64 0), (.slice none 0 0), (.slice none 0 0)]) ti58 rfl hH83 fun b95 w96 hH97 => ?_)
                        refine s_eff (o_storeN (vs := [(.int .i64 x93.kind), (.int .i64 x93.at_), (.int .i64 x93.size), x93.dv, x93.kv]) (c' := #[(.int .i64 x93.kind), (.int .i64 x93.at_), (.int .i64 x93.size), x93.dv, x93.kv]) ti58 rfl rfl rfl rfl (by intro u hu; simp only [List.mem_cons, List.not_mem_nil, or_false] at hu; rcases hu with rfl | rfl | rfl | rfl | rfl <;> first | rfl | exact (hok x93 (List.mem_of_getElem? hx94)).1.one | exact (hok x93 (List.mem_of_getElem? hx94)).2.1.one) (by simp) (by kernel_rfl) (hH97.front 0 rfl) fun w98 hH99 => ?_)
                        refine s_nil ?_
                        refine t_norm (hK89 _ _ ?_)
                        refine wp_seq_k fun K100 hK100 => ?_
                        refine c_region ?_
                        refine s_op (o_fieldAddr (k := 3) (fun _ => by kernel_rfl) rfl ?_)
                        refine s_op (o_load1 (v := x93.dv) Tryd.underlying32 rfl rfl hH99 (seg_sub 0 rfl) (CellsAt.one rfl) ?_)
                        refine s_op (o_callf (vs := #[x93.dv]) ca30 rfl (args1 rfl) (join6_c hH99.all (l := x93.data) ((hok x93 (List.mem_of_getElem? hx94)).1.mono (seg_sub 5 rfl)) (hok _ (List.mem_of_getElem? hx94)).2.2 (by have h_ := (hfine.2 _ (List.mem_of_getElem? hx94)).1; omega)) ?_)
                        rintro _ w103 ⟨rfl, hX101⟩
                        refine ⟨_, rfl, ?_⟩
                        have hH102 := hX101.of_all
                        refine s_op (o_assign (v := (S x93.data.flatten)) rfl ?_)
                        refine s_nil ?_
                        refine t_norm (hK100 _ _ ?_)
                        refine wp_seq_k fun K104 hK104 => ?_
                        let J106 : (Nat → Value) → World → Prop := fun r__ w__ => ∃ (pl : Bool), Has E w__ [[Hp.one b95 (.cells #[(.int .i64 x93.kind), (.int .i64 x93.at_), (.int .i64 x93.size), x93.dv, x93.kv] 58 (0, 0))], sg3, sn3, [Hp.one pb40 (.cells #[(.bool p3.off), (.bool p3.armed), (.int .i64 p3.left), (.int .i64 p3.uses)] 104 (0, 0))], [Hp.one ab48 (.cells #[(.pointer (some ⟨db39, 0, none⟩)), (.int .i64 fr), (.int .i64 n)] 65 (0, 0))], R] ∧ (pl = decide (0 ≤ x93.at_ ∧ x93.at_ ≤ 4611686018427387904)) ∧ r__ 0 = (.int .i64 k) ∧ r__ 1 = (.int .i64 fr) ∧ r__ 2 = (.int .i64 n) ∧ r__ 3 = v ∧ r__ 9 = (.pointer (some ⟨db39, 0, none⟩)) ∧ r__ 10 = (.pointer (some ⟨ab48, 0, none⟩)) ∧ r__ 11 = (.slice p75 (64 * n).toNat c76) ∧ r__ 12 = (.int .i64 (i : Int)) ∧ r__ 13 = (.pointer (some ⟨b95, 0, none⟩)) ∧ r__ 14 = (S x93.data.flatten) ∧ r__ 15 = (.bool pl) ∧ r__ 40 = (.bool false) ∧ r__ 69 = (.bool (decide (k - n < fr))) ∧ r__ 81 = (.bool (!(decide (Lib.trimB (getP (List.replicate k.toNat blankS) ([] : List (Int × Bs)) (allP fr (n * 64) (0 % (n * 64)) (n * 64))) 0 = [])))) ∧ r__ 88 = (.bool (decide ((i : Int) < ((l.length : Nat) : Int))))
                        have hJ107 : ∀ r w, J106 r w → K104 (Go.Q.fr 275 r) w := by
                          rintro r110 w108 ⟨pl, hH109, hpl, e105_0, e105_1, e105_2, e105_3, e105_9, e105_10, e105_11, e105_12, e105_13, e105_14, e105_15, e105_40, e105_69, e105_81, e105_88⟩
                          refine hK104 _ _ ?_
                          refine wp_seq_k fun K111 hK111 => ?_
                          let J113 : (Nat → Value) → World → Prop := fun r__ w__ => ∃ (p4 : Pw) (la4 : List Bs) (lo4 : List (Int × Bs)) (sg4 : List Hp) (now4 : Bs) (sn4 : List Hp), Has E w__ [sg4, sn4, [Hp.one pb40 (.cells #[(.bool p4.off), (.bool p4.armed), (.int .i64 p4.left), (.int .i64 p4.uses)] 104 (0, 0))], [Hp.one b95 (.cells #[(.int .i64 x93.kind), (.int .i64 x93.at_), (.int .i64 x93.size), x93.dv, x93.kv] 58 (0, 0))], [Hp.one ab48 (.cells #[(.pointer (some ⟨db39, 0, none⟩)), (.int .i64 fr), (.int .i64 n)] 65 (0, 0))], R] ∧ (DevAt pb40 sg4 db39 la4 lo4) ∧ (Own 5 1 (.slice p75 (64 * n).toNat c76) now4.length (now4.map bV) sn4) ∧ (Calm p4 (100 + i * 2100 + 2100)) ∧ (la4.length = k.toNat) ∧ (Full64 la4) ∧ (LoOk lo4 la4.length) ∧ (Cn now4 la4 lo4 fr.toNat n.toNat) ∧ (∀ j : Nat, ((j : Int) < fr ∨ fr + n ≤ (j : Int)) → j < k.toNat → nowAt la4 lo4 j = blankS) ∧ r__ 0 = (.int .i64 k) ∧ r__ 1 = (.int .i64 fr) ∧ r__ 2 = (.int .i64 n) ∧ r__ 3 = v ∧ r__ 9 = (.pointer (some ⟨db39, 0, none⟩)) ∧ r__ 10 = (.pointer (some ⟨ab48, 0, none⟩)) ∧ r__ 11 = (.slice p75 (64 * n).toNat c76) ∧ r__ 12 = (.int .i64 (i : Int)) ∧ r__ 13 = (.pointer (some ⟨b95, 0, none⟩)) ∧ r__ 14 = (S x93.data.flatten) ∧ r__ 15 = (.bool pl) ∧ r__ 40 = (.bool false) ∧ r__ 69 = (.bool (decide (k - n < fr))) ∧ r__ 81 = (.bool (!(decide (Lib.trimB (getP (List.replicate k.toNat blankS) ([] : List (Int × Bs)) (allP fr (n * 64) (0 % (n * 64)) (n * 64))) 0 = [])))) ∧ r__ 88 = (.bool (decide ((i : Int) < ((l.length : Nat) : Int))))
                          have hJ114 : ∀ r w, J113 r w → K111 (Go.Q.fr 275 r) w := by
                            rintro r117 w115 ⟨p4, la4, lo4, sg4, now4, sn4, hH116, hd4, hn4, hp4, hl4, h644, hlo4, hcn4, hou4, e112_0, e112_1, e112_2, e112_3, e112_9, e112_10, e112_11, e112_12, e112_13, e112_14, e112_15, e112_40, e112_69, e112_81, e112_88⟩
                            refine hK111 _ _ ?_
                            refine wp_seq_k fun K118 hK118 => ?_
                            refine c_region ?_
                            refine s_op (o_move (v := (.pointer (some ⟨ab48, 0, none⟩))) e112_10 ?_)
                            refine s_op (o_move (v := (.int .i64 n)) e112_2 ?_)
                            refine s_op (o_mul (a := 64) (b := n) rfl rfl (w64 (by omega) (by omega)) ?_)
                            refine s_op (o_callf (vs := #[(.pointer (some ⟨ab48, 0, none⟩)), (.int .i64 0), (.int .i64 (64 * n))]) ca32 rfl (args3 rfl rfl rfl) (aget_c (((hH116.front 4 rfl).front 3 rfl).front 2 rfl).all3 hd4 hp4 (by omega) h644 hlo4 hfr hn (by rw [hl4]; omega) (by rw [hl4]; omega) (at_ := 0) ⟨by omega, by omega⟩ (size := 64 * n) ⟨by omega, by omega⟩) ?_)
                            rintro _ w121 ⟨rfl, hX119⟩
                            refine ⟨_, rfl, ?_⟩
                            have hH120 : Has E w121 [sg4, [Hp.one pb40 (.cells #[(.bool p4.off), (.bool p4.armed), (.int .i64 p4.left), (.int .i64 p4.uses)] 104 (0, 0))], [Hp.one ab48 (.cells #[(.pointer (some ⟨db39, 0, none⟩)), (.int .i64 fr), (.int .i64 n)] 65 (0, 0))], sn4, [Hp.one b95 (.cells #[(.int .i64 x93.kind), (.int .i64 x93.at_), (.int .i64 x93.size), x93.dv, x93.kv] 58 (0, 0))], R] := hX119.of_all3
                            refine s_op (o_move (v := (.tuple #[(S (getP la4 lo4 (allP fr (n * 64) (0 % (n * 64)) (64 * n)))), (.int .i64 (0 : Int))])) rfl ?_)
                            refine s_op (o_extract (v := (S (getP la4 lo4 (allP fr (n * 64) (0 % (n * 64)) (64 * n))))) rfl rfl ?_)
                            refine s_op (o_extract (v := (.int .i64 (0 : Int))) rfl rfl ?_)
                            refine s_op (o_assign (v := (S (getP la4 lo4 (allP fr (n * 64) (0 % (n * 64)) (64 * n))))) rfl ?_)
                            refine s_op (o_assign (v := (.int .i64 (0 : Int))) rfl ?_)
                            refine s_nil ?_
                            refine t_norm (hK118 _ _ ?_)
                            refine wp_seq_k fun K122 hK122 => ?_
                            refine Rest.region mixed (by kernel_rfl) ?_
                            have hH123 : Has E { w121 with drawn := w121.drawn + 1 } [sg4, [Hp.one pb40 (.cells #[(.bool p4.off), (.bool p4.armed), (.int .i64 p4.left), (.int .i64 p4.uses)] 104 (0, 0))], [Hp.one ab48 (.cells #[(.pointer (some ⟨db39, 0, none⟩)), (.int .i64 fr), (.int .i64 n)] 65 (0, 0))], sn4, [Hp.one b95 (.cells #[(.int .i64 x93.kind), (.int .i64 x93.at_), (.int .i64 x93.size), x93.dv, x93.kv] 58 (0, 0))], R] := Has0.drew hH120 _
                            refine Rest.phaseA (fun w_ => Has E w_ [sn4]) 0 3 3 rfl (by decide) (by kernel_rfl) ?_
                            refine a_op 0 rfl (by kernel_rfl) (fun w_ h_ => o_move (v := (S (getP la4 lo4 (allP fr (n * 64) (0 % (n * 64)) (64 * n))))) rfl ⟨rfl, rfl⟩) ?_
                            refine a_op 1 rfl (by kernel_rfl) (fun w_ h_ => o_move (v := (.slice p75 (64 * n).toNat c76)) e112_11 ⟨rfl, rfl⟩) ?_
                            refine a_op 2 rfl (by kernel_rfl) (fun w_ h_ => o_bstr Tryd.underlying55 Tryd.underlying5 Tryd.underlying9 rfl hn4.sl h_ (seg_sub 0 rfl) ⟨rfl, rfl⟩) ?_
                            have hH124 : Has E { w121 with drawn := w121.drawn + 1 } [sn4] := (hH123.front 3 rfl).first 1 rfl
                            refine a_done (by kernel_rfl) hH124 ?_
                            refine r_op 3 rfl (by kernel_rfl) (o_sneq (a := (getP la4 lo4 (allP fr (n * 64) (0 % (n * 64)) (64 * n)))) (b := now4) rfl rfl ?_)
                            refine r_op 4 rfl (by kernel_rfl) (o_move (v := (.bool (decide ((getP la4 lo4 (allP fr (n * 64) (0 % (n * 64)) (64 * n))) ≠ now4)))) rfl ?_)
                            by_cases h125 : (getP la4 lo4 (allP fr (n * 64) (0 % (n * 64)) (64 * n))) ≠ now4
                            · -- (getP la4 lo4 (allP fr (n * 64) (0 % (n * 64)) (64 * n))) ≠ now4
                              exact absurd (show getP la4 lo4 (allP fr (n * 64) (0 % (n * 64)) (64 * n)) = now4 from by rw [show 64 * n = n * 64 by omega]; exact getP_all hcn4 (area_64 h644 hlo4 hfr hn (by rw [hl4]; omega)) hfr hn) h125
                            · -- not: (getP la4 lo4 (allP fr (n * 64) (0 % (n * 64)) (64 * n))) ≠ now4
                              refine r_on 5 rfl (by kernel_rfl) 232 rfl (congrArg Value.bool (decide_eq_false h125)) (o_move (v := (.int .i64 (0 : Int))) rfl ?_)
                              refine r_on 6 rfl (by kernel_rfl) 232 rfl (congrArg Value.bool (decide_eq_false h125)) (o_neq (a := (0 : Int)) (b := 0) rfl rfl ?_)
                              refine r_op 7 rfl (by kernel_rfl) (o_pick_f (u := (.bool (decide ((0 : Int) ≠ 0)))) ((rfl : _ = _).trans (congrArg Value.bool (decide_eq_false h125))) rfl ?_)
                              refine r_op 8 rfl (by kernel_rfl) (o_move (v := (.bool (decide ((0 : Int) ≠ 0)))) rfl ?_)
                              refine Rest.phaseA (fun w_ => Has E w_ [sn4]) 9 18 9 rfl (by decide) (by kernel_rfl) ?_
                              by_cases h126 : (0 : Int) ≠ 0
                              · -- (0 : Int) ≠ 0
                                exact absurd rfl h126
                              · -- not: (0 : Int) ≠ 0
                                refine a_on 9 rfl (by kernel_rfl) 236 rfl (congrArg Value.bool (decide_eq_false h126)) (fun w_ h_ => o_move (v := (.pointer (some ⟨ab48, 0, none⟩))) e112_10 ⟨rfl, rfl⟩) ?_
                                refine a_on 11 rfl (by kernel_rfl) 236 rfl (congrArg Value.bool (decide_eq_false h126)) (fun w_ h_ => o_move (v := (.slice p75 (64 * n).toNat c76)) e112_11 ⟨rfl, rfl⟩) ?_
                                refine a_on 12 rfl (by kernel_rfl) 236 rfl (congrArg Value.bool (decide_eq_false h126)) (fun w_ h_ => o_bstr Tryd.underlying55 Tryd.underlying5 Tryd.underlying9 rfl hn4.sl h_ (seg_sub 0 rfl) ⟨rfl, rfl⟩) ?_
                                refine a_on 13 rfl (by kernel_rfl) 236 rfl (congrArg Value.bool (decide_eq_false h126)) (fun w_ h_ => o_move (v := (.int .i64 n)) e112_2 ⟨rfl, rfl⟩) ?_
                                refine a_on 14 rfl (by kernel_rfl) 236 rfl (congrArg Value.bool (decide_eq_false h126)) (fun w_ h_ => o_mul (a := 64) (b := n) rfl rfl (w64 (by omega) (by omega)) ⟨rfl, rfl⟩) ?_
                                have hH127 : Has E { w121 with drawn := w121.drawn + 1 } [sn4] := (hH123.front 3 rfl).first 1 rfl
                                refine a_two 10 15 (by kernel_rfl) hH127 ?_ ?_
                                · -- first operation 10
                                  have hH128 : Has E { w121 with drawn := w121.drawn + 1 } [sn4] := (hH123.front 3 rfl).first 1 rfl
                                  refine ok_won 10 rfl 236 rfl (congrArg Value.bool (decide_eq_false h126)) (o_callf (vs := #[(.pointer (some ⟨ab48, 0, none⟩))]) ca29 rfl (args1 rfl) (ablank_c (((hH123.front 2 rfl).front 2 rfl).front 2 rfl).all3 hd4 hp4 (by omega) h644 hlo4 hfr hn (by rw [hl4]; omega) (by rw [hl4]; omega)) ?_)
                                  rintro _ w131 ⟨rfl, hX129⟩
                                  refine ⟨_, rfl, ?_⟩
                                  have hH130 : Has E w131 [sg4, [Hp.one pb40 (.cells #[(.bool p4.off), (.bool p4.armed), (.int .i64 p4.left), (.int .i64 p4.uses)] 104 (0, 0))], [Hp.one ab48 (.cells #[(.pointer (some ⟨db39, 0, none⟩)), (.int .i64 fr), (.int .i64 n)] 65 (0, 0))], sn4, [Hp.one b95 (.cells #[(.int .i64 x93.kind), (.int .i64 x93.at_), (.int .i64 x93.size), x93.dv, x93.kv] 58 (0, 0))], R] := hX129.of_all3
                                  have hH132 : Has E w131 [sn4] := (hH130.front 3 rfl).first 1 rfl
                                  refine a_won 15 rfl (by kernel_rfl) hH132 236 rfl (congrArg Value.bool (decide_eq_false h126)) (o_make Tryd.underlying55 ti5 rfl rfl (by omega) (by omega) (by omega) (by omega) hH130 fun v133 s134 w136 ho135 hH137 => ?_)
                                  have ho138 : Own 5 1 v133 (List.replicate (64 * n).toNat (0 : UInt8)).length ((List.replicate (64 * n).toNat (0 : UInt8)).map bV) s134 := by rw [List.length_replicate, List.map_replicate, ← made_rep]; exact ho135
                                  obtain ⟨p139, c140, rfl⟩ := (Own.sl ho135).form
                                  have hH141 : Has E w136 [sn4] := (hH137.front 4 rfl).first 1 rfl
                                  refine a_won 16 rfl (by kernel_rfl) hH141 236 rfl (congrArg Value.bool (decide_eq_false h126)) (o_bstr Tryd.underlying55 Tryd.underlying5 Tryd.underlying9 rfl ho138.sl hH137 (seg_sub 0 rfl) ?_)
                                  refine a_on 17 rfl (by kernel_rfl) 236 rfl (congrArg Value.bool (decide_eq_false h126)) (fun w_ h_ => o_seql (a := now4) (b := (List.replicate (64 * n).toNat (0 : UInt8))) rfl rfl ⟨rfl, rfl⟩) ?_
                                  have hH142 : Has E w136 [sn4] := (hH137.front 4 rfl).first 1 rfl
                                  refine a_done (by kernel_rfl) hH142 ?_
                                  refine r_on 18 rfl (by kernel_rfl) 236 rfl (congrArg Value.bool (decide_eq_false h126)) (o_neqb Tryd.underlying4 rfl rfl ?_)
                                  refine r_op 19 rfl (by kernel_rfl) (o_pick_f (u := (.bool (!((decide (Lib.trimB (getP la4 lo4 (allP fr (n * 64) (0 % (n * 64)) (n * 64))) 0 = [])) == (decide (now4 = (List.replicate (64 * n).toNat (0 : UInt8)))))))) ((rfl : _ = _).trans (congrArg Value.bool (decide_eq_false h126))) rfl ?_)
                                  refine Rest.done (by kernel_rfl) ?_
                                  refine t_norm (hK122 _ _ ?_)
                                  refine c_condb rfl (fun h143 => ?_) (fun h143 => ?_)
                                  · -- !((decide (Lib.trimB (getP la4 lo4 (allP fr (n * 64) (0 % (n * 64)) (n * 64))) 0 = [])) == (decide (now4 = (List.replicate (64 * n).toNat (0 : UInt8)))))
                                    exact absurd h143 (by rw [getP_all hcn4 (area_64 h644 hlo4 hfr hn (by rw [hl4]; omega)) hfr hn, show decide (Lib.trimB now4 0 = []) = decide (now4 = List.replicate (64 * n).toNat (0 : UInt8)) from decide_eq_decide.2 (by rw [trim_zero, hcn4.1, show n.toNat * 64 = (64 * n).toNat by omega])]; simp)
                                  · -- not: !((decide (Lib.trimB (getP la4 lo4 (allP fr (n * 64) (0 % (n * 64)) (n * 64))) 0 = [])) == (decide (now4 = (List.replicate (64 * n).toNat (0 : UInt8)))))
                                    refine wp_skip ?_
                                    refine b_norm ?_
                                    refine t_norm (hK88 _ _ ?_)
                                    refine c_region ?_
                                    refine s_op (o_move (v := (.int .i64 (i : Int))) e112_12 ?_)
                                    refine s_op (o_add (a := (i : Int)) (b := 1) rfl rfl (w64 (by omega) (by omega)) ?_)
                                    refine s_op (o_assign (v := (.int .i64 ((i : Int) + 1))) rfl ?_)
                                    refine s_nil ?_
                                    have hH144 : Has E w136 [sg4, sn4, [Hp.one pb40 (.cells #[(.bool p4.off), (.bool p4.armed), (.int .i64 p4.left), (.int .i64 p4.uses)] 104 (0, 0))], [Hp.one ab48 (.cells #[(.pointer (some ⟨db39, 0, none⟩)), (.int .i64 fr), (.int .i64 n)] 65 (0, 0))], R] := (((((hH137.front 6 rfl).front 4 rfl).front 4 rfl).front 5 rfl).front 5 rfl).first 5 rfl
                                    refine t_norm ⟨l.length - (i + 1), _, rfl, ?_, ?_⟩
                                    · omega
                                    · exact ⟨(i + 1), p4, la4, lo4, sg4, now4, sn4, rfl, hH144, (by omega), (hd4), (hn4), (hp4.mono (by omega)), (hl4), (h644), (hlo4), (hcn4), (hou4), e112_0, e112_1, e112_2, e112_3, e112_9, e112_10, e112_11, rfl, e112_40, e112_69, e112_81⟩
                                · -- first operation 15
                                  have hH145 : Has E { w121 with drawn := w121.drawn + 1 } [sn4] := (hH123.front 3 rfl).first 1 rfl
                                  refine ok_won 15 rfl 236 rfl (congrArg Value.bool (decide_eq_false h126)) (o_make Tryd.underlying55 ti5 rfl rfl (by omega) (by omega) (by omega) (by omega) hH123 fun v146 s147 w149 ho148 hH150 => ?_)
                                  have ho151 : Own 5 1 v146 (List.replicate (64 * n).toNat (0 : UInt8)).length ((List.replicate (64 * n).toNat (0 : UInt8)).map bV) s147 := by rw [List.length_replicate, List.map_replicate, ← made_rep]; exact ho148
                                  obtain ⟨p152, c153, rfl⟩ := (Own.sl ho148).form
                                  have hH154 : Has E w149 [sn4] := (hH150.front 4 rfl).first 1 rfl
                                  refine a_two 10 16 (by kernel_rfl) hH154 ?_ ?_
                                  · -- first operation 10
                                    have hH155 : Has E w149 [sn4] := (hH150.front 4 rfl).first 1 rfl
                                    refine ok_won 10 rfl 236 rfl (congrArg Value.bool (decide_eq_false h126)) (o_callf (vs := #[(.pointer (some ⟨ab48, 0, none⟩))]) ca29 rfl (args1 rfl) (ablank_c (((hH150.front 3 rfl).front 3 rfl).front 3 rfl).all3 hd4 hp4 (by omega) h644 hlo4 hfr hn (by rw [hl4]; omega) (by rw [hl4]; omega)) ?_)
                                    rintro _ w158 ⟨rfl, hX156⟩
                                    refine ⟨_, rfl, ?_⟩
                                    have hH157 : Has E w158 [sg4, [Hp.one pb40 (.cells #[(.bool p4.off), (.bool p4.armed), (.int .i64 p4.left), (.int .i64 p4.uses)] 104 (0, 0))], [Hp.one ab48 (.cells #[(.pointer (some ⟨db39, 0, none⟩)), (.int .i64 fr), (.int .i64 n)] 65 (0, 0))], s147, sn4, [Hp.one b95 (.cells #[(.int .i64 x93.kind), (.int .i64 x93.at_), (.int .i64 x93.size), x93.dv, x93.kv] 58 (0, 0))], R] := hX156.of_all3
                                    have hH159 : Has E w158 [sn4] := (hH157.front 4 rfl).first 1 rfl
                                    refine a_won 16 rfl (by kernel_rfl) hH159 236 rfl (congrArg Value.bool (decide_eq_false h126)) (o_bstr Tryd.underlying55 Tryd.underlying5 Tryd.underlying9 rfl ho151.sl hH157 (seg_sub 3 rfl) ?_)
                                    refine a_on 17 rfl (by kernel_rfl) 236 rfl (congrArg Value.bool (decide_eq_false h126)) (fun w_ h_ => o_seql (a := now4) (b := (List.replicate (64 * n).toNat (0 : UInt8))) rfl rfl ⟨rfl, rfl⟩) ?_
                                    have hH160 : Has E w158 [sn4] := (hH157.front 4 rfl).first 1 rfl
                                    refine a_done (by kernel_rfl) hH160 ?_
                                    refine r_on 18 rfl (by kernel_rfl) 236 rfl (congrArg Value.bool (decide_eq_false h126)) (o_neqb Tryd.underlying4 rfl rfl ?_)
                                    refine r_op 19 rfl (by kernel_rfl) (o_pick_f (u := (.bool (!((decide (Lib.trimB (getP la4 lo4 (allP fr (n * 64) (0 % (n * 64)) (n * 64))) 0 = [])) == (decide (now4 = (List.replicate (64 * n).toNat (0 : UInt8)))))))) ((rfl : _ = _).trans (congrArg Value.bool (decide_eq_false h126))) rfl ?_)
                                    refine Rest.done (by kernel_rfl) ?_
                                    refine t_norm (hK122 _ _ ?_)
                                    refine c_condb rfl (fun h161 => ?_) (fun h161 => ?_)
                                    · -- !((decide (Lib.trimB (getP la4 lo4 (allP fr (n * 64) (0 % (n * 64)) (n * 64))) 0 = [])) == (decide (now4 = (List.replicate (64 * n).toNat (0 : UInt8)))))
                                      exact absurd h161 (by rw [getP_all hcn4 (area_64 h644 hlo4 hfr hn (by rw [hl4]; omega)) hfr hn, show decide (Lib.trimB now4 0 = []) = decide (now4 = List.replicate (64 * n).toNat (0 : UInt8)) from decide_eq_decide.2 (by rw [trim_zero, hcn4.1, show n.toNat * 64 = (64 * n).toNat by omega])]; simp)
                                    · -- not: !((decide (Lib.trimB (getP la4 lo4 (allP fr (n * 64) (0 % (n * 64)) (n * 64))) 0 = [])) == (decide (now4 = (List.replicate (64 * n).toNat (0 : UInt8)))))
                                      refine wp_skip ?_
                                      refine b_norm ?_
                                      refine t_norm (hK88 _ _ ?_)
                                      refine c_region ?_
                                      refine s_op (o_move (v := (.int .i64 (i : Int))) e112_12 ?_)
                                      refine s_op (o_add (a := (i : Int)) (b := 1) rfl rfl (w64 (by omega) (by omega)) ?_)
                                      refine s_op (o_assign (v := (.int .i64 ((i : Int) + 1))) rfl ?_)
                                      refine s_nil ?_
                                      have hH162 : Has E w158 [sg4, sn4, [Hp.one pb40 (.cells #[(.bool p4.off), (.bool p4.armed), (.int .i64 p4.left), (.int .i64 p4.uses)] 104 (0, 0))], [Hp.one ab48 (.cells #[(.pointer (some ⟨db39, 0, none⟩)), (.int .i64 fr), (.int .i64 n)] 65 (0, 0))], R] := (((((hH157.front 6 rfl).front 3 rfl).front 3 rfl).front 5 rfl).front 4 rfl).first 5 rfl
                                      refine t_norm ⟨l.length - (i + 1), _, rfl, ?_, ?_⟩
                                      · omega
                                      · exact ⟨(i + 1), p4, la4, lo4, sg4, now4, sn4, rfl, hH162, (by omega), (hd4), (hn4), (hp4.mono (by omega)), (hl4), (h644), (hlo4), (hcn4), (hou4), e112_0, e112_1, e112_2, e112_3, e112_9, e112_10, e112_11, rfl, e112_40, e112_69, e112_81⟩
                                  · -- first operation 16
                                    have hH163 : Has E w149 [sn4] := (hH150.front 4 rfl).first 1 rfl
                                    refine ok_won 16 rfl 236 rfl (congrArg Value.bool (decide_eq_false h126)) (o_bstr Tryd.underlying55 Tryd.underlying5 Tryd.underlying9 rfl ho151.sl hH150 (seg_sub 0 rfl) ?_)
                                    refine a_on 17 rfl (by kernel_rfl) 236 rfl (congrArg Value.bool (decide_eq_false h126)) (fun w_ h_ => o_seql (a := now4) (b := (List.replicate (64 * n).toNat (0 : UInt8))) rfl rfl ⟨rfl, rfl⟩) ?_
                                    have hH164 : Has E w149 [sn4] := (hH150.front 4 rfl).first 1 rfl
                                    refine a_won 10 rfl (by kernel_rfl) hH164 236 rfl (congrArg Value.bool (decide_eq_false h126)) (o_callf (vs := #[(.pointer (some ⟨ab48, 0, none⟩))]) ca29 rfl (args1 rfl) (ablank_c (((hH150.front 3 rfl).front 3 rfl).front 3 rfl).all3 hd4 hp4 (by omega) h644 hlo4 hfr hn (by rw [hl4]; omega) (by rw [hl4]; omega)) ?_)
                                    rintro _ w167 ⟨rfl, hX165⟩
                                    refine ⟨_, rfl, ?_⟩
                                    have hH166 : Has E w167 [sg4, [Hp.one pb40 (.cells #[(.bool p4.off), (.bool p4.armed), (.int .i64 p4.left), (.int .i64 p4.uses)] 104 (0, 0))], [Hp.one ab48 (.cells #[(.pointer (some ⟨db39, 0, none⟩)), (.int .i64 fr), (.int .i64 n)] 65 (0, 0))], s147, sn4, [Hp.one b95 (.cells #[(.int .i64 x93.kind), (.int .i64 x93.at_), (.int .i64 x93.size), x93.dv, x93.kv] 58 (0, 0))], R] := hX165.of_all3
                                    have hH168 : Has E w167 [sn4] := (hH166.front 4 rfl).first 1 rfl
                                    refine a_done (by kernel_rfl) hH168 ?_
                                    refine r_on 18 rfl (by kernel_rfl) 236 rfl (congrArg Value.bool (decide_eq_false h126)) (o_neqb Tryd.underlying4 rfl rfl ?_)
                                    refine r_op 19 rfl (by kernel_rfl) (o_pick_f (u := (.bool (!((decide (Lib.trimB (getP la4 lo4 (allP fr (n * 64) (0 % (n * 64)) (n * 64))) 0 = [])) == (decide (now4 = (List.replicate (64 * n).toNat (0 : UInt8)))))))) ((rfl : _ = _).trans (congrArg Value.bool (decide_eq_false h126))) rfl ?_)
                                    refine Rest.done (by kernel_rfl) ?_
                                    refine t_norm (hK122 _ _ ?_)
                                    refine c_condb rfl (fun h169 => ?_) (fun h169 => ?_)
                                    · -- !((decide (Lib.trimB (getP la4 lo4 (allP fr (n * 64) (0 % (n * 64)) (n * 64))) 0 = [])) == (decide (now4 = (List.replicate (64 * n).toNat (0 : UInt8)))))
                                      exact absurd h169 (by rw [getP_all hcn4 (area_64 h644 hlo4 hfr hn (by rw [hl4]; omega)) hfr hn, show decide (Lib.trimB now4 0 = []) = decide (now4 = List.replicate (64 * n).toNat (0 : UInt8)) from decide_eq_decide.2 (by rw [trim_zero, hcn4.1, show n.toNat * 64 = (64 * n).toNat by omega])]; simp)
                                    · -- not: !((decide (Lib.trimB (getP la4 lo4 (allP fr (n * 64) (0 % (n * 64)) (n * 64))) 0 = [])) == (decide (now4 = (List.replicate (64 * n).toNat (0 : UInt8)))))
                                      refine wp_skip ?_
                                      refine b_norm ?_
                                      refine t_norm (hK88 _ _ ?_)
                                      refine c_region ?_
                                      refine s_op (o_move (v := (.int .i64 (i : Int))) e112_12 ?_)
                                      refine s_op (o_add (a := (i : Int)) (b := 1) rfl rfl (w64 (by omega) (by omega)) ?_)
                                      refine s_op (o_assign (v := (.int .i64 ((i : Int) + 1))) rfl ?_)
                                      refine s_nil ?_
                                      have hH170 : Has E w167 [sg4, sn4, [Hp.one pb40 (.cells #[(.bool p4.off), (.bool p4.armed), (.int .i64 p4.left), (.int .i64 p4.uses)] 104 (0, 0))], [Hp.one ab48 (.cells #[(.pointer (some ⟨db39, 0, none⟩)), (.int .i64 fr), (.int .i64 n)] 65 (0, 0))], R] := (((((hH166.front 6 rfl).front 3 rfl).front 3 rfl).front 5 rfl).front 4 rfl).first 5 rfl
                                      refine t_norm ⟨l.length - (i + 1), _, rfl, ?_, ?_⟩
                                      · omega
                                      · exact ⟨(i + 1), p4, la4, lo4, sg4, now4, sn4, rfl, hH170, (by omega), (hd4), (hn4), (hp4.mono (by omega)), (hl4), (h644), (hlo4), (hcn4), (hou4), e112_0, e112_1, e112_2, e112_3, e112_9, e112_10, e112_11, rfl, e112_40, e112_69, e112_81⟩
                          refine wp_seq_k fun K171 hK171 => ?_
                          refine c_region ?_
                          refine s_op (o_fieldAddr (k := 0) (fun _ => by kernel_rfl) e105_13 ?_)
                          refine s_op (o_load1 (v := (.int .i64 x93.kind)) Tryd.underlying3 rfl rfl hH109 (seg_sub 0 rfl) (CellsAt.one rfl) ?_)
                          refine s_nil ?_
                          refine t_norm (hK171 _ _ ?_)
                          refine wp_block ?_
                          refine wp_seq_k fun K172 hK172 => ?_
                          refine c_region ?_
                          refine s_op (o_eql (a := x93.kind) (b := 0) rfl rfl ?_)
                          refine s_op (o_assign (v := (.bool (decide (x93.kind = 0)))) rfl ?_)
                          refine s_nil ?_
                          refine t_norm (hK172 _ _ ?_)
                          refine c_cond rfl (fun h173 => ?_) (fun h173 => ?_)
                          · -- x93.kind = 0
                            refine wp_seq_k fun K174 hK174 => ?_
                            refine c_region ?_
                            refine s_op (o_assign (v := (.int .i64 0)) rfl ?_)
                            refine s_nil ?_
                            refine t_norm (hK174 _ _ ?_)
                            refine wp_seq_k fun K175 hK175 => ?_
                            let J177 : (Nat → Value) → World → Prop := fun r__ w__ => ∃ (wt : Int), Has E w__ [[Hp.one b95 (.cells #[(.int .i64 x93.kind), (.int .i64 x93.at_), (.int .i64 x93.size), x93.dv, x93.kv] 58 (0, 0))], sg3, sn3, [Hp.one pb40 (.cells #[(.bool p3.off), (.bool p3.armed), (.int .i64 p3.left), (.int .i64 p3.uses)] 104 (0, 0))], [Hp.one ab48 (.cells #[(.pointer (some ⟨db39, 0, none⟩)), (.int .i64 fr), (.int .i64 n)] 65 (0, 0))], R] ∧ (wt = if 0 ≤ x93.at_ ∧ x93.at_ ≤ 4611686018427387904 ∧ (x93.data.flatten.length : Int) ≤ n * 64 then 0 else 1) ∧ r__ 0 = (.int .i64 k) ∧ r__ 1 = (.int .i64 fr) ∧ r__ 2 = (.int .i64 n) ∧ r__ 3 = v ∧ r__ 9 = (.pointer (some ⟨db39, 0, none⟩)) ∧ r__ 10 = (.pointer (some ⟨ab48, 0, none⟩)) ∧ r__ 11 = (.slice p75 (64 * n).toNat c76) ∧ r__ 12 = (.int .i64 (i : Int)) ∧ r__ 13 = (.pointer (some ⟨b95, 0, none⟩)) ∧ r__ 14 = (S x93.data.flatten) ∧ r__ 15 = (.bool pl) ∧ r__ 16 = (.int .i64 wt) ∧ r__ 40 = (.bool false) ∧ r__ 69 = (.bool (decide (k - n < fr))) ∧ r__ 81 = (.bool (!(decide (Lib.trimB (getP (List.replicate k.toNat blankS) ([] : List (Int × Bs)) (allP fr (n * 64) (0 % (n * 64)) (n * 64))) 0 = [])))) ∧ r__ 88 = (.bool (decide ((i : Int) < ((l.length : Nat) : Int)))) ∧ r__ 107 = (.int .i64 x93.kind) ∧ r__ 108 = (.bool (decide (x93.kind = 0)))
                            have hJ178 : ∀ r w, J177 r w → K175 (Go.Q.fr 275 r) w := by
                              rintro r181 w179 ⟨wt, hH180, hwt, e176_0, e176_1, e176_2, e176_3, e176_9, e176_10, e176_11, e176_12, e176_13, e176_14, e176_15, e176_16, e176_40, e176_69, e176_81, e176_88, e176_107, e176_108⟩
                              refine hK175 _ _ ?_
                              refine wp_seq_k fun K182 hK182 => ?_
                              refine wp_seq_k fun K183 hK183 => ?_
                              refine c_region ?_
                              refine s_op (o_assign (v := (.int .i64 0)) rfl ?_)
                              refine s_nil ?_
                              refine t_norm (hK183 _ _ ?_)
                              refine wp_block ?_
                              obtain ⟨hfa_, hfb_, hfc_⟩ := hfine.2 _ (List.mem_of_getElem? hx94)
                              let I185 : Nat → (Nat → Value) → World → Prop := fun n__ r__ w__ => ∃ (kk : Nat) (nb : Bs) (sb : List Hp), n__ = x93.data.flatten.length - kk ∧ Has E w__ [sb, [Hp.one b95 (.cells #[(.int .i64 x93.kind), (.int .i64 x93.at_), (.int .i64 x93.size), x93.dv, x93.kv] 58 (0, 0))], sg3, [Hp.one pb40 (.cells #[(.bool p3.off), (.bool p3.armed), (.int .i64 p3.left), (.int .i64 p3.uses)] 104 (0, 0))], [Hp.one ab48 (.cells #[(.pointer (some ⟨db39, 0, none⟩)), (.int .i64 fr), (.int .i64 n)] 65 (0, 0))], R] ∧ (kk ≤ x93.data.flatten.length) ∧ (Own 5 1 (.slice p75 (64 * n).toNat c76) nb.length (nb.map bV) sb) ∧ (nb.length = n.toNat * 64) ∧ (nb = if wt = 0 then wrR now3 (x93.at_ % (n * 64)).toNat (n.toNat * 64) x93.data.flatten kk else now3) ∧ r__ 0 = (.int .i64 k) ∧ r__ 1 = (.int .i64 fr) ∧ r__ 2 = (.int .i64 n) ∧ r__ 3 = v ∧ r__ 9 = (.pointer (some ⟨db39, 0, none⟩)) ∧ r__ 10 = (.pointer (some ⟨ab48, 0, none⟩)) ∧ r__ 11 = (.slice p75 (64 * n).toNat c76) ∧ r__ 12 = (.int .i64 (i : Int)) ∧ r__ 13 = (.pointer (some ⟨b95, 0, none⟩)) ∧ r__ 14 = (S x93.data.flatten) ∧ r__ 15 = (.bool pl) ∧ r__ 16 = (.int .i64 wt) ∧ r__ 17 = (.int .i64 (kk : Int)) ∧ r__ 40 = (.bool false) ∧ r__ 69 = (.bool (decide (k - n < fr))) ∧ r__ 81 = (.bool (!(decide (Lib.trimB (getP (List.replicate k.toNat blankS) ([] : List (Int × Bs)) (allP fr (n * 64) (0 % (n * 64)) (n * 64))) 0 = [])))) ∧ r__ 88 = (.bool (decide ((i : Int) < ((l.length : Nat) : Int)))) ∧ r__ 107 = (.int .i64 x93.kind) ∧ r__ 108 = (.bool (decide (x93.kind = 0)))
                              have hH186 : Has E w179 [sn3, [Hp.one b95 (.cells #[(.int .i64 x93.kind), (.int .i64 x93.at_), (.int .i64 x93.size), x93.dv, x93.kv] 58 (0, 0))], sg3, [Hp.one pb40 (.cells #[(.bool p3.off), (.bool p3.armed), (.int .i64 p3.left), (.int .i64 p3.uses)] 104 (0, 0))], [Hp.one ab48 (.cells #[(.pointer (some ⟨db39, 0, none⟩)), (.int .i64 fr), (.int .i64 n)] 65 (0, 0))], R] := Has.pick hH180 [2, 0, 0, 0, 0, 0] (by kernel_rfl)
                              refine c_loop I185 _ ⟨0, now3, sn3, rfl, hH186, Nat.zero_le _, hn3, hcn3.1, (by split <;> rfl), e176_0, e176_1, e176_2, e176_3, e176_9, e176_10, e176_11, e176_12, e176_13, e176_14, e176_15, e176_16, rfl, e176_40, e176_69, e176_81, e176_88, e176_107, e176_108⟩ ?_
                              rintro n_ r189 w187 ⟨kk, nb, sb, rfl, hH188, hkk, hnb, hnl, hw0, e184_0, e184_1, e184_2, e184_3, e184_9, e184_10, e184_11, e184_12, e184_13, e184_14, e184_15, e184_16, e184_17, e184_40, e184_69, e184_81, e184_88, e184_107, e184_108⟩
                              refine wp_seq_k fun K190 hK190 => ?_
                              refine wp_seq_k fun K191 hK191 => ?_
                              refine c_region ?_
                              refine s_op (o_move (v := (.int .i64 (kk : Int))) e184_17 ?_)
                              refine s_op (o_move (v := (S x93.data.flatten)) e184_14 ?_)
                              refine s_op (o_slen Tryd.underlying9 rfl ?_)
                              refine s_op (o_lss (a := (kk : Int)) (b := (x93.data.flatten.length : Int)) rfl rfl ?_)
                              refine s_op (o_move (v := (.bool (decide ((kk : Int) < (x93.data.flatten.length : Int))))) rfl ?_)
                              by_cases h192 : (kk : Int) < (x93.data.flatten.length : Int)
                              · -- (kk : Int) < (x93.data.flatten.length : Int)
                                refine s_on 123 rfl (congrArg Value.bool (decide_eq_true h192)) (o_move (v := (.int .i64 wt)) e184_16 ?_)
                                refine s_on 123 rfl (congrArg Value.bool (decide_eq_true h192)) (o_eql (a := wt) (b := 0) rfl rfl ?_)
                                refine s_op (o_pick_t (u := (.bool (decide (wt = 0)))) ((rfl : _ = _).trans (congrArg Value.bool (decide_eq_true h192))) rfl ?_)
                                refine s_nil ?_
                                refine t_norm (hK191 _ _ ?_)
                                refine c_cond rfl (fun h193 => ?_) (fun h193 => ?_)
                                · -- wt = 0
                                  have hw00_ : wt = 0 := h193
                                  have hcd_ := hwt.symm.trans hw00_
                                  have hat_ : 0 ≤ x93.at_ := by (split at hcd_; rename_i g_; exact g_.1; cases hcd_)
                                  refine wp_skip ?_
                                  refine t_norm (hK190 _ _ ?_)
                                  refine wp_seq_k fun K194 hK194 => ?_
                                  refine wp_block ?_
                                  refine Rest.region mixed (by kernel_rfl) ?_
                                  have hH195 : Has E { w187 with drawn := w187.drawn + 1 } [sb, [Hp.one b95 (.cells #[(.int .i64 x93.kind), (.int .i64 x93.at_), (.int .i64 x93.size), x93.dv, x93.kv] 58 (0, 0))], sg3, [Hp.one pb40 (.cells #[(.bool p3.off), (.bool p3.armed), (.int .i64 p3.left), (.int .i64 p3.uses)] 104 (0, 0))], [Hp.one ab48 (.cells #[(.pointer (some ⟨db39, 0, none⟩)), (.int .i64 fr), (.int .i64 n)] 65 (0, 0))], R] := Has0.drew hH188 _
                                  refine Rest.phaseA (fun w_ => Has E w_ [[Hp.one b95 (.cells #[(.int .i64 x93.kind), (.int .i64 x93.at_), (.int .i64 x93.size), x93.dv, x93.kv] 58 (0, 0))]]) 0 14 14 rfl (by decide) (by kernel_rfl) ?_
                                  refine a_op 0 rfl (by kernel_rfl) (fun w_ h_ => o_move (v := (.slice p75 (64 * n).toNat c76)) e184_11 ⟨rfl, rfl⟩) ?_
                                  refine a_op 1 rfl (by kernel_rfl) (fun w_ h_ => o_fieldAddr (k := 1) (fun _ => by kernel_rfl) e184_13 ⟨rfl, rfl⟩) ?_
                                  refine a_op 2 rfl (by kernel_rfl) (fun w_ h_ => o_load1 (v := (.int .i64 x93.at_)) Tryd.underlying3 rfl rfl h_ (seg_sub 0 rfl) (CellsAt.one rfl) ⟨rfl, rfl⟩) ?_
                                  refine a_op 3 rfl (by kernel_rfl) (fun w_ h_ => o_move (v := (.int .i64 n)) e184_2 ⟨rfl, rfl⟩) ?_
                                  refine a_op 4 rfl (by kernel_rfl) (fun w_ h_ => o_mul (a := 64) (b := n) rfl rfl (w64 (by omega) (by omega)) ⟨rfl, rfl⟩) ?_
                                  have hm196 := emod_b x93.at_ (64 * n) (by omega)
                                  refine a_op 5 rfl (by kernel_rfl) (fun w_ h_ => o_rem (a := x93.at_) (b := 64 * n) (c := x93.at_ % (64 * n)) rfl rfl (by omega) ((Int.tmod_eq_emod_of_nonneg (by first | exact Int.natCast_nonneg _ | omega))) ⟨rfl, rfl⟩) ?_
                                  refine a_op 6 rfl (by kernel_rfl) (fun w_ h_ => o_move (v := (.int .i64 (kk : Int))) e184_17 ⟨rfl, rfl⟩) ?_
                                  refine a_op 7 rfl (by kernel_rfl) (fun w_ h_ => o_add (a := x93.at_ % (64 * n)) (b := (kk : Int)) rfl rfl (w64 (by omega) (by omega)) ⟨rfl, rfl⟩) ?_
                                  refine a_op 8 rfl (by kernel_rfl) (fun w_ h_ => o_move (v := (.int .i64 n)) e184_2 ⟨rfl, rfl⟩) ?_
                                  refine a_op 9 rfl (by kernel_rfl) (fun w_ h_ => o_mul (a := 64) (b := n) rfl rfl (w64 (by omega) (by omega)) ⟨rfl, rfl⟩) ?_
                                  have hm197 := emod_b ((x93.at_ % (64 * n)) + (kk : Int)) (64 * n) (by omega)
                                  refine a_op 10 rfl (by kernel_rfl) (fun w_ h_ => o_rem (a := (x93.at_ % (64 * n)) + (kk : Int)) (b := 64 * n) (c := ((x93.at_ % (64 * n)) + (kk : Int)) % (64 * n)) rfl rfl (by omega) ((Int.tmod_eq_emod_of_nonneg (by first | exact Int.natCast_nonneg _ | omega))) ⟨rfl, rfl⟩) ?_
                                  refine a_op 11 rfl (by kernel_rfl) (fun w_ h_ => o_move (v := (S x93.data.flatten)) e184_14 ⟨rfl, rfl⟩) ?_
                                  refine a_op 12 rfl (by kernel_rfl) (fun w_ h_ => o_move (v := (.int .i64 (kk : Int))) e184_17 ⟨rfl, rfl⟩) ?_
                                  obtain ⟨c198, hx199⟩ : ∃ x_, x93.data.flatten[((kk : Int)).toNat]? = some x_ := get_some (by omega)
                                  have c198_lt := c198.toNat_lt
                                  refine a_op 13 rfl (by kernel_rfl) (fun w_ h_ => o_sidx Tryd.underlying9 rfl rfl (by omega) hx199 ⟨rfl, rfl⟩) ?_
                                  have hH200 : Has E { w187 with drawn := w187.drawn + 1 } [[Hp.one b95 (.cells #[(.int .i64 x93.kind), (.int .i64 x93.at_), (.int .i64 x93.size), x93.dv, x93.kv] 58 (0, 0))]] := (hH195.front 1 rfl).first 1 rfl
                                  refine a_done (by kernel_rfl) hH200 ?_
                                  refine r_op 14 rfl (by kernel_rfl) (o_ownAddr Tryd.underlying55 ti5 rfl hnb rfl (by omega) (by first | omega | (simp only [List.length_append, List.length_cons, List.length_nil, List.length_set]; omega)) fun b201 ho202 => ?_)
                                  refine r_eff 15 rfl (by kernel_rfl) (o_ownStore (f := bV) (l := nb) (a := c198) ti5 rfl rfl rfl ho202 (by first | omega | (simp only [List.length_append, List.length_cons, List.length_nil, List.length_set]; omega)) hH195 fun s203 w204 ho205 hH206 => ?_)
                                  refine Rest.done (by kernel_rfl) ?_
                                  refine b_norm ?_
                                  refine t_norm (hK194 _ _ ?_)
                                  refine c_region ?_
                                  refine s_op (o_move (v := (.int .i64 (kk : Int))) e184_17 ?_)
                                  refine s_op (o_add (a := (kk : Int)) (b := 1) rfl rfl (w64 (by omega) (by omega)) ?_)
                                  refine s_op (o_assign (v := (.int .i64 ((kk : Int) + 1))) rfl ?_)
                                  refine s_nil ?_
                                  refine t_norm ⟨x93.data.flatten.length - (kk + 1), _, rfl, ?_, ?_⟩
                                  · omega
                                  · exact ⟨(kk + 1), (nb.set ((((x93.at_ % (64 * n)) + (kk : Int)) % (64 * n)).toNat) c198), s203, rfl, hH206, (by omega), (ho205), (by rw [List.length_set]; exact hnl), (by rw [if_pos hw00_] at hw0 ⊢; exact wr_step hw0 (idxN (by omega) hn) hx199), e184_0, e184_1, e184_2, e184_3, e184_9, e184_10, e184_11, e184_12, e184_13, e184_14, e184_15, e184_16, rfl, e184_40, e184_69, e184_81, e184_88, e184_107, e184_108⟩
                                · -- not: wt = 0
                                  refine wp_exit ?_
                                  refine t_exit (t_exit (x_in (?_)))
                                  refine t_norm (hK182 _ _ ?_)
                                  refine wp_seq_k fun K207 hK207 => ?_
                                  refine c_region ?_
                                  refine s_op (o_move (v := (.pointer (some ⟨ab48, 0, none⟩))) e184_10 ?_)
                                  refine s_op (o_fieldAddr (k := 1) (fun _ => by kernel_rfl) e184_13 ?_)
                                  refine s_op (o_load1 (v := (.int .i64 x93.at_)) Tryd.underlying3 rfl rfl hH188 (seg_sub 1 rfl) (CellsAt.one rfl) ?_)
                                  refine s_op (o_fieldAddr (k := 3) (fun _ => by kernel_rfl) e184_13 ?_)
                                  refine s_op (o_load1 (v := x93.dv) Tryd.underlying32 rfl rfl hH188 (seg_sub 1 rfl) (CellsAt.one rfl) ?_)
                                  by_cases hc208 : 0 ≤ x93.at_ ∧ x93.at_ ≤ 4611686018427387904 ∧ (x93.data.flatten.length : Int) ≤ n * 64
                                  · -- yes
                                    refine s_op (o_callf (vs := #[(.pointer (some ⟨ab48, 0, none⟩)), (.int .i64 x93.at_), x93.dv]) ca31 rfl (args3 rfl rfl rfl) (aset_yes (((hH188.front 4 rfl).front 4 rfl).front 4 rfl).all3 hd3 hp3 (by omega) h643 hlo3 hfr hn (by rw [hl3]; omega) (by rw [hl3]; omega) (at_ := x93.at_) (data := x93.data) ((hok x93 (List.mem_of_getElem? hx94)).1.mono (seg_sub 2 rfl)) (by omega) (by omega) ⟨hc208.1, hc208.2.1⟩ hc208.2.2) ?_)
                                    rintro _ w216 ⟨sg209, p210, rfl, hd211, hlo212, hp213, hX214⟩
                                    refine ⟨_, rfl, ?_⟩
                                    have hH215 : Has E w216 [sg209, [Hp.one pb40 (.cells #[(.bool p210.off), (.bool p210.armed), (.int .i64 p210.left), (.int .i64 p210.uses)] 104 (0, 0))], [Hp.one ab48 (.cells #[(.pointer (some ⟨db39, 0, none⟩)), (.int .i64 fr), (.int .i64 n)] 65 (0, 0))], sb, [Hp.one b95 (.cells #[(.int .i64 x93.kind), (.int .i64 x93.at_), (.int .i64 x93.size), x93.dv, x93.kv] 58 (0, 0))], R] := hX214.of_all3
                                    refine s_op (o_move (v := (.int .i64 wt)) e184_16 ?_)
                                    refine s_op (o_neq (a := (0 : Int)) (b := wt) rfl rfl ?_)
                                    refine s_nil ?_
                                    refine t_norm (hK207 _ _ ?_)
                                    refine c_cond rfl (fun h217 => ?_) (fun h217 => ?_)
                                    · -- (0 : Int) ≠ wt
                                      have hwy_ : wt = 0 := by rw [hwt, if_pos hc208]
                                      have hke_ : kk = x93.data.flatten.length := by omega
                                      exfalso; omega
                                    · -- not: (0 : Int) ≠ wt
                                      have hwy_ : wt = 0 := by rw [hwt, if_pos hc208]
                                      have hke_ : kk = x93.data.flatten.length := by omega
                                      refine wp_skip ?_
                                      refine b_norm ?_
                                      have hH218 : Has E w216 [sg209, sb, [Hp.one pb40 (.cells #[(.bool p210.off), (.bool p210.armed), (.int .i64 p210.left), (.int .i64 p210.uses)] 104 (0, 0))], [Hp.one b95 (.cells #[(.int .i64 x93.kind), (.int .i64 x93.at_), (.int .i64 x93.size), x93.dv, x93.kv] 58 (0, 0))], [Hp.one ab48 (.cells #[(.pointer (some ⟨db39, 0, none⟩)), (.int .i64 fr), (.int .i64 n)] 65 (0, 0))], R] := Has.pick hH215 [0, 2, 0, 1, 0, 0] (by kernel_rfl)
                                      refine t_norm (hJ114 _ _ ⟨p210, la3, (setP la3 (allP fr (n * 64) (x93.at_ % (n * 64)) (x93.data.flatten.length : Int)) lo3 x93.data.flatten), sg209, nb, sb, hH218, (hd211), (hnb), (hp213.mono (by omega)), (hl3), (h643), (hlo212), (by rw [hw0, if_pos hwy_, hke_]; exact setP_now hcn3 (area_64 h643 hlo3 hfr hn (by rw [hl3]; omega)) hfr hn ⟨Int.emod_nonneg _ (by omega), Int.emod_lt_of_pos _ (by omega)⟩), (fun j hj hk_ => by rw [setP_out hn ⟨Int.emod_nonneg _ (by omega), Int.emod_lt_of_pos _ (by omega)⟩ hj]; exact hou3 j hj hk_), e184_0, e184_1, e184_2, e184_3, e184_9, e184_10, e184_11, e184_12, e184_13, e184_14, e184_15, e184_40, e184_69, e184_81, e184_88⟩)
                                  · -- no
                                    refine s_op (o_callf (vs := #[(.pointer (some ⟨ab48, 0, none⟩)), (.int .i64 x93.at_), x93.dv]) ca31 rfl (args3 rfl rfl rfl) (aset_no (((hH188.front 4 rfl).front 4 rfl).front 4 rfl).all3 hd3 hp3 (by omega) h643 hlo3 hfr hn (by rw [hl3]; omega) (by rw [hl3]; omega) (at_ := x93.at_) (data := x93.data) ((hok x93 (List.mem_of_getElem? hx94)).1.mono (seg_sub 2 rfl)) (by omega) (by omega) (fun g_ => hc208 ⟨g_.1, g_.2.1, g_.2.2.2⟩)) ?_)
                                    rintro _ w221 ⟨rfl, hX219⟩
                                    refine ⟨_, rfl, ?_⟩
                                    have hH220 : Has E w221 [sg3, [Hp.one pb40 (.cells #[(.bool p3.off), (.bool p3.armed), (.int .i64 p3.left), (.int .i64 p3.uses)] 104 (0, 0))], [Hp.one ab48 (.cells #[(.pointer (some ⟨db39, 0, none⟩)), (.int .i64 fr), (.int .i64 n)] 65 (0, 0))], sb, [Hp.one b95 (.cells #[(.int .i64 x93.kind), (.int .i64 x93.at_), (.int .i64 x93.size), x93.dv, x93.kv] 58 (0, 0))], R] := hX219.of_all3
                                    refine s_op (o_move (v := (.int .i64 wt)) e184_16 ?_)
                                    refine s_op (o_neq (a := (1 : Int)) (b := wt) rfl rfl ?_)
                                    refine s_nil ?_
                                    refine t_norm (hK207 _ _ ?_)
                                    refine c_cond rfl (fun h222 => ?_) (fun h222 => ?_)
                                    · -- (1 : Int) ≠ wt
                                      have hwy_ : ¬ wt = 0 := by rw [hwt, if_neg hc208]; decide
                                      have hw1_ : wt = 1 := by rw [hwt, if_neg hc208]
                                      exfalso; omega
                                    · -- not: (1 : Int) ≠ wt
                                      have hwy_ : ¬ wt = 0 := by rw [hwt, if_neg hc208]; decide
                                      have hw1_ : wt = 1 := by rw [hwt, if_neg hc208]
                                      refine wp_skip ?_
                                      refine b_norm ?_
                                      have hH223 : Has E w221 [sg3, sb, [Hp.one pb40 (.cells #[(.bool p3.off), (.bool p3.armed), (.int .i64 p3.left), (.int .i64 p3.uses)] 104 (0, 0))], [Hp.one b95 (.cells #[(.int .i64 x93.kind), (.int .i64 x93.at_), (.int .i64 x93.size), x93.dv, x93.kv] 58 (0, 0))], [Hp.one ab48 (.cells #[(.pointer (some ⟨db39, 0, none⟩)), (.int .i64 fr), (.int .i64 n)] 65 (0, 0))], R] := Has.pick hH220 [0, 2, 0, 1, 0, 0] (by kernel_rfl)
                                      refine t_norm (hJ114 _ _ ⟨p3, la3, lo3, sg3, nb, sb, hH223, (hd3), (hnb), (hp3.mono (by omega)), (hl3), (h643), (hlo3), (by rw [hw0, if_neg hwy_]; exact hcn3), (hou3), e184_0, e184_1, e184_2, e184_3, e184_9, e184_10, e184_11, e184_12, e184_13, e184_14, e184_15, e184_40, e184_69, e184_81, e184_88⟩)
                              · -- not: (kk : Int) < (x93.data.flatten.length : Int)
                                refine s_off (b' := false) 123 rfl (congrArg Value.bool (decide_eq_false h192)) rfl ?_
                                refine s_off (b' := false) 123 rfl (congrArg Value.bool (decide_eq_false h192)) rfl ?_
                                refine s_op (o_pick_f (u := (.bool false)) ((rfl : _ = _).trans (congrArg Value.bool (decide_eq_false h192))) rfl ?_)
                                refine s_nil ?_
                                refine t_norm (hK191 _ _ ?_)
                                refine c_false rfl rfl ?_
                                refine wp_exit ?_
                                refine t_exit (t_exit (x_in (?_)))
                                refine t_norm (hK182 _ _ ?_)
                                refine wp_seq_k fun K224 hK224 => ?_
                                refine c_region ?_
                                refine s_op (o_move (v := (.pointer (some ⟨ab48, 0, none⟩))) e184_10 ?_)
                                refine s_op (o_fieldAddr (k := 1) (fun _ => by kernel_rfl) e184_13 ?_)
                                refine s_op (o_load1 (v := (.int .i64 x93.at_)) Tryd.underlying3 rfl rfl hH188 (seg_sub 1 rfl) (CellsAt.one rfl) ?_)
                                refine s_op (o_fieldAddr (k := 3) (fun _ => by kernel_rfl) e184_13 ?_)
                                refine s_op (o_load1 (v := x93.dv) Tryd.underlying32 rfl rfl hH188 (seg_sub 1 rfl) (CellsAt.one rfl) ?_)
                                by_cases hc225 : 0 ≤ x93.at_ ∧ x93.at_ ≤ 4611686018427387904 ∧ (x93.data.flatten.length : Int) ≤ n * 64
                                · -- yes
                                  refine s_op (o_callf (vs := #[(.pointer (some ⟨ab48, 0, none⟩)), (.int .i64 x93.at_), x93.dv]) ca31 rfl (args3 rfl rfl rfl) (aset_yes (((hH188.front 4 rfl).front 4 rfl).front 4 rfl).all3 hd3 hp3 (by omega) h643 hlo3 hfr hn (by rw [hl3]; omega) (by rw [hl3]; omega) (at_ := x93.at_) (data := x93.data) ((hok x93 (List.mem_of_getElem? hx94)).1.mono (seg_sub 2 rfl)) (by omega) (by omega) ⟨hc225.1, hc225.2.1⟩ hc225.2.2) ?_)
                                  rintro _ w233 ⟨sg226, p227, rfl, hd228, hlo229, hp230, hX231⟩
                                  refine ⟨_, rfl, ?_⟩
                                  have hH232 : Has E w233 [sg226, [Hp.one pb40 (.cells #[(.bool p227.off), (.bool p227.armed), (.int .i64 p227.left), (.int .i64 p227.uses)] 104 (0, 0))], [Hp.one ab48 (.cells #[(.pointer (some ⟨db39, 0, none⟩)), (.int .i64 fr), (.int .i64 n)] 65 (0, 0))], sb, [Hp.one b95 (.cells #[(.int .i64 x93.kind), (.int .i64 x93.at_), (.int .i64 x93.size), x93.dv, x93.kv] 58 (0, 0))], R] := hX231.of_all3
                                  refine s_op (o_move (v := (.int .i64 wt)) e184_16 ?_)
                                  refine s_op (o_neq (a := (0 : Int)) (b := wt) rfl rfl ?_)
                                  refine s_nil ?_
                                  refine t_norm (hK224 _ _ ?_)
                                  refine c_cond rfl (fun h234 => ?_) (fun h234 => ?_)
                                  · -- (0 : Int) ≠ wt
                                    have hwy_ : wt = 0 := by rw [hwt, if_pos hc225]
                                    have hke_ : kk = x93.data.flatten.length := by omega
                                    exfalso; omega
                                  · -- not: (0 : Int) ≠ wt
                                    have hwy_ : wt = 0 := by rw [hwt, if_pos hc225]
                                    have hke_ : kk = x93.data.flatten.length := by omega
                                    refine wp_skip ?_
                                    refine b_norm ?_
                                    have hH235 : Has E w233 [sg226, sb, [Hp.one pb40 (.cells #[(.bool p227.off), (.bool p227.armed), (.int .i64 p227.left), (.int .i64 p227.uses)] 104 (0, 0))], [Hp.one b95 (.cells #[(.int .i64 x93.kind), (.int .i64 x93.at_), (.int .i64 x93.size), x93.dv, x93.kv] 58 (0, 0))], [Hp.one ab48 (.cells #[(.pointer (some ⟨db39, 0, none⟩)), (.int .i64 fr), (.int .i64 n)] 65 (0, 0))], R] := Has.pick hH232 [0, 2, 0, 1, 0, 0] (by kernel_rfl)
                                    refine t_norm (hJ114 _ _ ⟨p227, la3, (setP la3 (allP fr (n * 64) (x93.at_ % (n * 64)) (x93.data.flatten.length : Int)) lo3 x93.data.flatten), sg226, nb, sb, hH235, (hd228), (hnb), (hp230.mono (by omega)), (hl3), (h643), (hlo229), (by rw [hw0, if_pos hwy_, hke_]; exact setP_now hcn3 (area_64 h643 hlo3 hfr hn (by rw [hl3]; omega)) hfr hn ⟨Int.emod_nonneg _ (by omega), Int.emod_lt_of_pos _ (by omega)⟩), (fun j hj hk_ => by rw [setP_out hn ⟨Int.emod_nonneg _ (by omega), Int.emod_lt_of_pos _ (by omega)⟩ hj]; exact hou3 j hj hk_), e184_0, e184_1, e184_2, e184_3, e184_9, e184_10, e184_11, e184_12, e184_13, e184_14, e184_15, e184_40, e184_69, e184_81, e184_88⟩)
                                · -- no
                                  refine s_op (o_callf (vs := #[(.pointer (some ⟨ab48, 0, none⟩)), (.int .i64 x93.at_), x93.dv]) ca31 rfl (args3 rfl rfl rfl) (aset_no (((hH188.front 4 rfl).front 4 rfl).front 4 rfl).all3 hd3 hp3 (by omega) h643 hlo3 hfr hn (by rw [hl3]; omega) (by rw [hl3]; omega) (at_ := x93.at_) (data := x93.data) ((hok x93 (List.mem_of_getElem? hx94)).1.mono (seg_sub 2 rfl)) (by omega) (by omega) (fun g_ => hc225 ⟨g_.1, g_.2.1, g_.2.2.2⟩)) ?_)
                                  rintro _ w238 ⟨rfl, hX236⟩
                                  refine ⟨_, rfl, ?_⟩
                                  have hH237 : Has E w238 [sg3, [Hp.one pb40 (.cells #[(.bool p3.off), (.bool p3.armed), (.int .i64 p3.left), (.int .i64 p3.uses)] 104 (0, 0))], [Hp.one ab48 (.cells #[(.pointer (some ⟨db39, 0, none⟩)), (.int .i64 fr), (.int .i64 n)] 65 (0, 0))], sb, [Hp.one b95 (.cells #[(.int .i64 x93.kind), (.int .i64 x93.at_), (.int .i64 x93.size), x93.dv, x93.kv] 58 (0, 0))], R] := hX236.of_all3
                                  refine s_op (o_move (v := (.int .i64 wt)) e184_16 ?_)
                                  refine s_op (o_neq (a := (1 : Int)) (b := wt) rfl rfl ?_)
                                  refine s_nil ?_
                                  refine t_norm (hK224 _ _ ?_)
                                  refine c_cond rfl (fun h239 => ?_) (fun h239 => ?_)
                                  · -- (1 : Int) ≠ wt
                                    have hwy_ : ¬ wt = 0 := by rw [hwt, if_neg hc225]; decide
                                    have hw1_ : wt = 1 := by rw [hwt, if_neg hc225]
                                    exfalso; omega
                                  · -- not: (1 : Int) ≠ wt
                                    have hwy_ : ¬ wt = 0 := by rw [hwt, if_neg hc225]; decide
                                    have hw1_ : wt = 1 := by rw [hwt, if_neg hc225]
                                    refine wp_skip ?_
                                    refine b_norm ?_
                                    have hH240 : Has E w238 [sg3, sb, [Hp.one pb40 (.cells #[(.bool p3.off), (.bool p3.armed), (.int .i64 p3.left), (.int .i64 p3.uses)] 104 (0, 0))], [Hp.one b95 (.cells #[(.int .i64 x93.kind), (.int .i64 x93.at_), (.int .i64 x93.size), x93.dv, x93.kv] 58 (0, 0))], [Hp.one ab48 (.cells #[(.pointer (some ⟨db39, 0, none⟩)), (.int .i64 fr), (.int .i64 n)] 65 (0, 0))], R] := Has.pick hH237 [0, 2, 0, 1, 0, 0] (by kernel_rfl)
                                    refine t_norm (hJ114 _ _ ⟨p3, la3, lo3, sg3, nb, sb, hH240, (hd3), (hnb), (hp3.mono (by omega)), (hl3), (h643), (hlo3), (by rw [hw0, if_neg hwy_]; exact hcn3), (hou3), e184_0, e184_1, e184_2, e184_3, e184_9, e184_10, e184_11, e184_12, e184_13, e184_14, e184_15, e184_40, e184_69, e184_81, e184_88⟩)
                            refine wp_seq_k fun K241 hK241 => ?_
                            refine c_region ?_
                            refine s_op (o_move (v := (.bool pl)) e105_15 ?_)
                            refine s_op (o_not rfl ?_)
                            refine s_op (o_move (v := (.bool (!pl))) rfl ?_)
                            rcases Bool.eq_false_or_eq_true (!pl) with h242 | h242
                            · -- !pl
                              have h242_n : pl = false := by simpa using h242
                              have hplf_ : ¬ (0 ≤ x93.at_ ∧ x93.at_ ≤ 4611686018427387904) := of_decide_eq_false (by rw [← hpl]; simpa using h242)
                              refine s_off (b' := true) 112 rfl (congrArg Value.bool h242) rfl ?_
                              refine s_off (b' := true) 112 rfl (congrArg Value.bool h242) rfl ?_
                              refine s_off (b' := true) 112 rfl (congrArg Value.bool h242) rfl ?_
                              refine s_off (b' := true) 112 rfl (congrArg Value.bool h242) rfl ?_
                              refine s_off (b' := true) 112 rfl (congrArg Value.bool h242) rfl ?_
                              refine s_op (o_pick_t (u := (.bool true)) ((rfl : _ = _).trans (congrArg Value.bool h242)) rfl ?_)
                              refine s_nil ?_
                              refine t_norm (hK241 _ _ ?_)
                              refine c_true rfl rfl ?_
                              refine c_region ?_
                              refine s_op (o_assign (v := (.int .i64 1)) rfl ?_)
                              refine s_nil ?_
                              refine t_norm (hJ178 _ _ ⟨1, hH109, (by rw [if_neg (by omega)]), e105_0, e105_1, e105_2, e105_3, e105_9, e105_10, e105_11, e105_12, e105_13, e105_14, e105_15, rfl, e105_40, e105_69, e105_81, e105_88, rfl, rfl⟩)
                            · -- not: !pl
                              have h242_n : pl = true := by simpa using h242
                              have hplt_ : (0 ≤ x93.at_ ∧ x93.at_ ≤ 4611686018427387904) := of_decide_eq_true (by rw [← hpl]; simpa using h242)
                              refine s_on 112 rfl (congrArg Value.bool h242) (o_move (v := (S x93.data.flatten)) e105_14 ?_)
                              refine s_on 112 rfl (congrArg Value.bool h242) (o_slen Tryd.underlying9 rfl ?_)
                              refine s_on 112 rfl (congrArg Value.bool h242) (o_move (v := (.int .i64 n)) e105_2 ?_)
                              refine s_on 112 rfl (congrArg Value.bool h242) (o_mul (a := 64) (b := n) rfl rfl (w64 (by omega) (by omega)) ?_)
                              refine s_on 112 rfl (congrArg Value.bool h242) (o_gtr (a := (x93.data.flatten.length : Int)) (b := 64 * n) rfl rfl ?_)
                              refine s_op (o_pick_f (u := (.bool (decide (64 * n < (x93.data.flatten.length : Int))))) ((rfl : _ = _).trans (congrArg Value.bool h242)) rfl ?_)
                              refine s_nil ?_
                              refine t_norm (hK241 _ _ ?_)
                              refine c_cond rfl (fun h243 => ?_) (fun h243 => ?_)
                              · -- 64 * n < (x93.data.flatten.length : Int)
                                refine c_region ?_
                                refine s_op (o_assign (v := (.int .i64 1)) rfl ?_)
                                refine s_nil ?_
                                refine t_norm (hJ178 _ _ ⟨1, hH109, (by rw [if_neg (by omega)]), e105_0, e105_1, e105_2, e105_3, e105_9, e105_10, e105_11, e105_12, e105_13, e105_14, e105_15, rfl, e105_40, e105_69, e105_81, e105_88, rfl, rfl⟩)
                              · -- not: 64 * n < (x93.data.flatten.length : Int)
                                refine wp_skip ?_
                                refine t_norm (hJ178 _ _ ⟨0, hH109, (by rw [if_pos (by omega)]), e105_0, e105_1, e105_2, e105_3, e105_9, e105_10, e105_11, e105_12, e105_13, e105_14, e105_15, rfl, e105_40, e105_69, e105_81, e105_88, rfl, rfl⟩)
                          · -- not: x93.kind = 0
                            refine wp_seq_k fun K244 hK244 => ?_
                            refine c_region ?_
                            refine s_op (o_eql (a := x93.kind) (b := 1) rfl rfl ?_)
                            refine s_op (o_assign (v := (.bool (decide (x93.kind = 1)))) rfl ?_)
                            refine s_nil ?_
                            refine t_norm (hK244 _ _ ?_)
                            refine c_cond rfl (fun h245 => ?_) (fun h245 => ?_)
                            · -- x93.kind = 1
                              refine wp_seq_k fun K246 hK246 => ?_
                              refine c_region ?_
                              refine s_op (o_move (v := (.pointer (some ⟨ab48, 0, none⟩))) e105_10 ?_)
                              refine s_op (o_fieldAddr (k := 1) (fun _ => by kernel_rfl) e105_13 ?_)
                              refine s_op (o_load1 (v := (.int .i64 x93.at_)) Tryd.underlying3 rfl rfl hH109 (seg_sub 0 rfl) (CellsAt.one rfl) ?_)
                              refine s_op (o_fieldAddr (k := 2) (fun _ => by kernel_rfl) e105_13 ?_)
                              refine s_op (o_load1 (v := (.int .i64 x93.size)) Tryd.underlying3 rfl rfl hH109 (seg_sub 0 rfl) (CellsAt.one rfl) ?_)
                              by_cases hc247 : 0 ≤ x93.at_ ∧ x93.at_ ≤ 4611686018427387904 ∧ 0 ≤ x93.size ∧ x93.size ≤ n * 64
                              · -- yes
                                refine s_op (o_callf (vs := #[(.pointer (some ⟨ab48, 0, none⟩)), (.int .i64 x93.at_), (.int .i64 x93.size)]) ca32 rfl (args3 rfl rfl rfl) (aget_c (((hH109.front 4 rfl).front 4 rfl).front 3 rfl).all3 hd3 hp3 (by omega) h643 hlo3 hfr hn (by rw [hl3]; omega) (by rw [hl3]; omega) (at_ := x93.at_) ⟨hc247.1, hc247.2.1⟩ (size := x93.size) ⟨hc247.2.2.1, hc247.2.2.2⟩) ?_)
                                rintro _ w250 ⟨rfl, hX248⟩
                                refine ⟨_, rfl, ?_⟩
                                have hH249 : Has E w250 [sg3, [Hp.one pb40 (.cells #[(.bool p3.off), (.bool p3.armed), (.int .i64 p3.left), (.int .i64 p3.uses)] 104 (0, 0))], [Hp.one ab48 (.cells #[(.pointer (some ⟨db39, 0, none⟩)), (.int .i64 fr), (.int .i64 n)] 65 (0, 0))], [Hp.one b95 (.cells #[(.int .i64 x93.kind), (.int .i64 x93.at_), (.int .i64 x93.size), x93.dv, x93.kv] 58 (0, 0))], sn3, R] := hX248.of_all3
                                refine s_op (o_move (v := (.tuple #[(S (getP la3 lo3 (allP fr (n * 64) (x93.at_ % (n * 64)) x93.size))), (.int .i64 (0 : Int))])) rfl ?_)
                                refine s_op (o_extract (v := (S (getP la3 lo3 (allP fr (n * 64) (x93.at_ % (n * 64)) x93.size)))) rfl rfl ?_)
                                refine s_op (o_extract (v := (.int .i64 (0 : Int))) rfl rfl ?_)
                                refine s_op (o_assign (v := (S (getP la3 lo3 (allP fr (n * 64) (x93.at_ % (n * 64)) x93.size)))) rfl ?_)
                                refine s_op (o_assign (v := (.int .i64 (0 : Int))) rfl ?_)
                                refine s_nil ?_
                                refine t_norm (hK246 _ _ ?_)
                                refine wp_seq_k fun K251 hK251 => ?_
                                refine wp_seq_k fun K252 hK252 => ?_
                                refine c_region ?_
                                refine s_op (o_move (v := (.bool pl)) e105_15 ?_)
                                refine s_op (o_not rfl ?_)
                                refine s_op (o_move (v := (.bool (!pl))) rfl ?_)
                                rcases Bool.eq_false_or_eq_true (!pl) with h253 | h253
                                · -- !pl
                                  have h253_n : pl = false := by simpa using h253
                                  have hplf_ : ¬ (0 ≤ x93.at_ ∧ x93.at_ ≤ 4611686018427387904) := of_decide_eq_false (by rw [← hpl]; simpa using h253)
                                  exfalso; omega
                                · -- not: !pl
                                  have h253_n : pl = true := by simpa using h253
                                  have hplt_ : (0 ≤ x93.at_ ∧ x93.at_ ≤ 4611686018427387904) := of_decide_eq_true (by rw [← hpl]; simpa using h253)
                                  refine s_on 165 rfl (congrArg Value.bool h253) (o_fieldAddr (k := 2) (fun _ => by kernel_rfl) e105_13 ?_)
                                  refine s_on 165 rfl (congrArg Value.bool h253) (o_load1 (v := (.int .i64 x93.size)) Tryd.underlying3 rfl rfl hH249 (seg_sub 3 rfl) (CellsAt.one rfl) ?_)
                                  refine s_on 165 rfl (congrArg Value.bool h253) (o_lss (a := x93.size) (b := 0) rfl rfl ?_)
                                  refine s_op (o_pick_f (u := (.bool (decide (x93.size < 0)))) ((rfl : _ = _).trans (congrArg Value.bool h253)) rfl ?_)
                                  refine s_op (o_move (v := (.bool (decide (x93.size < 0)))) rfl ?_)
                                  by_cases h254 : x93.size < 0
                                  · -- x93.size < 0
                                    exfalso; omega
                                  · -- not: x93.size < 0
                                    refine s_on 170 rfl (congrArg Value.bool (decide_eq_false h254)) (o_fieldAddr (k := 2) (fun _ => by kernel_rfl) e105_13 ?_)
                                    refine s_on 170 rfl (congrArg Value.bool (decide_eq_false h254)) (o_load1 (v := (.int .i64 x93.size)) Tryd.underlying3 rfl rfl hH249 (seg_sub 3 rfl) (CellsAt.one rfl) ?_)
                                    refine s_on 170 rfl (congrArg Value.bool (decide_eq_false h254)) (o_move (v := (.int .i64 n)) e105_2 ?_)
                                    refine s_on 170 rfl (congrArg Value.bool (decide_eq_false h254)) (o_mul (a := 64) (b := n) rfl rfl (w64 (by omega) (by omega)) ?_)
                                    refine s_on 170 rfl (congrArg Value.bool (decide_eq_false h254)) (o_gtr (a := x93.size) (b := 64 * n) rfl rfl ?_)
                                    refine s_op (o_pick_f (u := (.bool (decide (64 * n < x93.size)))) ((rfl : _ = _).trans (congrArg Value.bool (decide_eq_false h254))) rfl ?_)
                                    refine s_nil ?_
                                    refine t_norm (hK252 _ _ ?_)
                                    refine c_cond rfl (fun h255 => ?_) (fun h255 => ?_)
                                    · -- 64 * n < x93.size
                                      exfalso; omega
                                    · -- not: 64 * n < x93.size
                                      refine wp_skip ?_
                                      refine t_norm (hK251 _ _ ?_)
                                      refine wp_seq_k fun K256 hK256 => ?_
                                      refine c_region ?_
                                      refine s_op (o_assign (v := (.slice none 0 0)) rfl ?_)
                                      refine s_nil ?_
                                      refine t_norm (hK256 _ _ ?_)
                                      refine wp_seq_k fun K257 hK257 => ?_
                                      refine wp_seq_k fun K258 hK258 => ?_
                                      refine c_region ?_
                                      refine s_op (o_assign (v := (.int .i64 0)) rfl ?_)
                                      refine s_nil ?_
                                      refine t_norm (hK258 _ _ ?_)
                                      refine wp_block ?_
                                      let I260 : Nat → (Nat → Value) → World → Prop := fun n__ r__ w__ => ∃ (kq : Nat) (wv : Value) (sw : List Hp) (acc : Bs), n__ = x93.size.toNat - kq ∧ Has E w__ [sw, sg3, [Hp.one pb40 (.cells #[(.bool p3.off), (.bool p3.armed), (.int .i64 p3.left), (.int .i64 p3.uses)] 104 (0, 0))], [Hp.one ab48 (.cells #[(.pointer (some ⟨db39, 0, none⟩)), (.int .i64 fr), (.int .i64 n)] 65 (0, 0))], [Hp.one b95 (.cells #[(.int .i64 x93.kind), (.int .i64 x93.at_), (.int .i64 x93.size), x93.dv, x93.kv] 58 (0, 0))], sn3, R] ∧ ((kq : Int) ≤ x93.size) ∧ (Own 5 1 wv acc.length (acc.map bV) sw) ∧ (acc = rdR now3 (x93.at_ % (n * 64)).toNat (n.toNat * 64) kq) ∧ (acc.length ≤ kq) ∧ r__ 0 = (.int .i64 k) ∧ r__ 1 = (.int .i64 fr) ∧ r__ 2 = (.int .i64 n) ∧ r__ 3 = v ∧ r__ 9 = (.pointer (some ⟨db39, 0, none⟩)) ∧ r__ 10 = (.pointer (some ⟨ab48, 0, none⟩)) ∧ r__ 11 = (.slice p75 (64 * n).toNat c76) ∧ r__ 12 = (.int .i64 (i : Int)) ∧ r__ 13 = (.pointer (some ⟨b95, 0, none⟩)) ∧ r__ 14 = (S x93.data.flatten) ∧ r__ 15 = (.bool pl) ∧ r__ 18 = (S (getP la3 lo3 (allP fr (n * 64) (x93.at_ % (n * 64)) x93.size))) ∧ r__ 19 = (.int .i64 (0 : Int)) ∧ r__ 20 = wv ∧ r__ 21 = (.int .i64 (kq : Int)) ∧ r__ 40 = (.bool false) ∧ r__ 69 = (.bool (decide (k - n < fr))) ∧ r__ 81 = (.bool (!(decide (Lib.trimB (getP (List.replicate k.toNat blankS) ([] : List (Int × Bs)) (allP fr (n * 64) (0 % (n * 64)) (n * 64))) 0 = [])))) ∧ r__ 88 = (.bool (decide ((i : Int) < ((l.length : Nat) : Int)))) ∧ r__ 107 = (.int .i64 x93.kind) ∧ r__ 108 = (.bool (decide (x93.kind = 0))) ∧ r__ 152 = (.bool (decide (x93.kind = 1))) ∧ r__ 176 = (.bool (decide (64 * n < x93.size)))
                                      have hH261 : Has E w250 [[], sg3, [Hp.one pb40 (.cells #[(.bool p3.off), (.bool p3.armed), (.int .i64 p3.left), (.int .i64 p3.uses)] 104 (0, 0))], [Hp.one ab48 (.cells #[(.pointer (some ⟨db39, 0, none⟩)), (.int .i64 fr), (.int .i64 n)] 65 (0, 0))], [Hp.one b95 (.cells #[(.int .i64 x93.kind), (.int .i64 x93.at_), (.int .i64 x93.size), x93.dv, x93.kv] 58 (0, 0))], sn3, R] := Has.pick (Has.nil hH249) [0, 0, 0, 0, 0, 0, 0] (by kernel_rfl)
                                      refine c_loop I260 _ ⟨0, (.slice none 0 0), [], [], rfl, hH261, (by omega), Own.nil 5 1, rfl, (by simp), e105_0, e105_1, e105_2, e105_3, e105_9, e105_10, e105_11, e105_12, e105_13, e105_14, e105_15, rfl, rfl, rfl, rfl, e105_40, e105_69, e105_81, e105_88, rfl, rfl, rfl, rfl⟩ ?_
                                      rintro n_ r264 w262 ⟨kq, wv, sw, acc, rfl, hH263, hkq, hwv, hacc, hal, e259_0, e259_1, e259_2, e259_3, e259_9, e259_10, e259_11, e259_12, e259_13, e259_14, e259_15, e259_18, e259_19, e259_20, e259_21, e259_40, e259_69, e259_81, e259_88, e259_107, e259_108, e259_152, e259_176⟩
                                      have hnl3_ := hcn3.1
                                      have hem_ := Int.emod_nonneg x93.at_ (show 64 * n ≠ 0 by omega)
                                      refine wp_seq_k fun K265 hK265 => ?_
                                      refine wp_seq_k fun K266 hK266 => ?_
                                      refine c_region ?_
                                      refine s_op (o_move (v := (.int .i64 (kq : Int))) e259_21 ?_)
                                      refine s_op (o_fieldAddr (k := 2) (fun _ => by kernel_rfl) e259_13 ?_)
                                      refine s_op (o_load1 (v := (.int .i64 x93.size)) Tryd.underlying3 rfl rfl hH263 (seg_sub 4 rfl) (CellsAt.one rfl) ?_)
                                      refine s_op (o_lss (a := (kq : Int)) (b := x93.size) rfl rfl ?_)
                                      refine s_nil ?_
                                      refine t_norm (hK266 _ _ ?_)
                                      refine c_cond rfl (fun h267 => ?_) (fun h267 => ?_)
                                      · -- (kq : Int) < x93.size
                                        refine wp_skip ?_
                                        refine t_norm (hK265 _ _ ?_)
                                        refine wp_seq_k fun K268 hK268 => ?_
                                        refine wp_block ?_
                                        refine c_region ?_
                                        refine s_op (o_move (v := wv) e259_20 ?_)
                                        refine s_op (o_move (v := (.slice p75 (64 * n).toNat c76)) e259_11 ?_)
                                        refine s_op (o_fieldAddr (k := 1) (fun _ => by kernel_rfl) e259_13 ?_)
                                        refine s_op (o_load1 (v := (.int .i64 x93.at_)) Tryd.underlying3 rfl rfl hH263 (seg_sub 4 rfl) (CellsAt.one rfl) ?_)
                                        refine s_op (o_move (v := (.int .i64 n)) e259_2 ?_)
                                        refine s_op (o_mul (a := 64) (b := n) rfl rfl (w64 (by omega) (by omega)) ?_)
                                        have hm269 := emod_b x93.at_ (64 * n) (by omega)
                                        refine s_op (o_rem (a := x93.at_) (b := 64 * n) (c := x93.at_ % (64 * n)) rfl rfl (by omega) ((Int.tmod_eq_emod_of_nonneg (by first | exact Int.natCast_nonneg _ | omega))) ?_)
                                        refine s_op (o_move (v := (.int .i64 (kq : Int))) e259_21 ?_)
                                        refine s_op (o_add (a := x93.at_ % (64 * n)) (b := (kq : Int)) rfl rfl (w64 (by omega) (by omega)) ?_)
                                        refine s_op (o_move (v := (.int .i64 n)) e259_2 ?_)
                                        refine s_op (o_mul (a := 64) (b := n) rfl rfl (w64 (by omega) (by omega)) ?_)
                                        have hm270 := emod_b ((x93.at_ % (64 * n)) + (kq : Int)) (64 * n) (by omega)
                                        refine s_op (o_rem (a := (x93.at_ % (64 * n)) + (kq : Int)) (b := 64 * n) (c := ((x93.at_ % (64 * n)) + (kq : Int)) % (64 * n)) rfl rfl (by omega) ((Int.tmod_eq_emod_of_nonneg (by first | exact Int.natCast_nonneg _ | omega))) ?_)
                                        obtain ⟨x274, hx275⟩ : ∃ x_, now3[(((x93.at_ % (64 * n)) + (kq : Int)) % (64 * n)).toNat]? = some x_ := get_some (by omega)
                                        refine s_op (o_index1 Tryd.underlying55 ti5 rfl hn3.sl rfl (by omega) hx275 fun b271 o272 hc273 => ?_)
                                        refine s_op (o_load1 (v := (bV x274)) Tryd.underlying5 rfl rfl hH263 (seg_sub 5 rfl) hc273 ?_)
                                        refine s_op (o_buildSlice (ps := #[(0, (bV x274))]) (cells := #[(bV x274)]) Tryd.underlying55 ti5 (by decide) (parts1 rfl) (by kernel_rfl) hH263 fun b276 w277 hH278 => ?_)
                                        refine s_op (o_append Tryd.underlying55 ti5 rfl (by decide) rfl hwv rfl (sl_lit (f := bV) (l := [x274]) rfl rfl (by simp)) (hH278.front 1 rfl) (seg_sub 0 rfl) (one_bV _) (by simp; omega) (by simp; omega) fun v279 s280 w282 ho281 hH283 => ?_)
                                        have ho281 : Own 5 1 v279 (acc ++ [x274]).length ((acc ++ [x274]).map bV) s280 := ho281.app
                                        refine s_op (o_assign (v := v279) rfl ?_)
                                        refine s_nil ?_
                                        refine b_norm ?_
                                        refine t_norm (hK268 _ _ ?_)
                                        refine c_region ?_
                                        refine s_op (o_move (v := (.int .i64 (kq : Int))) e259_21 ?_)
                                        refine s_op (o_add (a := (kq : Int)) (b := 1) rfl rfl (w64 (by omega) (by omega)) ?_)
                                        refine s_op (o_assign (v := (.int .i64 ((kq : Int) + 1))) rfl ?_)
                                        refine s_nil ?_
                                        have hH284 : Has E w282 [s280, sg3, [Hp.one pb40 (.cells #[(.bool p3.off), (.bool p3.armed), (.int .i64 p3.left), (.int .i64 p3.uses)] 104 (0, 0))], [Hp.one ab48 (.cells #[(.pointer (some ⟨db39, 0, none⟩)), (.int .i64 fr), (.int .i64 n)] 65 (0, 0))], [Hp.one b95 (.cells #[(.int .i64 x93.kind), (.int .i64 x93.at_), (.int .i64 x93.size), x93.dv, x93.kv] 58 (0, 0))], sn3, R] := Has.pick hH283 [0, 1, 1, 1, 1, 1, 1] (by kernel_rfl)
                                        refine t_norm ⟨x93.size.toNat - (kq + 1), _, rfl, ?_, ?_⟩
                                        · omega
                                        · exact ⟨(kq + 1), v279, s280, (acc ++ [x274]), rfl, hH284, (by omega), (ho281), (rd_step hacc (idxN (by omega) hn) hx275), (by simp only [List.length_append, List.length_cons, List.length_nil]; omega), e259_0, e259_1, e259_2, e259_3, e259_9, e259_10, e259_11, e259_12, e259_13, e259_14, e259_15, e259_18, e259_19, rfl, rfl, e259_40, e259_69, e259_81, e259_88, e259_107, e259_108, e259_152, e259_176⟩
                                      · -- not: (kq : Int) < x93.size
                                        refine wp_exit ?_
                                        refine t_exit (t_exit (x_in (?_)))
                                        refine t_norm (hK257 _ _ ?_)
                                        refine wp_seq_k fun K285 hK285 => ?_
                                        refine c_region ?_
                                        refine s_op (o_move (v := (S (getP la3 lo3 (allP fr (n * 64) (x93.at_ % (n * 64)) x93.size)))) e259_18 ?_)
                                        refine s_op (o_move (v := wv) e259_20 ?_)
                                        refine s_op (o_bstr Tryd.underlying55 Tryd.underlying5 Tryd.underlying9 rfl hwv.sl hH263 (seg_sub 0 rfl) ?_)
                                        refine s_op (o_sneq (a := (getP la3 lo3 (allP fr (n * 64) (x93.at_ % (n * 64)) x93.size))) (b := acc) rfl rfl ?_)
                                        refine s_op (o_move (v := (.bool (decide ((getP la3 lo3 (allP fr (n * 64) (x93.at_ % (n * 64)) x93.size)) ≠ acc)))) rfl ?_)
                                        by_cases h286 : (getP la3 lo3 (allP fr (n * 64) (x93.at_ % (n * 64)) x93.size)) ≠ acc
                                        · -- (getP la3 lo3 (allP fr (n * 64) (x93.at_ % (n * 64)) x93.size)) ≠ acc
                                          exact absurd (by rw [hacc, getP_now hcn3 (area_64 h643 hlo3 hfr hn (by rw [hl3]; omega)) hfr hn ⟨Int.emod_nonneg _ (by omega), Int.emod_lt_of_pos _ (by omega)⟩ (by omega), show x93.size.toNat = kq from by omega]) h286
                                        · -- not: (getP la3 lo3 (allP fr (n * 64) (x93.at_ % (n * 64)) x93.size)) ≠ acc
                                          refine s_on 209 rfl (congrArg Value.bool (decide_eq_false h286)) (o_move (v := (.int .i64 (0 : Int))) e259_19 ?_)
                                          refine s_on 209 rfl (congrArg Value.bool (decide_eq_false h286)) (o_neq (a := (0 : Int)) (b := 0) rfl rfl ?_)
                                          refine s_op (o_pick_f (u := (.bool (decide ((0 : Int) ≠ 0)))) ((rfl : _ = _).trans (congrArg Value.bool (decide_eq_false h286))) rfl ?_)
                                          refine s_nil ?_
                                          refine t_norm (hK285 _ _ ?_)
                                          refine c_cond rfl (fun h287 => ?_) (fun h287 => ?_)
                                          · -- (0 : Int) ≠ 0
                                            exact absurd rfl h287
                                          · -- not: (0 : Int) ≠ 0
                                            refine wp_skip ?_
                                            refine b_norm ?_
                                            have hH288 : Has E w262 [sg3, sn3, [Hp.one pb40 (.cells #[(.bool p3.off), (.bool p3.armed), (.int .i64 p3.left), (.int .i64 p3.uses)] 104 (0, 0))], [Hp.one b95 (.cells #[(.int .i64 x93.kind), (.int .i64 x93.at_), (.int .i64 x93.size), x93.dv, x93.kv] 58 (0, 0))], [Hp.one ab48 (.cells #[(.pointer (some ⟨db39, 0, none⟩)), (.int .i64 fr), (.int .i64 n)] 65 (0, 0))], R] := Has.pick hH263 [1, 4, 1, 2, 1, 1] (by kernel_rfl)
                                            refine t_norm (hJ114 _ _ ⟨p3, la3, lo3, sg3, now3, sn3, hH288, (hd3), (hn3), (hp3.mono (by omega)), (hl3), (h643), (hlo3), (hcn3), (hou3), e259_0, e259_1, e259_2, e259_3, e259_9, e259_10, e259_11, e259_12, e259_13, e259_14, e259_15, e259_40, e259_69, e259_81, e259_88⟩)
                              · -- no
                                refine s_op (o_callf (vs := #[(.pointer (some ⟨ab48, 0, none⟩)), (.int .i64 x93.at_), (.int .i64 x93.size)]) ca32 rfl (args3 rfl rfl rfl) (aget_no (((hH109.front 4 rfl).front 4 rfl).front 3 rfl).all3 hd3 hp3 (by omega) h643 hlo3 hfr hn (by rw [hl3]; omega) (by rw [hl3]; omega) (at_ := x93.at_) (size := x93.size) hc247) ?_)
                                rintro _ w291 ⟨rfl, hX289⟩
                                refine ⟨_, rfl, ?_⟩
                                have hH290 : Has E w291 [sg3, [Hp.one pb40 (.cells #[(.bool p3.off), (.bool p3.armed), (.int .i64 p3.left), (.int .i64 p3.uses)] 104 (0, 0))], [Hp.one ab48 (.cells #[(.pointer (some ⟨db39, 0, none⟩)), (.int .i64 fr), (.int .i64 n)] 65 (0, 0))], [Hp.one b95 (.cells #[(.int .i64 x93.kind), (.int .i64 x93.at_), (.int .i64 x93.size), x93.dv, x93.kv] 58 (0, 0))], sn3, R] := hX289.of_all3
                                refine s_op (o_move (v := (.tuple #[(S []), (.int .i64 (1 : Int))])) rfl ?_)
                                refine s_op (o_extract (v := (S [])) rfl rfl ?_)
                                refine s_op (o_extract (v := (.int .i64 (1 : Int))) rfl rfl ?_)
                                refine s_op (o_assign (v := (S [])) rfl ?_)
                                refine s_op (o_assign (v := (.int .i64 (1 : Int))) rfl ?_)
                                refine s_nil ?_
                                refine t_norm (hK246 _ _ ?_)
                                refine wp_seq_k fun K292 hK292 => ?_
                                refine wp_seq_k fun K293 hK293 => ?_
                                refine c_region ?_
                                refine s_op (o_move (v := (.bool pl)) e105_15 ?_)
                                refine s_op (o_not rfl ?_)
                                refine s_op (o_move (v := (.bool (!pl))) rfl ?_)
                                rcases Bool.eq_false_or_eq_true (!pl) with h294 | h294
                                · -- !pl
                                  have h294_n : pl = false := by simpa using h294
                                  have hplf_ : ¬ (0 ≤ x93.at_ ∧ x93.at_ ≤ 4611686018427387904) := of_decide_eq_false (by rw [← hpl]; simpa using h294)
                                  refine s_off (b' := true) 165 rfl (congrArg Value.bool h294) rfl ?_
                                  refine s_off (b' := true) 165 rfl (congrArg Value.bool h294) rfl ?_
                                  refine s_off (b' := true) 165 rfl (congrArg Value.bool h294) rfl ?_
                                  refine s_op (o_pick_t (u := (.bool true)) ((rfl : _ = _).trans (congrArg Value.bool h294)) rfl ?_)
                                  refine s_op (o_move (v := (.bool true)) rfl ?_)
                                  refine s_off (b' := true) 170 rfl rfl rfl ?_
                                  refine s_off (b' := true) 170 rfl rfl rfl ?_
                                  refine s_off (b' := true) 170 rfl rfl rfl ?_
                                  refine s_off (b' := true) 170 rfl rfl rfl ?_
                                  refine s_off (b' := true) 170 rfl rfl rfl ?_
                                  refine s_op (o_pick_t (u := (.bool true)) rfl rfl ?_)
                                  refine s_nil ?_
                                  refine t_norm (hK293 _ _ ?_)
                                  refine c_true rfl rfl ?_
                                  refine wp_seq_k fun K295 hK295 => ?_
                                  refine wp_seq_k fun K296 hK296 => ?_
                                  refine c_region ?_
                                  refine s_op (o_move (v := (S [])) rfl ?_)
                                  refine s_op (o_sneq (a := []) (b := ([] : List UInt8)) rfl rfl ?_)
                                  refine s_op (o_move (v := (.bool (decide ([] ≠ ([] : List UInt8))))) rfl ?_)
                                  by_cases h297 : [] ≠ ([] : List UInt8)
                                  · -- [] ≠ ([] : List UInt8)
                                    exact absurd rfl h297
                                  · -- not: [] ≠ ([] : List UInt8)
                                    refine s_on 179 rfl (congrArg Value.bool (decide_eq_false h297)) (o_move (v := (.int .i64 (1 : Int))) rfl ?_)
                                    refine s_on 179 rfl (congrArg Value.bool (decide_eq_false h297)) (o_neq (a := (1 : Int)) (b := 1) rfl rfl ?_)
                                    refine s_op (o_pick_f (u := (.bool (decide ((1 : Int) ≠ 1)))) ((rfl : _ = _).trans (congrArg Value.bool (decide_eq_false h297))) rfl ?_)
                                    refine s_nil ?_
                                    refine t_norm (hK296 _ _ ?_)
                                    refine c_cond rfl (fun h298 => ?_) (fun h298 => ?_)
                                    · -- (1 : Int) ≠ 1
                                      exact absurd rfl h298
                                    · -- not: (1 : Int) ≠ 1
                                      refine wp_skip ?_
                                      refine t_norm (hK295 _ _ ?_)
                                      refine wp_exit ?_
                                      refine t_exit (x_out rfl (t_exit (x_in (?_))))
                                      refine t_norm (hK88 _ _ ?_)
                                      refine c_region ?_
                                      refine s_op (o_move (v := (.int .i64 (i : Int))) e105_12 ?_)
                                      refine s_op (o_add (a := (i : Int)) (b := 1) rfl rfl (w64 (by omega) (by omega)) ?_)
                                      refine s_op (o_assign (v := (.int .i64 ((i : Int) + 1))) rfl ?_)
                                      refine s_nil ?_
                                      have hH299 : Has E w291 [sg3, sn3, [Hp.one pb40 (.cells #[(.bool p3.off), (.bool p3.armed), (.int .i64 p3.left), (.int .i64 p3.uses)] 104 (0, 0))], [Hp.one ab48 (.cells #[(.pointer (some ⟨db39, 0, none⟩)), (.int .i64 fr), (.int .i64 n)] 65 (0, 0))], R] := (((((hH290.front 5 rfl).front 3 rfl).front 3 rfl).front 5 rfl).front 4 rfl).first 5 rfl
                                      refine t_norm ⟨l.length - (i + 1), _, rfl, ?_, ?_⟩
                                      · omega
                                      · exact ⟨(i + 1), p3, la3, lo3, sg3, now3, sn3, rfl, hH299, (by omega), (hd3), (hn3), (hp3.mono (by omega)), (hl3), (h643), (hlo3), (hcn3), (hou3), e105_0, e105_1, e105_2, e105_3, e105_9, e105_10, e105_11, rfl, e105_40, e105_69, e105_81⟩
                                · -- not: !pl
                                  have h294_n : pl = true := by simpa using h294
                                  have hplt_ : (0 ≤ x93.at_ ∧ x93.at_ ≤ 4611686018427387904) := of_decide_eq_true (by rw [← hpl]; simpa using h294)
                                  refine s_on 165 rfl (congrArg Value.bool h294) (o_fieldAddr (k := 2) (fun _ => by kernel_rfl) e105_13 ?_)
                                  refine s_on 165 rfl (congrArg Value.bool h294) (o_load1 (v := (.int .i64 x93.size)) Tryd.underlying3 rfl rfl hH290 (seg_sub 3 rfl) (CellsAt.one rfl) ?_)
                                  refine s_on 165 rfl (congrArg Value.bool h294) (o_lss (a := x93.size) (b := 0) rfl rfl ?_)
                                  refine s_op (o_pick_f (u := (.bool (decide (x93.size < 0)))) ((rfl : _ = _).trans (congrArg Value.bool h294)) rfl ?_)
                                  refine s_op (o_move (v := (.bool (decide (x93.size < 0)))) rfl ?_)
                                  by_cases h300 : x93.size < 0
                                  · -- x93.size < 0
                                    refine s_off (b' := true) 170 rfl (congrArg Value.bool (decide_eq_true h300)) rfl ?_
                                    refine s_off (b' := true) 170 rfl (congrArg Value.bool (decide_eq_true h300)) rfl ?_
                                    refine s_off (b' := true) 170 rfl (congrArg Value.bool (decide_eq_true h300)) rfl ?_
                                    refine s_off (b' := true) 170 rfl (congrArg Value.bool (decide_eq_true h300)) rfl ?_
                                    refine s_off (b' := true) 170 rfl (congrArg Value.bool (decide_eq_true h300)) rfl ?_
                                    refine s_op (o_pick_t (u := (.bool true)) ((rfl : _ = _).trans (congrArg Value.bool (decide_eq_true h300))) rfl ?_)
                                    refine s_nil ?_
                                    refine t_norm (hK293 _ _ ?_)
                                    refine c_true rfl rfl ?_
                                    refine wp_seq_k fun K301 hK301 => ?_
                                    refine wp_seq_k fun K302 hK302 => ?_
                                    refine c_region ?_
                                    refine s_op (o_move (v := (S [])) rfl ?_)
                                    refine s_op (o_sneq (a := []) (b := ([] : List UInt8)) rfl rfl ?_)
                                    refine s_op (o_move (v := (.bool (decide ([] ≠ ([] : List UInt8))))) rfl ?_)
                                    by_cases h303 : [] ≠ ([] : List UInt8)
                                    · -- [] ≠ ([] : List UInt8)
                                      exact absurd rfl h303
                                    · -- not: [] ≠ ([] : List UInt8)
                                      refine s_on 179 rfl (congrArg Value.bool (decide_eq_false h303)) (o_move (v := (.int .i64 (1 : Int))) rfl ?_)
                                      refine s_on 179 rfl (congrArg Value.bool (decide_eq_false h303)) (o_neq (a := (1 : Int)) (b := 1) rfl rfl ?_)
                                      refine s_op (o_pick_f (u := (.bool (decide ((1 : Int) ≠ 1)))) ((rfl : _ = _).trans (congrArg Value.bool (decide_eq_false h303))) rfl ?_)
                                      refine s_nil ?_
                                      refine t_norm (hK302 _ _ ?_)
                                      refine c_cond rfl (fun h304 => ?_) (fun h304 => ?_)
                                      · -- (1 : Int) ≠ 1
                                        exact absurd rfl h304
                                      · -- not: (1 : Int) ≠ 1
                                        refine wp_skip ?_
                                        refine t_norm (hK301 _ _ ?_)
                                        refine wp_exit ?_
                                        refine t_exit (x_out rfl (t_exit (x_in (?_))))
                                        refine t_norm (hK88 _ _ ?_)
                                        refine c_region ?_
                                        refine s_op (o_move (v := (.int .i64 (i : Int))) e105_12 ?_)
                                        refine s_op (o_add (a := (i : Int)) (b := 1) rfl rfl (w64 (by omega) (by omega)) ?_)
                                        refine s_op (o_assign (v := (.int .i64 ((i : Int) + 1))) rfl ?_)
                                        refine s_nil ?_
                                        have hH305 : Has E w291 [sg3, sn3, [Hp.one pb40 (.cells #[(.bool p3.off), (.bool p3.armed), (.int .i64 p3.left), (.int .i64 p3.uses)] 104 (0, 0))], [Hp.one ab48 (.cells #[(.pointer (some ⟨db39, 0, none⟩)), (.int .i64 fr), (.int .i64 n)] 65 (0, 0))], R] := (((((hH290.front 5 rfl).front 3 rfl).front 3 rfl).front 5 rfl).front 4 rfl).first 5 rfl
                                        refine t_norm ⟨l.length - (i + 1), _, rfl, ?_, ?_⟩
                                        · omega
                                        · exact ⟨(i + 1), p3, la3, lo3, sg3, now3, sn3, rfl, hH305, (by omega), (hd3), (hn3), (hp3.mono (by omega)), (hl3), (h643), (hlo3), (hcn3), (hou3), e105_0, e105_1, e105_2, e105_3, e105_9, e105_10, e105_11, rfl, e105_40, e105_69, e105_81⟩
                                  · -- not: x93.size < 0
                                    refine s_on 170 rfl (congrArg Value.bool (decide_eq_false h300)) (o_fieldAddr (k := 2) (fun _ => by kernel_rfl) e105_13 ?_)
                                    refine s_on 170 rfl (congrArg Value.bool (decide_eq_false h300)) (o_load1 (v := (.int .i64 x93.size)) Tryd.underlying3 rfl rfl hH290 (seg_sub 3 rfl) (CellsAt.one rfl) ?_)
                                    refine s_on 170 rfl (congrArg Value.bool (decide_eq_false h300)) (o_move (v := (.int .i64 n)) e105_2 ?_)
                                    refine s_on 170 rfl (congrArg Value.bool (decide_eq_false h300)) (o_mul (a := 64) (b := n) rfl rfl (w64 (by omega) (by omega)) ?_)
                                    refine s_on 170 rfl (congrArg Value.bool (decide_eq_false h300)) (o_gtr (a := x93.size) (b := 64 * n) rfl rfl ?_)
                                    refine s_op (o_pick_f (u := (.bool (decide (64 * n < x93.size)))) ((rfl : _ = _).trans (congrArg Value.bool (decide_eq_false h300))) rfl ?_)
                                    refine s_nil ?_
                                    refine t_norm (hK293 _ _ ?_)
                                    refine c_cond rfl (fun h306 => ?_) (fun h306 => ?_)
                                    · -- 64 * n < x93.size
                                      refine wp_seq_k fun K307 hK307 => ?_
                                      refine wp_seq_k fun K308 hK308 => ?_
                                      refine c_region ?_
                                      refine s_op (o_move (v := (S [])) rfl ?_)
                                      refine s_op (o_sneq (a := []) (b := ([] : List UInt8)) rfl rfl ?_)
                                      refine s_op (o_move (v := (.bool (decide ([] ≠ ([] : List UInt8))))) rfl ?_)
                                      by_cases h309 : [] ≠ ([] : List UInt8)
                                      · -- [] ≠ ([] : List UInt8)
                                        exact absurd rfl h309
                                      · -- not: [] ≠ ([] : List UInt8)
                                        refine s_on 179 rfl (congrArg Value.bool (decide_eq_false h309)) (o_move (v := (.int .i64 (1 : Int))) rfl ?_)
                                        refine s_on 179 rfl (congrArg Value.bool (decide_eq_false h309)) (o_neq (a := (1 : Int)) (b := 1) rfl rfl ?_)
                                        refine s_op (o_pick_f (u := (.bool (decide ((1 : Int) ≠ 1)))) ((rfl : _ = _).trans (congrArg Value.bool (decide_eq_false h309))) rfl ?_)
                                        refine s_nil ?_
                                        refine t_norm (hK308 _ _ ?_)
                                        refine c_cond rfl (fun h310 => ?_) (fun h310 => ?_)
                                        · -- (1 : Int) ≠ 1
                                          exact absurd rfl h310
                                        · -- not: (1 : Int) ≠ 1
                                          refine wp_skip ?_
                                          refine t_norm (hK307 _ _ ?_)
                                          refine wp_exit ?_
                                          refine t_exit (x_out rfl (t_exit (x_in (?_))))
                                          refine t_norm (hK88 _ _ ?_)
                                          refine c_region ?_
                                          refine s_op (o_move (v := (.int .i64 (i : Int))) e105_12 ?_)
                                          refine s_op (o_add (a := (i : Int)) (b := 1) rfl rfl (w64 (by omega) (by omega)) ?_)
                                          refine s_op (o_assign (v := (.int .i64 ((i : Int) + 1))) rfl ?_)
                                          refine s_nil ?_
                                          have hH311 : Has E w291 [sg3, sn3, [Hp.one pb40 (.cells #[(.bool p3.off), (.bool p3.armed), (.int .i64 p3.left), (.int .i64 p3.uses)] 104 (0, 0))], [Hp.one ab48 (.cells #[(.pointer (some ⟨db39, 0, none⟩)), (.int .i64 fr), (.int .i64 n)] 65 (0, 0))], R] := (((((hH290.front 5 rfl).front 3 rfl).front 3 rfl).front 5 rfl).front 4 rfl).first 5 rfl
                                          refine t_norm ⟨l.length - (i + 1), _, rfl, ?_, ?_⟩
                                          · omega
                                          · exact ⟨(i + 1), p3, la3, lo3, sg3, now3, sn3, rfl, hH311, (by omega), (hd3), (hn3), (hp3.mono (by omega)), (hl3), (h643), (hlo3), (hcn3), (hou3), e105_0, e105_1, e105_2, e105_3, e105_9, e105_10, e105_11, rfl, e105_40, e105_69, e105_81⟩
                                    · -- not: 64 * n < x93.size
                                      exfalso; omega
                            · -- not: x93.kind = 1
                              refine wp_seq_k fun K312 hK312 => ?_
                              refine c_region ?_
                              refine s_op (o_eql (a := x93.kind) (b := 2) rfl rfl ?_)
                              refine s_op (o_assign (v := (.bool (decide (x93.kind = 2)))) rfl ?_)
                              refine s_nil ?_
                              refine t_norm (hK312 _ _ ?_)
                              refine c_cond rfl (fun h313 => ?_) (fun h313 => ?_)
                              · -- x93.kind = 2
                                refine wp_seq_k fun K314 hK314 => ?_
                                refine c_region ?_
                                refine s_op (o_move (v := (.pointer (some ⟨ab48, 0, none⟩))) e105_10 ?_)
                                refine s_op (o_nilCheck rfl ?_)
                                refine s_op (o_fieldAddr (k := 0) (fun _ => by kernel_rfl) rfl ?_)
                                refine s_op (o_load1 (v := (.pointer (some ⟨db39, 0, none⟩))) Tryd.underlying50 rfl rfl hH109 (seg_sub 4 rfl) (CellsAt.one rfl) ?_)
                                refine s_op (o_callf (vs := #[(.pointer (some ⟨db39, 0, none⟩))]) ca33 rfl (args1 rfl) (sync_d (p := p3) (la := la3) (lo := lo3) ((hH109.front 3 rfl).front 2 rfl).all2 hd3 (hp3.ok (by omega)) (by rw [hl3]; omega) hlo3) ?_)
                                rintro _ w319 ⟨sg315, rfl, hd316, hX317⟩
                                refine ⟨_, rfl, ?_⟩
                                have hH318 : Has E w319 [sg315, [Hp.one pb40 (.cells #[(.bool (useS p3).off), (.bool (useS p3).armed), (.int .i64 (useS p3).left), (.int .i64 (useS p3).uses)] 104 (0, 0))], [Hp.one b95 (.cells #[(.int .i64 x93.kind), (.int .i64 x93.at_), (.int .i64 x93.size), x93.dv, x93.kv] 58 (0, 0))], sn3, [Hp.one ab48 (.cells #[(.pointer (some ⟨db39, 0, none⟩)), (.int .i64 fr), (.int .i64 n)] 65 (0, 0))], R] := hX317.of_all2
                                refine s_op (o_neq (a := syncE p3) (b := 0) rfl rfl ?_)
                                refine s_nil ?_
                                refine t_norm (hK314 _ _ ?_)
                                refine c_cond rfl (fun h320 => ?_) (fun h320 => ?_)
                                · -- syncE p3 ≠ 0
                                  exact absurd (sync_calm hp3 la3 lo3).1 h320
                                · -- not: syncE p3 ≠ 0
                                  refine wp_skip ?_
                                  refine b_norm ?_
                                  have hH321 : Has E w319 [sg315, sn3, [Hp.one pb40 (.cells #[(.bool (useS p3).off), (.bool (useS p3).armed), (.int .i64 (useS p3).left), (.int .i64 (useS p3).uses)] 104 (0, 0))], [Hp.one b95 (.cells #[(.int .i64 x93.kind), (.int .i64 x93.at_), (.int .i64 x93.size), x93.dv, x93.kv] 58 (0, 0))], [Hp.one ab48 (.cells #[(.pointer (some ⟨db39, 0, none⟩)), (.int .i64 fr), (.int .i64 n)] 65 (0, 0))], R] := Has.pick hH318 [0, 2, 0, 0, 0, 0] (by kernel_rfl)
                                  refine t_norm (hJ114 _ _ ⟨(useS p3), (syncA p3 la3 lo3), (syncO p3 lo3), sg315, now3, sn3, hH321, (hd316), (hn3), (hp3.use.mono (by omega)), ((by rw [sync_len hp3 hlo3]; exact hl3)), ((full_sync hp3 hlo3 h643)), ((ok_sync hp3)), (cn_sync hp3 hlo3 (by omega) hcn3), (fun j hj hk_ => by rw [sync_nowAt hp3 hlo3 j (by omega)]; exact hou3 j hj hk_), e105_0, e105_1, e105_2, e105_3, e105_9, e105_10, e105_11, e105_12, e105_13, e105_14, e105_15, e105_40, e105_69, e105_81, e105_88⟩)
                              · -- not: x93.kind = 2
                                refine wp_skip ?_
                                refine b_norm ?_
                                have hH322 : Has E w108 [sg3, sn3, [Hp.one pb40 (.cells #[(.bool p3.off), (.bool p3.armed), (.int .i64 p3.left), (.int .i64 p3.uses)] 104 (0, 0))], [Hp.one b95 (.cells #[(.int .i64 x93.kind), (.int .i64 x93.at_), (.int .i64 x93.size), x93.dv, x93.kv] 58 (0, 0))], [Hp.one ab48 (.cells #[(.pointer (some ⟨db39, 0, none⟩)), (.int .i64 fr), (.int .i64 n)] 65 (0, 0))], R] := Has.pick hH109 [1, 1, 1, 0, 0, 0] (by kernel_rfl)
                                refine t_norm (hJ114 _ _ ⟨p3, la3, lo3, sg3, now3, sn3, hH322, (hd3), (hn3), (hp3.mono (by omega)), (hl3), (h643), (hlo3), (hcn3), (hou3), e105_0, e105_1, e105_2, e105_3, e105_9, e105_10, e105_11, e105_12, e105_13, e105_14, e105_15, e105_40, e105_69, e105_81, e105_88⟩)
                        refine c_region ?_
                        refine s_op (o_fieldAddr (k := 1) (fun _ => by kernel_rfl) rfl ?_)
                        refine s_op (o_load1 (v := (.int .i64 x93.at_)) Tryd.underlying3 rfl rfl hH102 (seg_sub 0 rfl) (CellsAt.one rfl) ?_)
                        refine s_op (o_geq (a := x93.at_) (b := 0) rfl rfl ?_)
                        refine s_op (o_move (v := (.bool (decide (0 ≤ x93.at_)))) rfl ?_)
                        by_cases h323 : 0 ≤ x93.at_
                        · -- 0 ≤ x93.at_
                          refine s_on 101 rfl (congrArg Value.bool (decide_eq_true h323)) (o_fieldAddr (k := 1) (fun _ => by kernel_rfl) rfl ?_)
                          refine s_on 101 rfl (congrArg Value.bool (decide_eq_true h323)) (o_load1 (v := (.int .i64 x93.at_)) Tryd.underlying3 rfl rfl hH102 (seg_sub 0 rfl) (CellsAt.one rfl) ?_)
                          refine s_on 101 rfl (congrArg Value.bool (decide_eq_true h323)) (o_leq (a := x93.at_) (b := 4611686018427387904) rfl rfl ?_)
                          refine s_op (o_pick_t (u := (.bool (decide (x93.at_ ≤ 4611686018427387904)))) ((rfl : _ = _).trans (congrArg Value.bool (decide_eq_true h323))) rfl ?_)
                          refine s_op (o_assign (v := (.bool (decide (x93.at_ ≤ 4611686018427387904)))) rfl ?_)
                          refine s_nil ?_
                          refine t_norm (hJ107 _ _ ⟨(decide (x93.at_ ≤ 4611686018427387904)), hH102, (by rw [Bool.eq_iff_iff]; simp only [decide_eq_true_eq]; omega), e79_0, e79_1, e79_2, e79_3, e79_9, e79_10, e79_11, e79_12, rfl, rfl, rfl, e79_40, e79_69, e79_81, rfl⟩)
                        · -- not: 0 ≤ x93.at_
                          refine s_off (b' := false) 101 rfl (congrArg Value.bool (decide_eq_false h323)) rfl ?_
                          refine s_off (b' := false) 101 rfl (congrArg Value.bool (decide_eq_false h323)) rfl ?_
                          refine s_off (b' := false) 101 rfl (congrArg Value.bool (decide_eq_false h323)) rfl ?_
                          refine s_op (o_pick_f (u := (.bool false)) ((rfl : _ = _).trans (congrArg Value.bool (decide_eq_false h323))) rfl ?_)
                          refine s_op (o_assign (v := (.bool false)) rfl ?_)
                          refine s_nil ?_
                          refine t_norm (hJ107 _ _ ⟨false, hH102, (by rw [decide_eq_false (by omega)]), e79_0, e79_1, e79_2, e79_3, e79_9, e79_10, e79_11, e79_12, rfl, rfl, rfl, e79_40, e79_69, e79_81, rfl⟩)
                      · -- not: (i : Int) < ((l.length : Nat) : Int)
                        refine wp_exit ?_
                        refine t_exit (t_exit (x_in (?_)))
                        refine t_norm (hK77 _ _ ?_)
                        refine wp_seq_k fun K324 hK324 => ?_
                        refine wp_seq_k fun K325 hK325 => ?_
                        refine c_region ?_
                        refine s_op (o_assign (v := (.int .i64 0)) rfl ?_)
                        refine s_nil ?_
                        refine t_norm (hK325 _ _ ?_)
                        refine wp_block ?_
                        let I327 : Nat → (Nat → Value) → World → Prop := fun n__ r__ w__ => ∃ (j4 : Nat), n__ = k.toNat - j4 ∧ Has E w__ [sg3, sn3, [Hp.one pb40 (.cells #[(.bool p3.off), (.bool p3.armed), (.int .i64 p3.left), (.int .i64 p3.uses)] 104 (0, 0))], [Hp.one ab48 (.cells #[(.pointer (some ⟨db39, 0, none⟩)), (.int .i64 fr), (.int .i64 n)] 65 (0, 0))], R] ∧ ((j4 : Int) ≤ k) ∧ r__ 0 = (.int .i64 k) ∧ r__ 1 = (.int .i64 fr) ∧ r__ 2 = (.int .i64 n) ∧ r__ 3 = v ∧ r__ 9 = (.pointer (some ⟨db39, 0, none⟩)) ∧ r__ 10 = (.pointer (some ⟨ab48, 0, none⟩)) ∧ r__ 11 = (.slice p75 (64 * n).toNat c76) ∧ r__ 12 = (.int .i64 (i : Int)) ∧ r__ 24 = (.int .i64 (j4 : Int)) ∧ r__ 40 = (.bool false) ∧ r__ 69 = (.bool (decide (k - n < fr))) ∧ r__ 81 = (.bool (!(decide (Lib.trimB (getP (List.replicate k.toNat blankS) ([] : List (Int × Bs)) (allP fr (n * 64) (0 % (n * 64)) (n * 64))) 0 = [])))) ∧ r__ 88 = (.bool (decide ((i : Int) < ((l.length : Nat) : Int))))
                        refine c_loop I327 _ ⟨0, rfl, hH83, (by omega), e79_0, e79_1, e79_2, e79_3, e79_9, e79_10, e79_11, e79_12, rfl, e79_40, e79_69, e79_81, rfl⟩ ?_
                        rintro n_ r330 w328 ⟨j4, rfl, hH329, hj4, e326_0, e326_1, e326_2, e326_3, e326_9, e326_10, e326_11, e326_12, e326_24, e326_40, e326_69, e326_81, e326_88⟩
                        refine wp_seq_k fun K331 hK331 => ?_
                        refine wp_seq_k fun K332 hK332 => ?_
                        refine c_region ?_
                        refine s_op (o_move (v := (.int .i64 (j4 : Int))) e326_24 ?_)
                        refine s_op (o_move (v := (.int .i64 k)) e326_0 ?_)
                        refine s_op (o_lss (a := (j4 : Int)) (b := k) rfl rfl ?_)
                        refine s_nil ?_
                        refine t_norm (hK332 _ _ ?_)
                        refine c_cond rfl (fun h333 => ?_) (fun h333 => ?_)
                        · -- (j4 : Int) < k
                          refine wp_skip ?_
                          refine t_norm (hK331 _ _ ?_)
                          refine wp_seq_k fun K334 hK334 => ?_
                          refine wp_block ?_
                          refine wp_seq_k fun K335 hK335 => ?_
                          refine c_region ?_
                          refine s_op (o_move (v := (.pointer (some ⟨db39, 0, none⟩))) e326_9 ?_)
                          refine s_op (o_move (v := (.int .i64 (j4 : Int))) e326_24 ?_)
                          refine s_op (o_callf (vs := #[(.pointer (some ⟨db39, 0, none⟩)), (.int .i64 (j4 : Int))]) ca34 rfl (args2 rfl rfl) (read_d (p := p3) (la := la3) (lo := lo3) ((hH329.front 2 rfl).front 1 rfl).all2 hd3 (j4 : Int)) ?_)
                          rintro _ w338 ⟨rfl, hX336⟩
                          refine ⟨_, rfl, ?_⟩
                          have hH337 : Has E w338 [sg3, [Hp.one pb40 (.cells #[(.bool p3.off), (.bool p3.armed), (.int .i64 p3.left), (.int .i64 p3.uses)] 104 (0, 0))], sn3, [Hp.one ab48 (.cells #[(.pointer (some ⟨db39, 0, none⟩)), (.int .i64 fr), (.int .i64 n)] 65 (0, 0))], R] := hX336.of_all2
                          refine s_op (o_move (v := (.tuple #[(S (readS p3 la3 lo3 (j4 : Int))), (.int .i64 (readE p3 la3 (j4 : Int)))])) rfl ?_)
                          refine s_op (o_extract (v := (S (readS p3 la3 lo3 (j4 : Int)))) rfl rfl ?_)
                          refine s_op (o_extract (v := (.int .i64 (readE p3 la3 (j4 : Int)))) rfl rfl ?_)
                          refine s_op (o_assign (v := (S (readS p3 la3 lo3 (j4 : Int)))) rfl ?_)
                          refine s_op (o_assign (v := (.int .i64 (readE p3 la3 (j4 : Int)))) rfl ?_)
                          refine s_nil ?_
                          refine t_norm (hK335 _ _ ?_)
                          refine wp_seq_k fun K339 hK339 => ?_
                          refine c_region ?_
                          refine s_op (o_move (v := (.int .i64 (j4 : Int))) e326_24 ?_)
                          refine s_op (o_move (v := (.int .i64 fr)) e326_1 ?_)
                          refine s_op (o_lss (a := (j4 : Int)) (b := fr) rfl rfl ?_)
                          refine s_op (o_move (v := (.bool (decide ((j4 : Int) < fr)))) rfl ?_)
                          by_cases h340 : (j4 : Int) < fr
                          · -- (j4 : Int) < fr
                            refine s_off (b' := true) 262 rfl (congrArg Value.bool (decide_eq_true h340)) rfl ?_
                            refine s_off (b' := true) 262 rfl (congrArg Value.bool (decide_eq_true h340)) rfl ?_
                            refine s_off (b' := true) 262 rfl (congrArg Value.bool (decide_eq_true h340)) rfl ?_
                            refine s_off (b' := true) 262 rfl (congrArg Value.bool (decide_eq_true h340)) rfl ?_
                            refine s_off (b' := true) 262 rfl (congrArg Value.bool (decide_eq_true h340)) rfl ?_
                            refine s_op (o_pick_t (u := (.bool true)) ((rfl : _ = _).trans (congrArg Value.bool (decide_eq_true h340))) rfl ?_)
                            refine s_op (o_move (v := (.bool true)) rfl ?_)
                            refine s_on 269 rfl rfl (o_move (v := (S (readS p3 la3 lo3 (j4 : Int)))) rfl ?_)
                            refine s_on 269 rfl rfl (o_make Tryd.underlying55 ti5 rfl rfl (by omega) (by omega) (by omega) (by omega) hH337 fun v341 s342 w344 ho343 hH345 => ?_)
                            have ho346 : Own 5 1 v341 (List.replicate ((64 : Int)).toNat (0 : UInt8)).length ((List.replicate ((64 : Int)).toNat (0 : UInt8)).map bV) s342 := by rw [List.length_replicate, List.map_replicate, ← made_rep]; exact ho343
                            obtain ⟨p347, c348, rfl⟩ := (Own.sl ho343).form
                            refine s_on 269 rfl rfl (o_bstr Tryd.underlying55 Tryd.underlying5 Tryd.underlying9 rfl ho346.sl hH345 (seg_sub 0 rfl) ?_)
                            refine s_on 269 rfl rfl (o_sneq (a := (readS p3 la3 lo3 (j4 : Int))) (b := (List.replicate ((64 : Int)).toNat (0 : UInt8))) rfl rfl ?_)
                            refine s_op (o_pick_t (u := (.bool (decide ((readS p3 la3 lo3 (j4 : Int)) ≠ (List.replicate ((64 : Int)).toNat (0 : UInt8)))))) rfl rfl ?_)
                            refine s_nil ?_
                            refine t_norm (hK339 _ _ ?_)
                            refine c_cond rfl (fun h349 => ?_) (fun h349 => ?_)
                            · -- (readS p3 la3 lo3 (j4 : Int)) ≠ (List.replicate ((64 : Int)).toNat (0 : UInt8))
                              exact absurd (by rw [(read_now hp3 (la := la3) (lo := lo3) (n := (j4 : Int)) ⟨by omega, by rw [hl3]; omega⟩).1]; exact hou3 j4 (by omega) (by omega)) h349
                            · -- not: (readS p3 la3 lo3 (j4 : Int)) ≠ (List.replicate ((64 : Int)).toNat (0 : UInt8))
                              refine wp_skip ?_
                              refine b_norm ?_
                              refine t_norm (hK334 _ _ ?_)
                              refine c_region ?_
                              refine s_op (o_move (v := (.int .i64 (j4 : Int))) e326_24 ?_)
                              refine s_op (o_add (a := (j4 : Int)) (b := 1) rfl rfl (w64 (by omega) (by omega)) ?_)
                              refine s_op (o_assign (v := (.int .i64 ((j4 : Int) + 1))) rfl ?_)
                              refine s_nil ?_
                              have hH350 : Has E w344 [sg3, sn3, [Hp.one pb40 (.cells #[(.bool p3.off), (.bool p3.armed), (.int .i64 p3.left), (.int .i64 p3.uses)] 104 (0, 0))], [Hp.one ab48 (.cells #[(.pointer (some ⟨db39, 0, none⟩)), (.int .i64 fr), (.int .i64 n)] 65 (0, 0))], R] := (((((hH345.front 5 rfl).front 5 rfl).front 4 rfl).front 5 rfl).front 5 rfl).first 5 rfl
                              refine t_norm ⟨k.toNat - (j4 + 1), _, rfl, ?_, ?_⟩
                              · omega
                              · exact ⟨(j4 + 1), rfl, hH350, (by omega), e326_0, e326_1, e326_2, e326_3, e326_9, e326_10, e326_11, e326_12, rfl, e326_40, e326_69, e326_81, e326_88⟩
                          · -- not: (j4 : Int) < fr
                            refine s_on 262 rfl (congrArg Value.bool (decide_eq_false h340)) (o_move (v := (.int .i64 (j4 : Int))) e326_24 ?_)
                            refine s_on 262 rfl (congrArg Value.bool (decide_eq_false h340)) (o_move (v := (.int .i64 fr)) e326_1 ?_)
                            refine s_on 262 rfl (congrArg Value.bool (decide_eq_false h340)) (o_move (v := (.int .i64 n)) e326_2 ?_)
                            refine s_on 262 rfl (congrArg Value.bool (decide_eq_false h340)) (o_add (a := fr) (b := n) rfl rfl (w64 (by omega) (by omega)) ?_)
                            refine s_on 262 rfl (congrArg Value.bool (decide_eq_false h340)) (o_geq (a := (j4 : Int)) (b := fr + n) rfl rfl ?_)
                            refine s_op (o_pick_f (u := (.bool (decide (fr + n ≤ (j4 : Int))))) ((rfl : _ = _).trans (congrArg Value.bool (decide_eq_false h340))) rfl ?_)
                            refine s_op (o_move (v := (.bool (decide (fr + n ≤ (j4 : Int))))) rfl ?_)
                            by_cases h351 : fr + n ≤ (j4 : Int)
                            · -- fr + n ≤ (j4 : Int)
                              refine s_on 269 rfl (congrArg Value.bool (decide_eq_true h351)) (o_move (v := (S (readS p3 la3 lo3 (j4 : Int)))) rfl ?_)
                              refine s_on 269 rfl (congrArg Value.bool (decide_eq_true h351)) (o_make Tryd.underlying55 ti5 rfl rfl (by omega) (by omega) (by omega) (by omega) hH337 fun v352 s353 w355 ho354 hH356 => ?_)
                              have ho357 : Own 5 1 v352 (List.replicate ((64 : Int)).toNat (0 : UInt8)).length ((List.replicate ((64 : Int)).toNat (0 : UInt8)).map bV) s353 := by rw [List.length_replicate, List.map_replicate, ← made_rep]; exact ho354
                              obtain ⟨p358, c359, rfl⟩ := (Own.sl ho354).form
                              refine s_on 269 rfl (congrArg Value.bool (decide_eq_true h351)) (o_bstr Tryd.underlying55 Tryd.underlying5 Tryd.underlying9 rfl ho357.sl hH356 (seg_sub 0 rfl) ?_)
                              refine s_on 269 rfl (congrArg Value.bool (decide_eq_true h351)) (o_sneq (a := (readS p3 la3 lo3 (j4 : Int))) (b := (List.replicate ((64 : Int)).toNat (0 : UInt8))) rfl rfl ?_)
                              refine s_op (o_pick_t (u := (.bool (decide ((readS p3 la3 lo3 (j4 : Int)) ≠ (List.replicate ((64 : Int)).toNat (0 : UInt8)))))) ((rfl : _ = _).trans (congrArg Value.bool (decide_eq_true h351))) rfl ?_)
                              refine s_nil ?_
                              refine t_norm (hK339 _ _ ?_)
                              refine c_cond rfl (fun h360 => ?_) (fun h360 => ?_)
                              · -- (readS p3 la3 lo3 (j4 : Int)) ≠ (List.replicate ((64 : Int)).toNat (0 : UInt8))
                                exact absurd (by rw [(read_now hp3 (la := la3) (lo := lo3) (n := (j4 : Int)) ⟨by omega, by rw [hl3]; omega⟩).1]; exact hou3 j4 (by omega) (by omega)) h360
                              · -- not: (readS p3 la3 lo3 (j4 : Int)) ≠ (List.replicate ((64 : Int)).toNat (0 : UInt8))
                                refine wp_skip ?_
                                refine b_norm ?_
                                refine t_norm (hK334 _ _ ?_)
                                refine c_region ?_
                                refine s_op (o_move (v := (.int .i64 (j4 : Int))) e326_24 ?_)
                                refine s_op (o_add (a := (j4 : Int)) (b := 1) rfl rfl (w64 (by omega) (by omega)) ?_)
                                refine s_op (o_assign (v := (.int .i64 ((j4 : Int) + 1))) rfl ?_)
                                refine s_nil ?_
                                have hH361 : Has E w355 [sg3, sn3, [Hp.one pb40 (.cells #[(.bool p3.off), (.bool p3.armed), (.int .i64 p3.left), (.int .i64 p3.uses)] 104 (0, 0))], [Hp.one ab48 (.cells #[(.pointer (some ⟨db39, 0, none⟩)), (.int .i64 fr), (.int .i64 n)] 65 (0, 0))], R] := (((((hH356.front 5 rfl).front 5 rfl).front 4 rfl).front 5 rfl).front 5 rfl).first 5 rfl
                                refine t_norm ⟨k.toNat - (j4 + 1), _, rfl, ?_, ?_⟩
                                · omega
                                · exact ⟨(j4 + 1), rfl, hH361, (by omega), e326_0, e326_1, e326_2, e326_3, e326_9, e326_10, e326_11, e326_12, rfl, e326_40, e326_69, e326_81, e326_88⟩
                            · -- not: fr + n ≤ (j4 : Int)
                              refine s_off (b' := false) 269 rfl (congrArg Value.bool (decide_eq_false h351)) rfl ?_
                              refine s_off (b' := false) 269 rfl (congrArg Value.bool (decide_eq_false h351)) rfl ?_
                              refine s_off (b' := false) 269 rfl (congrArg Value.bool (decide_eq_false h351)) rfl ?_
                              refine s_off (b' := false) 269 rfl (congrArg Value.bool (decide_eq_false h351)) rfl ?_
                              refine s_op (o_pick_f (u := (.bool false)) ((rfl : _ = _).trans (congrArg Value.bool (decide_eq_false h351))) rfl ?_)
                              refine s_nil ?_
                              refine t_norm (hK339 _ _ ?_)
                              refine c_false rfl rfl ?_
                              refine wp_skip ?_
                              refine b_norm ?_
                              refine t_norm (hK334 _ _ ?_)
                              refine c_region ?_
                              refine s_op (o_move (v := (.int .i64 (j4 : Int))) e326_24 ?_)
                              refine s_op (o_add (a := (j4 : Int)) (b := 1) rfl rfl (w64 (by omega) (by omega)) ?_)
                              refine s_op (o_assign (v := (.int .i64 ((j4 : Int) + 1))) rfl ?_)
                              refine s_nil ?_
                              have hH362 : Has E w338 [sg3, sn3, [Hp.one pb40 (.cells #[(.bool p3.off), (.bool p3.armed), (.int .i64 p3.left), (.int .i64 p3.uses)] 104 (0, 0))], [Hp.one ab48 (.cells #[(.pointer (some ⟨db39, 0, none⟩)), (.int .i64 fr), (.int .i64 n)] 65 (0, 0))], R] := (((((hH337.front 4 rfl).front 4 rfl).front 3 rfl).front 4 rfl).front 4 rfl).first 5 rfl
                              refine t_norm ⟨k.toNat - (j4 + 1), _, rfl, ?_, ?_⟩
                              · omega
                              · exact ⟨(j4 + 1), rfl, hH362, (by omega), e326_0, e326_1, e326_2, e326_3, e326_9, e326_10, e326_11, e326_12, rfl, e326_40, e326_69, e326_81, e326_88⟩
                        · -- not: (j4 : Int) < k
                          refine wp_exit ?_
                          refine t_exit (t_exit (x_in (?_)))
                          refine t_norm (hK324 _ _ ?_)
                          refine wp_seq_k fun K363 hK363 => ?_
                          refine c_region ?_
                          refine s_op (o_assign (v := (.bool true)) rfl ?_)
                          refine s_nil ?_
                          refine t_norm (hK363 _ _ ?_)
                          refine wp_ret ?_
                          refine c_ret1 Tryd.results7  (v := (.bool true)) rfl ?_
                          have hH364 : Has E w328 [R] := (hH329.front 4 rfl).first 1 rfl
                          exact ⟨by first | rfl | rw [decide_eq_true rfl], hH364⟩
        · -- no
          refine s_op (o_callf (vs := #[(.pointer (some ⟨db39, 0, none⟩)), (.int .i64 fr), (.int .i64 n)]) ca27 rfl (args3 rfl rfl rfl) (anew_no ((hH44.front 1 rfl).front 1 rfl).all2 hd42 (by rw [List.length_replicate]; omega) (by rw [List.length_replicate]; omega)) ?_)
          rintro _ w367 ⟨rfl, hX365⟩
          refine ⟨_, rfl, ?_⟩
          have hH366 : Has E w367 [sg41, [Hp.one pb40 (.cells #[(.bool (Pw.mk false false 0 0).off), (.bool (Pw.mk false false 0 0).armed), (.int .i64 (Pw.mk false false 0 0).left), (.int .i64 (Pw.mk false false 0 0).uses)] 104 (0, 0))], R] := hX365.of_all2
          refine s_op (o_assign (v := (.pointer none)) rfl ?_)
          refine s_nil ?_
          refine t_norm (hK46 _ _ ?_)
          refine wp_seq_k fun K368 hK368 => ?_
          refine wp_seq_k fun K369 hK369 => ?_
          refine c_region ?_
          refine s_op (o_move (v := (.pointer (some ⟨db39, 0, none⟩))) rfl ?_)
          refine s_op (o_pnil (p := some _) Tryd.underlying50 rfl rfl ?_)
          refine s_op (o_move (v := (.bool false)) rfl ?_)
          refine s_on 50 rfl rfl (o_move (v := (.int .i64 fr)) rfl ?_)
          refine s_on 50 rfl rfl (o_lss (a := fr) (b := 0) rfl rfl ?_)
          refine s_op (o_pick_f (u := (.bool (decide (fr < 0)))) rfl rfl ?_)
          refine s_op (o_move (v := (.bool (decide (fr < 0)))) rfl ?_)
          by_cases h370 : fr < 0
          · -- fr < 0
            refine s_off (b' := true) 54 rfl (congrArg Value.bool (decide_eq_true h370)) rfl ?_
            refine s_off (b' := true) 54 rfl (congrArg Value.bool (decide_eq_true h370)) rfl ?_
            refine s_op (o_pick_t (u := (.bool true)) ((rfl : _ = _).trans (congrArg Value.bool (decide_eq_true h370))) rfl ?_)
            refine s_op (o_move (v := (.bool true)) rfl ?_)
            refine s_off (b' := true) 58 rfl rfl rfl ?_
            refine s_off (b' := true) 58 rfl rfl rfl ?_
            refine s_off (b' := true) 58 rfl rfl rfl ?_
            refine s_op (o_pick_t (u := (.bool true)) rfl rfl ?_)
            refine s_op (o_move (v := (.bool true)) rfl ?_)
            refine s_off (b' := true) 63 rfl rfl rfl ?_
            refine s_off (b' := true) 63 rfl rfl rfl ?_
            refine s_off (b' := true) 63 rfl rfl rfl ?_
            refine s_off (b' := true) 63 rfl rfl rfl ?_
            refine s_off (b' := true) 63 rfl rfl rfl ?_
            refine s_op (o_pick_t (u := (.bool true)) rfl rfl ?_)
            refine s_nil ?_
            refine t_norm (hK369 _ _ ?_)
            refine c_true rfl rfl ?_
            refine wp_seq_k fun K371 hK371 => ?_
            refine c_region ?_
            refine s_op (o_move (v := (.pointer none)) rfl ?_)
            refine s_op (o_pnil (p := none) Tryd.underlying52 rfl rfl ?_)
            refine s_op (o_assign (v := (.bool true)) rfl ?_)
            refine s_nil ?_
            refine t_norm (hK371 _ _ ?_)
            refine wp_ret ?_
            refine t_ret (c_ret1 Tryd.results7  (v := (.bool true)) rfl ?_)
            have hH372 : Has E w367 [R] := (hH366.front 2 rfl).first 1 rfl
            exact ⟨by first | rfl | rw [decide_eq_true rfl], hH372⟩
          · -- not: fr < 0
            refine s_on 54 rfl (congrArg Value.bool (decide_eq_false h370)) (o_move (v := (.int .i64 n)) rfl ?_)
            refine s_on 54 rfl (congrArg Value.bool (decide_eq_false h370)) (o_lss (a := n) (b := 1) rfl rfl ?_)
            refine s_op (o_pick_f (u := (.bool (decide (n < 1)))) ((rfl : _ = _).trans (congrArg Value.bool (decide_eq_false h370))) rfl ?_)
            refine s_op (o_move (v := (.bool (decide (n < 1)))) rfl ?_)
            by_cases h373 : n < 1
            · -- n < 1
              refine s_off (b' := true) 58 rfl (congrArg Value.bool (decide_eq_true h373)) rfl ?_
              refine s_off (b' := true) 58 rfl (congrArg Value.bool (decide_eq_true h373)) rfl ?_
              refine s_off (b' := true) 58 rfl (congrArg Value.bool (decide_eq_true h373)) rfl ?_
              refine s_op (o_pick_t (u := (.bool true)) ((rfl : _ = _).trans (congrArg Value.bool (decide_eq_true h373))) rfl ?_)
              refine s_op (o_move (v := (.bool true)) rfl ?_)
              refine s_off (b' := true) 63 rfl rfl rfl ?_
              refine s_off (b' := true) 63 rfl rfl rfl ?_
              refine s_off (b' := true) 63 rfl rfl rfl ?_
              refine s_off (b' := true) 63 rfl rfl rfl ?_
              refine s_off (b' := true) 63 rfl rfl rfl ?_
              refine s_op (o_pick_t (u := (.bool true)) rfl rfl ?_)
              refine s_nil ?_
              refine t_norm (hK369 _ _ ?_)
              refine c_true rfl rfl ?_
              refine wp_seq_k fun K374 hK374 => ?_
              refine c_region ?_
              refine s_op (o_move (v := (.pointer none)) rfl ?_)
              refine s_op (o_pnil (p := none) Tryd.underlying52 rfl rfl ?_)
              refine s_op (o_assign (v := (.bool true)) rfl ?_)
              refine s_nil ?_
              refine t_norm (hK374 _ _ ?_)
              refine wp_ret ?_
              refine t_ret (c_ret1 Tryd.results7  (v := (.bool true)) rfl ?_)
              have hH375 : Has E w367 [R] := (hH366.front 2 rfl).first 1 rfl
              exact ⟨by first | rfl | rw [decide_eq_true rfl], hH375⟩
            · -- not: n < 1
              refine s_on 58 rfl (congrArg Value.bool (decide_eq_false h373)) (o_move (v := (.int .i64 n)) rfl ?_)
              refine s_on 58 rfl (congrArg Value.bool (decide_eq_false h373)) (o_move (v := (.int .i64 k)) rfl ?_)
              refine s_on 58 rfl (congrArg Value.bool (decide_eq_false h373)) (o_gtr (a := n) (b := k) rfl rfl ?_)
              refine s_op (o_pick_f (u := (.bool (decide (k < n)))) ((rfl : _ = _).trans (congrArg Value.bool (decide_eq_false h373))) rfl ?_)
              refine s_op (o_move (v := (.bool (decide (k < n)))) rfl ?_)
              by_cases h376 : k < n
              · -- k < n
                refine s_off (b' := true) 63 rfl (congrArg Value.bool (decide_eq_true h376)) rfl ?_
                refine s_off (b' := true) 63 rfl (congrArg Value.bool (decide_eq_true h376)) rfl ?_
                refine s_off (b' := true) 63 rfl (congrArg Value.bool (decide_eq_true h376)) rfl ?_
                refine s_off (b' := true) 63 rfl (congrArg Value.bool (decide_eq_true h376)) rfl ?_
                refine s_off (b' := true) 63 rfl (congrArg Value.bool (decide_eq_true h376)) rfl ?_
                refine s_op (o_pick_t (u := (.bool true)) ((rfl : _ = _).trans (congrArg Value.bool (decide_eq_true h376))) rfl ?_)
                refine s_nil ?_
                refine t_norm (hK369 _ _ ?_)
                refine c_true rfl rfl ?_
                refine wp_seq_k fun K377 hK377 => ?_
                refine c_region ?_
                refine s_op (o_move (v := (.pointer none)) rfl ?_)
                refine s_op (o_pnil (p := none) Tryd.underlying52 rfl rfl ?_)
                refine s_op (o_assign (v := (.bool true)) rfl ?_)
                refine s_nil ?_
                refine t_norm (hK377 _ _ ?_)
                refine wp_ret ?_
                refine t_ret (c_ret1 Tryd.results7  (v := (.bool true)) rfl ?_)
                have hH378 : Has E w367 [R] := (hH366.front 2 rfl).first 1 rfl
                exact ⟨by first | rfl | rw [decide_eq_true rfl], hH378⟩
              · -- not: k < n
                refine s_on 63 rfl (congrArg Value.bool (decide_eq_false h376)) (o_move (v := (.int .i64 fr)) rfl ?_)
                refine s_on 63 rfl (congrArg Value.bool (decide_eq_false h376)) (o_move (v := (.int .i64 k)) rfl ?_)
                refine s_on 63 rfl (congrArg Value.bool (decide_eq_false h376)) (o_move (v := (.int .i64 n)) rfl ?_)
                refine s_on 63 rfl (congrArg Value.bool (decide_eq_false h376)) (o_sub (a := k) (b := n) rfl rfl (w64 (by omega) (by omega)) ?_)
                refine s_on 63 rfl (congrArg Value.bool (decide_eq_false h376)) (o_gtr (a := fr) (b := k - n) rfl rfl ?_)
                refine s_op (o_pick_f (u := (.bool (decide (k - n < fr)))) ((rfl : _ = _).trans (congrArg Value.bool (decide_eq_false h376))) rfl ?_)
                refine s_nil ?_
                refine t_norm (hK369 _ _ ?_)
                refine c_cond rfl (fun h379 => ?_) (fun h379 => ?_)
                · -- k - n < fr
                  refine wp_seq_k fun K380 hK380 => ?_
                  refine c_region ?_
                  refine s_op (o_move (v := (.pointer none)) rfl ?_)
                  refine s_op (o_pnil (p := none) Tryd.underlying52 rfl rfl ?_)
                  refine s_op (o_assign (v := (.bool true)) rfl ?_)
                  refine s_nil ?_
                  refine t_norm (hK380 _ _ ?_)
                  refine wp_ret ?_
                  refine t_ret (c_ret1 Tryd.results7  (v := (.bool true)) rfl ?_)
                  have hH381 : Has E w367 [R] := (hH366.front 2 rfl).first 1 rfl
                  exact ⟨by first | rfl | rw [decide_eq_true rfl], hH381⟩
                · -- not: k - n < fr
                  exfalso; omega
      · -- no
        refine s_op (o_callf (vs := #[(.pointer none), (.int .i64 k)]) ca26 rfl (args2 rfl rfl) (new_bad hH35.all (v := .pointer none) (n := k) (by omega)) ?_)
        rintro _ w384 ⟨rfl, hX382⟩
        refine ⟨_, rfl, ?_⟩
        have hH383 := hX382.of_all
        refine s_op (o_assign (v := (.pointer none)) rfl ?_)
        refine s_nil ?_
        refine t_norm (hK37 _ _ ?_)
        refine wp_seq_k fun K385 hK385 => ?_
        refine c_region ?_
        refine s_op (o_move (v := (.pointer none)) rfl ?_)
        refine s_op (o_move (v := (.int .i64 fr)) rfl ?_)
        refine s_op (o_move (v := (.int .i64 n)) rfl ?_)
        refine s_op (o_callf (vs := #[(.pointer none), (.int .i64 fr), (.int .i64 n)]) ca27 rfl (args3 rfl rfl rfl) (anew_nil hH383.all fr n) ?_)
        rintro _ w388 ⟨rfl, hX386⟩
        refine ⟨_, rfl, ?_⟩
        have hH387 := hX386.of_all
        refine s_op (o_assign (v := (.pointer none)) rfl ?_)
        refine s_nil ?_
        refine t_norm (hK385 _ _ ?_)
        refine wp_seq_k fun K389 hK389 => ?_
        refine wp_seq_k fun K390 hK390 => ?_
        refine c_region ?_
        refine s_op (o_move (v := (.pointer none)) rfl ?_)
        refine s_op (o_pnil (p := none) Tryd.underlying50 rfl rfl ?_)
        refine s_op (o_move (v := (.bool true)) rfl ?_)
        refine s_off (b' := true) 50 rfl rfl rfl ?_
        refine s_off (b' := true) 50 rfl rfl rfl ?_
        refine s_op (o_pick_t (u := (.bool true)) rfl rfl ?_)
        refine s_op (o_move (v := (.bool true)) rfl ?_)
        refine s_off (b' := true) 54 rfl rfl rfl ?_
        refine s_off (b' := true) 54 rfl rfl rfl ?_
        refine s_op (o_pick_t (u := (.bool true)) rfl rfl ?_)
        refine s_op (o_move (v := (.bool true)) rfl ?_)
        refine s_off (b' := true) 58 rfl rfl rfl ?_
        refine s_off (b' := true) 58 rfl rfl rfl ?_
        refine s_off (b' := true) 58 rfl rfl rfl ?_
        refine s_op (o_pick_t (u := (.bool true)) rfl rfl ?_)
        refine s_op (o_move (v := (.bool true)) rfl ?_)
        refine s_off (b' := true) 63 rfl rfl rfl ?_
        refine s_off (b' := true) 63 rfl rfl rfl ?_
        refine s_off (b' := true) 63 rfl rfl rfl ?_
        refine s_off (b' := true) 63 rfl rfl rfl ?_
        refine s_off (b' := true) 63 rfl rfl rfl ?_
        refine s_op (o_pick_t (u := (.bool true)) rfl rfl ?_)
        refine s_nil ?_
        refine t_norm (hK390 _ _ ?_)
        refine c_true rfl rfl ?_
        refine wp_seq_k fun K391 hK391 => ?_
        refine c_region ?_
        refine s_op (o_move (v := (.pointer none)) rfl ?_)
        refine s_op (o_pnil (p := none) Tryd.underlying52 rfl rfl ?_)
        refine s_op (o_assign (v := (.bool true)) rfl ?_)
        refine s_nil ?_
        refine t_norm (hK391 _ _ ?_)
        refine wp_ret ?_
        refine t_ret (c_ret1 Tryd.results7  (v := (.bool true)) rfl ?_)
        exact ⟨by first | rfl | rw [decide_eq_true rfl], hH387⟩
end Go.Q
namespace Go.Q
open Go.Proofs
set_option linter.unusedVariables false
set_option maxRecDepth 100000
attribute [local irreducible] wpList OK Code.wp
theorem rd_aact {H : Type} {enc : TypeId × Value → H} {w : World} {cs : List Value} (h : RdS enc Tryd.prog w 58 cs) : ∃ a : AAct, cs = aaC a ∧ AaOk [Hp.of w] a := by
  obtain ⟨hl, hf⟩ := rds_struct Tryd.underlying58 h
  have hl : cs.length = 5 := hl.trans (by kernel_rfl)
  obtain ⟨c0, c1, c2, c3, c4, rfl⟩ : ∃ c0 c1 c2 c3 c4, cs = [c0, c1, c2, c3, c4] := by
    match cs, hl with
    | [c0, c1, c2, c3, c4], _ => exact ⟨c0, c1, c2, c3, c4, rfl⟩
  have f0 : RdS enc Tryd.prog w 3 [c0] := rds_field (i := 0) (k := 1) hf rfl rfl (by kernel_rfl) rfl
  obtain ⟨n0, e0, b0⟩ := rd_i64 Tryd.underlying3 f0.rd
  obtain rfl := (List.cons.inj e0).1
  have f1 : RdS enc Tryd.prog w 3 [c1] := rds_field (i := 1) (k := 1) hf rfl rfl (by kernel_rfl) rfl
  obtain ⟨n1, e1, b1⟩ := rd_i64 Tryd.underlying3 f1.rd
  obtain rfl := (List.cons.inj e1).1
  have f2 : RdS enc Tryd.prog w 3 [c2] := rds_field (i := 2) (k := 1) hf rfl rfl (by kernel_rfl) rfl
  obtain ⟨n2, e2, b2⟩ := rd_i64 Tryd.underlying3 f2.rd
  obtain rfl := (List.cons.inj e2).1
  have f3 : RdS enc Tryd.prog w 32 [c3] := rds_field (i := 3) (k := 1) hf rfl rfl (by kernel_rfl) rfl
  obtain ⟨u3, n3, e3, s3, b3, _⟩ := rds_strings Tryd.underlying32 Tryd.underlying9 (by kernel_rfl) f3
  obtain rfl := (List.cons.inj e3).1
  have f4 : RdS enc Tryd.prog w 56 [c4] := rds_field (i := 4) (k := 1) hf rfl rfl (by kernel_rfl) rfl
  obtain ⟨u4, n4, e4, s4, b4⟩ := rd_ints Tryd.underlying56 Tryd.underlying3 (by kernel_rfl) f4.rd
  obtain rfl := (List.cons.inj e4).1
  exact ⟨⟨n0, n1, n2, _, n3, _, n4⟩, rfl, s3, s4, b3⟩
theorem rd_aacts {H : Type} {enc : TypeId × Value → H} {w : World} {cs : List Value} (h : RdS enc Tryd.prog w 48 cs) : ∃ (v : Value) (l : List AAct), cs = [v] ∧ Sl [Hp.of w] 5 v l.length (l.flatMap aaC) ∧ ∀ a ∈ l, AaOk [Hp.of w] a := by
  obtain ⟨v, l, h1, h2, h3, _⟩ := rds_rows Tryd.underlying48 (by kernel_rfl) (by decide) aaC_len (fun r hr => rd_aact hr) h
  exact ⟨v, l, h1, h2, h3⟩
end Go.Q
