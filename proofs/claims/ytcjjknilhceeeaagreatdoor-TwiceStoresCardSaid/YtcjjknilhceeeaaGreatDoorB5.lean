/-
  Parts of a walk: what functions of the program compute, each told by a theorem (QvL6, QYD, QvRd).
-/
import Derived.Test.YtcjjknilhceeeaaGreatDoorB4
import Derived.OpenShut
set_option linter.unusedVariables false
set_option linter.unusedSimpArgs false
set_option linter.unnecessarySimpa false
namespace Go.Q
open Go.Proofs
set_option linter.unusedVariables false
set_option maxRecDepth 100000
attribute [local irreducible] wpList OK Code.wp
set_option maxHeartbeats 4000000 in
theorem TwiceStores_c {E w : World} {R : List Hp} (hH : Has E w [R]) (hg : CellsAt R 1 0 nibV) {n : Int} {v : Value} {gs : List Gr} (hv0 : Sl R 1 v gs.length (gs.flatMap grC)) (hgr : ∀ a ∈ gs, GrIn R a) {more : Int} (hmore : 0 ≤ more ∧ more ≤ 255) :
    Calls Tryz.prog 3 #[(.int .i64 n), v, (.int .u8 more)] w fun e w' => e = .returned (.bool true) ∧ Has E w' [R] := by
  have hv : Sl R 1 v gs.length (gs.map grV) := by rw [← gr_map]; exact hv0
  have hn_ := hv.le
  refine c_enter (args := [(.int .i64 n), v, (.int .u8 more)]) Tryz.func3 rfl Tryz.ntmps3 (by simp) ?_
  refine wp_seq_k fun K1 hK1 => ?_
  refine c_region ?_
  refine s_op (o_assign (v := (.bool false)) rfl ?_)
  refine s_nil ?_
  refine t_norm (hK1 _ _ ?_)
  refine wp_seq_k fun K2 hK2 => ?_
  refine wp_seq_k fun K3 hK3 => ?_
  refine c_region ?_
  refine s_op (o_move (v := v) rfl ?_)
  refine s_op (o_lenS Tryz.underlying22 rfl hv ?_)
  refine s_op (o_gtr (a := ((gs.length : Nat) : Int)) (b := 12) rfl rfl ?_)
  refine s_op (o_move (v := (.bool (decide (12 < ((gs.length : Nat) : Int))))) rfl ?_)
  by_cases h4 : 12 < ((gs.length : Nat) : Int)
  · -- 12 < ((gs.length : Nat) : Int)
    refine s_off (b' := true) 24 rfl (congrArg Value.bool (decide_eq_true h4)) rfl ?_
    refine s_off (b' := true) 24 rfl (congrArg Value.bool (decide_eq_true h4)) rfl ?_
    refine s_off (b' := true) 24 rfl (congrArg Value.bool (decide_eq_true h4)) rfl ?_
    refine s_offu 27 rfl rfl ?_
    refine s_offu 27 rfl rfl ?_
    refine s_off (b' := true) 24 rfl (congrArg Value.bool (decide_eq_true h4)) rfl ?_
    refine s_op (o_pick_t (u := (.bool true)) ((rfl : _ = _).trans (congrArg Value.bool (decide_eq_true h4))) rfl ?_)
    refine s_op (o_move (v := (.bool true)) rfl ?_)
    refine s_off (b' := true) 32 rfl rfl rfl ?_
    refine s_off (b' := true) 32 rfl rfl rfl ?_
    refine s_op (o_pick_t (u := (.bool true)) rfl rfl ?_)
    refine s_nil ?_
    refine t_norm (hK3 _ _ ?_)
    refine c_true rfl rfl ?_
    refine wp_seq_k fun K5 hK5 => ?_
    refine c_region ?_
    refine s_op (o_callf (vs := #[]) ca11 rfl (args0) (awake12_c hH.all (hg.mono (seg_sub 0 rfl))) ?_)
    rintro _ w8 ⟨rfl, hX6⟩
    refine ⟨_, rfl, ?_⟩
    have hH7 := hX6.of_all
    refine s_op (o_assign (v := (.bool true)) rfl ?_)
    refine s_nil ?_
    refine t_norm (hK5 _ _ ?_)
    refine wp_ret ?_
    refine t_ret (c_ret1 Tryz.results3  (v := (.bool true)) rfl ?_)
    exact ⟨by first | rfl | (rw [decide_eq_true (by decide)]), hH7⟩
  · -- not: 12 < ((gs.length : Nat) : Int)
    refine s_on 24 rfl (congrArg Value.bool (decide_eq_false h4)) (o_move (v := (.int .i64 n)) rfl ?_)
    refine s_on 24 rfl (congrArg Value.bool (decide_eq_false h4)) (o_gtr (a := n) (b := 10) rfl rfl ?_)
    refine s_on 24 rfl (congrArg Value.bool (decide_eq_false h4)) (o_move (v := (.bool (decide (10 < n)))) rfl ?_)
    by_cases h9 : 10 < n
    · -- 10 < n
      refine s_on 27 rfl (congrArg Value.bool (decide_eq_true h9)) (o_move (v := (.int .i64 n)) rfl ?_)
      refine s_on 27 rfl (congrArg Value.bool (decide_eq_true h9)) (o_leq (a := n) (b := 64) rfl rfl ?_)
      refine s_on 24 rfl (congrArg Value.bool (decide_eq_false h4)) (o_pick_t (u := (.bool (decide (n ≤ 64)))) ((rfl : _ = _).trans (congrArg Value.bool (decide_eq_true h9))) rfl ?_)
      refine s_op (o_pick_f (u := (.bool (decide (n ≤ 64)))) ((rfl : _ = _).trans (congrArg Value.bool (decide_eq_false h4))) rfl ?_)
      refine s_op (o_move (v := (.bool (decide (n ≤ 64)))) rfl ?_)
      by_cases h10 : n ≤ 64
      · -- n ≤ 64
        refine s_off (b' := true) 32 rfl (congrArg Value.bool (decide_eq_true h10)) rfl ?_
        refine s_off (b' := true) 32 rfl (congrArg Value.bool (decide_eq_true h10)) rfl ?_
        refine s_op (o_pick_t (u := (.bool true)) ((rfl : _ = _).trans (congrArg Value.bool (decide_eq_true h10))) rfl ?_)
        refine s_nil ?_
        refine t_norm (hK3 _ _ ?_)
        refine c_true rfl rfl ?_
        refine wp_seq_k fun K11 hK11 => ?_
        refine c_region ?_
        refine s_op (o_callf (vs := #[]) ca11 rfl (args0) (awake12_c hH.all (hg.mono (seg_sub 0 rfl))) ?_)
        rintro _ w14 ⟨rfl, hX12⟩
        refine ⟨_, rfl, ?_⟩
        have hH13 := hX12.of_all
        refine s_op (o_assign (v := (.bool true)) rfl ?_)
        refine s_nil ?_
        refine t_norm (hK11 _ _ ?_)
        refine wp_ret ?_
        refine t_ret (c_ret1 Tryz.results3  (v := (.bool true)) rfl ?_)
        exact ⟨by first | rfl | (rw [decide_eq_true (by decide)]), hH13⟩
      · -- not: n ≤ 64
        refine s_on 32 rfl (congrArg Value.bool (decide_eq_false h10)) (o_callf (vs := #[]) ca11 rfl (args0) (awake12_c hH.all (hg.mono (seg_sub 0 rfl))) ?_)
        rintro _ w17 ⟨rfl, hX15⟩
        refine ⟨_, rfl, ?_⟩
        have hH16 := hX15.of_all
        refine s_on 32 rfl (congrArg Value.bool (decide_eq_false h10)) (o_not rfl ?_)
        refine s_op (o_pick_f (u := (.bool false)) ((rfl : _ = _).trans (congrArg Value.bool (decide_eq_false h10))) rfl ?_)
        refine s_nil ?_
        refine t_norm (hK3 _ _ ?_)
        refine c_false rfl rfl ?_
        refine wp_skip ?_
        refine t_norm (hK2 _ _ ?_)
        refine wp_seq_k fun K18 hK18 => ?_
        refine c_region ?_
        refine s_op (o_move (v := (.int .i64 n)) rfl ?_)
        by_cases hc19 : n < 1 ∨ 64 < n
        · -- yes
          refine s_op (o_callf (vs := #[(.int .i64 n)]) ca12 rfl (args1 rfl) (need_no hH16.all (n := n) (by omega)) ?_)
          rintro _ w22 ⟨rfl, hX20⟩
          refine ⟨_, rfl, ?_⟩
          have hH21 := hX20.of_all
          refine s_op (o_assign (v := (.int .i64 (0 : Int))) rfl ?_)
          refine s_nil ?_
          refine t_norm (hK18 _ _ ?_)
          refine wp_seq_k fun K23 hK23 => ?_
          refine wp_seq_k fun K24 hK24 => ?_
          refine c_region ?_
          refine s_op (o_move (v := (.int .i64 n)) rfl ?_)
          refine s_op (o_lss (a := n) (b := 1) rfl rfl ?_)
          refine s_op (o_move (v := (.bool (decide (n < 1)))) rfl ?_)
          by_cases h25 : n < 1
          · -- n < 1
            refine s_off (b' := true) 41 rfl (congrArg Value.bool (decide_eq_true h25)) rfl ?_
            refine s_off (b' := true) 41 rfl (congrArg Value.bool (decide_eq_true h25)) rfl ?_
            refine s_op (o_pick_t (u := (.bool true)) ((rfl : _ = _).trans (congrArg Value.bool (decide_eq_true h25))) rfl ?_)
            refine s_nil ?_
            refine t_norm (hK24 _ _ ?_)
            refine c_true rfl rfl ?_
            refine wp_seq_k fun K26 hK26 => ?_
            refine c_region ?_
            refine s_op (o_callf (vs := #[(.pointer none), (.int .i64 500)]) ca14 rfl (args2 rfl rfl) (new_nil hH21.all (n := 500) (by decide)) ?_)
            rintro _ w33 ⟨db27, pb28, sg29, rfl, hd30, hX31⟩
            refine ⟨_, rfl, ?_⟩
            have hH32 : Has E w33 [sg29, [Hp.one pb28 (.cells #[(.bool (Pw.mk false false 0 0).off), (.bool (Pw.mk false false 0 0).armed), (.int .i64 (Pw.mk false false 0 0).left), (.int .i64 (Pw.mk false false 0 0).uses)] 101 (0, 0))], R] := hX31.of_all2
            refine s_op (o_move (v := (.int .i64 n)) rfl ?_)
            refine s_op (o_callf (vs := #[(.pointer (some ⟨db27, 0, none⟩)), (.int .i64 n)]) ca13 rfl (args2 rfl rfl) (tfmt_bad (d := (Dv.mk (Pw.mk false false 0 0) (List.replicate 500 blankS) [])) ((hH32.front 1 rfl).front 1 rfl).all2 hd30 (n := n) (by simp) (by omega)) ?_)
            rintro _ w36 ⟨rfl, hX34⟩
            refine ⟨_, rfl, ?_⟩
            have hH35 : Has E w36 [sg29, [Hp.one pb28 (.cells #[(.bool (Pw.mk false false 0 0).off), (.bool (Pw.mk false false 0 0).armed), (.int .i64 (Pw.mk false false 0 0).left), (.int .i64 (Pw.mk false false 0 0).uses)] 101 (0, 0))], R] := hX34.of_all2
            refine s_op (o_move (v := (.tuple #[(.pointer none), (.int .i64 (1 : Int))])) rfl ?_)
            refine s_op (o_extract (v := (.pointer none)) rfl rfl ?_)
            refine s_op (o_extract (v := (.int .i64 (1 : Int))) rfl rfl ?_)
            refine s_op (o_assign (v := (.pointer none)) rfl ?_)
            refine s_op (o_assign (v := (.int .i64 (1 : Int))) rfl ?_)
            refine s_nil ?_
            refine t_norm (hK26 _ _ ?_)
            refine wp_seq_k fun K37 hK37 => ?_
            refine c_region ?_
            refine s_op (o_move (v := (.int .i64 (0 : Int))) rfl ?_)
            refine s_op (o_eql (a := (0 : Int)) (b := 0) rfl rfl ?_)
            refine s_op (o_move (v := (.bool (decide ((0 : Int) = 0)))) rfl ?_)
            by_cases h38 : (0 : Int) = 0
            · -- (0 : Int) = 0
              refine s_on 53 rfl (congrArg Value.bool (decide_eq_true h38)) (o_move (v := (.pointer none)) rfl ?_)
              refine s_on 53 rfl (congrArg Value.bool (decide_eq_true h38)) (o_pnil (p := none) Tryz.underlying25 rfl rfl ?_)
              refine s_op (o_pick_t (u := (.bool true)) ((rfl : _ = _).trans (congrArg Value.bool (decide_eq_true h38))) rfl ?_)
              refine s_op (o_move (v := (.bool true)) rfl ?_)
              refine s_on 57 rfl rfl (o_move (v := (.int .i64 (1 : Int))) rfl ?_)
              refine s_on 57 rfl rfl (o_eql (a := (1 : Int)) (b := 1) rfl rfl ?_)
              refine s_op (o_pick_t (u := (.bool (decide ((1 : Int) = 1)))) rfl rfl ?_)
              refine s_op (o_assign (v := (.bool (decide ((1 : Int) = 1)))) rfl ?_)
              refine s_nil ?_
              refine t_norm (hK37 _ _ ?_)
              refine wp_ret ?_
              refine t_ret (c_ret1 Tryz.results3  (v := (.bool (decide ((1 : Int) = 1)))) rfl ?_)
              have hH39 : Has E w36 [R] := (hH35.front 2 rfl).first 1 rfl
              exact ⟨by first | rfl | (rw [decide_eq_true (by decide)]), hH39⟩
            · -- not: (0 : Int) = 0
              exact absurd h38 (by decide)
          · -- not: n < 1
            refine s_on 41 rfl (congrArg Value.bool (decide_eq_false h25)) (o_move (v := (.int .i64 n)) rfl ?_)
            refine s_on 41 rfl (congrArg Value.bool (decide_eq_false h25)) (o_gtr (a := n) (b := 64) rfl rfl ?_)
            refine s_op (o_pick_f (u := (.bool (decide (64 < n)))) ((rfl : _ = _).trans (congrArg Value.bool (decide_eq_false h25))) rfl ?_)
            refine s_nil ?_
            refine t_norm (hK24 _ _ ?_)
            refine c_cond rfl (fun h40 => ?_) (fun h40 => ?_)
            · -- 64 < n
              refine wp_seq_k fun K41 hK41 => ?_
              refine c_region ?_
              refine s_op (o_callf (vs := #[(.pointer none), (.int .i64 500)]) ca14 rfl (args2 rfl rfl) (new_nil hH21.all (n := 500) (by decide)) ?_)
              rintro _ w48 ⟨db42, pb43, sg44, rfl, hd45, hX46⟩
              refine ⟨_, rfl, ?_⟩
              have hH47 : Has E w48 [sg44, [Hp.one pb43 (.cells #[(.bool (Pw.mk false false 0 0).off), (.bool (Pw.mk false false 0 0).armed), (.int .i64 (Pw.mk false false 0 0).left), (.int .i64 (Pw.mk false false 0 0).uses)] 101 (0, 0))], R] := hX46.of_all2
              refine s_op (o_move (v := (.int .i64 n)) rfl ?_)
              refine s_op (o_callf (vs := #[(.pointer (some ⟨db42, 0, none⟩)), (.int .i64 n)]) ca13 rfl (args2 rfl rfl) (tfmt_bad (d := (Dv.mk (Pw.mk false false 0 0) (List.replicate 500 blankS) [])) ((hH47.front 1 rfl).front 1 rfl).all2 hd45 (n := n) (by simp) (by omega)) ?_)
              rintro _ w51 ⟨rfl, hX49⟩
              refine ⟨_, rfl, ?_⟩
              have hH50 : Has E w51 [sg44, [Hp.one pb43 (.cells #[(.bool (Pw.mk false false 0 0).off), (.bool (Pw.mk false false 0 0).armed), (.int .i64 (Pw.mk false false 0 0).left), (.int .i64 (Pw.mk false false 0 0).uses)] 101 (0, 0))], R] := hX49.of_all2
              refine s_op (o_move (v := (.tuple #[(.pointer none), (.int .i64 (1 : Int))])) rfl ?_)
              refine s_op (o_extract (v := (.pointer none)) rfl rfl ?_)
              refine s_op (o_extract (v := (.int .i64 (1 : Int))) rfl rfl ?_)
              refine s_op (o_assign (v := (.pointer none)) rfl ?_)
              refine s_op (o_assign (v := (.int .i64 (1 : Int))) rfl ?_)
              refine s_nil ?_
              refine t_norm (hK41 _ _ ?_)
              refine wp_seq_k fun K52 hK52 => ?_
              refine c_region ?_
              refine s_op (o_move (v := (.int .i64 (0 : Int))) rfl ?_)
              refine s_op (o_eql (a := (0 : Int)) (b := 0) rfl rfl ?_)
              refine s_op (o_move (v := (.bool (decide ((0 : Int) = 0)))) rfl ?_)
              by_cases h53 : (0 : Int) = 0
              · -- (0 : Int) = 0
                refine s_on 53 rfl (congrArg Value.bool (decide_eq_true h53)) (o_move (v := (.pointer none)) rfl ?_)
                refine s_on 53 rfl (congrArg Value.bool (decide_eq_true h53)) (o_pnil (p := none) Tryz.underlying25 rfl rfl ?_)
                refine s_op (o_pick_t (u := (.bool true)) ((rfl : _ = _).trans (congrArg Value.bool (decide_eq_true h53))) rfl ?_)
                refine s_op (o_move (v := (.bool true)) rfl ?_)
                refine s_on 57 rfl rfl (o_move (v := (.int .i64 (1 : Int))) rfl ?_)
                refine s_on 57 rfl rfl (o_eql (a := (1 : Int)) (b := 1) rfl rfl ?_)
                refine s_op (o_pick_t (u := (.bool (decide ((1 : Int) = 1)))) rfl rfl ?_)
                refine s_op (o_assign (v := (.bool (decide ((1 : Int) = 1)))) rfl ?_)
                refine s_nil ?_
                refine t_norm (hK52 _ _ ?_)
                refine wp_ret ?_
                refine t_ret (c_ret1 Tryz.results3  (v := (.bool (decide ((1 : Int) = 1)))) rfl ?_)
                have hH54 : Has E w51 [R] := (hH50.front 2 rfl).first 1 rfl
                exact ⟨by first | rfl | (rw [decide_eq_true (by decide)]), hH54⟩
              · -- not: (0 : Int) = 0
                exact absurd h53 (by decide)
            · -- not: 64 < n
              exfalso; omega
        · -- no
          have hmr_ : 0 ≤ more % 9 ∧ more % 9 ≤ 8 := ⟨by omega, by omega⟩
          obtain ⟨m0, hm0⟩ : ∃ m0 : Nat, 5 + n * 4 + more % 9 = (m0 : Int) := ⟨(5 + n * 4 + more % 9).toNat, by omega⟩
          obtain ⟨m1, hm1⟩ : ∃ m1 : Nat, 5 + n * 4 - 1 = (m1 : Int) := ⟨(5 + n * 4 - 1).toNat, by omega⟩
          refine s_op (o_callf (vs := #[(.int .i64 n)]) ca12 rfl (args1 rfl) (need_ok hH16.all (n := n) (by omega)) ?_)
          rintro _ w57 ⟨rfl, hX55⟩
          refine ⟨_, rfl, ?_⟩
          have hH56 := hX55.of_all
          refine s_op (o_assign (v := (.int .i64 (5 + n * 4))) rfl ?_)
          refine s_nil ?_
          refine t_norm (hK18 _ _ ?_)
          refine wp_seq_k fun K58 hK58 => ?_
          refine wp_seq_k fun K59 hK59 => ?_
          refine c_region ?_
          refine s_op (o_move (v := (.int .i64 n)) rfl ?_)
          refine s_op (o_lss (a := n) (b := 1) rfl rfl ?_)
          refine s_op (o_move (v := (.bool (decide (n < 1)))) rfl ?_)
          by_cases h60 : n < 1
          · -- n < 1
            exfalso; omega
          · -- not: n < 1
            refine s_on 41 rfl (congrArg Value.bool (decide_eq_false h60)) (o_move (v := (.int .i64 n)) rfl ?_)
            refine s_on 41 rfl (congrArg Value.bool (decide_eq_false h60)) (o_gtr (a := n) (b := 64) rfl rfl ?_)
            refine s_op (o_pick_f (u := (.bool (decide (64 < n)))) ((rfl : _ = _).trans (congrArg Value.bool (decide_eq_false h60))) rfl ?_)
            refine s_nil ?_
            refine t_norm (hK59 _ _ ?_)
            refine c_cond rfl (fun h61 => ?_) (fun h61 => ?_)
            · -- 64 < n
              exfalso; omega
            · -- not: 64 < n
              refine wp_skip ?_
              refine t_norm (hK58 _ _ ?_)
              refine wp_seq_k fun K62 hK62 => ?_
              refine c_region ?_
              refine s_op (o_move (v := (.int .i64 (5 + n * 4))) rfl ?_)
              refine s_op (o_move (v := (.int .u8 more)) rfl ?_)
              refine s_op (o_rem (a := more) (b := 9) (c := more % 9) rfl rfl (by omega) ((Int.tmod_eq_emod_of_nonneg (by first | exact Int.natCast_nonneg _ | omega))) ?_)
              refine s_op (o_conv (c := (more % 9)) Tryz.underlying5 Tryz.underlying3 rfl (w64 (by omega) (by omega)) ?_)
              refine s_op (o_add (a := 5 + n * 4) (b := more % 9) rfl rfl (w64 (by omega) (by omega)) ?_)
              refine s_op (o_callf (vs := #[(.pointer none), (.int .i64 ((5 + n * 4) + (more % 9)))]) ca14 rfl (args2 rfl rfl) (new_nilI hH56.all (x := (5 + n * 4) + (more % 9)) (n := m0) (by omega) (by omega)) ?_)
              rintro _ w69 ⟨db63, pb64, sg65, rfl, hd66, hX67⟩
              refine ⟨_, rfl, ?_⟩
              have hH68 : Has E w69 [sg65, [Hp.one pb64 (.cells #[(.bool (Pw.mk false false 0 0).off), (.bool (Pw.mk false false 0 0).armed), (.int .i64 (Pw.mk false false 0 0).left), (.int .i64 (Pw.mk false false 0 0).uses)] 101 (0, 0))], R] := hX67.of_all2
              refine s_op (o_assign (v := (.pointer (some ⟨db63, 0, none⟩))) rfl ?_)
              refine s_nil ?_
              refine t_norm (hK62 _ _ ?_)
              refine wp_seq_k fun K70 hK70 => ?_
              refine c_region ?_
              refine s_op (o_move (v := (.pointer (some ⟨db63, 0, none⟩))) rfl ?_)
              refine s_op (o_move (v := (.int .i64 n)) rfl ?_)
              refine s_op (o_callf (vs := #[(.pointer (some ⟨db63, 0, none⟩)), (.int .i64 n)]) ca13 rfl (args2 rfl rfl) (tfmt_ok (p := (Pw.mk false false 0 0)) (m := m0) ((hH68.front 1 rfl).front 1 rfl).all2 hd66 (n := n) ⟨rfl, rfl⟩ Few.new (by decide) (by omega) ⟨by omega, by omega⟩ (by omega)) ?_)
              rintro _ w76 ⟨tb71, sg72, rfl, hd73, hX74⟩
              refine ⟨_, rfl, ?_⟩
              have hH75 : Has E w76 [[Hp.one tb71 (.cells #[(.pointer (some ⟨db63, 0, none⟩)), (.int .i64 n)] 98 (0, 0))], sg72, [Hp.one pb64 (.cells #[(.bool (Pw.mk false false (0 - (((m0 : Nat) : Int) + 1)) (0 + (((m0 : Nat) : Int) + 1))).off), (.bool (Pw.mk false false (0 - (((m0 : Nat) : Int) + 1)) (0 + (((m0 : Nat) : Int) + 1))).armed), (.int .i64 (Pw.mk false false (0 - (((m0 : Nat) : Int) + 1)) (0 + (((m0 : Nat) : Int) + 1))).left), (.int .i64 (Pw.mk false false (0 - (((m0 : Nat) : Int) + 1)) (0 + (((m0 : Nat) : Int) + 1))).uses)] 101 (0, 0))], R] := hX74.of_all3
              refine s_op (o_move (v := (.tuple #[(.pointer (some ⟨tb71, 0, none⟩)), (.int .i64 (0 : Int))])) rfl ?_)
              refine s_op (o_extract (v := (.pointer (some ⟨tb71, 0, none⟩))) rfl rfl ?_)
              refine s_op (o_extract (v := (.int .i64 (0 : Int))) rfl rfl ?_)
              refine s_op (o_assign (v := (.pointer (some ⟨tb71, 0, none⟩))) rfl ?_)
              refine s_op (o_assign (v := (.int .i64 (0 : Int))) rfl ?_)
              refine s_nil ?_
              refine t_norm (hK70 _ _ ?_)
              refine wp_seq_k fun K77 hK77 => ?_
              refine c_region ?_
              refine s_op (o_move (v := (.int .i64 (5 + n * 4))) rfl ?_)
              refine s_op (o_sub (a := 5 + n * 4) (b := 1) rfl rfl (w64 (by omega) (by omega)) ?_)
              refine s_op (o_callf (vs := #[(.pointer none), (.int .i64 ((5 + n * 4) - 1))]) ca14 rfl (args2 rfl rfl) (new_nilI hH75.all (x := (5 + n * 4) - 1) (n := m1) (by omega) (by omega)) ?_)
              rintro _ w84 ⟨db78, pb79, sg80, rfl, hd81, hX82⟩
              refine ⟨_, rfl, ?_⟩
              have hH83 : Has E w84 [sg80, [Hp.one pb79 (.cells #[(.bool (Pw.mk false false 0 0).off), (.bool (Pw.mk false false 0 0).armed), (.int .i64 (Pw.mk false false 0 0).left), (.int .i64 (Pw.mk false false 0 0).uses)] 101 (0, 0))], [Hp.one tb71 (.cells #[(.pointer (some ⟨db63, 0, none⟩)), (.int .i64 n)] 98 (0, 0))], sg72, [Hp.one pb64 (.cells #[(.bool (Pw.mk false false (0 - (((m0 : Nat) : Int) + 1)) (0 + (((m0 : Nat) : Int) + 1))).off), (.bool (Pw.mk false false (0 - (((m0 : Nat) : Int) + 1)) (0 + (((m0 : Nat) : Int) + 1))).armed), (.int .i64 (Pw.mk false false (0 - (((m0 : Nat) : Int) + 1)) (0 + (((m0 : Nat) : Int) + 1))).left), (.int .i64 (Pw.mk false false (0 - (((m0 : Nat) : Int) + 1)) (0 + (((m0 : Nat) : Int) + 1))).uses)] 101 (0, 0))], R] := hX82.of_all2
              refine s_op (o_move (v := (.int .i64 n)) rfl ?_)
              refine s_op (o_callf (vs := #[(.pointer (some ⟨db78, 0, none⟩)), (.int .i64 n)]) ca13 rfl (args2 rfl rfl) (tfmt_few (d := (Dv.mk (Pw.mk false false 0 0) (List.replicate m1 blankS) [])) ((hH83.front 1 rfl).front 1 rfl).all2 hd81 (n := n) (by simp only [List.length_replicate]; omega) ⟨by omega, by omega⟩ (by simp only [List.length_replicate]; omega)) ?_)
              rintro _ w87 ⟨rfl, hX85⟩
              refine ⟨_, rfl, ?_⟩
              have hH86 : Has E w87 [sg80, [Hp.one pb79 (.cells #[(.bool (Pw.mk false false 0 0).off), (.bool (Pw.mk false false 0 0).armed), (.int .i64 (Pw.mk false false 0 0).left), (.int .i64 (Pw.mk false false 0 0).uses)] 101 (0, 0))], [Hp.one tb71 (.cells #[(.pointer (some ⟨db63, 0, none⟩)), (.int .i64 n)] 98 (0, 0))], sg72, [Hp.one pb64 (.cells #[(.bool (Pw.mk false false (0 - (((m0 : Nat) : Int) + 1)) (0 + (((m0 : Nat) : Int) + 1))).off), (.bool (Pw.mk false false (0 - (((m0 : Nat) : Int) + 1)) (0 + (((m0 : Nat) : Int) + 1))).armed), (.int .i64 (Pw.mk false false (0 - (((m0 : Nat) : Int) + 1)) (0 + (((m0 : Nat) : Int) + 1))).left), (.int .i64 (Pw.mk false false (0 - (((m0 : Nat) : Int) + 1)) (0 + (((m0 : Nat) : Int) + 1))).uses)] 101 (0, 0))], R] := hX85.of_all2
              refine s_op (o_move (v := (.tuple #[(.pointer none), (.int .i64 (1 : Int))])) rfl ?_)
              refine s_op (o_extract (v := (.pointer none)) rfl rfl ?_)
              refine s_op (o_extract (v := (.int .i64 (1 : Int))) rfl rfl ?_)
              refine s_op (o_assign (v := (.pointer none)) rfl ?_)
              refine s_op (o_assign (v := (.int .i64 (1 : Int))) rfl ?_)
              refine s_nil ?_
              refine t_norm (hK77 _ _ ?_)
              refine wp_seq_k fun K88 hK88 => ?_
              refine wp_seq_k fun K89 hK89 => ?_
              refine c_region ?_
              refine s_op (o_move (v := (.int .i64 (5 + n * 4))) rfl ?_)
              refine s_op (o_move (v := (.int .i64 n)) rfl ?_)
              refine s_op (o_mul (a := 4) (b := n) rfl rfl (w64 (by omega) (by omega)) ?_)
              refine s_op (o_add (a := 5) (b := 4 * n) rfl rfl (w64 (by omega) (by omega)) ?_)
              refine s_op (o_neq (a := 5 + n * 4) (b := 5 + (4 * n)) rfl rfl ?_)
              refine s_op (o_move (v := (.bool (decide (5 + n * 4 ≠ 5 + (4 * n))))) rfl ?_)
              by_cases h90 : 5 + n * 4 ≠ 5 + (4 * n)
              · -- 5 + n * 4 ≠ 5 + (4 * n)
                exfalso; omega
              · -- not: 5 + n * 4 ≠ 5 + (4 * n)
                refine s_on 86 rfl (congrArg Value.bool (decide_eq_false h90)) (o_move (v := (.pointer (some ⟨tb71, 0, none⟩))) rfl ?_)
                refine s_on 86 rfl (congrArg Value.bool (decide_eq_false h90)) (o_pnil (p := some _) Tryz.underlying25 rfl rfl ?_)
                refine s_op (o_pick_f (u := (.bool false)) ((rfl : _ = _).trans (congrArg Value.bool (decide_eq_false h90))) rfl ?_)
                refine s_op (o_move (v := (.bool false)) rfl ?_)
                refine s_on 90 rfl rfl (o_move (v := (.int .i64 (0 : Int))) rfl ?_)
                refine s_on 90 rfl rfl (o_neq (a := (0 : Int)) (b := 0) rfl rfl ?_)
                refine s_op (o_pick_f (u := (.bool (decide ((0 : Int) ≠ 0)))) rfl rfl ?_)
                refine s_op (o_move (v := (.bool (decide ((0 : Int) ≠ 0)))) rfl ?_)
                by_cases h91 : (0 : Int) ≠ 0
                · -- (0 : Int) ≠ 0
                  exact absurd h91 (by decide)
                · -- not: (0 : Int) ≠ 0
                  refine s_on 94 rfl (congrArg Value.bool (decide_eq_false h91)) (o_move (v := (.pointer none)) rfl ?_)
                  refine s_on 94 rfl (congrArg Value.bool (decide_eq_false h91)) (o_pnnil (p := none) Tryz.underlying25 rfl rfl ?_)
                  refine s_op (o_pick_f (u := (.bool false)) ((rfl : _ = _).trans (congrArg Value.bool (decide_eq_false h91))) rfl ?_)
                  refine s_op (o_move (v := (.bool false)) rfl ?_)
                  refine s_on 98 rfl rfl (o_move (v := (.int .i64 (1 : Int))) rfl ?_)
                  refine s_on 98 rfl rfl (o_neq (a := (1 : Int)) (b := 1) rfl rfl ?_)
                  refine s_op (o_pick_f (u := (.bool (decide ((1 : Int) ≠ 1)))) rfl rfl ?_)
                  refine s_nil ?_
                  refine t_norm (hK89 _ _ ?_)
                  refine c_cond rfl (fun h92 => ?_) (fun h92 => ?_)
                  · -- (1 : Int) ≠ 1
                    exact absurd h92 (by decide)
                  · -- not: (1 : Int) ≠ 1
                    refine wp_skip ?_
                    refine t_norm (hK88 _ _ ?_)
                    refine wp_seq_k fun K93 hK93 => ?_
                    refine c_region ?_
                    refine s_op (o_move (v := (.int .i64 n)) rfl ?_)
                    refine s_op (o_callf (vs := #[(.int .i64 n)]) ca15 rfl (args1 rfl) (empty12n_c hH86.all (n := n) (by omega)) ?_)
                    rintro _ w99 ⟨v94, s95, rfl, ho96, hX97⟩
                    refine ⟨_, rfl, ?_⟩
                    have hH98 : Has E w99 [s95, sg80, [Hp.one pb79 (.cells #[(.bool (Pw.mk false false 0 0).off), (.bool (Pw.mk false false 0 0).armed), (.int .i64 (Pw.mk false false 0 0).left), (.int .i64 (Pw.mk false false 0 0).uses)] 101 (0, 0))], [Hp.one tb71 (.cells #[(.pointer (some ⟨db63, 0, none⟩)), (.int .i64 n)] 98 (0, 0))], sg72, [Hp.one pb64 (.cells #[(.bool (Pw.mk false false (0 - (((m0 : Nat) : Int) + 1)) (0 + (((m0 : Nat) : Int) + 1))).off), (.bool (Pw.mk false false (0 - (((m0 : Nat) : Int) + 1)) (0 + (((m0 : Nat) : Int) + 1))).armed), (.int .i64 (Pw.mk false false (0 - (((m0 : Nat) : Int) + 1)) (0 + (((m0 : Nat) : Int) + 1))).left), (.int .i64 (Pw.mk false false (0 - (((m0 : Nat) : Int) + 1)) (0 + (((m0 : Nat) : Int) + 1))).uses)] 101 (0, 0))], R] := hX97.of_all1
                    refine s_op (o_assign (v := v94) rfl ?_)
                    refine s_nil ?_
                    refine t_norm (hK93 _ _ ?_)
                    refine wp_seq_k fun K100 hK100 => ?_
                    refine wp_seq_k fun K101 hK101 => ?_
                    refine c_region ?_
                    refine s_op (o_assign (v := (.int .i64 0)) rfl ?_)
                    refine s_nil ?_
                    refine t_norm (hK101 _ _ ?_)
                    refine wp_block ?_
                    have hH102 : Has E w99 [s95, sg80, [Hp.one pb79 (.cells #[(.bool (Pw.mk false false 0 0).off), (.bool (Pw.mk false false 0 0).armed), (.int .i64 (Pw.mk false false 0 0).left), (.int .i64 (Pw.mk false false 0 0).uses)] 101 (0, 0))], [Hp.one tb71 (.cells #[(.pointer (some ⟨db63, 0, none⟩)), (.int .i64 n)] 98 (0, 0))], sg72, [Hp.one pb64 (.cells #[(.bool (Dv.mk (Pw.mk false false (0 - (((m0 : Nat) : Int) + 1)) (0 + (((m0 : Nat) : Int) + 1))) (List.replicate m0 blankS) []).p.off), (.bool (Dv.mk (Pw.mk false false (0 - (((m0 : Nat) : Int) + 1)) (0 + (((m0 : Nat) : Int) + 1))) (List.replicate m0 blankS) []).p.armed), (.int .i64 (Dv.mk (Pw.mk false false (0 - (((m0 : Nat) : Int) + 1)) (0 + (((m0 : Nat) : Int) + 1))) (List.replicate m0 blankS) []).p.left), (.int .i64 (Dv.mk (Pw.mk false false (0 - (((m0 : Nat) : Int) + 1)) (0 + (((m0 : Nat) : Int) + 1))) (List.replicate m0 blankS) []).p.uses)] 101 (0, 0))], R] := hH98
                    have hd103 : DevAt pb64 sg72 db63 (Dv.mk (Pw.mk false false (0 - (((m0 : Nat) : Int) + 1)) (0 + (((m0 : Nat) : Int) + 1))) (List.replicate m0 blankS) []).la (Dv.mk (Pw.mk false false (0 - (((m0 : Nat) : Int) + 1)) (0 + (((m0 : Nat) : Int) + 1))) (List.replicate m0 blankS) []).lo := hd73
                    let I105 : Nat → (Nat → Value) → World → Prop := fun n__ r__ w__ => ∃ (i : Nat) (dc : Dv) (sgc : List Hp) (now : List Pg) (sn : List Hp) (B : Nat → Bs), n__ = gs.length - i ∧ Has E w__ [sgc, [Hp.one pb64 (.cells #[(.bool dc.p.off), (.bool dc.p.armed), (.int .i64 dc.p.left), (.int .i64 dc.p.uses)] 101 (0, 0))], sn, sg80, [Hp.one pb79 (.cells #[(.bool (Pw.mk false false 0 0).off), (.bool (Pw.mk false false 0 0).armed), (.int .i64 (Pw.mk false false 0 0).left), (.int .i64 (Pw.mk false false 0 0).uses)] 101 (0, 0))], [Hp.one tb71 (.cells #[(.pointer (some ⟨db63, 0, none⟩)), (.int .i64 n)] 98 (0, 0))], R] ∧ (i ≤ gs.length) ∧ (DevAt pb64 sgc db63 dc.la dc.lo) ∧ (Few dc.p (100 + 280 * i)) ∧ (dc.la.length = m0) ∧ (TsS dc n now B) ∧ (Own 36 3 v94 now.length (now.flatMap pgC) sn) ∧ (∀ a ∈ now, PgIn R a) ∧ r__ 0 = (.int .i64 n) ∧ r__ 1 = v ∧ r__ 2 = (.int .u8 more) ∧ r__ 7 = (.int .i64 (5 + n * 4)) ∧ r__ 10 = (.pointer (some ⟨db63, 0, none⟩)) ∧ r__ 11 = (.pointer (some ⟨tb71, 0, none⟩)) ∧ r__ 12 = (.int .i64 (0 : Int)) ∧ r__ 13 = (.pointer none) ∧ r__ 14 = (.int .i64 (1 : Int)) ∧ r__ 15 = v94 ∧ r__ 16 = (.int .i64 (i : Int)) ∧ r__ 35 = (.bool false) ∧ r__ 44 = (.bool (decide (64 < n))) ∧ r__ 101 = (.bool (decide ((1 : Int) ≠ 1)))
                    have hH106 : Has E w99 [sg72, [Hp.one pb64 (.cells #[(.bool (Dv.mk (Pw.mk false false (0 - (((m0 : Nat) : Int) + 1)) (0 + (((m0 : Nat) : Int) + 1))) (List.replicate m0 blankS) []).p.off), (.bool (Dv.mk (Pw.mk false false (0 - (((m0 : Nat) : Int) + 1)) (0 + (((m0 : Nat) : Int) + 1))) (List.replicate m0 blankS) []).p.armed), (.int .i64 (Dv.mk (Pw.mk false false (0 - (((m0 : Nat) : Int) + 1)) (0 + (((m0 : Nat) : Int) + 1))) (List.replicate m0 blankS) []).p.left), (.int .i64 (Dv.mk (Pw.mk false false (0 - (((m0 : Nat) : Int) + 1)) (0 + (((m0 : Nat) : Int) + 1))) (List.replicate m0 blankS) []).p.uses)] 101 (0, 0))], s95, sg80, [Hp.one pb79 (.cells #[(.bool (Pw.mk false false 0 0).off), (.bool (Pw.mk false false 0 0).armed), (.int .i64 (Pw.mk false false 0 0).left), (.int .i64 (Pw.mk false false 0 0).uses)] 101 (0, 0))], [Hp.one tb71 (.cells #[(.pointer (some ⟨db63, 0, none⟩)), (.int .i64 n)] 98 (0, 0))], R] := Has.pick hH102 [4, 4, 0, 0, 0, 0, 0] (by kernel_rfl)
                    refine c_loop I105 _ ⟨0, (Dv.mk (Pw.mk false false (0 - (((m0 : Nat) : Int) + 1)) (0 + (((m0 : Nat) : Int) + 1))) (List.replicate m0 blankS) []), sg72, (emptyS n.toNat), s95, (fun _ => zer 256), rfl, hH106, Nat.zero_le _, hd103, (few_fm m0).mono (by omega), List.length_replicate, ts_start (by omega) (by omega) rfl rfl, ho96, empty_in, rfl, rfl, rfl, rfl, rfl, rfl, rfl, rfl, rfl, rfl, rfl, rfl, rfl, rfl⟩ ?_
                    rintro n_ r109 w107 ⟨i, dc, sgc, now, sn, B, rfl, hH108, hi, hdc, hfc, hnc, hts, hnw, hokn, e104_0, e104_1, e104_2, e104_7, e104_10, e104_11, e104_12, e104_13, e104_14, e104_15, e104_16, e104_35, e104_44, e104_101⟩
                    refine wp_seq_k fun K110 hK110 => ?_
                    refine wp_seq_k fun K111 hK111 => ?_
                    refine c_region ?_
                    refine s_op (o_move (v := (.int .i64 (i : Int))) e104_16 ?_)
                    refine s_op (o_move (v := v) e104_1 ?_)
                    refine s_op (o_lenS Tryz.underlying22 rfl hv ?_)
                    refine s_op (o_lss (a := (i : Int)) (b := ((gs.length : Nat) : Int)) rfl rfl ?_)
                    refine s_nil ?_
                    refine t_norm (hK111 _ _ ?_)
                    refine c_cond rfl (fun h112 => ?_) (fun h112 => ?_)
                    · -- (i : Int) < ((gs.length : Nat) : Int)
                      refine wp_skip ?_
                      refine t_norm (hK110 _ _ ?_)
                      refine wp_seq_k fun K113 hK113 => ?_
                      refine wp_block ?_
                      refine wp_seq_k fun K114 hK114 => ?_
                      refine wp_seq_k fun K115 hK115 => ?_
                      refine c_region ?_
                      refine s_op (o_move (v := v) e104_1 ?_)
                      refine s_op (o_move (v := (.int .i64 (i : Int))) e104_16 ?_)
                      obtain ⟨x119, hx120⟩ : ∃ x_, gs[((i : Int)).toNat]? = some x_ := get_some (by omega)
                      refine s_op (o_index1 Tryz.underlying22 ti31 rfl hv rfl (by omega) hx120 fun b116 o117 hc118 => ?_)
                      refine s_op (o_load1 (v := (grV x119)) Tryz.underlying31 rfl rfl hH108 (seg_sub 6 rfl) hc118 ?_)
                      refine s_op (o_callf (vs := #[(grV x119)]) ca16 rfl (args1 rfl) (great12_c hH108.all (l := x119.2) ((hgr x119 (List.mem_of_getElem? hx120)).1.mono (seg_sub 6 rfl)) (fun a ha => ((hgr x119 (List.mem_of_getElem? hx120)).2 a ha).mono (seg_sub 6 rfl))) ?_)
                      rintro _ w125 ⟨gb121, rfl, hg122, hX123⟩
                      refine ⟨_, rfl, ?_⟩
                      have hH124 : Has E w125 [sgc, [Hp.one pb64 (.cells #[(.bool dc.p.off), (.bool dc.p.armed), (.int .i64 dc.p.left), (.int .i64 dc.p.uses)] 101 (0, 0))], sn, sg80, [Hp.one pb79 (.cells #[(.bool (Pw.mk false false 0 0).off), (.bool (Pw.mk false false 0 0).armed), (.int .i64 (Pw.mk false false 0 0).left), (.int .i64 (Pw.mk false false 0 0).uses)] 101 (0, 0))], [Hp.one tb71 (.cells #[(.pointer (some ⟨db63, 0, none⟩)), (.int .i64 n)] 98 (0, 0))], R] := hX123.of_all
                      refine s_nil ?_
                      refine t_norm (hK115 _ _ ?_)
                      refine c_condb rfl (fun h126 => ?_) (fun h126 => ?_)
                      · -- gb121
                        refine wp_seq_k fun K127 hK127 => ?_
                        refine c_region ?_
                        refine s_op (o_assign (v := (.bool true)) rfl ?_)
                        refine s_nil ?_
                        refine t_norm (hK127 _ _ ?_)
                        refine wp_ret ?_
                        refine t_ret (b_ret (t_ret (t_ret (b_ret (t_ret (c_ret1 Tryz.results3  (v := (.bool true)) rfl ?_))))))
                        have hH128 : Has E w125 [R] := (hH124.front 6 rfl).first 1 rfl
                        exact ⟨by first | rfl | (rw [decide_eq_true (by decide)]), hH128⟩
                      · -- not: gb121
                        have hl20_ := hg122 (by simpa using h126)
                        refine wp_skip ?_
                        refine t_norm (hK114 _ _ ?_)
                        refine wp_seq_k fun K129 hK129 => ?_
                        refine c_region ?_
                        refine s_op (o_assign (v := (.int .i64 0)) rfl ?_)
                        refine s_nil ?_
                        refine t_norm (hK129 _ _ ?_)
                        refine wp_seq_k fun K130 hK130 => ?_
                        refine wp_seq_k fun K131 hK131 => ?_
                        refine c_region ?_
                        refine s_op (o_assign (v := (.int .i64 0)) rfl ?_)
                        refine s_nil ?_
                        refine t_norm (hK131 _ _ ?_)
                        refine wp_block ?_
                        let I133 : Nat → (Nat → Value) → World → Prop := fun n__ r__ w__ => ∃ (k : Nat) (wt : Int) (dk : Dv) (now2 : List Pg) (sn2 : List Hp) (B2 : Nat → Bs), n__ = x119.2.length - k ∧ Has E w__ [sn2, sgc, [Hp.one pb64 (.cells #[(.bool dc.p.off), (.bool dc.p.armed), (.int .i64 dc.p.left), (.int .i64 dc.p.uses)] 101 (0, 0))], sg80, [Hp.one pb79 (.cells #[(.bool (Pw.mk false false 0 0).off), (.bool (Pw.mk false false 0 0).armed), (.int .i64 (Pw.mk false false 0 0).left), (.int .i64 (Pw.mk false false 0 0).uses)] 101 (0, 0))], [Hp.one tb71 (.cells #[(.pointer (some ⟨db63, 0, none⟩)), (.int .i64 n)] 98 (0, 0))], R] ∧ (k ≤ x119.2.length) ∧ ((wt = 0 ∧ stL dc n x119.2 = stL dk n (x119.2.drop k)) ∨ (wt = 1 ∧ stL dc n x119.2 = (1, dk))) ∧ (TsS dk n now2 B2) ∧ (dk.la.length = m0) ∧ (Few dk.p (100 + 280 * i + 14 * k)) ∧ (Own 36 3 v94 now2.length (now2.flatMap pgC) sn2) ∧ (∀ a ∈ now2, PgIn R a) ∧ r__ 0 = (.int .i64 n) ∧ r__ 1 = v ∧ r__ 2 = (.int .u8 more) ∧ r__ 7 = (.int .i64 (5 + n * 4)) ∧ r__ 10 = (.pointer (some ⟨db63, 0, none⟩)) ∧ r__ 11 = (.pointer (some ⟨tb71, 0, none⟩)) ∧ r__ 12 = (.int .i64 (0 : Int)) ∧ r__ 13 = (.pointer none) ∧ r__ 14 = (.int .i64 (1 : Int)) ∧ r__ 15 = v94 ∧ r__ 16 = (.int .i64 (i : Int)) ∧ r__ 17 = (.int .i64 wt) ∧ r__ 18 = (.int .i64 (k : Int)) ∧ r__ 35 = (.bool false) ∧ r__ 44 = (.bool (decide (64 < n))) ∧ r__ 101 = (.bool (decide ((1 : Int) ≠ 1))) ∧ r__ 107 = (.bool (decide ((i : Int) < ((gs.length : Nat) : Int)))) ∧ r__ 114 = (.bool gb121)
                        have hH134 : Has E w125 [sn, sgc, [Hp.one pb64 (.cells #[(.bool dc.p.off), (.bool dc.p.armed), (.int .i64 dc.p.left), (.int .i64 dc.p.uses)] 101 (0, 0))], sg80, [Hp.one pb79 (.cells #[(.bool (Pw.mk false false 0 0).off), (.bool (Pw.mk false false 0 0).armed), (.int .i64 (Pw.mk false false 0 0).left), (.int .i64 (Pw.mk false false 0 0).uses)] 101 (0, 0))], [Hp.one tb71 (.cells #[(.pointer (some ⟨db63, 0, none⟩)), (.int .i64 n)] 98 (0, 0))], R] := Has.pick hH124 [2, 0, 0, 0, 0, 0, 0] (by kernel_rfl)
                        refine c_loop I133 _ ⟨0, 0, dc, now, sn, B, rfl, hH134, Nat.zero_le _, .inl ⟨rfl, rfl⟩, hts, hnc, hfc, hnw, hokn, e104_0, e104_1, e104_2, e104_7, e104_10, e104_11, e104_12, e104_13, e104_14, e104_15, e104_16, rfl, rfl, e104_35, e104_44, e104_101, rfl, rfl⟩ ?_
                        rintro n_ r137 w135 ⟨k, wt, dk, now2, sn2, B2, rfl, hH136, hk, hst, hts2, hnk, hfk, hnw2, hokn2, e132_0, e132_1, e132_2, e132_7, e132_10, e132_11, e132_12, e132_13, e132_14, e132_15, e132_16, e132_17, e132_18, e132_35, e132_44, e132_101, e132_107, e132_114⟩
                        refine wp_seq_k fun K138 hK138 => ?_
                        refine wp_seq_k fun K139 hK139 => ?_
                        refine c_region ?_
                        refine s_op (o_move (v := (.int .i64 (k : Int))) e132_18 ?_)
                        refine s_op (o_move (v := v) e132_1 ?_)
                        refine s_op (o_move (v := (.int .i64 (i : Int))) e132_16 ?_)
                        refine s_op (o_index1 Tryz.underlying22 ti31 rfl hv rfl (by omega) hx120 fun b140 o141 hc142 => ?_)
                        refine s_op (o_load1 (v := (grV x119)) Tryz.underlying31 rfl rfl hH136 (seg_sub 6 rfl) hc142 ?_)
                        refine s_op (o_lenS Tryz.underlying31 rfl (hgr x119 (List.mem_of_getElem? hx120)).1 ?_)
                        refine s_op (o_lss (a := (k : Int)) (b := ((x119.2.length : Nat) : Int)) rfl rfl ?_)
                        refine s_op (o_move (v := (.bool (decide ((k : Int) < ((x119.2.length : Nat) : Int))))) rfl ?_)
                        by_cases h143 : (k : Int) < ((x119.2.length : Nat) : Int)
                        · -- (k : Int) < ((x119.2.length : Nat) : Int)
                          refine s_on 122 rfl (congrArg Value.bool (decide_eq_true h143)) (o_move (v := (.int .i64 wt)) e132_17 ?_)
                          refine s_on 122 rfl (congrArg Value.bool (decide_eq_true h143)) (o_eql (a := wt) (b := 0) rfl rfl ?_)
                          refine s_op (o_pick_t (u := (.bool (decide (wt = 0)))) ((rfl : _ = _).trans (congrArg Value.bool (decide_eq_true h143))) rfl ?_)
                          refine s_nil ?_
                          refine t_norm (hK139 _ _ ?_)
                          refine c_cond rfl (fun h144 => ?_) (fun h144 => ?_)
                          · -- wt = 0
                            have hst0 : stL dc n x119.2 = stL dk n (x119.2.drop k) := by rcases hst with h_ | h_; exact h_.2; exact absurd h_.1 (by omega)
                            refine wp_skip ?_
                            refine t_norm (hK138 _ _ ?_)
                            refine wp_seq_k fun K145 hK145 => ?_
                            refine wp_block ?_
                            refine wp_seq_k fun K146 hK146 => ?_
                            refine c_region ?_
                            refine s_op (o_move (v := v) e132_1 ?_)
                            refine s_op (o_move (v := (.int .i64 (i : Int))) e132_16 ?_)
                            refine s_op (o_index1 Tryz.underlying22 ti31 rfl hv rfl (by omega) hx120 fun b147 o148 hc149 => ?_)
                            refine s_op (o_load1 (v := (grV x119)) Tryz.underlying31 rfl rfl hH136 (seg_sub 6 rfl) hc149 ?_)
                            refine s_op (o_move (v := (.int .i64 (k : Int))) e132_18 ?_)
                            obtain ⟨x153, hx154⟩ : ∃ x_, x119.2[((k : Int)).toNat]? = some x_ := get_some (by omega)
                            refine s_op (o_indexF pgC_len Tryz.underlying31 ti36 rfl (hgr x119 (List.mem_of_getElem? hx120)).1 rfl rfl (by omega) hx154 fun b150 o151 hc152 => ?_)
                            refine s_op (o_loadN (cs := [(.int .i64 x153.1), (.int .i64 x153.2.1), x153.2.2.1]) Tryz.underlying36 rfl ti36 rfl hH136 (seg_sub 6 rfl) hc152 ?_)
                            refine s_op (o_alloc (cs := #[(.int .i64 0), (.int .i64 0), (.slice none 0 0)]) ti36 rfl hH136 fun b155 w156 hH157 => ?_)
                            refine s_eff (o_storeN (vs := [(.int .i64 x153.1), (.int .i64 x153.2.1), x153.2.2.1]) (c' := #[(.int .i64 x153.1), (.int .i64 x153.2.1), x153.2.2.1]) ti36 rfl rfl rfl rfl (by intro u hu; simp only [List.mem_cons, List.not_mem_nil, or_false] at hu; rcases hu with rfl | rfl | rfl <;> first | rfl | exact ((hgr x119 (List.mem_of_getElem? hx120)).2 x153 (List.mem_of_getElem? hx154)).one) (by simp) (by kernel_rfl) (hH157.front 0 rfl) fun w158 hH159 => ?_)
                            refine s_nil ?_
                            refine t_norm (hK146 _ _ ?_)
                            refine wp_seq_k fun K160 hK160 => ?_
                            refine c_region ?_
                            refine s_op (o_loadN (cs := [(.int .i64 x153.1), (.int .i64 x153.2.1), x153.2.2.1]) Tryz.underlying36 rfl ti36 rfl hH159 (seg_sub 0 rfl) (CellsAt.one rfl) ?_)
                            refine s_op (o_callf (vs := #[(.agg #[(.int .i64 x153.1), (.int .i64 x153.2.1), x153.2.2.1])]) ca17 rfl (args1 rfl) (r11right_c (no := x153.1) (gsn := x153.2.1) (l := x153.2.2.2) hH159.all (((hgr x119 (List.mem_of_getElem? hx120)).2 x153 (List.mem_of_getElem? hx154)).mono (seg_sub 7 rfl))) ?_)
                            rintro _ w163 ⟨rfl, hX161⟩
                            refine ⟨_, rfl, ?_⟩
                            have hH162 := hX161.of_all
                            refine s_op (o_not rfl ?_)
                            refine s_op (o_move (v := (.bool (!(pageR x153.1 x153.2.1 x153.2.2.2)))) rfl ?_)
                            rcases Bool.eq_false_or_eq_true (!(pageR x153.1 x153.2.1 x153.2.2.2)) with h164 | h164
                            · -- !(pageR x153.1 x153.2.1 x153.2.2.2)
                              have h164_n : (pageR x153.1 x153.2.1 x153.2.2.2) = false := by first | simpa using h164 | exact Bool.of_not_eq_true (fun g_ => by rw [g_] at h164; cases h164)
                              refine s_off (b' := true) 138 rfl (congrArg Value.bool h164) rfl ?_
                              refine s_off (b' := true) 138 rfl (congrArg Value.bool h164) rfl ?_
                              refine s_off (b' := true) 138 rfl (congrArg Value.bool h164) rfl ?_
                              refine s_off (b' := true) 138 rfl (congrArg Value.bool h164) rfl ?_
                              refine s_op (o_pick_t (u := (.bool true)) ((rfl : _ = _).trans (congrArg Value.bool h164)) rfl ?_)
                              refine s_nil ?_
                              refine t_norm (hK160 _ _ ?_)
                              refine c_true rfl rfl ?_
                              refine c_region ?_
                              refine s_op (o_assign (v := (.int .i64 1)) rfl ?_)
                              refine s_nil ?_
                              refine b_norm ?_
                              refine t_norm (hK145 _ _ ?_)
                              refine c_region ?_
                              refine s_op (o_move (v := (.int .i64 (k : Int))) e132_18 ?_)
                              refine s_op (o_add (a := (k : Int)) (b := 1) rfl rfl (w64 (by omega) (by omega)) ?_)
                              refine s_op (o_assign (v := (.int .i64 ((k : Int) + 1))) rfl ?_)
                              refine s_nil ?_
                              have hH165 : Has E w163 [sn2, sgc, [Hp.one pb64 (.cells #[(.bool dc.p.off), (.bool dc.p.armed), (.int .i64 dc.p.left), (.int .i64 dc.p.uses)] 101 (0, 0))], sg80, [Hp.one pb79 (.cells #[(.bool (Pw.mk false false 0 0).off), (.bool (Pw.mk false false 0 0).armed), (.int .i64 (Pw.mk false false 0 0).left), (.int .i64 (Pw.mk false false 0 0).uses)] 101 (0, 0))], [Hp.one tb71 (.cells #[(.pointer (some ⟨db63, 0, none⟩)), (.int .i64 n)] 98 (0, 0))], R] := Has.pick hH162 [1, 1, 1, 1, 1, 1, 1] (by kernel_rfl)
                              refine t_norm ⟨x119.2.length - (k + 1), _, rfl, ?_, ?_⟩
                              · omega
                              · exact ⟨(k + 1), 1, dk, now2, sn2, B2, rfl, hH165, (by omega), (.inr ⟨rfl, ts_stop (show x119.2[k]? = some _ from hx154) hst0 (.inl (by simpa using h164))⟩), (hts2), (hnk), (hfk.mono (by omega)), (hnw2), (hokn2), e132_0, e132_1, e132_2, e132_7, e132_10, e132_11, e132_12, e132_13, e132_14, e132_15, e132_16, rfl, rfl, e132_35, e132_44, e132_101, e132_107, e132_114⟩
                            · -- not: !(pageR x153.1 x153.2.1 x153.2.2.2)
                              have h164_n : (pageR x153.1 x153.2.1 x153.2.2.2) = true := by first | simpa using h164 | exact Bool.of_not_eq_false (fun g_ => by rw [g_] at h164; cases h164)
                              refine s_on 138 rfl (congrArg Value.bool h164) (o_fieldAddr (k := 0) (fun _ => by kernel_rfl) rfl ?_)
                              refine s_on 138 rfl (congrArg Value.bool h164) (o_load1 (v := (.int .i64 x153.1)) Tryz.underlying3 rfl rfl hH162 (seg_sub 0 rfl) (CellsAt.one rfl) ?_)
                              refine s_on 138 rfl (congrArg Value.bool h164) (o_move (v := (.int .i64 n)) e132_0 ?_)
                              refine s_on 138 rfl (congrArg Value.bool h164) (o_geq (a := x153.1) (b := n) rfl rfl ?_)
                              refine s_op (o_pick_f (u := (.bool (decide (n ≤ x153.1)))) ((rfl : _ = _).trans (congrArg Value.bool h164)) rfl ?_)
                              refine s_nil ?_
                              refine t_norm (hK160 _ _ ?_)
                              refine c_cond rfl (fun h166 => ?_) (fun h166 => ?_)
                              · -- n ≤ x153.1
                                refine c_region ?_
                                refine s_op (o_assign (v := (.int .i64 1)) rfl ?_)
                                refine s_nil ?_
                                refine b_norm ?_
                                refine t_norm (hK145 _ _ ?_)
                                refine c_region ?_
                                refine s_op (o_move (v := (.int .i64 (k : Int))) e132_18 ?_)
                                refine s_op (o_add (a := (k : Int)) (b := 1) rfl rfl (w64 (by omega) (by omega)) ?_)
                                refine s_op (o_assign (v := (.int .i64 ((k : Int) + 1))) rfl ?_)
                                refine s_nil ?_
                                have hH167 : Has E w163 [sn2, sgc, [Hp.one pb64 (.cells #[(.bool dc.p.off), (.bool dc.p.armed), (.int .i64 dc.p.left), (.int .i64 dc.p.uses)] 101 (0, 0))], sg80, [Hp.one pb79 (.cells #[(.bool (Pw.mk false false 0 0).off), (.bool (Pw.mk false false 0 0).armed), (.int .i64 (Pw.mk false false 0 0).left), (.int .i64 (Pw.mk false false 0 0).uses)] 101 (0, 0))], [Hp.one tb71 (.cells #[(.pointer (some ⟨db63, 0, none⟩)), (.int .i64 n)] 98 (0, 0))], R] := Has.pick hH162 [1, 1, 1, 1, 1, 1, 1] (by kernel_rfl)
                                refine t_norm ⟨x119.2.length - (k + 1), _, rfl, ?_, ?_⟩
                                · omega
                                · exact ⟨(k + 1), 1, dk, now2, sn2, B2, rfl, hH167, (by omega), (.inr ⟨rfl, ts_stop (show x119.2[k]? = some _ from hx154) hst0 (.inr h166)⟩), (hts2), (hnk), (hfk.mono (by omega)), (hnw2), (hokn2), e132_0, e132_1, e132_2, e132_7, e132_10, e132_11, e132_12, e132_13, e132_14, e132_15, e132_16, rfl, rfl, e132_35, e132_44, e132_101, e132_107, e132_114⟩
                              · -- not: n ≤ x153.1
                                have hto_ := hts2.ok (by omega) (by simpa using h164) h166
                                have hnl_ : now2.length = n.toNat := hts2.told.1
                                have hno_ := hto_.1
                                refine c_region ?_
                                refine s_op (o_move (v := v94) e132_15 ?_)
                                refine s_op (o_fieldAddr (k := 0) (fun _ => by kernel_rfl) rfl ?_)
                                refine s_op (o_load1 (v := (.int .i64 x153.1)) Tryz.underlying3 rfl rfl hH162 (seg_sub 0 rfl) (CellsAt.one rfl) ?_)
                                refine s_op (o_loadN (cs := [(.int .i64 x153.1), (.int .i64 x153.2.1), x153.2.2.1]) Tryz.underlying36 rfl ti36 rfl hH162 (seg_sub 0 rfl) (CellsAt.one rfl) ?_)
                                refine s_op (o_ownAddrF Tryz.underlying31 ti36 rfl hnw2 rfl (by omega) (by first | omega | (simp only [List.length_append, List.length_cons, List.length_nil, List.length_set]; omega)) fun b168 ho169 => ?_)
                                refine s_eff (o_ownStoreF (f := pgC) (l := now2) (a := x153) (i := (x153.1).toNat) pgC_len ti36 rfl rfl rfl (fun u_ hu_ => (one_pgA ((hgr x119 (List.mem_of_getElem? hx120)).2 x153 (List.mem_of_getElem? hx154))) u_ (by simpa using hu_)) ho169 (by first | rfl | (simp only [List.length_append, List.length_cons, List.length_nil, List.length_set]; done) | simp) (by first | omega | (simp only [List.length_append, List.length_cons, List.length_nil, List.length_set]; omega)) (hH162.front 1 rfl) fun s170 w171 ho172 hH173 => ?_)
                                refine s_nil ?_
                                refine b_norm ?_
                                refine t_norm (hK145 _ _ ?_)
                                refine c_region ?_
                                refine s_op (o_move (v := (.int .i64 (k : Int))) e132_18 ?_)
                                refine s_op (o_add (a := (k : Int)) (b := 1) rfl rfl (w64 (by omega) (by omega)) ?_)
                                refine s_op (o_assign (v := (.int .i64 ((k : Int) + 1))) rfl ?_)
                                refine s_nil ?_
                                have hH174 : Has E w171 [s170, sgc, [Hp.one pb64 (.cells #[(.bool dc.p.off), (.bool dc.p.armed), (.int .i64 dc.p.left), (.int .i64 dc.p.uses)] 101 (0, 0))], sg80, [Hp.one pb79 (.cells #[(.bool (Pw.mk false false 0 0).off), (.bool (Pw.mk false false 0 0).armed), (.int .i64 (Pw.mk false false 0 0).left), (.int .i64 (Pw.mk false false 0 0).uses)] 101 (0, 0))], [Hp.one tb71 (.cells #[(.pointer (some ⟨db63, 0, none⟩)), (.int .i64 n)] 98 (0, 0))], R] := Has.pick hH173 [0, 1, 1, 1, 1, 1, 1] (by kernel_rfl)
                                refine t_norm ⟨x119.2.length - (k + 1), _, rfl, ?_, ?_⟩
                                · omega
                                · exact ⟨(k + 1), wt, ((st1 dk n x153).2), (now2.set ((x153.1).toNat) x153), s170, (updB B2 x153.1.toNat (lpg x153)), rfl, hH174, (by omega), (.inl ⟨by omega, stL_go (show x119.2[k]? = some _ from hx154) hst0 hto_.2.1⟩), (hto_.2.2), (by rw [st1_len]; exact hnk), ((few_st1 hfk).mono (by omega)), (ho172), (fun a ha => (List.mem_or_eq_of_mem_set ha).elim (hokn2 a) (fun q_ => by rw [q_]; exact (hgr x119 (List.mem_of_getElem? hx120)).2 _ (List.mem_of_getElem? (show x119.2[k]? = some _ from hx154)))), e132_0, e132_1, e132_2, e132_7, e132_10, e132_11, e132_12, e132_13, e132_14, e132_15, e132_16, e132_17, rfl, e132_35, e132_44, e132_101, e132_107, e132_114⟩
                          · -- not: wt = 0
                            refine wp_exit ?_
                            refine t_exit (t_exit (x_in (?_)))
                            refine t_norm (hK130 _ _ ?_)
                            refine wp_seq_k fun K175 hK175 => ?_
                            refine c_region ?_
                            refine s_op (o_move (v := (.pointer (some ⟨tb71, 0, none⟩))) e132_11 ?_)
                            refine s_op (o_move (v := v) e132_1 ?_)
                            refine s_op (o_move (v := (.int .i64 (i : Int))) e132_16 ?_)
                            refine s_op (o_index1 Tryz.underlying22 ti31 rfl hv rfl (by omega) hx120 fun b176 o177 hc178 => ?_)
                            refine s_op (o_load1 (v := (grV x119)) Tryz.underlying31 rfl rfl hH136 (seg_sub 6 rfl) hc178 ?_)
                            refine s_op (o_callf (vs := #[(.pointer (some ⟨tb71, 0, none⟩)), (grV x119)]) ca18 rfl (args2 rfl rfl) (tstoreE_c (d := dc) (n := n) (((hH136.front 5 rfl).front 3 rfl).front 3 rfl).all3 hdc hfc (by omega) hts.lo (by rw [hnc]; omega) (hg.mono (seg_sub 3 rfl)) (l := x119.2) ((hgr x119 (List.mem_of_getElem? hx120)).1.mono (seg_sub 3 rfl)) (fun a ha => ((hgr x119 (List.mem_of_getElem? hx120)).2 a ha).mono (seg_sub 3 rfl)) (by omega) (ts_end hst (by omega))) ?_)
                            rintro _ w183 ⟨sg179, rfl, hd180, hX181⟩
                            refine ⟨_, rfl, ?_⟩
                            have hH182 : Has E w183 [sg179, [Hp.one pb64 (.cells #[(.bool dk.p.off), (.bool dk.p.armed), (.int .i64 dk.p.left), (.int .i64 dk.p.uses)] 101 (0, 0))], [Hp.one tb71 (.cells #[(.pointer (some ⟨db63, 0, none⟩)), (.int .i64 n)] 98 (0, 0))], sn2, sg80, [Hp.one pb79 (.cells #[(.bool (Pw.mk false false 0 0).off), (.bool (Pw.mk false false 0 0).armed), (.int .i64 (Pw.mk false false 0 0).left), (.int .i64 (Pw.mk false false 0 0).uses)] 101 (0, 0))], R] := hX181.of_all3
                            refine s_op (o_move (v := (.int .i64 wt)) e132_17 ?_)
                            refine s_op (o_neq (a := wt) (b := wt) rfl rfl ?_)
                            refine s_op (o_move (v := (.bool (decide (wt ≠ wt)))) rfl ?_)
                            by_cases h184 : wt ≠ wt
                            · -- wt ≠ wt
                              exact absurd rfl h184
                            · -- not: wt ≠ wt
                              refine s_on 157 rfl (congrArg Value.bool (decide_eq_false h184)) (o_move (v := (.pointer (some ⟨tb71, 0, none⟩))) e132_11 ?_)
                              refine s_on 157 rfl (congrArg Value.bool (decide_eq_false h184)) (o_move (v := v94) e132_15 ?_)
                              refine s_on 157 rfl (congrArg Value.bool (decide_eq_false h184)) (o_callf (vs := #[(.pointer (some ⟨tb71, 0, none⟩)), v94]) ca19 rfl (args2 rfl rfl) (same12_c (d := dk) (n := n) (((hH182.front 2 rfl).front 2 rfl).front 2 rfl).all3 hd180 hts2.lo hts2.off hts2.full (by rw [hnk]; omega) ⟨by omega, by omega⟩ (by rw [hnk]; omega) (hg.mono (seg_sub 3 rfl)) (now := now2) (hnw2.sl.mono (seg_sub 0 rfl)) (fun a ha => (hokn2 a ha).mono (seg_sub 3 rfl)) (B := B2) hts2.told (fun k hk => hts2.tw.pg k hk)) ?_)
                              rintro _ w187 ⟨rfl, hX185⟩
                              refine ⟨_, rfl, ?_⟩
                              have hH186 : Has E w187 [sg179, [Hp.one pb64 (.cells #[(.bool dk.p.off), (.bool dk.p.armed), (.int .i64 dk.p.left), (.int .i64 dk.p.uses)] 101 (0, 0))], [Hp.one tb71 (.cells #[(.pointer (some ⟨db63, 0, none⟩)), (.int .i64 n)] 98 (0, 0))], sn2, sg80, [Hp.one pb79 (.cells #[(.bool (Pw.mk false false 0 0).off), (.bool (Pw.mk false false 0 0).armed), (.int .i64 (Pw.mk false false 0 0).left), (.int .i64 (Pw.mk false false 0 0).uses)] 101 (0, 0))], R] := hX185.of_all3
                              refine s_on 157 rfl (congrArg Value.bool (decide_eq_false h184)) (o_not rfl ?_)
                              refine s_op (o_pick_f (u := (.bool false)) ((rfl : _ = _).trans (congrArg Value.bool (decide_eq_false h184))) rfl ?_)
                              refine s_op (o_move (v := (.bool false)) rfl ?_)
                              refine s_on 163 rfl rfl (o_move (v := (.pointer (some ⟨db63, 0, none⟩))) e132_10 ?_)
                              refine s_on 163 rfl rfl (o_callf (vs := #[(.pointer (some ⟨db63, 0, none⟩))]) ca20 rfl (args1 rfl) (loose_d (p := dk.p) (la := dk.la) (lo := dk.lo) ((hH186.front 1 rfl).front 1 rfl).all2 hd180 (by rw [hts2.lo]; exact LoOk.nil _) (by rw [hnk]; omega)) ?_)
                              rintro _ w193 ⟨v188, s189, rfl, ho190, hX191⟩
                              refine ⟨_, rfl, ?_⟩
                              have hH192 : Has E w193 [s189, sg179, [Hp.one pb64 (.cells #[(.bool dk.p.off), (.bool dk.p.armed), (.int .i64 dk.p.left), (.int .i64 dk.p.uses)] 101 (0, 0))], [Hp.one tb71 (.cells #[(.pointer (some ⟨db63, 0, none⟩)), (.int .i64 n)] 98 (0, 0))], sn2, sg80, [Hp.one pb79 (.cells #[(.bool (Pw.mk false false 0 0).off), (.bool (Pw.mk false false 0 0).armed), (.int .i64 (Pw.mk false false 0 0).left), (.int .i64 (Pw.mk false false 0 0).uses)] 101 (0, 0))], R] := hX191.of_all3
                              refine s_on 163 rfl rfl (o_lenS Tryz.underlying40 rfl ho190.sl ?_)
                              refine s_on 163 rfl rfl (o_gtr (a := (((keysS dk.lo).length : Nat) : Int)) (b := 0) rfl rfl ?_)
                              refine s_op (o_pick_f (u := (.bool (decide (0 < (((keysS dk.lo).length : Nat) : Int))))) rfl rfl ?_)
                              refine s_nil ?_
                              refine t_norm (hK175 _ _ ?_)
                              refine c_cond rfl (fun h194 => ?_) (fun h194 => ?_)
                              · -- 0 < (((keysS dk.lo).length : Nat) : Int)
                                exact absurd h194 (by rw [hts2.lo, keys_none]; decide)
                              · -- not: 0 < (((keysS dk.lo).length : Nat) : Int)
                                refine wp_skip ?_
                                refine b_norm ?_
                                refine t_norm (hK113 _ _ ?_)
                                refine c_region ?_
                                refine s_op (o_move (v := (.int .i64 (i : Int))) e132_16 ?_)
                                refine s_op (o_add (a := (i : Int)) (b := 1) rfl rfl (w64 (by omega) (by omega)) ?_)
                                refine s_op (o_assign (v := (.int .i64 ((i : Int) + 1))) rfl ?_)
                                refine s_nil ?_
                                have hH195 : Has E w193 [sg179, [Hp.one pb64 (.cells #[(.bool dk.p.off), (.bool dk.p.armed), (.int .i64 dk.p.left), (.int .i64 dk.p.uses)] 101 (0, 0))], sn2, sg80, [Hp.one pb79 (.cells #[(.bool (Pw.mk false false 0 0).off), (.bool (Pw.mk false false 0 0).armed), (.int .i64 (Pw.mk false false 0 0).left), (.int .i64 (Pw.mk false false 0 0).uses)] 101 (0, 0))], [Hp.one tb71 (.cells #[(.pointer (some ⟨db63, 0, none⟩)), (.int .i64 n)] 98 (0, 0))], R] := Has.pick hH192 [1, 1, 2, 2, 2, 1, 1] (by kernel_rfl)
                                refine t_norm ⟨gs.length - (i + 1), _, rfl, ?_, ?_⟩
                                · omega
                                · exact ⟨(i + 1), dk, sg179, now2, sn2, B2, rfl, hH195, (by omega), (hd180), (hfk.mono (by omega)), (hnk), (hts2), (hnw2), (hokn2), e132_0, e132_1, e132_2, e132_7, e132_10, e132_11, e132_12, e132_13, e132_14, e132_15, rfl, e132_35, e132_44, e132_101⟩
                        · -- not: (k : Int) < ((x119.2.length : Nat) : Int)
                          refine s_off (b' := false) 122 rfl (congrArg Value.bool (decide_eq_false h143)) rfl ?_
                          refine s_off (b' := false) 122 rfl (congrArg Value.bool (decide_eq_false h143)) rfl ?_
                          refine s_op (o_pick_f (u := (.bool false)) ((rfl : _ = _).trans (congrArg Value.bool (decide_eq_false h143))) rfl ?_)
                          refine s_nil ?_
                          refine t_norm (hK139 _ _ ?_)
                          refine c_false rfl rfl ?_
                          refine wp_exit ?_
                          refine t_exit (t_exit (x_in (?_)))
                          refine t_norm (hK130 _ _ ?_)
                          refine wp_seq_k fun K196 hK196 => ?_
                          refine c_region ?_
                          refine s_op (o_move (v := (.pointer (some ⟨tb71, 0, none⟩))) e132_11 ?_)
                          refine s_op (o_move (v := v) e132_1 ?_)
                          refine s_op (o_move (v := (.int .i64 (i : Int))) e132_16 ?_)
                          refine s_op (o_index1 Tryz.underlying22 ti31 rfl hv rfl (by omega) hx120 fun b197 o198 hc199 => ?_)
                          refine s_op (o_load1 (v := (grV x119)) Tryz.underlying31 rfl rfl hH136 (seg_sub 6 rfl) hc199 ?_)
                          refine s_op (o_callf (vs := #[(.pointer (some ⟨tb71, 0, none⟩)), (grV x119)]) ca18 rfl (args2 rfl rfl) (tstoreE_c (d := dc) (n := n) (((hH136.front 5 rfl).front 3 rfl).front 3 rfl).all3 hdc hfc (by omega) hts.lo (by rw [hnc]; omega) (hg.mono (seg_sub 3 rfl)) (l := x119.2) ((hgr x119 (List.mem_of_getElem? hx120)).1.mono (seg_sub 3 rfl)) (fun a ha => ((hgr x119 (List.mem_of_getElem? hx120)).2 a ha).mono (seg_sub 3 rfl)) (by omega) (ts_end hst (by omega))) ?_)
                          rintro _ w204 ⟨sg200, rfl, hd201, hX202⟩
                          refine ⟨_, rfl, ?_⟩
                          have hH203 : Has E w204 [sg200, [Hp.one pb64 (.cells #[(.bool dk.p.off), (.bool dk.p.armed), (.int .i64 dk.p.left), (.int .i64 dk.p.uses)] 101 (0, 0))], [Hp.one tb71 (.cells #[(.pointer (some ⟨db63, 0, none⟩)), (.int .i64 n)] 98 (0, 0))], sn2, sg80, [Hp.one pb79 (.cells #[(.bool (Pw.mk false false 0 0).off), (.bool (Pw.mk false false 0 0).armed), (.int .i64 (Pw.mk false false 0 0).left), (.int .i64 (Pw.mk false false 0 0).uses)] 101 (0, 0))], R] := hX202.of_all3
                          refine s_op (o_move (v := (.int .i64 wt)) e132_17 ?_)
                          refine s_op (o_neq (a := wt) (b := wt) rfl rfl ?_)
                          refine s_op (o_move (v := (.bool (decide (wt ≠ wt)))) rfl ?_)
                          by_cases h205 : wt ≠ wt
                          · -- wt ≠ wt
                            exact absurd rfl h205
                          · -- not: wt ≠ wt
                            refine s_on 157 rfl (congrArg Value.bool (decide_eq_false h205)) (o_move (v := (.pointer (some ⟨tb71, 0, none⟩))) e132_11 ?_)
                            refine s_on 157 rfl (congrArg Value.bool (decide_eq_false h205)) (o_move (v := v94) e132_15 ?_)
                            refine s_on 157 rfl (congrArg Value.bool (decide_eq_false h205)) (o_callf (vs := #[(.pointer (some ⟨tb71, 0, none⟩)), v94]) ca19 rfl (args2 rfl rfl) (same12_c (d := dk) (n := n) (((hH203.front 2 rfl).front 2 rfl).front 2 rfl).all3 hd201 hts2.lo hts2.off hts2.full (by rw [hnk]; omega) ⟨by omega, by omega⟩ (by rw [hnk]; omega) (hg.mono (seg_sub 3 rfl)) (now := now2) (hnw2.sl.mono (seg_sub 0 rfl)) (fun a ha => (hokn2 a ha).mono (seg_sub 3 rfl)) (B := B2) hts2.told (fun k hk => hts2.tw.pg k hk)) ?_)
                            rintro _ w208 ⟨rfl, hX206⟩
                            refine ⟨_, rfl, ?_⟩
                            have hH207 : Has E w208 [sg200, [Hp.one pb64 (.cells #[(.bool dk.p.off), (.bool dk.p.armed), (.int .i64 dk.p.left), (.int .i64 dk.p.uses)] 101 (0, 0))], [Hp.one tb71 (.cells #[(.pointer (some ⟨db63, 0, none⟩)), (.int .i64 n)] 98 (0, 0))], sn2, sg80, [Hp.one pb79 (.cells #[(.bool (Pw.mk false false 0 0).off), (.bool (Pw.mk false false 0 0).armed), (.int .i64 (Pw.mk false false 0 0).left), (.int .i64 (Pw.mk false false 0 0).uses)] 101 (0, 0))], R] := hX206.of_all3
                            refine s_on 157 rfl (congrArg Value.bool (decide_eq_false h205)) (o_not rfl ?_)
                            refine s_op (o_pick_f (u := (.bool false)) ((rfl : _ = _).trans (congrArg Value.bool (decide_eq_false h205))) rfl ?_)
                            refine s_op (o_move (v := (.bool false)) rfl ?_)
                            refine s_on 163 rfl rfl (o_move (v := (.pointer (some ⟨db63, 0, none⟩))) e132_10 ?_)
                            refine s_on 163 rfl rfl (o_callf (vs := #[(.pointer (some ⟨db63, 0, none⟩))]) ca20 rfl (args1 rfl) (loose_d (p := dk.p) (la := dk.la) (lo := dk.lo) ((hH207.front 1 rfl).front 1 rfl).all2 hd201 (by rw [hts2.lo]; exact LoOk.nil _) (by rw [hnk]; omega)) ?_)
                            rintro _ w214 ⟨v209, s210, rfl, ho211, hX212⟩
                            refine ⟨_, rfl, ?_⟩
                            have hH213 : Has E w214 [s210, sg200, [Hp.one pb64 (.cells #[(.bool dk.p.off), (.bool dk.p.armed), (.int .i64 dk.p.left), (.int .i64 dk.p.uses)] 101 (0, 0))], [Hp.one tb71 (.cells #[(.pointer (some ⟨db63, 0, none⟩)), (.int .i64 n)] 98 (0, 0))], sn2, sg80, [Hp.one pb79 (.cells #[(.bool (Pw.mk false false 0 0).off), (.bool (Pw.mk false false 0 0).armed), (.int .i64 (Pw.mk false false 0 0).left), (.int .i64 (Pw.mk false false 0 0).uses)] 101 (0, 0))], R] := hX212.of_all3
                            refine s_on 163 rfl rfl (o_lenS Tryz.underlying40 rfl ho211.sl ?_)
                            refine s_on 163 rfl rfl (o_gtr (a := (((keysS dk.lo).length : Nat) : Int)) (b := 0) rfl rfl ?_)
                            refine s_op (o_pick_f (u := (.bool (decide (0 < (((keysS dk.lo).length : Nat) : Int))))) rfl rfl ?_)
                            refine s_nil ?_
                            refine t_norm (hK196 _ _ ?_)
                            refine c_cond rfl (fun h215 => ?_) (fun h215 => ?_)
                            · -- 0 < (((keysS dk.lo).length : Nat) : Int)
                              exact absurd h215 (by rw [hts2.lo, keys_none]; decide)
                            · -- not: 0 < (((keysS dk.lo).length : Nat) : Int)
                              refine wp_skip ?_
                              refine b_norm ?_
                              refine t_norm (hK113 _ _ ?_)
                              refine c_region ?_
                              refine s_op (o_move (v := (.int .i64 (i : Int))) e132_16 ?_)
                              refine s_op (o_add (a := (i : Int)) (b := 1) rfl rfl (w64 (by omega) (by omega)) ?_)
                              refine s_op (o_assign (v := (.int .i64 ((i : Int) + 1))) rfl ?_)
                              refine s_nil ?_
                              have hH216 : Has E w214 [sg200, [Hp.one pb64 (.cells #[(.bool dk.p.off), (.bool dk.p.armed), (.int .i64 dk.p.left), (.int .i64 dk.p.uses)] 101 (0, 0))], sn2, sg80, [Hp.one pb79 (.cells #[(.bool (Pw.mk false false 0 0).off), (.bool (Pw.mk false false 0 0).armed), (.int .i64 (Pw.mk false false 0 0).left), (.int .i64 (Pw.mk false false 0 0).uses)] 101 (0, 0))], [Hp.one tb71 (.cells #[(.pointer (some ⟨db63, 0, none⟩)), (.int .i64 n)] 98 (0, 0))], R] := Has.pick hH213 [1, 1, 2, 2, 2, 1, 1] (by kernel_rfl)
                              refine t_norm ⟨gs.length - (i + 1), _, rfl, ?_, ?_⟩
                              · omega
                              · exact ⟨(i + 1), dk, sg200, now2, sn2, B2, rfl, hH216, (by omega), (hd201), (hfk.mono (by omega)), (hnk), (hts2), (hnw2), (hokn2), e132_0, e132_1, e132_2, e132_7, e132_10, e132_11, e132_12, e132_13, e132_14, e132_15, rfl, e132_35, e132_44, e132_101⟩
                    · -- not: (i : Int) < ((gs.length : Nat) : Int)
                      refine wp_exit ?_
                      refine t_exit (t_exit (x_in (?_)))
                      refine t_norm (hK100 _ _ ?_)
                      refine wp_seq_k fun K217 hK217 => ?_
                      refine c_region ?_
                      refine s_op (o_move (v := (.pointer (some ⟨db63, 0, none⟩))) e104_10 ?_)
                      refine s_op (o_move (v := (.int .i64 n)) e104_0 ?_)
                      have hm_ := tw_mendI (n := n) (by omega) hts
                      refine s_op (o_callf (vs := #[(.pointer (some ⟨db63, 0, none⟩)), (.int .i64 n)]) ca21 rfl (args2 rfl rfl) (topen_ok (d := dc) ((hH108.front 1 rfl).front 1 rfl).all2 hdc (n := n) hfc (by omega) hts.lo (by rw [hnc]; omega) ⟨by omega, by omega⟩ (by rw [hnc]; omega) (hg.mono (seg_sub 4 rfl)) hts.full hts.off (by rw [hm_])) ?_)
                      rintro _ w223 ⟨tb220, sg218, rfl, hd219, hX221⟩
                      refine ⟨_, rfl, ?_⟩
                      have hH222 : Has E w223 [[Hp.one tb220 (.cells #[(.pointer (some ⟨db63, 0, none⟩)), (.int .i64 n)] 98 (0, 0))], sg218, [Hp.one pb64 (.cells #[(.bool ((mendR dc n).2).p.off), (.bool ((mendR dc n).2).p.armed), (.int .i64 ((mendR dc n).2).p.left), (.int .i64 ((mendR dc n).2).p.uses)] 101 (0, 0))], sn, sg80, [Hp.one pb79 (.cells #[(.bool (Pw.mk false false 0 0).off), (.bool (Pw.mk false false 0 0).armed), (.int .i64 (Pw.mk false false 0 0).left), (.int .i64 (Pw.mk false false 0 0).uses)] 101 (0, 0))], [Hp.one tb71 (.cells #[(.pointer (some ⟨db63, 0, none⟩)), (.int .i64 n)] 98 (0, 0))], R] := hX221.of_all3
                      refine s_op (o_move (v := (.tuple #[(.pointer (some ⟨tb220, 0, none⟩)), (.int .i64 (0 : Int))])) rfl ?_)
                      refine s_op (o_extract (v := (.pointer (some ⟨tb220, 0, none⟩))) rfl rfl ?_)
                      refine s_op (o_extract (v := (.int .i64 (0 : Int))) rfl rfl ?_)
                      refine s_op (o_assign (v := (.pointer (some ⟨tb220, 0, none⟩))) rfl ?_)
                      refine s_op (o_assign (v := (.int .i64 (0 : Int))) rfl ?_)
                      refine s_nil ?_
                      refine t_norm (hK217 _ _ ?_)
                      refine wp_seq_k fun K224 hK224 => ?_
                      refine c_region ?_
                      refine s_op (o_move (v := (.int .i64 (0 : Int))) rfl ?_)
                      refine s_op (o_eql (a := (0 : Int)) (b := 0) rfl rfl ?_)
                      refine s_op (o_move (v := (.bool (decide ((0 : Int) = 0)))) rfl ?_)
                      by_cases h225 : (0 : Int) = 0
                      · -- (0 : Int) = 0
                        refine s_on 177 rfl (congrArg Value.bool (decide_eq_true h225)) (o_move (v := (.pointer (some ⟨tb220, 0, none⟩))) rfl ?_)
                        refine s_on 177 rfl (congrArg Value.bool (decide_eq_true h225)) (o_move (v := v94) e104_15 ?_)
                        refine s_on 177 rfl (congrArg Value.bool (decide_eq_true h225)) (o_callf (vs := #[(.pointer (some ⟨tb220, 0, none⟩)), v94]) ca19 rfl (args2 rfl rfl) (same12_c (d := (mendR dc n).2) (n := n) ((hH222.front 2 rfl).front 2 rfl).all3 hd219 (by rw [hm_]; exact hts.lo) (by rw [hm_]; exact hts.off) (by rw [hm_]; exact hts.full) (by rw [hm_]; rw [hnc]; omega) ⟨by omega, by omega⟩ (by rw [hm_]; rw [hnc]; omega) (hg.mono (seg_sub 4 rfl)) (now := now) (hnw.sl.mono (seg_sub 0 rfl)) (fun a ha => (hokn a ha).mono (seg_sub 4 rfl)) (B := B) hts.told (by rw [hm_]; exact fun k hk => hts.tw.pg k hk)) ?_)
                        rintro _ w228 ⟨rfl, hX226⟩
                        refine ⟨_, rfl, ?_⟩
                        have hH227 : Has E w228 [sg218, [Hp.one pb64 (.cells #[(.bool ((mendR dc n).2).p.off), (.bool ((mendR dc n).2).p.armed), (.int .i64 ((mendR dc n).2).p.left), (.int .i64 ((mendR dc n).2).p.uses)] 101 (0, 0))], [Hp.one tb220 (.cells #[(.pointer (some ⟨db63, 0, none⟩)), (.int .i64 n)] 98 (0, 0))], sn, sg80, [Hp.one pb79 (.cells #[(.bool (Pw.mk false false 0 0).off), (.bool (Pw.mk false false 0 0).armed), (.int .i64 (Pw.mk false false 0 0).left), (.int .i64 (Pw.mk false false 0 0).uses)] 101 (0, 0))], [Hp.one tb71 (.cells #[(.pointer (some ⟨db63, 0, none⟩)), (.int .i64 n)] 98 (0, 0))], R] := hX226.of_all3
                        refine s_op (o_pick_t (u := (.bool true)) ((rfl : _ = _).trans (congrArg Value.bool (decide_eq_true h225))) rfl ?_)
                        refine s_op (o_assign (v := (.bool true)) rfl ?_)
                        refine s_nil ?_
                        refine t_norm (hK224 _ _ ?_)
                        refine wp_ret ?_
                        refine c_ret1 Tryz.results3  (v := (.bool true)) rfl ?_
                        have hH229 : Has E w228 [R] := (hH227.front 7 rfl).first 1 rfl
                        exact ⟨by first | rfl | (rw [decide_eq_true (by decide)]), hH229⟩
                      · -- not: (0 : Int) = 0
                        exact absurd h225 (by decide)
    · -- not: 10 < n
      refine s_off (b' := false) 27 rfl (congrArg Value.bool (decide_eq_false h9)) rfl ?_
      refine s_off (b' := false) 27 rfl (congrArg Value.bool (decide_eq_false h9)) rfl ?_
      refine s_on 24 rfl (congrArg Value.bool (decide_eq_false h4)) (o_pick_f (u := (.bool false)) ((rfl : _ = _).trans (congrArg Value.bool (decide_eq_false h9))) rfl ?_)
      refine s_op (o_pick_f (u := (.bool false)) ((rfl : _ = _).trans (congrArg Value.bool (decide_eq_false h4))) rfl ?_)
      refine s_op (o_move (v := (.bool false)) rfl ?_)
      refine s_on 32 rfl rfl (o_callf (vs := #[]) ca11 rfl (args0) (awake12_c hH.all (hg.mono (seg_sub 0 rfl))) ?_)
      rintro _ w232 ⟨rfl, hX230⟩
      refine ⟨_, rfl, ?_⟩
      have hH231 := hX230.of_all
      refine s_on 32 rfl rfl (o_not rfl ?_)
      refine s_op (o_pick_f (u := (.bool false)) rfl rfl ?_)
      refine s_nil ?_
      refine t_norm (hK3 _ _ ?_)
      refine c_false rfl rfl ?_
      refine wp_skip ?_
      refine t_norm (hK2 _ _ ?_)
      refine wp_seq_k fun K233 hK233 => ?_
      refine c_region ?_
      refine s_op (o_move (v := (.int .i64 n)) rfl ?_)
      by_cases hc234 : n < 1 ∨ 64 < n
      · -- yes
        refine s_op (o_callf (vs := #[(.int .i64 n)]) ca12 rfl (args1 rfl) (need_no hH231.all (n := n) (by omega)) ?_)
        rintro _ w237 ⟨rfl, hX235⟩
        refine ⟨_, rfl, ?_⟩
        have hH236 := hX235.of_all
        refine s_op (o_assign (v := (.int .i64 (0 : Int))) rfl ?_)
        refine s_nil ?_
        refine t_norm (hK233 _ _ ?_)
        refine wp_seq_k fun K238 hK238 => ?_
        refine wp_seq_k fun K239 hK239 => ?_
        refine c_region ?_
        refine s_op (o_move (v := (.int .i64 n)) rfl ?_)
        refine s_op (o_lss (a := n) (b := 1) rfl rfl ?_)
        refine s_op (o_move (v := (.bool (decide (n < 1)))) rfl ?_)
        by_cases h240 : n < 1
        · -- n < 1
          refine s_off (b' := true) 41 rfl (congrArg Value.bool (decide_eq_true h240)) rfl ?_
          refine s_off (b' := true) 41 rfl (congrArg Value.bool (decide_eq_true h240)) rfl ?_
          refine s_op (o_pick_t (u := (.bool true)) ((rfl : _ = _).trans (congrArg Value.bool (decide_eq_true h240))) rfl ?_)
          refine s_nil ?_
          refine t_norm (hK239 _ _ ?_)
          refine c_true rfl rfl ?_
          refine wp_seq_k fun K241 hK241 => ?_
          refine c_region ?_
          refine s_op (o_callf (vs := #[(.pointer none), (.int .i64 500)]) ca14 rfl (args2 rfl rfl) (new_nil hH236.all (n := 500) (by decide)) ?_)
          rintro _ w248 ⟨db242, pb243, sg244, rfl, hd245, hX246⟩
          refine ⟨_, rfl, ?_⟩
          have hH247 : Has E w248 [sg244, [Hp.one pb243 (.cells #[(.bool (Pw.mk false false 0 0).off), (.bool (Pw.mk false false 0 0).armed), (.int .i64 (Pw.mk false false 0 0).left), (.int .i64 (Pw.mk false false 0 0).uses)] 101 (0, 0))], R] := hX246.of_all2
          refine s_op (o_move (v := (.int .i64 n)) rfl ?_)
          refine s_op (o_callf (vs := #[(.pointer (some ⟨db242, 0, none⟩)), (.int .i64 n)]) ca13 rfl (args2 rfl rfl) (tfmt_bad (d := (Dv.mk (Pw.mk false false 0 0) (List.replicate 500 blankS) [])) ((hH247.front 1 rfl).front 1 rfl).all2 hd245 (n := n) (by simp) (by omega)) ?_)
          rintro _ w251 ⟨rfl, hX249⟩
          refine ⟨_, rfl, ?_⟩
          have hH250 : Has E w251 [sg244, [Hp.one pb243 (.cells #[(.bool (Pw.mk false false 0 0).off), (.bool (Pw.mk false false 0 0).armed), (.int .i64 (Pw.mk false false 0 0).left), (.int .i64 (Pw.mk false false 0 0).uses)] 101 (0, 0))], R] := hX249.of_all2
          refine s_op (o_move (v := (.tuple #[(.pointer none), (.int .i64 (1 : Int))])) rfl ?_)
          refine s_op (o_extract (v := (.pointer none)) rfl rfl ?_)
          refine s_op (o_extract (v := (.int .i64 (1 : Int))) rfl rfl ?_)
          refine s_op (o_assign (v := (.pointer none)) rfl ?_)
          refine s_op (o_assign (v := (.int .i64 (1 : Int))) rfl ?_)
          refine s_nil ?_
          refine t_norm (hK241 _ _ ?_)
          refine wp_seq_k fun K252 hK252 => ?_
          refine c_region ?_
          refine s_op (o_move (v := (.int .i64 (0 : Int))) rfl ?_)
          refine s_op (o_eql (a := (0 : Int)) (b := 0) rfl rfl ?_)
          refine s_op (o_move (v := (.bool (decide ((0 : Int) = 0)))) rfl ?_)
          by_cases h253 : (0 : Int) = 0
          · -- (0 : Int) = 0
            refine s_on 53 rfl (congrArg Value.bool (decide_eq_true h253)) (o_move (v := (.pointer none)) rfl ?_)
            refine s_on 53 rfl (congrArg Value.bool (decide_eq_true h253)) (o_pnil (p := none) Tryz.underlying25 rfl rfl ?_)
            refine s_op (o_pick_t (u := (.bool true)) ((rfl : _ = _).trans (congrArg Value.bool (decide_eq_true h253))) rfl ?_)
            refine s_op (o_move (v := (.bool true)) rfl ?_)
            refine s_on 57 rfl rfl (o_move (v := (.int .i64 (1 : Int))) rfl ?_)
            refine s_on 57 rfl rfl (o_eql (a := (1 : Int)) (b := 1) rfl rfl ?_)
            refine s_op (o_pick_t (u := (.bool (decide ((1 : Int) = 1)))) rfl rfl ?_)
            refine s_op (o_assign (v := (.bool (decide ((1 : Int) = 1)))) rfl ?_)
            refine s_nil ?_
            refine t_norm (hK252 _ _ ?_)
            refine wp_ret ?_
            refine t_ret (c_ret1 Tryz.results3  (v := (.bool (decide ((1 : Int) = 1)))) rfl ?_)
            have hH254 : Has E w251 [R] := (hH250.front 2 rfl).first 1 rfl
            exact ⟨by first | rfl | (rw [decide_eq_true (by decide)]), hH254⟩
          · -- not: (0 : Int) = 0
            exact absurd h253 (by decide)
        · -- not: n < 1
          refine s_on 41 rfl (congrArg Value.bool (decide_eq_false h240)) (o_move (v := (.int .i64 n)) rfl ?_)
          refine s_on 41 rfl (congrArg Value.bool (decide_eq_false h240)) (o_gtr (a := n) (b := 64) rfl rfl ?_)
          refine s_op (o_pick_f (u := (.bool (decide (64 < n)))) ((rfl : _ = _).trans (congrArg Value.bool (decide_eq_false h240))) rfl ?_)
          refine s_nil ?_
          refine t_norm (hK239 _ _ ?_)
          refine c_cond rfl (fun h255 => ?_) (fun h255 => ?_)
          · -- 64 < n
            refine wp_seq_k fun K256 hK256 => ?_
            refine c_region ?_
            refine s_op (o_callf (vs := #[(.pointer none), (.int .i64 500)]) ca14 rfl (args2 rfl rfl) (new_nil hH236.all (n := 500) (by decide)) ?_)
            rintro _ w263 ⟨db257, pb258, sg259, rfl, hd260, hX261⟩
            refine ⟨_, rfl, ?_⟩
            have hH262 : Has E w263 [sg259, [Hp.one pb258 (.cells #[(.bool (Pw.mk false false 0 0).off), (.bool (Pw.mk false false 0 0).armed), (.int .i64 (Pw.mk false false 0 0).left), (.int .i64 (Pw.mk false false 0 0).uses)] 101 (0, 0))], R] := hX261.of_all2
            refine s_op (o_move (v := (.int .i64 n)) rfl ?_)
            refine s_op (o_callf (vs := #[(.pointer (some ⟨db257, 0, none⟩)), (.int .i64 n)]) ca13 rfl (args2 rfl rfl) (tfmt_bad (d := (Dv.mk (Pw.mk false false 0 0) (List.replicate 500 blankS) [])) ((hH262.front 1 rfl).front 1 rfl).all2 hd260 (n := n) (by simp) (by omega)) ?_)
            rintro _ w266 ⟨rfl, hX264⟩
            refine ⟨_, rfl, ?_⟩
            have hH265 : Has E w266 [sg259, [Hp.one pb258 (.cells #[(.bool (Pw.mk false false 0 0).off), (.bool (Pw.mk false false 0 0).armed), (.int .i64 (Pw.mk false false 0 0).left), (.int .i64 (Pw.mk false false 0 0).uses)] 101 (0, 0))], R] := hX264.of_all2
            refine s_op (o_move (v := (.tuple #[(.pointer none), (.int .i64 (1 : Int))])) rfl ?_)
            refine s_op (o_extract (v := (.pointer none)) rfl rfl ?_)
            refine s_op (o_extract (v := (.int .i64 (1 : Int))) rfl rfl ?_)
            refine s_op (o_assign (v := (.pointer none)) rfl ?_)
            refine s_op (o_assign (v := (.int .i64 (1 : Int))) rfl ?_)
            refine s_nil ?_
            refine t_norm (hK256 _ _ ?_)
            refine wp_seq_k fun K267 hK267 => ?_
            refine c_region ?_
            refine s_op (o_move (v := (.int .i64 (0 : Int))) rfl ?_)
            refine s_op (o_eql (a := (0 : Int)) (b := 0) rfl rfl ?_)
            refine s_op (o_move (v := (.bool (decide ((0 : Int) = 0)))) rfl ?_)
            by_cases h268 : (0 : Int) = 0
            · -- (0 : Int) = 0
              refine s_on 53 rfl (congrArg Value.bool (decide_eq_true h268)) (o_move (v := (.pointer none)) rfl ?_)
              refine s_on 53 rfl (congrArg Value.bool (decide_eq_true h268)) (o_pnil (p := none) Tryz.underlying25 rfl rfl ?_)
              refine s_op (o_pick_t (u := (.bool true)) ((rfl : _ = _).trans (congrArg Value.bool (decide_eq_true h268))) rfl ?_)
              refine s_op (o_move (v := (.bool true)) rfl ?_)
              refine s_on 57 rfl rfl (o_move (v := (.int .i64 (1 : Int))) rfl ?_)
              refine s_on 57 rfl rfl (o_eql (a := (1 : Int)) (b := 1) rfl rfl ?_)
              refine s_op (o_pick_t (u := (.bool (decide ((1 : Int) = 1)))) rfl rfl ?_)
              refine s_op (o_assign (v := (.bool (decide ((1 : Int) = 1)))) rfl ?_)
              refine s_nil ?_
              refine t_norm (hK267 _ _ ?_)
              refine wp_ret ?_
              refine t_ret (c_ret1 Tryz.results3  (v := (.bool (decide ((1 : Int) = 1)))) rfl ?_)
              have hH269 : Has E w266 [R] := (hH265.front 2 rfl).first 1 rfl
              exact ⟨by first | rfl | (rw [decide_eq_true (by decide)]), hH269⟩
            · -- not: (0 : Int) = 0
              exact absurd h268 (by decide)
          · -- not: 64 < n
            exfalso; omega
      · -- no
        have hmr_ : 0 ≤ more % 9 ∧ more % 9 ≤ 8 := ⟨by omega, by omega⟩
        obtain ⟨m0, hm0⟩ : ∃ m0 : Nat, 5 + n * 4 + more % 9 = (m0 : Int) := ⟨(5 + n * 4 + more % 9).toNat, by omega⟩
        obtain ⟨m1, hm1⟩ : ∃ m1 : Nat, 5 + n * 4 - 1 = (m1 : Int) := ⟨(5 + n * 4 - 1).toNat, by omega⟩
        refine s_op (o_callf (vs := #[(.int .i64 n)]) ca12 rfl (args1 rfl) (need_ok hH231.all (n := n) (by omega)) ?_)
        rintro _ w272 ⟨rfl, hX270⟩
        refine ⟨_, rfl, ?_⟩
        have hH271 := hX270.of_all
        refine s_op (o_assign (v := (.int .i64 (5 + n * 4))) rfl ?_)
        refine s_nil ?_
        refine t_norm (hK233 _ _ ?_)
        refine wp_seq_k fun K273 hK273 => ?_
        refine wp_seq_k fun K274 hK274 => ?_
        refine c_region ?_
        refine s_op (o_move (v := (.int .i64 n)) rfl ?_)
        refine s_op (o_lss (a := n) (b := 1) rfl rfl ?_)
        refine s_op (o_move (v := (.bool (decide (n < 1)))) rfl ?_)
        by_cases h275 : n < 1
        · -- n < 1
          exfalso; omega
        · -- not: n < 1
          refine s_on 41 rfl (congrArg Value.bool (decide_eq_false h275)) (o_move (v := (.int .i64 n)) rfl ?_)
          refine s_on 41 rfl (congrArg Value.bool (decide_eq_false h275)) (o_gtr (a := n) (b := 64) rfl rfl ?_)
          refine s_op (o_pick_f (u := (.bool (decide (64 < n)))) ((rfl : _ = _).trans (congrArg Value.bool (decide_eq_false h275))) rfl ?_)
          refine s_nil ?_
          refine t_norm (hK274 _ _ ?_)
          refine c_cond rfl (fun h276 => ?_) (fun h276 => ?_)
          · -- 64 < n
            exfalso; omega
          · -- not: 64 < n
            refine wp_skip ?_
            refine t_norm (hK273 _ _ ?_)
            refine wp_seq_k fun K277 hK277 => ?_
            refine c_region ?_
            refine s_op (o_move (v := (.int .i64 (5 + n * 4))) rfl ?_)
            refine s_op (o_move (v := (.int .u8 more)) rfl ?_)
            refine s_op (o_rem (a := more) (b := 9) (c := more % 9) rfl rfl (by omega) ((Int.tmod_eq_emod_of_nonneg (by first | exact Int.natCast_nonneg _ | omega))) ?_)
            refine s_op (o_conv (c := (more % 9)) Tryz.underlying5 Tryz.underlying3 rfl (w64 (by omega) (by omega)) ?_)
            refine s_op (o_add (a := 5 + n * 4) (b := more % 9) rfl rfl (w64 (by omega) (by omega)) ?_)
            refine s_op (o_callf (vs := #[(.pointer none), (.int .i64 ((5 + n * 4) + (more % 9)))]) ca14 rfl (args2 rfl rfl) (new_nilI hH271.all (x := (5 + n * 4) + (more % 9)) (n := m0) (by omega) (by omega)) ?_)
            rintro _ w284 ⟨db278, pb279, sg280, rfl, hd281, hX282⟩
            refine ⟨_, rfl, ?_⟩
            have hH283 : Has E w284 [sg280, [Hp.one pb279 (.cells #[(.bool (Pw.mk false false 0 0).off), (.bool (Pw.mk false false 0 0).armed), (.int .i64 (Pw.mk false false 0 0).left), (.int .i64 (Pw.mk false false 0 0).uses)] 101 (0, 0))], R] := hX282.of_all2
            refine s_op (o_assign (v := (.pointer (some ⟨db278, 0, none⟩))) rfl ?_)
            refine s_nil ?_
            refine t_norm (hK277 _ _ ?_)
            refine wp_seq_k fun K285 hK285 => ?_
            refine c_region ?_
            refine s_op (o_move (v := (.pointer (some ⟨db278, 0, none⟩))) rfl ?_)
            refine s_op (o_move (v := (.int .i64 n)) rfl ?_)
            refine s_op (o_callf (vs := #[(.pointer (some ⟨db278, 0, none⟩)), (.int .i64 n)]) ca13 rfl (args2 rfl rfl) (tfmt_ok (p := (Pw.mk false false 0 0)) (m := m0) ((hH283.front 1 rfl).front 1 rfl).all2 hd281 (n := n) ⟨rfl, rfl⟩ Few.new (by decide) (by omega) ⟨by omega, by omega⟩ (by omega)) ?_)
            rintro _ w291 ⟨tb286, sg287, rfl, hd288, hX289⟩
            refine ⟨_, rfl, ?_⟩
            have hH290 : Has E w291 [[Hp.one tb286 (.cells #[(.pointer (some ⟨db278, 0, none⟩)), (.int .i64 n)] 98 (0, 0))], sg287, [Hp.one pb279 (.cells #[(.bool (Pw.mk false false (0 - (((m0 : Nat) : Int) + 1)) (0 + (((m0 : Nat) : Int) + 1))).off), (.bool (Pw.mk false false (0 - (((m0 : Nat) : Int) + 1)) (0 + (((m0 : Nat) : Int) + 1))).armed), (.int .i64 (Pw.mk false false (0 - (((m0 : Nat) : Int) + 1)) (0 + (((m0 : Nat) : Int) + 1))).left), (.int .i64 (Pw.mk false false (0 - (((m0 : Nat) : Int) + 1)) (0 + (((m0 : Nat) : Int) + 1))).uses)] 101 (0, 0))], R] := hX289.of_all3
            refine s_op (o_move (v := (.tuple #[(.pointer (some ⟨tb286, 0, none⟩)), (.int .i64 (0 : Int))])) rfl ?_)
            refine s_op (o_extract (v := (.pointer (some ⟨tb286, 0, none⟩))) rfl rfl ?_)
            refine s_op (o_extract (v := (.int .i64 (0 : Int))) rfl rfl ?_)
            refine s_op (o_assign (v := (.pointer (some ⟨tb286, 0, none⟩))) rfl ?_)
            refine s_op (o_assign (v := (.int .i64 (0 : Int))) rfl ?_)
            refine s_nil ?_
            refine t_norm (hK285 _ _ ?_)
            refine wp_seq_k fun K292 hK292 => ?_
            refine c_region ?_
            refine s_op (o_move (v := (.int .i64 (5 + n * 4))) rfl ?_)
            refine s_op (o_sub (a := 5 + n * 4) (b := 1) rfl rfl (w64 (by omega) (by omega)) ?_)
            refine s_op (o_callf (vs := #[(.pointer none), (.int .i64 ((5 + n * 4) - 1))]) ca14 rfl (args2 rfl rfl) (new_nilI hH290.all (x := (5 + n * 4) - 1) (n := m1) (by omega) (by omega)) ?_)
            rintro _ w299 ⟨db293, pb294, sg295, rfl, hd296, hX297⟩
            refine ⟨_, rfl, ?_⟩
            have hH298 : Has E w299 [sg295, [Hp.one pb294 (.cells #[(.bool (Pw.mk false false 0 0).off), (.bool (Pw.mk false false 0 0).armed), (.int .i64 (Pw.mk false false 0 0).left), (.int .i64 (Pw.mk false false 0 0).uses)] 101 (0, 0))], [Hp.one tb286 (.cells #[(.pointer (some ⟨db278, 0, none⟩)), (.int .i64 n)] 98 (0, 0))], sg287, [Hp.one pb279 (.cells #[(.bool (Pw.mk false false (0 - (((m0 : Nat) : Int) + 1)) (0 + (((m0 : Nat) : Int) + 1))).off), (.bool (Pw.mk false false (0 - (((m0 : Nat) : Int) + 1)) (0 + (((m0 : Nat) : Int) + 1))).armed), (.int .i64 (Pw.mk false false (0 - (((m0 : Nat) : Int) + 1)) (0 + (((m0 : Nat) : Int) + 1))).left), (.int .i64 (Pw.mk false false (0 - (((m0 : Nat) : Int) + 1)) (0 + (((m0 : Nat) : Int) + 1))).uses)] 101 (0, 0))], R] := hX297.of_all2
            refine s_op (o_move (v := (.int .i64 n)) rfl ?_)
            refine s_op (o_callf (vs := #[(.pointer (some ⟨db293, 0, none⟩)), (.int .i64 n)]) ca13 rfl (args2 rfl rfl) (tfmt_few (d := (Dv.mk (Pw.mk false false 0 0) (List.replicate m1 blankS) [])) ((hH298.front 1 rfl).front 1 rfl).all2 hd296 (n := n) (by simp only [List.length_replicate]; omega) ⟨by omega, by omega⟩ (by simp only [List.length_replicate]; omega)) ?_)
            rintro _ w302 ⟨rfl, hX300⟩
            refine ⟨_, rfl, ?_⟩
            have hH301 : Has E w302 [sg295, [Hp.one pb294 (.cells #[(.bool (Pw.mk false false 0 0).off), (.bool (Pw.mk false false 0 0).armed), (.int .i64 (Pw.mk false false 0 0).left), (.int .i64 (Pw.mk false false 0 0).uses)] 101 (0, 0))], [Hp.one tb286 (.cells #[(.pointer (some ⟨db278, 0, none⟩)), (.int .i64 n)] 98 (0, 0))], sg287, [Hp.one pb279 (.cells #[(.bool (Pw.mk false false (0 - (((m0 : Nat) : Int) + 1)) (0 + (((m0 : Nat) : Int) + 1))).off), (.bool (Pw.mk false false (0 - (((m0 : Nat) : Int) + 1)) (0 + (((m0 : Nat) : Int) + 1))).armed), (.int .i64 (Pw.mk false false (0 - (((m0 : Nat) : Int) + 1)) (0 + (((m0 : Nat) : Int) + 1))).left), (.int .i64 (Pw.mk false false (0 - (((m0 : Nat) : Int) + 1)) (0 + (((m0 : Nat) : Int) + 1))).uses)] 101 (0, 0))], R] := hX300.of_all2
            refine s_op (o_move (v := (.tuple #[(.pointer none), (.int .i64 (1 : Int))])) rfl ?_)
            refine s_op (o_extract (v := (.pointer none)) rfl rfl ?_)
            refine s_op (o_extract (v := (.int .i64 (1 : Int))) rfl rfl ?_)
            refine s_op (o_assign (v := (.pointer none)) rfl ?_)
            refine s_op (o_assign (v := (.int .i64 (1 : Int))) rfl ?_)
            refine s_nil ?_
            refine t_norm (hK292 _ _ ?_)
            refine wp_seq_k fun K303 hK303 => ?_
            refine wp_seq_k fun K304 hK304 => ?_
            refine c_region ?_
            refine s_op (o_move (v := (.int .i64 (5 + n * 4))) rfl ?_)
            refine s_op (o_move (v := (.int .i64 n)) rfl ?_)
            refine s_op (o_mul (a := 4) (b := n) rfl rfl (w64 (by omega) (by omega)) ?_)
            refine s_op (o_add (a := 5) (b := 4 * n) rfl rfl (w64 (by omega) (by omega)) ?_)
            refine s_op (o_neq (a := 5 + n * 4) (b := 5 + (4 * n)) rfl rfl ?_)
            refine s_op (o_move (v := (.bool (decide (5 + n * 4 ≠ 5 + (4 * n))))) rfl ?_)
            by_cases h305 : 5 + n * 4 ≠ 5 + (4 * n)
            · -- 5 + n * 4 ≠ 5 + (4 * n)
              exfalso; omega
            · -- not: 5 + n * 4 ≠ 5 + (4 * n)
              refine s_on 86 rfl (congrArg Value.bool (decide_eq_false h305)) (o_move (v := (.pointer (some ⟨tb286, 0, none⟩))) rfl ?_)
              refine s_on 86 rfl (congrArg Value.bool (decide_eq_false h305)) (o_pnil (p := some _) Tryz.underlying25 rfl rfl ?_)
              refine s_op (o_pick_f (u := (.bool false)) ((rfl : _ = _).trans (congrArg Value.bool (decide_eq_false h305))) rfl ?_)
              refine s_op (o_move (v := (.bool false)) rfl ?_)
              refine s_on 90 rfl rfl (o_move (v := (.int .i64 (0 : Int))) rfl ?_)
              refine s_on 90 rfl rfl (o_neq (a := (0 : Int)) (b := 0) rfl rfl ?_)
              refine s_op (o_pick_f (u := (.bool (decide ((0 : Int) ≠ 0)))) rfl rfl ?_)
              refine s_op (o_move (v := (.bool (decide ((0 : Int) ≠ 0)))) rfl ?_)
              by_cases h306 : (0 : Int) ≠ 0
              · -- (0 : Int) ≠ 0
                exact absurd h306 (by decide)
              · -- not: (0 : Int) ≠ 0
                refine s_on 94 rfl (congrArg Value.bool (decide_eq_false h306)) (o_move (v := (.pointer none)) rfl ?_)
                refine s_on 94 rfl (congrArg Value.bool (decide_eq_false h306)) (o_pnnil (p := none) Tryz.underlying25 rfl rfl ?_)
                refine s_op (o_pick_f (u := (.bool false)) ((rfl : _ = _).trans (congrArg Value.bool (decide_eq_false h306))) rfl ?_)
                refine s_op (o_move (v := (.bool false)) rfl ?_)
                refine s_on 98 rfl rfl (o_move (v := (.int .i64 (1 : Int))) rfl ?_)
                refine s_on 98 rfl rfl (o_neq (a := (1 : Int)) (b := 1) rfl rfl ?_)
                refine s_op (o_pick_f (u := (.bool (decide ((1 : Int) ≠ 1)))) rfl rfl ?_)
                refine s_nil ?_
                refine t_norm (hK304 _ _ ?_)
                refine c_cond rfl (fun h307 => ?_) (fun h307 => ?_)
                · -- (1 : Int) ≠ 1
                  exact absurd h307 (by decide)
                · -- not: (1 : Int) ≠ 1
                  refine wp_skip ?_
                  refine t_norm (hK303 _ _ ?_)
                  refine wp_seq_k fun K308 hK308 => ?_
                  refine c_region ?_
                  refine s_op (o_move (v := (.int .i64 n)) rfl ?_)
                  refine s_op (o_callf (vs := #[(.int .i64 n)]) ca15 rfl (args1 rfl) (empty12n_c hH301.all (n := n) (by omega)) ?_)
                  rintro _ w314 ⟨v309, s310, rfl, ho311, hX312⟩
                  refine ⟨_, rfl, ?_⟩
                  have hH313 : Has E w314 [s310, sg295, [Hp.one pb294 (.cells #[(.bool (Pw.mk false false 0 0).off), (.bool (Pw.mk false false 0 0).armed), (.int .i64 (Pw.mk false false 0 0).left), (.int .i64 (Pw.mk false false 0 0).uses)] 101 (0, 0))], [Hp.one tb286 (.cells #[(.pointer (some ⟨db278, 0, none⟩)), (.int .i64 n)] 98 (0, 0))], sg287, [Hp.one pb279 (.cells #[(.bool (Pw.mk false false (0 - (((m0 : Nat) : Int) + 1)) (0 + (((m0 : Nat) : Int) + 1))).off), (.bool (Pw.mk false false (0 - (((m0 : Nat) : Int) + 1)) (0 + (((m0 : Nat) : Int) + 1))).armed), (.int .i64 (Pw.mk false false (0 - (((m0 : Nat) : Int) + 1)) (0 + (((m0 : Nat) : Int) + 1))).left), (.int .i64 (Pw.mk false false (0 - (((m0 : Nat) : Int) + 1)) (0 + (((m0 : Nat) : Int) + 1))).uses)] 101 (0, 0))], R] := hX312.of_all1
                  refine s_op (o_assign (v := v309) rfl ?_)
                  refine s_nil ?_
                  refine t_norm (hK308 _ _ ?_)
                  refine wp_seq_k fun K315 hK315 => ?_
                  refine wp_seq_k fun K316 hK316 => ?_
                  refine c_region ?_
                  refine s_op (o_assign (v := (.int .i64 0)) rfl ?_)
                  refine s_nil ?_
                  refine t_norm (hK316 _ _ ?_)
                  refine wp_block ?_
                  have hH317 : Has E w314 [s310, sg295, [Hp.one pb294 (.cells #[(.bool (Pw.mk false false 0 0).off), (.bool (Pw.mk false false 0 0).armed), (.int .i64 (Pw.mk false false 0 0).left), (.int .i64 (Pw.mk false false 0 0).uses)] 101 (0, 0))], [Hp.one tb286 (.cells #[(.pointer (some ⟨db278, 0, none⟩)), (.int .i64 n)] 98 (0, 0))], sg287, [Hp.one pb279 (.cells #[(.bool (Dv.mk (Pw.mk false false (0 - (((m0 : Nat) : Int) + 1)) (0 + (((m0 : Nat) : Int) + 1))) (List.replicate m0 blankS) []).p.off), (.bool (Dv.mk (Pw.mk false false (0 - (((m0 : Nat) : Int) + 1)) (0 + (((m0 : Nat) : Int) + 1))) (List.replicate m0 blankS) []).p.armed), (.int .i64 (Dv.mk (Pw.mk false false (0 - (((m0 : Nat) : Int) + 1)) (0 + (((m0 : Nat) : Int) + 1))) (List.replicate m0 blankS) []).p.left), (.int .i64 (Dv.mk (Pw.mk false false (0 - (((m0 : Nat) : Int) + 1)) (0 + (((m0 : Nat) : Int) + 1))) (List.replicate m0 blankS) []).p.uses)] 101 (0, 0))], R] := hH313
                  have hd318 : DevAt pb279 sg287 db278 (Dv.mk (Pw.mk false false (0 - (((m0 : Nat) : Int) + 1)) (0 + (((m0 : Nat) : Int) + 1))) (List.replicate m0 blankS) []).la (Dv.mk (Pw.mk false false (0 - (((m0 : Nat) : Int) + 1)) (0 + (((m0 : Nat) : Int) + 1))) (List.replicate m0 blankS) []).lo := hd288
                  let I320 : Nat → (Nat → Value) → World → Prop := fun n__ r__ w__ => ∃ (i : Nat) (dc : Dv) (sgc : List Hp) (now : List Pg) (sn : List Hp) (B : Nat → Bs), n__ = gs.length - i ∧ Has E w__ [sgc, [Hp.one pb279 (.cells #[(.bool dc.p.off), (.bool dc.p.armed), (.int .i64 dc.p.left), (.int .i64 dc.p.uses)] 101 (0, 0))], sn, sg295, [Hp.one pb294 (.cells #[(.bool (Pw.mk false false 0 0).off), (.bool (Pw.mk false false 0 0).armed), (.int .i64 (Pw.mk false false 0 0).left), (.int .i64 (Pw.mk false false 0 0).uses)] 101 (0, 0))], [Hp.one tb286 (.cells #[(.pointer (some ⟨db278, 0, none⟩)), (.int .i64 n)] 98 (0, 0))], R] ∧ (i ≤ gs.length) ∧ (DevAt pb279 sgc db278 dc.la dc.lo) ∧ (Few dc.p (100 + 280 * i)) ∧ (dc.la.length = m0) ∧ (TsS dc n now B) ∧ (Own 36 3 v309 now.length (now.flatMap pgC) sn) ∧ (∀ a ∈ now, PgIn R a) ∧ r__ 0 = (.int .i64 n) ∧ r__ 1 = v ∧ r__ 2 = (.int .u8 more) ∧ r__ 7 = (.int .i64 (5 + n * 4)) ∧ r__ 10 = (.pointer (some ⟨db278, 0, none⟩)) ∧ r__ 11 = (.pointer (some ⟨tb286, 0, none⟩)) ∧ r__ 12 = (.int .i64 (0 : Int)) ∧ r__ 13 = (.pointer none) ∧ r__ 14 = (.int .i64 (1 : Int)) ∧ r__ 15 = v309 ∧ r__ 16 = (.int .i64 (i : Int)) ∧ r__ 35 = (.bool false) ∧ r__ 44 = (.bool (decide (64 < n))) ∧ r__ 101 = (.bool (decide ((1 : Int) ≠ 1)))
                  have hH321 : Has E w314 [sg287, [Hp.one pb279 (.cells #[(.bool (Dv.mk (Pw.mk false false (0 - (((m0 : Nat) : Int) + 1)) (0 + (((m0 : Nat) : Int) + 1))) (List.replicate m0 blankS) []).p.off), (.bool (Dv.mk (Pw.mk false false (0 - (((m0 : Nat) : Int) + 1)) (0 + (((m0 : Nat) : Int) + 1))) (List.replicate m0 blankS) []).p.armed), (.int .i64 (Dv.mk (Pw.mk false false (0 - (((m0 : Nat) : Int) + 1)) (0 + (((m0 : Nat) : Int) + 1))) (List.replicate m0 blankS) []).p.left), (.int .i64 (Dv.mk (Pw.mk false false (0 - (((m0 : Nat) : Int) + 1)) (0 + (((m0 : Nat) : Int) + 1))) (List.replicate m0 blankS) []).p.uses)] 101 (0, 0))], s310, sg295, [Hp.one pb294 (.cells #[(.bool (Pw.mk false false 0 0).off), (.bool (Pw.mk false false 0 0).armed), (.int .i64 (Pw.mk false false 0 0).left), (.int .i64 (Pw.mk false false 0 0).uses)] 101 (0, 0))], [Hp.one tb286 (.cells #[(.pointer (some ⟨db278, 0, none⟩)), (.int .i64 n)] 98 (0, 0))], R] := Has.pick hH317 [4, 4, 0, 0, 0, 0, 0] (by kernel_rfl)
                  refine c_loop I320 _ ⟨0, (Dv.mk (Pw.mk false false (0 - (((m0 : Nat) : Int) + 1)) (0 + (((m0 : Nat) : Int) + 1))) (List.replicate m0 blankS) []), sg287, (emptyS n.toNat), s310, (fun _ => zer 256), rfl, hH321, Nat.zero_le _, hd318, (few_fm m0).mono (by omega), List.length_replicate, ts_start (by omega) (by omega) rfl rfl, ho311, empty_in, rfl, rfl, rfl, rfl, rfl, rfl, rfl, rfl, rfl, rfl, rfl, rfl, rfl, rfl⟩ ?_
                  rintro n_ r324 w322 ⟨i, dc, sgc, now, sn, B, rfl, hH323, hi, hdc, hfc, hnc, hts, hnw, hokn, e319_0, e319_1, e319_2, e319_7, e319_10, e319_11, e319_12, e319_13, e319_14, e319_15, e319_16, e319_35, e319_44, e319_101⟩
                  refine wp_seq_k fun K325 hK325 => ?_
                  refine wp_seq_k fun K326 hK326 => ?_
                  refine c_region ?_
                  refine s_op (o_move (v := (.int .i64 (i : Int))) e319_16 ?_)
                  refine s_op (o_move (v := v) e319_1 ?_)
                  refine s_op (o_lenS Tryz.underlying22 rfl hv ?_)
                  refine s_op (o_lss (a := (i : Int)) (b := ((gs.length : Nat) : Int)) rfl rfl ?_)
                  refine s_nil ?_
                  refine t_norm (hK326 _ _ ?_)
                  refine c_cond rfl (fun h327 => ?_) (fun h327 => ?_)
                  · -- (i : Int) < ((gs.length : Nat) : Int)
                    refine wp_skip ?_
                    refine t_norm (hK325 _ _ ?_)
                    refine wp_seq_k fun K328 hK328 => ?_
                    refine wp_block ?_
                    refine wp_seq_k fun K329 hK329 => ?_
                    refine wp_seq_k fun K330 hK330 => ?_
                    refine c_region ?_
                    refine s_op (o_move (v := v) e319_1 ?_)
                    refine s_op (o_move (v := (.int .i64 (i : Int))) e319_16 ?_)
                    obtain ⟨x334, hx335⟩ : ∃ x_, gs[((i : Int)).toNat]? = some x_ := get_some (by omega)
                    refine s_op (o_index1 Tryz.underlying22 ti31 rfl hv rfl (by omega) hx335 fun b331 o332 hc333 => ?_)
                    refine s_op (o_load1 (v := (grV x334)) Tryz.underlying31 rfl rfl hH323 (seg_sub 6 rfl) hc333 ?_)
                    refine s_op (o_callf (vs := #[(grV x334)]) ca16 rfl (args1 rfl) (great12_c hH323.all (l := x334.2) ((hgr x334 (List.mem_of_getElem? hx335)).1.mono (seg_sub 6 rfl)) (fun a ha => ((hgr x334 (List.mem_of_getElem? hx335)).2 a ha).mono (seg_sub 6 rfl))) ?_)
                    rintro _ w340 ⟨gb336, rfl, hg337, hX338⟩
                    refine ⟨_, rfl, ?_⟩
                    have hH339 : Has E w340 [sgc, [Hp.one pb279 (.cells #[(.bool dc.p.off), (.bool dc.p.armed), (.int .i64 dc.p.left), (.int .i64 dc.p.uses)] 101 (0, 0))], sn, sg295, [Hp.one pb294 (.cells #[(.bool (Pw.mk false false 0 0).off), (.bool (Pw.mk false false 0 0).armed), (.int .i64 (Pw.mk false false 0 0).left), (.int .i64 (Pw.mk false false 0 0).uses)] 101 (0, 0))], [Hp.one tb286 (.cells #[(.pointer (some ⟨db278, 0, none⟩)), (.int .i64 n)] 98 (0, 0))], R] := hX338.of_all
                    refine s_nil ?_
                    refine t_norm (hK330 _ _ ?_)
                    refine c_condb rfl (fun h341 => ?_) (fun h341 => ?_)
                    · -- gb336
                      refine wp_seq_k fun K342 hK342 => ?_
                      refine c_region ?_
                      refine s_op (o_assign (v := (.bool true)) rfl ?_)
                      refine s_nil ?_
                      refine t_norm (hK342 _ _ ?_)
                      refine wp_ret ?_
                      refine t_ret (b_ret (t_ret (t_ret (b_ret (t_ret (c_ret1 Tryz.results3  (v := (.bool true)) rfl ?_))))))
                      have hH343 : Has E w340 [R] := (hH339.front 6 rfl).first 1 rfl
                      exact ⟨by first | rfl | (rw [decide_eq_true (by decide)]), hH343⟩
                    · -- not: gb336
                      have hl20_ := hg337 (by simpa using h341)
                      refine wp_skip ?_
                      refine t_norm (hK329 _ _ ?_)
                      refine wp_seq_k fun K344 hK344 => ?_
                      refine c_region ?_
                      refine s_op (o_assign (v := (.int .i64 0)) rfl ?_)
                      refine s_nil ?_
                      refine t_norm (hK344 _ _ ?_)
                      refine wp_seq_k fun K345 hK345 => ?_
                      refine wp_seq_k fun K346 hK346 => ?_
                      refine c_region ?_
                      refine s_op (o_assign (v := (.int .i64 0)) rfl ?_)
                      refine s_nil ?_
                      refine t_norm (hK346 _ _ ?_)
                      refine wp_block ?_
                      let I348 : Nat → (Nat → Value) → World → Prop := fun n__ r__ w__ => ∃ (k : Nat) (wt : Int) (dk : Dv) (now2 : List Pg) (sn2 : List Hp) (B2 : Nat → Bs), n__ = x334.2.length - k ∧ Has E w__ [sn2, sgc, [Hp.one pb279 (.cells #[(.bool dc.p.off), (.bool dc.p.armed), (.int .i64 dc.p.left), (.int .i64 dc.p.uses)] 101 (0, 0))], sg295, [Hp.one pb294 (.cells #[(.bool (Pw.mk false false 0 0).off), (.bool (Pw.mk false false 0 0).armed), (.int .i64 (Pw.mk false false 0 0).left), (.int .i64 (Pw.mk false false 0 0).uses)] 101 (0, 0))], [Hp.one tb286 (.cells #[(.pointer (some ⟨db278, 0, none⟩)), (.int .i64 n)] 98 (0, 0))], R] ∧ (k ≤ x334.2.length) ∧ ((wt = 0 ∧ stL dc n x334.2 = stL dk n (x334.2.drop k)) ∨ (wt = 1 ∧ stL dc n x334.2 = (1, dk))) ∧ (TsS dk n now2 B2) ∧ (dk.la.length = m0) ∧ (Few dk.p (100 + 280 * i + 14 * k)) ∧ (Own 36 3 v309 now2.length (now2.flatMap pgC) sn2) ∧ (∀ a ∈ now2, PgIn R a) ∧ r__ 0 = (.int .i64 n) ∧ r__ 1 = v ∧ r__ 2 = (.int .u8 more) ∧ r__ 7 = (.int .i64 (5 + n * 4)) ∧ r__ 10 = (.pointer (some ⟨db278, 0, none⟩)) ∧ r__ 11 = (.pointer (some ⟨tb286, 0, none⟩)) ∧ r__ 12 = (.int .i64 (0 : Int)) ∧ r__ 13 = (.pointer none) ∧ r__ 14 = (.int .i64 (1 : Int)) ∧ r__ 15 = v309 ∧ r__ 16 = (.int .i64 (i : Int)) ∧ r__ 17 = (.int .i64 wt) ∧ r__ 18 = (.int .i64 (k : Int)) ∧ r__ 35 = (.bool false) ∧ r__ 44 = (.bool (decide (64 < n))) ∧ r__ 101 = (.bool (decide ((1 : Int) ≠ 1))) ∧ r__ 107 = (.bool (decide ((i : Int) < ((gs.length : Nat) : Int)))) ∧ r__ 114 = (.bool gb336)
                      have hH349 : Has E w340 [sn, sgc, [Hp.one pb279 (.cells #[(.bool dc.p.off), (.bool dc.p.armed), (.int .i64 dc.p.left), (.int .i64 dc.p.uses)] 101 (0, 0))], sg295, [Hp.one pb294 (.cells #[(.bool (Pw.mk false false 0 0).off), (.bool (Pw.mk false false 0 0).armed), (.int .i64 (Pw.mk false false 0 0).left), (.int .i64 (Pw.mk false false 0 0).uses)] 101 (0, 0))], [Hp.one tb286 (.cells #[(.pointer (some ⟨db278, 0, none⟩)), (.int .i64 n)] 98 (0, 0))], R] := Has.pick hH339 [2, 0, 0, 0, 0, 0, 0] (by kernel_rfl)
                      refine c_loop I348 _ ⟨0, 0, dc, now, sn, B, rfl, hH349, Nat.zero_le _, .inl ⟨rfl, rfl⟩, hts, hnc, hfc, hnw, hokn, e319_0, e319_1, e319_2, e319_7, e319_10, e319_11, e319_12, e319_13, e319_14, e319_15, e319_16, rfl, rfl, e319_35, e319_44, e319_101, rfl, rfl⟩ ?_
                      rintro n_ r352 w350 ⟨k, wt, dk, now2, sn2, B2, rfl, hH351, hk, hst, hts2, hnk, hfk, hnw2, hokn2, e347_0, e347_1, e347_2, e347_7, e347_10, e347_11, e347_12, e347_13, e347_14, e347_15, e347_16, e347_17, e347_18, e347_35, e347_44, e347_101, e347_107, e347_114⟩
                      refine wp_seq_k fun K353 hK353 => ?_
                      refine wp_seq_k fun K354 hK354 => ?_
                      refine c_region ?_
                      refine s_op (o_move (v := (.int .i64 (k : Int))) e347_18 ?_)
                      refine s_op (o_move (v := v) e347_1 ?_)
                      refine s_op (o_move (v := (.int .i64 (i : Int))) e347_16 ?_)
                      refine s_op (o_index1 Tryz.underlying22 ti31 rfl hv rfl (by omega) hx335 fun b355 o356 hc357 => ?_)
                      refine s_op (o_load1 (v := (grV x334)) Tryz.underlying31 rfl rfl hH351 (seg_sub 6 rfl) hc357 ?_)
                      refine s_op (o_lenS Tryz.underlying31 rfl (hgr x334 (List.mem_of_getElem? hx335)).1 ?_)
                      refine s_op (o_lss (a := (k : Int)) (b := ((x334.2.length : Nat) : Int)) rfl rfl ?_)
                      refine s_op (o_move (v := (.bool (decide ((k : Int) < ((x334.2.length : Nat) : Int))))) rfl ?_)
                      by_cases h358 : (k : Int) < ((x334.2.length : Nat) : Int)
                      · -- (k : Int) < ((x334.2.length : Nat) : Int)
                        refine s_on 122 rfl (congrArg Value.bool (decide_eq_true h358)) (o_move (v := (.int .i64 wt)) e347_17 ?_)
                        refine s_on 122 rfl (congrArg Value.bool (decide_eq_true h358)) (o_eql (a := wt) (b := 0) rfl rfl ?_)
                        refine s_op (o_pick_t (u := (.bool (decide (wt = 0)))) ((rfl : _ = _).trans (congrArg Value.bool (decide_eq_true h358))) rfl ?_)
                        refine s_nil ?_
                        refine t_norm (hK354 _ _ ?_)
                        refine c_cond rfl (fun h359 => ?_) (fun h359 => ?_)
                        · -- wt = 0
                          have hst0 : stL dc n x334.2 = stL dk n (x334.2.drop k) := by rcases hst with h_ | h_; exact h_.2; exact absurd h_.1 (by omega)
                          refine wp_skip ?_
                          refine t_norm (hK353 _ _ ?_)
                          refine wp_seq_k fun K360 hK360 => ?_
                          refine wp_block ?_
                          refine wp_seq_k fun K361 hK361 => ?_
                          refine c_region ?_
                          refine s_op (o_move (v := v) e347_1 ?_)
                          refine s_op (o_move (v := (.int .i64 (i : Int))) e347_16 ?_)
                          refine s_op (o_index1 Tryz.underlying22 ti31 rfl hv rfl (by omega) hx335 fun b362 o363 hc364 => ?_)
                          refine s_op (o_load1 (v := (grV x334)) Tryz.underlying31 rfl rfl hH351 (seg_sub 6 rfl) hc364 ?_)
                          refine s_op (o_move (v := (.int .i64 (k : Int))) e347_18 ?_)
                          obtain ⟨x368, hx369⟩ : ∃ x_, x334.2[((k : Int)).toNat]? = some x_ := get_some (by omega)
                          refine s_op (o_indexF pgC_len Tryz.underlying31 ti36 rfl (hgr x334 (List.mem_of_getElem? hx335)).1 rfl rfl (by omega) hx369 fun b365 o366 hc367 => ?_)
                          refine s_op (o_loadN (cs := [(.int .i64 x368.1), (.int .i64 x368.2.1), x368.2.2.1]) Tryz.underlying36 rfl ti36 rfl hH351 (seg_sub 6 rfl) hc367 ?_)
                          refine s_op (o_alloc (cs := #[(.int .i64 0), (.int .i64 0), (.slice none 0 0)]) ti36 rfl hH351 fun b370 w371 hH372 => ?_)
                          refine s_eff (o_storeN (vs := [(.int .i64 x368.1), (.int .i64 x368.2.1), x368.2.2.1]) (c' := #[(.int .i64 x368.1), (.int .i64 x368.2.1), x368.2.2.1]) ti36 rfl rfl rfl rfl (by intro u hu; simp only [List.mem_cons, List.not_mem_nil, or_false] at hu; rcases hu with rfl | rfl | rfl <;> first | rfl | exact ((hgr x334 (List.mem_of_getElem? hx335)).2 x368 (List.mem_of_getElem? hx369)).one) (by simp) (by kernel_rfl) (hH372.front 0 rfl) fun w373 hH374 => ?_)
                          refine s_nil ?_
                          refine t_norm (hK361 _ _ ?_)
                          refine wp_seq_k fun K375 hK375 => ?_
                          refine c_region ?_
                          refine s_op (o_loadN (cs := [(.int .i64 x368.1), (.int .i64 x368.2.1), x368.2.2.1]) Tryz.underlying36 rfl ti36 rfl hH374 (seg_sub 0 rfl) (CellsAt.one rfl) ?_)
                          refine s_op (o_callf (vs := #[(.agg #[(.int .i64 x368.1), (.int .i64 x368.2.1), x368.2.2.1])]) ca17 rfl (args1 rfl) (r11right_c (no := x368.1) (gsn := x368.2.1) (l := x368.2.2.2) hH374.all (((hgr x334 (List.mem_of_getElem? hx335)).2 x368 (List.mem_of_getElem? hx369)).mono (seg_sub 7 rfl))) ?_)
                          rintro _ w378 ⟨rfl, hX376⟩
                          refine ⟨_, rfl, ?_⟩
                          have hH377 := hX376.of_all
                          refine s_op (o_not rfl ?_)
                          refine s_op (o_move (v := (.bool (!(pageR x368.1 x368.2.1 x368.2.2.2)))) rfl ?_)
                          rcases Bool.eq_false_or_eq_true (!(pageR x368.1 x368.2.1 x368.2.2.2)) with h379 | h379
                          · -- !(pageR x368.1 x368.2.1 x368.2.2.2)
                            have h379_n : (pageR x368.1 x368.2.1 x368.2.2.2) = false := by first | simpa using h379 | exact Bool.of_not_eq_true (fun g_ => by rw [g_] at h379; cases h379)
                            refine s_off (b' := true) 138 rfl (congrArg Value.bool h379) rfl ?_
                            refine s_off (b' := true) 138 rfl (congrArg Value.bool h379) rfl ?_
                            refine s_off (b' := true) 138 rfl (congrArg Value.bool h379) rfl ?_
                            refine s_off (b' := true) 138 rfl (congrArg Value.bool h379) rfl ?_
                            refine s_op (o_pick_t (u := (.bool true)) ((rfl : _ = _).trans (congrArg Value.bool h379)) rfl ?_)
                            refine s_nil ?_
                            refine t_norm (hK375 _ _ ?_)
                            refine c_true rfl rfl ?_
                            refine c_region ?_
                            refine s_op (o_assign (v := (.int .i64 1)) rfl ?_)
                            refine s_nil ?_
                            refine b_norm ?_
                            refine t_norm (hK360 _ _ ?_)
                            refine c_region ?_
                            refine s_op (o_move (v := (.int .i64 (k : Int))) e347_18 ?_)
                            refine s_op (o_add (a := (k : Int)) (b := 1) rfl rfl (w64 (by omega) (by omega)) ?_)
                            refine s_op (o_assign (v := (.int .i64 ((k : Int) + 1))) rfl ?_)
                            refine s_nil ?_
                            have hH380 : Has E w378 [sn2, sgc, [Hp.one pb279 (.cells #[(.bool dc.p.off), (.bool dc.p.armed), (.int .i64 dc.p.left), (.int .i64 dc.p.uses)] 101 (0, 0))], sg295, [Hp.one pb294 (.cells #[(.bool (Pw.mk false false 0 0).off), (.bool (Pw.mk false false 0 0).armed), (.int .i64 (Pw.mk false false 0 0).left), (.int .i64 (Pw.mk false false 0 0).uses)] 101 (0, 0))], [Hp.one tb286 (.cells #[(.pointer (some ⟨db278, 0, none⟩)), (.int .i64 n)] 98 (0, 0))], R] := Has.pick hH377 [1, 1, 1, 1, 1, 1, 1] (by kernel_rfl)
                            refine t_norm ⟨x334.2.length - (k + 1), _, rfl, ?_, ?_⟩
                            · omega
                            · exact ⟨(k + 1), 1, dk, now2, sn2, B2, rfl, hH380, (by omega), (.inr ⟨rfl, ts_stop (show x334.2[k]? = some _ from hx369) hst0 (.inl (by simpa using h379))⟩), (hts2), (hnk), (hfk.mono (by omega)), (hnw2), (hokn2), e347_0, e347_1, e347_2, e347_7, e347_10, e347_11, e347_12, e347_13, e347_14, e347_15, e347_16, rfl, rfl, e347_35, e347_44, e347_101, e347_107, e347_114⟩
                          · -- not: !(pageR x368.1 x368.2.1 x368.2.2.2)
                            have h379_n : (pageR x368.1 x368.2.1 x368.2.2.2) = true := by first | simpa using h379 | exact Bool.of_not_eq_false (fun g_ => by rw [g_] at h379; cases h379)
                            refine s_on 138 rfl (congrArg Value.bool h379) (o_fieldAddr (k := 0) (fun _ => by kernel_rfl) rfl ?_)
                            refine s_on 138 rfl (congrArg Value.bool h379) (o_load1 (v := (.int .i64 x368.1)) Tryz.underlying3 rfl rfl hH377 (seg_sub 0 rfl) (CellsAt.one rfl) ?_)
                            refine s_on 138 rfl (congrArg Value.bool h379) (o_move (v := (.int .i64 n)) e347_0 ?_)
                            refine s_on 138 rfl (congrArg Value.bool h379) (o_geq (a := x368.1) (b := n) rfl rfl ?_)
                            refine s_op (o_pick_f (u := (.bool (decide (n ≤ x368.1)))) ((rfl : _ = _).trans (congrArg Value.bool h379)) rfl ?_)
                            refine s_nil ?_
                            refine t_norm (hK375 _ _ ?_)
                            refine c_cond rfl (fun h381 => ?_) (fun h381 => ?_)
                            · -- n ≤ x368.1
                              refine c_region ?_
                              refine s_op (o_assign (v := (.int .i64 1)) rfl ?_)
                              refine s_nil ?_
                              refine b_norm ?_
                              refine t_norm (hK360 _ _ ?_)
                              refine c_region ?_
                              refine s_op (o_move (v := (.int .i64 (k : Int))) e347_18 ?_)
                              refine s_op (o_add (a := (k : Int)) (b := 1) rfl rfl (w64 (by omega) (by omega)) ?_)
                              refine s_op (o_assign (v := (.int .i64 ((k : Int) + 1))) rfl ?_)
                              refine s_nil ?_
                              have hH382 : Has E w378 [sn2, sgc, [Hp.one pb279 (.cells #[(.bool dc.p.off), (.bool dc.p.armed), (.int .i64 dc.p.left), (.int .i64 dc.p.uses)] 101 (0, 0))], sg295, [Hp.one pb294 (.cells #[(.bool (Pw.mk false false 0 0).off), (.bool (Pw.mk false false 0 0).armed), (.int .i64 (Pw.mk false false 0 0).left), (.int .i64 (Pw.mk false false 0 0).uses)] 101 (0, 0))], [Hp.one tb286 (.cells #[(.pointer (some ⟨db278, 0, none⟩)), (.int .i64 n)] 98 (0, 0))], R] := Has.pick hH377 [1, 1, 1, 1, 1, 1, 1] (by kernel_rfl)
                              refine t_norm ⟨x334.2.length - (k + 1), _, rfl, ?_, ?_⟩
                              · omega
                              · exact ⟨(k + 1), 1, dk, now2, sn2, B2, rfl, hH382, (by omega), (.inr ⟨rfl, ts_stop (show x334.2[k]? = some _ from hx369) hst0 (.inr h381)⟩), (hts2), (hnk), (hfk.mono (by omega)), (hnw2), (hokn2), e347_0, e347_1, e347_2, e347_7, e347_10, e347_11, e347_12, e347_13, e347_14, e347_15, e347_16, rfl, rfl, e347_35, e347_44, e347_101, e347_107, e347_114⟩
                            · -- not: n ≤ x368.1
                              have hto_ := hts2.ok (by omega) (by simpa using h379) h381
                              have hnl_ : now2.length = n.toNat := hts2.told.1
                              have hno_ := hto_.1
                              refine c_region ?_
                              refine s_op (o_move (v := v309) e347_15 ?_)
                              refine s_op (o_fieldAddr (k := 0) (fun _ => by kernel_rfl) rfl ?_)
                              refine s_op (o_load1 (v := (.int .i64 x368.1)) Tryz.underlying3 rfl rfl hH377 (seg_sub 0 rfl) (CellsAt.one rfl) ?_)
                              refine s_op (o_loadN (cs := [(.int .i64 x368.1), (.int .i64 x368.2.1), x368.2.2.1]) Tryz.underlying36 rfl ti36 rfl hH377 (seg_sub 0 rfl) (CellsAt.one rfl) ?_)
                              refine s_op (o_ownAddrF Tryz.underlying31 ti36 rfl hnw2 rfl (by omega) (by first | omega | (simp only [List.length_append, List.length_cons, List.length_nil, List.length_set]; omega)) fun b383 ho384 => ?_)
                              refine s_eff (o_ownStoreF (f := pgC) (l := now2) (a := x368) (i := (x368.1).toNat) pgC_len ti36 rfl rfl rfl (fun u_ hu_ => (one_pgA ((hgr x334 (List.mem_of_getElem? hx335)).2 x368 (List.mem_of_getElem? hx369))) u_ (by simpa using hu_)) ho384 (by first | rfl | (simp only [List.length_append, List.length_cons, List.length_nil, List.length_set]; done) | simp) (by first | omega | (simp only [List.length_append, List.length_cons, List.length_nil, List.length_set]; omega)) (hH377.front 1 rfl) fun s385 w386 ho387 hH388 => ?_)
                              refine s_nil ?_
                              refine b_norm ?_
                              refine t_norm (hK360 _ _ ?_)
                              refine c_region ?_
                              refine s_op (o_move (v := (.int .i64 (k : Int))) e347_18 ?_)
                              refine s_op (o_add (a := (k : Int)) (b := 1) rfl rfl (w64 (by omega) (by omega)) ?_)
                              refine s_op (o_assign (v := (.int .i64 ((k : Int) + 1))) rfl ?_)
                              refine s_nil ?_
                              have hH389 : Has E w386 [s385, sgc, [Hp.one pb279 (.cells #[(.bool dc.p.off), (.bool dc.p.armed), (.int .i64 dc.p.left), (.int .i64 dc.p.uses)] 101 (0, 0))], sg295, [Hp.one pb294 (.cells #[(.bool (Pw.mk false false 0 0).off), (.bool (Pw.mk false false 0 0).armed), (.int .i64 (Pw.mk false false 0 0).left), (.int .i64 (Pw.mk false false 0 0).uses)] 101 (0, 0))], [Hp.one tb286 (.cells #[(.pointer (some ⟨db278, 0, none⟩)), (.int .i64 n)] 98 (0, 0))], R] := Has.pick hH388 [0, 1, 1, 1, 1, 1, 1] (by kernel_rfl)
                              refine t_norm ⟨x334.2.length - (k + 1), _, rfl, ?_, ?_⟩
                              · omega
                              · exact ⟨(k + 1), wt, ((st1 dk n x368).2), (now2.set ((x368.1).toNat) x368), s385, (updB B2 x368.1.toNat (lpg x368)), rfl, hH389, (by omega), (.inl ⟨by omega, stL_go (show x334.2[k]? = some _ from hx369) hst0 hto_.2.1⟩), (hto_.2.2), (by rw [st1_len]; exact hnk), ((few_st1 hfk).mono (by omega)), (ho387), (fun a ha => (List.mem_or_eq_of_mem_set ha).elim (hokn2 a) (fun q_ => by rw [q_]; exact (hgr x334 (List.mem_of_getElem? hx335)).2 _ (List.mem_of_getElem? (show x334.2[k]? = some _ from hx369)))), e347_0, e347_1, e347_2, e347_7, e347_10, e347_11, e347_12, e347_13, e347_14, e347_15, e347_16, e347_17, rfl, e347_35, e347_44, e347_101, e347_107, e347_114⟩
                        · -- not: wt = 0
                          refine wp_exit ?_
                          refine t_exit (t_exit (x_in (?_)))
                          refine t_norm (hK345 _ _ ?_)
                          refine wp_seq_k fun K390 hK390 => ?_
                          refine c_region ?_
                          refine s_op (o_move (v := (.pointer (some ⟨tb286, 0, none⟩))) e347_11 ?_)
                          refine s_op (o_move (v := v) e347_1 ?_)
                          refine s_op (o_move (v := (.int .i64 (i : Int))) e347_16 ?_)
                          refine s_op (o_index1 Tryz.underlying22 ti31 rfl hv rfl (by omega) hx335 fun b391 o392 hc393 => ?_)
                          refine s_op (o_load1 (v := (grV x334)) Tryz.underlying31 rfl rfl hH351 (seg_sub 6 rfl) hc393 ?_)
                          refine s_op (o_callf (vs := #[(.pointer (some ⟨tb286, 0, none⟩)), (grV x334)]) ca18 rfl (args2 rfl rfl) (tstoreE_c (d := dc) (n := n) (((hH351.front 5 rfl).front 3 rfl).front 3 rfl).all3 hdc hfc (by omega) hts.lo (by rw [hnc]; omega) (hg.mono (seg_sub 3 rfl)) (l := x334.2) ((hgr x334 (List.mem_of_getElem? hx335)).1.mono (seg_sub 3 rfl)) (fun a ha => ((hgr x334 (List.mem_of_getElem? hx335)).2 a ha).mono (seg_sub 3 rfl)) (by omega) (ts_end hst (by omega))) ?_)
                          rintro _ w398 ⟨sg394, rfl, hd395, hX396⟩
                          refine ⟨_, rfl, ?_⟩
                          have hH397 : Has E w398 [sg394, [Hp.one pb279 (.cells #[(.bool dk.p.off), (.bool dk.p.armed), (.int .i64 dk.p.left), (.int .i64 dk.p.uses)] 101 (0, 0))], [Hp.one tb286 (.cells #[(.pointer (some ⟨db278, 0, none⟩)), (.int .i64 n)] 98 (0, 0))], sn2, sg295, [Hp.one pb294 (.cells #[(.bool (Pw.mk false false 0 0).off), (.bool (Pw.mk false false 0 0).armed), (.int .i64 (Pw.mk false false 0 0).left), (.int .i64 (Pw.mk false false 0 0).uses)] 101 (0, 0))], R] := hX396.of_all3
                          refine s_op (o_move (v := (.int .i64 wt)) e347_17 ?_)
                          refine s_op (o_neq (a := wt) (b := wt) rfl rfl ?_)
                          refine s_op (o_move (v := (.bool (decide (wt ≠ wt)))) rfl ?_)
                          by_cases h399 : wt ≠ wt
                          · -- wt ≠ wt
                            exact absurd rfl h399
                          · -- not: wt ≠ wt
                            refine s_on 157 rfl (congrArg Value.bool (decide_eq_false h399)) (o_move (v := (.pointer (some ⟨tb286, 0, none⟩))) e347_11 ?_)
                            refine s_on 157 rfl (congrArg Value.bool (decide_eq_false h399)) (o_move (v := v309) e347_15 ?_)
                            refine s_on 157 rfl (congrArg Value.bool (decide_eq_false h399)) (o_callf (vs := #[(.pointer (some ⟨tb286, 0, none⟩)), v309]) ca19 rfl (args2 rfl rfl) (same12_c (d := dk) (n := n) (((hH397.front 2 rfl).front 2 rfl).front 2 rfl).all3 hd395 hts2.lo hts2.off hts2.full (by rw [hnk]; omega) ⟨by omega, by omega⟩ (by rw [hnk]; omega) (hg.mono (seg_sub 3 rfl)) (now := now2) (hnw2.sl.mono (seg_sub 0 rfl)) (fun a ha => (hokn2 a ha).mono (seg_sub 3 rfl)) (B := B2) hts2.told (fun k hk => hts2.tw.pg k hk)) ?_)
                            rintro _ w402 ⟨rfl, hX400⟩
                            refine ⟨_, rfl, ?_⟩
                            have hH401 : Has E w402 [sg394, [Hp.one pb279 (.cells #[(.bool dk.p.off), (.bool dk.p.armed), (.int .i64 dk.p.left), (.int .i64 dk.p.uses)] 101 (0, 0))], [Hp.one tb286 (.cells #[(.pointer (some ⟨db278, 0, none⟩)), (.int .i64 n)] 98 (0, 0))], sn2, sg295, [Hp.one pb294 (.cells #[(.bool (Pw.mk false false 0 0).off), (.bool (Pw.mk false false 0 0).armed), (.int .i64 (Pw.mk false false 0 0).left), (.int .i64 (Pw.mk false false 0 0).uses)] 101 (0, 0))], R] := hX400.of_all3
                            refine s_on 157 rfl (congrArg Value.bool (decide_eq_false h399)) (o_not rfl ?_)
                            refine s_op (o_pick_f (u := (.bool false)) ((rfl : _ = _).trans (congrArg Value.bool (decide_eq_false h399))) rfl ?_)
                            refine s_op (o_move (v := (.bool false)) rfl ?_)
                            refine s_on 163 rfl rfl (o_move (v := (.pointer (some ⟨db278, 0, none⟩))) e347_10 ?_)
                            refine s_on 163 rfl rfl (o_callf (vs := #[(.pointer (some ⟨db278, 0, none⟩))]) ca20 rfl (args1 rfl) (loose_d (p := dk.p) (la := dk.la) (lo := dk.lo) ((hH401.front 1 rfl).front 1 rfl).all2 hd395 (by rw [hts2.lo]; exact LoOk.nil _) (by rw [hnk]; omega)) ?_)
                            rintro _ w408 ⟨v403, s404, rfl, ho405, hX406⟩
                            refine ⟨_, rfl, ?_⟩
                            have hH407 : Has E w408 [s404, sg394, [Hp.one pb279 (.cells #[(.bool dk.p.off), (.bool dk.p.armed), (.int .i64 dk.p.left), (.int .i64 dk.p.uses)] 101 (0, 0))], [Hp.one tb286 (.cells #[(.pointer (some ⟨db278, 0, none⟩)), (.int .i64 n)] 98 (0, 0))], sn2, sg295, [Hp.one pb294 (.cells #[(.bool (Pw.mk false false 0 0).off), (.bool (Pw.mk false false 0 0).armed), (.int .i64 (Pw.mk false false 0 0).left), (.int .i64 (Pw.mk false false 0 0).uses)] 101 (0, 0))], R] := hX406.of_all3
                            refine s_on 163 rfl rfl (o_lenS Tryz.underlying40 rfl ho405.sl ?_)
                            refine s_on 163 rfl rfl (o_gtr (a := (((keysS dk.lo).length : Nat) : Int)) (b := 0) rfl rfl ?_)
                            refine s_op (o_pick_f (u := (.bool (decide (0 < (((keysS dk.lo).length : Nat) : Int))))) rfl rfl ?_)
                            refine s_nil ?_
                            refine t_norm (hK390 _ _ ?_)
                            refine c_cond rfl (fun h409 => ?_) (fun h409 => ?_)
                            · -- 0 < (((keysS dk.lo).length : Nat) : Int)
                              exact absurd h409 (by rw [hts2.lo, keys_none]; decide)
                            · -- not: 0 < (((keysS dk.lo).length : Nat) : Int)
                              refine wp_skip ?_
                              refine b_norm ?_
                              refine t_norm (hK328 _ _ ?_)
                              refine c_region ?_
                              refine s_op (o_move (v := (.int .i64 (i : Int))) e347_16 ?_)
                              refine s_op (o_add (a := (i : Int)) (b := 1) rfl rfl (w64 (by omega) (by omega)) ?_)
                              refine s_op (o_assign (v := (.int .i64 ((i : Int) + 1))) rfl ?_)
                              refine s_nil ?_
                              have hH410 : Has E w408 [sg394, [Hp.one pb279 (.cells #[(.bool dk.p.off), (.bool dk.p.armed), (.int .i64 dk.p.left), (.int .i64 dk.p.uses)] 101 (0, 0))], sn2, sg295, [Hp.one pb294 (.cells #[(.bool (Pw.mk false false 0 0).off), (.bool (Pw.mk false false 0 0).armed), (.int .i64 (Pw.mk false false 0 0).left), (.int .i64 (Pw.mk false false 0 0).uses)] 101 (0, 0))], [Hp.one tb286 (.cells #[(.pointer (some ⟨db278, 0, none⟩)), (.int .i64 n)] 98 (0, 0))], R] := Has.pick hH407 [1, 1, 2, 2, 2, 1, 1] (by kernel_rfl)
                              refine t_norm ⟨gs.length - (i + 1), _, rfl, ?_, ?_⟩
                              · omega
                              · exact ⟨(i + 1), dk, sg394, now2, sn2, B2, rfl, hH410, (by omega), (hd395), (hfk.mono (by omega)), (hnk), (hts2), (hnw2), (hokn2), e347_0, e347_1, e347_2, e347_7, e347_10, e347_11, e347_12, e347_13, e347_14, e347_15, rfl, e347_35, e347_44, e347_101⟩
                      · -- not: (k : Int) < ((x334.2.length : Nat) : Int)
                        refine s_off (b' := false) 122 rfl (congrArg Value.bool (decide_eq_false h358)) rfl ?_
                        refine s_off (b' := false) 122 rfl (congrArg Value.bool (decide_eq_false h358)) rfl ?_
                        refine s_op (o_pick_f (u := (.bool false)) ((rfl : _ = _).trans (congrArg Value.bool (decide_eq_false h358))) rfl ?_)
                        refine s_nil ?_
                        refine t_norm (hK354 _ _ ?_)
                        refine c_false rfl rfl ?_
                        refine wp_exit ?_
                        refine t_exit (t_exit (x_in (?_)))
                        refine t_norm (hK345 _ _ ?_)
                        refine wp_seq_k fun K411 hK411 => ?_
                        refine c_region ?_
                        refine s_op (o_move (v := (.pointer (some ⟨tb286, 0, none⟩))) e347_11 ?_)
                        refine s_op (o_move (v := v) e347_1 ?_)
                        refine s_op (o_move (v := (.int .i64 (i : Int))) e347_16 ?_)
                        refine s_op (o_index1 Tryz.underlying22 ti31 rfl hv rfl (by omega) hx335 fun b412 o413 hc414 => ?_)
                        refine s_op (o_load1 (v := (grV x334)) Tryz.underlying31 rfl rfl hH351 (seg_sub 6 rfl) hc414 ?_)
                        refine s_op (o_callf (vs := #[(.pointer (some ⟨tb286, 0, none⟩)), (grV x334)]) ca18 rfl (args2 rfl rfl) (tstoreE_c (d := dc) (n := n) (((hH351.front 5 rfl).front 3 rfl).front 3 rfl).all3 hdc hfc (by omega) hts.lo (by rw [hnc]; omega) (hg.mono (seg_sub 3 rfl)) (l := x334.2) ((hgr x334 (List.mem_of_getElem? hx335)).1.mono (seg_sub 3 rfl)) (fun a ha => ((hgr x334 (List.mem_of_getElem? hx335)).2 a ha).mono (seg_sub 3 rfl)) (by omega) (ts_end hst (by omega))) ?_)
                        rintro _ w419 ⟨sg415, rfl, hd416, hX417⟩
                        refine ⟨_, rfl, ?_⟩
                        have hH418 : Has E w419 [sg415, [Hp.one pb279 (.cells #[(.bool dk.p.off), (.bool dk.p.armed), (.int .i64 dk.p.left), (.int .i64 dk.p.uses)] 101 (0, 0))], [Hp.one tb286 (.cells #[(.pointer (some ⟨db278, 0, none⟩)), (.int .i64 n)] 98 (0, 0))], sn2, sg295, [Hp.one pb294 (.cells #[(.bool (Pw.mk false false 0 0).off), (.bool (Pw.mk false false 0 0).armed), (.int .i64 (Pw.mk false false 0 0).left), (.int .i64 (Pw.mk false false 0 0).uses)] 101 (0, 0))], R] := hX417.of_all3
                        refine s_op (o_move (v := (.int .i64 wt)) e347_17 ?_)
                        refine s_op (o_neq (a := wt) (b := wt) rfl rfl ?_)
                        refine s_op (o_move (v := (.bool (decide (wt ≠ wt)))) rfl ?_)
                        by_cases h420 : wt ≠ wt
                        · -- wt ≠ wt
                          exact absurd rfl h420
                        · -- not: wt ≠ wt
                          refine s_on 157 rfl (congrArg Value.bool (decide_eq_false h420)) (o_move (v := (.pointer (some ⟨tb286, 0, none⟩))) e347_11 ?_)
                          refine s_on 157 rfl (congrArg Value.bool (decide_eq_false h420)) (o_move (v := v309) e347_15 ?_)
                          refine s_on 157 rfl (congrArg Value.bool (decide_eq_false h420)) (o_callf (vs := #[(.pointer (some ⟨tb286, 0, none⟩)), v309]) ca19 rfl (args2 rfl rfl) (same12_c (d := dk) (n := n) (((hH418.front 2 rfl).front 2 rfl).front 2 rfl).all3 hd416 hts2.lo hts2.off hts2.full (by rw [hnk]; omega) ⟨by omega, by omega⟩ (by rw [hnk]; omega) (hg.mono (seg_sub 3 rfl)) (now := now2) (hnw2.sl.mono (seg_sub 0 rfl)) (fun a ha => (hokn2 a ha).mono (seg_sub 3 rfl)) (B := B2) hts2.told (fun k hk => hts2.tw.pg k hk)) ?_)
                          rintro _ w423 ⟨rfl, hX421⟩
                          refine ⟨_, rfl, ?_⟩
                          have hH422 : Has E w423 [sg415, [Hp.one pb279 (.cells #[(.bool dk.p.off), (.bool dk.p.armed), (.int .i64 dk.p.left), (.int .i64 dk.p.uses)] 101 (0, 0))], [Hp.one tb286 (.cells #[(.pointer (some ⟨db278, 0, none⟩)), (.int .i64 n)] 98 (0, 0))], sn2, sg295, [Hp.one pb294 (.cells #[(.bool (Pw.mk false false 0 0).off), (.bool (Pw.mk false false 0 0).armed), (.int .i64 (Pw.mk false false 0 0).left), (.int .i64 (Pw.mk false false 0 0).uses)] 101 (0, 0))], R] := hX421.of_all3
                          refine s_on 157 rfl (congrArg Value.bool (decide_eq_false h420)) (o_not rfl ?_)
                          refine s_op (o_pick_f (u := (.bool false)) ((rfl : _ = _).trans (congrArg Value.bool (decide_eq_false h420))) rfl ?_)
                          refine s_op (o_move (v := (.bool false)) rfl ?_)
                          refine s_on 163 rfl rfl (o_move (v := (.pointer (some ⟨db278, 0, none⟩))) e347_10 ?_)
                          refine s_on 163 rfl rfl (o_callf (vs := #[(.pointer (some ⟨db278, 0, none⟩))]) ca20 rfl (args1 rfl) (loose_d (p := dk.p) (la := dk.la) (lo := dk.lo) ((hH422.front 1 rfl).front 1 rfl).all2 hd416 (by rw [hts2.lo]; exact LoOk.nil _) (by rw [hnk]; omega)) ?_)
                          rintro _ w429 ⟨v424, s425, rfl, ho426, hX427⟩
                          refine ⟨_, rfl, ?_⟩
                          have hH428 : Has E w429 [s425, sg415, [Hp.one pb279 (.cells #[(.bool dk.p.off), (.bool dk.p.armed), (.int .i64 dk.p.left), (.int .i64 dk.p.uses)] 101 (0, 0))], [Hp.one tb286 (.cells #[(.pointer (some ⟨db278, 0, none⟩)), (.int .i64 n)] 98 (0, 0))], sn2, sg295, [Hp.one pb294 (.cells #[(.bool (Pw.mk false false 0 0).off), (.bool (Pw.mk false false 0 0).armed), (.int .i64 (Pw.mk false false 0 0).left), (.int .i64 (Pw.mk false false 0 0).uses)] 101 (0, 0))], R] := hX427.of_all3
                          refine s_on 163 rfl rfl (o_lenS Tryz.underlying40 rfl ho426.sl ?_)
                          refine s_on 163 rfl rfl (o_gtr (a := (((keysS dk.lo).length : Nat) : Int)) (b := 0) rfl rfl ?_)
                          refine s_op (o_pick_f (u := (.bool (decide (0 < (((keysS dk.lo).length : Nat) : Int))))) rfl rfl ?_)
                          refine s_nil ?_
                          refine t_norm (hK411 _ _ ?_)
                          refine c_cond rfl (fun h430 => ?_) (fun h430 => ?_)
                          · -- 0 < (((keysS dk.lo).length : Nat) : Int)
                            exact absurd h430 (by rw [hts2.lo, keys_none]; decide)
                          · -- not: 0 < (((keysS dk.lo).length : Nat) : Int)
                            refine wp_skip ?_
                            refine b_norm ?_
                            refine t_norm (hK328 _ _ ?_)
                            refine c_region ?_
                            refine s_op (o_move (v := (.int .i64 (i : Int))) e347_16 ?_)
                            refine s_op (o_add (a := (i : Int)) (b := 1) rfl rfl (w64 (by omega) (by omega)) ?_)
                            refine s_op (o_assign (v := (.int .i64 ((i : Int) + 1))) rfl ?_)
                            refine s_nil ?_
                            have hH431 : Has E w429 [sg415, [Hp.one pb279 (.cells #[(.bool dk.p.off), (.bool dk.p.armed), (.int .i64 dk.p.left), (.int .i64 dk.p.uses)] 101 (0, 0))], sn2, sg295, [Hp.one pb294 (.cells #[(.bool (Pw.mk false false 0 0).off), (.bool (Pw.mk false false 0 0).armed), (.int .i64 (Pw.mk false false 0 0).left), (.int .i64 (Pw.mk false false 0 0).uses)] 101 (0, 0))], [Hp.one tb286 (.cells #[(.pointer (some ⟨db278, 0, none⟩)), (.int .i64 n)] 98 (0, 0))], R] := Has.pick hH428 [1, 1, 2, 2, 2, 1, 1] (by kernel_rfl)
                            refine t_norm ⟨gs.length - (i + 1), _, rfl, ?_, ?_⟩
                            · omega
                            · exact ⟨(i + 1), dk, sg415, now2, sn2, B2, rfl, hH431, (by omega), (hd416), (hfk.mono (by omega)), (hnk), (hts2), (hnw2), (hokn2), e347_0, e347_1, e347_2, e347_7, e347_10, e347_11, e347_12, e347_13, e347_14, e347_15, rfl, e347_35, e347_44, e347_101⟩
                  · -- not: (i : Int) < ((gs.length : Nat) : Int)
                    refine wp_exit ?_
                    refine t_exit (t_exit (x_in (?_)))
                    refine t_norm (hK315 _ _ ?_)
                    refine wp_seq_k fun K432 hK432 => ?_
                    refine c_region ?_
                    refine s_op (o_move (v := (.pointer (some ⟨db278, 0, none⟩))) e319_10 ?_)
                    refine s_op (o_move (v := (.int .i64 n)) e319_0 ?_)
                    have hm_ := tw_mendI (n := n) (by omega) hts
                    refine s_op (o_callf (vs := #[(.pointer (some ⟨db278, 0, none⟩)), (.int .i64 n)]) ca21 rfl (args2 rfl rfl) (topen_ok (d := dc) ((hH323.front 1 rfl).front 1 rfl).all2 hdc (n := n) hfc (by omega) hts.lo (by rw [hnc]; omega) ⟨by omega, by omega⟩ (by rw [hnc]; omega) (hg.mono (seg_sub 4 rfl)) hts.full hts.off (by rw [hm_])) ?_)
                    rintro _ w438 ⟨tb435, sg433, rfl, hd434, hX436⟩
                    refine ⟨_, rfl, ?_⟩
                    have hH437 : Has E w438 [[Hp.one tb435 (.cells #[(.pointer (some ⟨db278, 0, none⟩)), (.int .i64 n)] 98 (0, 0))], sg433, [Hp.one pb279 (.cells #[(.bool ((mendR dc n).2).p.off), (.bool ((mendR dc n).2).p.armed), (.int .i64 ((mendR dc n).2).p.left), (.int .i64 ((mendR dc n).2).p.uses)] 101 (0, 0))], sn, sg295, [Hp.one pb294 (.cells #[(.bool (Pw.mk false false 0 0).off), (.bool (Pw.mk false false 0 0).armed), (.int .i64 (Pw.mk false false 0 0).left), (.int .i64 (Pw.mk false false 0 0).uses)] 101 (0, 0))], [Hp.one tb286 (.cells #[(.pointer (some ⟨db278, 0, none⟩)), (.int .i64 n)] 98 (0, 0))], R] := hX436.of_all3
                    refine s_op (o_move (v := (.tuple #[(.pointer (some ⟨tb435, 0, none⟩)), (.int .i64 (0 : Int))])) rfl ?_)
                    refine s_op (o_extract (v := (.pointer (some ⟨tb435, 0, none⟩))) rfl rfl ?_)
                    refine s_op (o_extract (v := (.int .i64 (0 : Int))) rfl rfl ?_)
                    refine s_op (o_assign (v := (.pointer (some ⟨tb435, 0, none⟩))) rfl ?_)
                    refine s_op (o_assign (v := (.int .i64 (0 : Int))) rfl ?_)
                    refine s_nil ?_
                    refine t_norm (hK432 _ _ ?_)
                    refine wp_seq_k fun K439 hK439 => ?_
                    refine c_region ?_
                    refine s_op (o_move (v := (.int .i64 (0 : Int))) rfl ?_)
                    refine s_op (o_eql (a := (0 : Int)) (b := 0) rfl rfl ?_)
                    refine s_op (o_move (v := (.bool (decide ((0 : Int) = 0)))) rfl ?_)
                    by_cases h440 : (0 : Int) = 0
                    · -- (0 : Int) = 0
                      refine s_on 177 rfl (congrArg Value.bool (decide_eq_true h440)) (o_move (v := (.pointer (some ⟨tb435, 0, none⟩))) rfl ?_)
                      refine s_on 177 rfl (congrArg Value.bool (decide_eq_true h440)) (o_move (v := v309) e319_15 ?_)
                      refine s_on 177 rfl (congrArg Value.bool (decide_eq_true h440)) (o_callf (vs := #[(.pointer (some ⟨tb435, 0, none⟩)), v309]) ca19 rfl (args2 rfl rfl) (same12_c (d := (mendR dc n).2) (n := n) ((hH437.front 2 rfl).front 2 rfl).all3 hd434 (by rw [hm_]; exact hts.lo) (by rw [hm_]; exact hts.off) (by rw [hm_]; exact hts.full) (by rw [hm_]; rw [hnc]; omega) ⟨by omega, by omega⟩ (by rw [hm_]; rw [hnc]; omega) (hg.mono (seg_sub 4 rfl)) (now := now) (hnw.sl.mono (seg_sub 0 rfl)) (fun a ha => (hokn a ha).mono (seg_sub 4 rfl)) (B := B) hts.told (by rw [hm_]; exact fun k hk => hts.tw.pg k hk)) ?_)
                      rintro _ w443 ⟨rfl, hX441⟩
                      refine ⟨_, rfl, ?_⟩
                      have hH442 : Has E w443 [sg433, [Hp.one pb279 (.cells #[(.bool ((mendR dc n).2).p.off), (.bool ((mendR dc n).2).p.armed), (.int .i64 ((mendR dc n).2).p.left), (.int .i64 ((mendR dc n).2).p.uses)] 101 (0, 0))], [Hp.one tb435 (.cells #[(.pointer (some ⟨db278, 0, none⟩)), (.int .i64 n)] 98 (0, 0))], sn, sg295, [Hp.one pb294 (.cells #[(.bool (Pw.mk false false 0 0).off), (.bool (Pw.mk false false 0 0).armed), (.int .i64 (Pw.mk false false 0 0).left), (.int .i64 (Pw.mk false false 0 0).uses)] 101 (0, 0))], [Hp.one tb286 (.cells #[(.pointer (some ⟨db278, 0, none⟩)), (.int .i64 n)] 98 (0, 0))], R] := hX441.of_all3
                      refine s_op (o_pick_t (u := (.bool true)) ((rfl : _ = _).trans (congrArg Value.bool (decide_eq_true h440))) rfl ?_)
                      refine s_op (o_assign (v := (.bool true)) rfl ?_)
                      refine s_nil ?_
                      refine t_norm (hK439 _ _ ?_)
                      refine wp_ret ?_
                      refine c_ret1 Tryz.results3  (v := (.bool true)) rfl ?_
                      have hH444 : Has E w443 [R] := (hH442.front 7 rfl).first 1 rfl
                      exact ⟨by first | rfl | (rw [decide_eq_true (by decide)]), hH444⟩
                    · -- not: (0 : Int) = 0
                      exact absurd h440 (by decide)
end Go.Q
namespace Go.Q
theorem arr_cells {H : Type} {enc : TypeId × Value → H} {P : Program} {w : World} {base : Nat} {spare : Nat → Bool} {held : Bool} {fuel n : Nat} {t e : TypeId} {k : IntKind} {cs : List Value} {l : List Int} {p : List MemPlace}
    (ht : P.underlying t = some (.array n e)) (he : P.underlying e = some (.int k)) (hc : P.cellsOf e = 1) (hl : l.length = n)
    (h : DataW.trod enc P w base spare held fuel t cs = some (.agg (l.map fun z => (DataW.lit (Lit.int k z) : DataW H)), p)) : ∀ (i : Nat) (z : Int), l[i]? = some z → cs[i]? = some (Value.int k z) := by
  intro i z hz
  obtain ⟨xs, m, _, hx, _, hn, hel⟩ := DataW.trod_array ht h
  simp only [Prod.mk.injEq, DataW.agg.injEq] at hx
  have hi : i < n := by rw [← hl]; exact (List.getElem?_eq_some_iff.1 hz).1
  have h1 := hel i hi
  rw [hc, Nat.mul_one, List.getElem?_eq_getElem (by omega)] at h1
  obtain ⟨r, e1, e2, _⟩ := DataW.trod_int he h1
  have e3 : (xs.map (·.1))[i]? = some (DataW.lit (Lit.int k z)) := by rw [← hx.1, List.getElem?_map, hz]; rfl
  rw [List.getElem?_map, List.getElem?_eq_getElem (by omega), Option.map_some] at e3
  rw [e2] at e3
  have e4 : r = z := by simpa using e3
  subst e4
  have e5 : (List.take 1 (List.drop i cs))[0]? = some (.int k r) := by rw [e1]; rfl
  rw [List.getElem?_take, if_pos (by omega), List.getElem?_drop] at e5
  simpa using e5
end Go.Q
namespace Go.Q
open Go.Proofs
set_option linter.unusedVariables false
set_option maxRecDepth 100000
attribute [local irreducible] wpList OK Code.wp
theorem rd_cel {H : Type} {enc : TypeId × Value → H} {w : World} {cs : List Value} (h : Rd enc Tryz.prog w 70 cs) : ∃ a : Cel, cs = ceC a ∧ True := by
  obtain ⟨hl, hf⟩ := rd_struct Tryz.underlying70 h
  have hl : cs.length = 2 := hl.trans (by kernel_rfl)
  obtain ⟨c0, c1, rfl⟩ : ∃ c0 c1, cs = [c0, c1] := by
    match cs, hl with
    | [c0, c1], _ => exact ⟨c0, c1, rfl⟩
  have f0_6 : Rd enc Tryz.prog w 9 [c0] := rd_field (i := 0) (k := 1) hf rfl rfl (by kernel_rfl) rfl
  obtain ⟨n0, e0, b0⟩ := rd_string Tryz.underlying9 f0_6
  obtain rfl := (List.cons.inj e0).1
  have f1_9 : Rd enc Tryz.prog w 9 [c1] := rd_field (i := 1) (k := 1) hf rfl rfl (by kernel_rfl) rfl
  obtain ⟨n1, e1, b1⟩ := rd_string Tryz.underlying9 f1_9
  obtain rfl := (List.cons.inj e1).1
  exact ⟨(n0, n1), rfl, trivial⟩
theorem rd_cels {H : Type} {enc : TypeId × Value → H} {w : World} {cs : List Value} (h : Rd enc Tryz.prog w 34 cs) : ∃ (v : Value) (l : List Cel), cs = [v] ∧ Sl [Hp.of w] 2 v l.length (l.flatMap ceC) ∧ ∀ a ∈ l, True :=
  rd_rows Tryz.underlying34 (by kernel_rfl) (by decide) ceC_len (fun r hr => rd_cel hr) h
theorem rd_page {H : Type} {enc : TypeId × Value → H} {w : World} {cs : List Value} (h : Rd enc Tryz.prog w 36 cs) : ∃ a : Pg, cs = pgC a ∧ PgIn [Hp.of w] a := by
  obtain ⟨hl, hf⟩ := rd_struct Tryz.underlying36 h
  have hl : cs.length = 3 := hl.trans (by kernel_rfl)
  obtain ⟨c0, c1, c2, rfl⟩ : ∃ c0 c1 c2, cs = [c0, c1, c2] := by
    match cs, hl with
    | [c0, c1, c2], _ => exact ⟨c0, c1, c2, rfl⟩
  have f0_6 : Rd enc Tryz.prog w 3 [c0] := rd_field (i := 0) (k := 1) hf rfl rfl (by kernel_rfl) rfl
  obtain ⟨n0, e0, b0⟩ := rd_i64 Tryz.underlying3 f0_6
  obtain rfl := (List.cons.inj e0).1
  have f1_9 : Rd enc Tryz.prog w 3 [c1] := rd_field (i := 1) (k := 1) hf rfl rfl (by kernel_rfl) rfl
  obtain ⟨n1, e1, b1⟩ := rd_i64 Tryz.underlying3 f1_9
  obtain rfl := (List.cons.inj e1).1
  have f2_12 : Rd enc Tryz.prog w 34 [c2] := rd_field (i := 2) (k := 1) hf rfl rfl (by kernel_rfl) rfl
  obtain ⟨u2, n2, e2, s2, b2⟩ := rd_cels f2_12
  obtain rfl := (List.cons.inj e2).1
  exact ⟨(n0, n1, _, n2), rfl, s2⟩
theorem rd_pages {H : Type} {enc : TypeId × Value → H} {w : World} {cs : List Value} (h : Rd enc Tryz.prog w 31 cs) : ∃ (v : Value) (l : List Pg), cs = [v] ∧ Sl [Hp.of w] 3 v l.length (l.flatMap pgC) ∧ ∀ a ∈ l, PgIn [Hp.of w] a :=
  rd_rows Tryz.underlying31 (by kernel_rfl) (by decide) pgC_len (fun r hr => rd_page hr) h
theorem rd_group {H : Type} {enc : TypeId × Value → H} {w : World} {cs : List Value} (h : Rd enc Tryz.prog w 31 cs) : ∃ g : Gr, cs = grC g ∧ GrIn [Hp.of w] g := by
  obtain ⟨v, l, h1, h2, h3⟩ := rd_pages h
  exact ⟨(v, l), h1, h2, h3⟩
theorem rd_groups {H : Type} {enc : TypeId × Value → H} {w : World} {cs : List Value} (h : Rd enc Tryz.prog w 22 cs) : ∃ (v : Value) (l : List Gr), cs = [v] ∧ Sl [Hp.of w] 1 v l.length (l.flatMap grC) ∧ ∀ a ∈ l, GrIn [Hp.of w] a :=
  rd_rows Tryz.underlying22 (by kernel_rfl) (by decide) grC_len (fun r hr => rd_group hr) h
end Go.Q
