/-
  Parts of a walk: what functions of the program compute, each told by a theorem (Qvt6, Qvt8, Qvt9, QTwA, Qvt11, Qvp6, Qvp8, QvL3, QYD, QvRd).
-/
import Derived.Test.YtcjjknilhceeeaaGreatDoorB3
import Derived.OpenShut
set_option linter.unusedVariables false
set_option linter.unusedSimpArgs false
set_option linter.unnecessarySimpa false
namespace Go.Q
open Go.Proofs
set_option linter.unusedVariables false
set_option maxRecDepth 100000
attribute [local irreducible] wpList OK Code.wp
set_option maxHeartbeats 4000000 in
theorem tmend_on {E w : World} {R sg : List Hp} {pb db tb : Nat} {d : Dv} {n : Int} (hH : Has E w [sg, [Hp.one pb (.cells #[(.bool d.p.off), (.bool d.p.armed), (.int .i64 d.p.left), (.int .i64 d.p.uses)] 101 (0, 0))], [Hp.one tb (.cells #[(.pointer (some ⟨db, 0, none⟩)), (.int .i64 n)] 98 (0, 0))], R]) (hd : DevAt pb sg db d.la d.lo) {k : Nat} (hf : Few d.p k) (hk : k ≤ 850000) (hlo : d.lo = []) (h4 : d.la.length ≤ 4096) (hon : d.p.off = false) (h64 : Full64 d.la) (hg : CellsAt R 1 0 nibV) (hn : 1 ≤ n ∧ n ≤ 64) (hln : 5 + n * 4 ≤ d.la.length) :
    Calls Tryz.prog 59 #[(.pointer (some ⟨tb, 0, none⟩))] w fun e w' => ∃ sg', e = .returned (.int .i64 (mendR d n).1) ∧ DevAt pb sg' db (mendR d n).2.la (mendR d n).2.lo ∧ Has E w' [sg', [Hp.one pb (.cells #[(.bool ((mendR d n).2).p.off), (.bool ((mendR d n).2).p.armed), (.int .i64 ((mendR d n).2).p.left), (.int .i64 ((mendR d n).2).p.uses)] 101 (0, 0))], [Hp.one tb (.cells #[(.pointer (some ⟨db, 0, none⟩)), (.int .i64 n)] 98 (0, 0))], R] := by
  have hBl_ := pgB_len h64 (x := 1) (by decide) (by omega)
  have hnl_ := nt_lt (s := sec d.la 0) hn.1
  refine c_enter (args := [(.pointer (some ⟨tb, 0, none⟩))]) Tryz.func59 rfl Tryz.ntmps59 (by simp) ?_
  refine wp_seq_k fun K1 hK1 => ?_
  refine c_region ?_
  refine s_op (o_assign (v := (.int .i64 0)) rfl ?_)
  refine s_nil ?_
  refine t_norm (hK1 _ _ ?_)
  refine wp_seq_k fun K2 hK2 => ?_
  refine c_region ?_
  refine s_op (o_move (v := (.pointer (some ⟨tb, 0, none⟩))) rfl ?_)
  refine s_op (o_callf (vs := #[(.pointer (some ⟨tb, 0, none⟩))]) ca102 rfl (args1 rfl) (tnoted_on (d := d) (n := n) (((hH.front 2 rfl).front 2 rfl).front 2 rfl).all3 hd hlo hon h64 (by omega)) ?_)
  rintro _ w5 ⟨rfl, hX3⟩
  refine ⟨_, rfl, ?_⟩
  have hH4 : Has E w5 [sg, [Hp.one pb (.cells #[(.bool d.p.off), (.bool d.p.armed), (.int .i64 d.p.left), (.int .i64 d.p.uses)] 101 (0, 0))], [Hp.one tb (.cells #[(.pointer (some ⟨db, 0, none⟩)), (.int .i64 n)] 98 (0, 0))], R] := hX3.of_all3
  refine s_op (o_move (v := (.tuple #[(.int .i64 ((notedS (sec d.la 0) n).1)), (.int .i64 ((notedS (sec d.la 0) n).2))])) rfl ?_)
  refine s_op (o_extract (v := (.int .i64 ((notedS (sec d.la 0) n).1))) rfl rfl ?_)
  refine s_op (o_extract (v := (.int .i64 ((notedS (sec d.la 0) n).2))) rfl rfl ?_)
  refine s_op (o_assign (v := (.int .i64 ((notedS (sec d.la 0) n).1))) rfl ?_)
  refine s_op (o_assign (v := (.int .i64 ((notedS (sec d.la 0) n).2))) rfl ?_)
  refine s_nil ?_
  refine t_norm (hK2 _ _ ?_)
  refine wp_seq_k fun K6 hK6 => ?_
  refine wp_seq_k fun K7 hK7 => ?_
  refine c_region ?_
  refine s_op (o_move (v := (.int .i64 ((notedS (sec d.la 0) n).2))) rfl ?_)
  refine s_op (o_neq (a := (notedS (sec d.la 0) n).2) (b := 0) rfl rfl ?_)
  refine s_op (o_move (v := (.bool (decide ((notedS (sec d.la 0) n).2 ≠ 0)))) rfl ?_)
  by_cases h8 : (notedS (sec d.la 0) n).2 ≠ 0
  · -- (notedS (sec d.la 0) n).2 ≠ 0
    refine s_off (b' := true) 16 rfl (congrArg Value.bool (decide_eq_true h8)) rfl ?_
    refine s_off (b' := true) 16 rfl (congrArg Value.bool (decide_eq_true h8)) rfl ?_
    refine s_op (o_pick_t (u := (.bool true)) ((rfl : _ = _).trans (congrArg Value.bool (decide_eq_true h8))) rfl ?_)
    refine s_nil ?_
    refine t_norm (hK7 _ _ ?_)
    refine c_true rfl rfl ?_
    refine wp_seq_k fun K9 hK9 => ?_
    refine c_region ?_
    refine s_op (o_move (v := (.int .i64 ((notedS (sec d.la 0) n).2))) rfl ?_)
    refine s_op (o_assign (v := (.int .i64 ((notedS (sec d.la 0) n).2))) rfl ?_)
    refine s_nil ?_
    refine t_norm (hK9 _ _ ?_)
    refine wp_ret ?_
    refine t_ret (c_ret1 Tryz.results59  (v := (.int .i64 ((notedS (sec d.la 0) n).2))) rfl ?_)
    have hE_ : (mendR d n) = ((notedS (sec d.la 0) n).2, d) := mend_e hon h8
    exact ⟨_, by rw [hE_], by rw [hE_]; exact hd, by rw [hE_]; exact hH4⟩
  · -- not: (notedS (sec d.la 0) n).2 ≠ 0
    refine s_on 16 rfl (congrArg Value.bool (decide_eq_false h8)) (o_move (v := (.int .i64 ((notedS (sec d.la 0) n).1))) rfl ?_)
    refine s_on 16 rfl (congrArg Value.bool (decide_eq_false h8)) (o_lss (a := (notedS (sec d.la 0) n).1) (b := 0) rfl rfl ?_)
    refine s_op (o_pick_f (u := (.bool (decide ((notedS (sec d.la 0) n).1 < 0)))) ((rfl : _ = _).trans (congrArg Value.bool (decide_eq_false h8))) rfl ?_)
    refine s_nil ?_
    refine t_norm (hK7 _ _ ?_)
    refine c_cond rfl (fun h10 => ?_) (fun h10 => ?_)
    · -- (notedS (sec d.la 0) n).1 < 0
      refine wp_seq_k fun K11 hK11 => ?_
      refine c_region ?_
      refine s_op (o_move (v := (.int .i64 ((notedS (sec d.la 0) n).2))) rfl ?_)
      refine s_op (o_assign (v := (.int .i64 ((notedS (sec d.la 0) n).2))) rfl ?_)
      refine s_nil ?_
      refine t_norm (hK11 _ _ ?_)
      refine wp_ret ?_
      refine t_ret (c_ret1 Tryz.results59  (v := (.int .i64 ((notedS (sec d.la 0) n).2))) rfl ?_)
      have hE_ : (mendR d n) = ((notedS (sec d.la 0) n).2, d) := mend_none hon (Classical.not_not.1 h8) h10
      exact ⟨_, by rw [hE_], by rw [hE_]; exact hd, by rw [hE_]; exact hH4⟩
    · -- not: (notedS (sec d.la 0) n).1 < 0
      refine wp_skip ?_
      refine t_norm (hK6 _ _ ?_)
      refine wp_seq_k fun K12 hK12 => ?_
      refine c_region ?_
      refine s_op (o_move (v := (.pointer (some ⟨tb, 0, none⟩))) rfl ?_)
      refine s_op (o_callf (vs := #[(.pointer (some ⟨tb, 0, none⟩)), (.int .i64 1)]) ca63 rfl (args2 rfl rfl) (tget_on (d := d) (n := n) (((hH4.front 2 rfl).front 2 rfl).front 2 rfl).all3 hd hlo hon h64 (x := 1) ⟨by omega, by omega⟩ h4) ?_)
      rintro _ w15 ⟨rfl, hX13⟩
      refine ⟨_, rfl, ?_⟩
      have hH14 : Has E w15 [sg, [Hp.one pb (.cells #[(.bool d.p.off), (.bool d.p.armed), (.int .i64 d.p.left), (.int .i64 d.p.uses)] 101 (0, 0))], [Hp.one tb (.cells #[(.pointer (some ⟨db, 0, none⟩)), (.int .i64 n)] 98 (0, 0))], R] := hX13.of_all3
      refine s_op (o_move (v := (.tuple #[(S (pgB d.la 1)), (.int .i64 (0 : Int))])) rfl ?_)
      refine s_op (o_extract (v := (S (pgB d.la 1))) rfl rfl ?_)
      refine s_op (o_extract (v := (.int .i64 (0 : Int))) rfl rfl ?_)
      refine s_op (o_assign (v := (S (pgB d.la 1))) rfl ?_)
      refine s_op (o_assign (v := (.int .i64 (0 : Int))) rfl ?_)
      refine s_nil ?_
      refine t_norm (hK12 _ _ ?_)
      refine wp_seq_k fun K16 hK16 => ?_
      refine wp_seq_k fun K17 hK17 => ?_
      refine c_region ?_
      refine s_op (o_move (v := (.int .i64 (0 : Int))) rfl ?_)
      refine s_op (o_neq (a := (0 : Int)) (b := 0) rfl rfl ?_)
      refine s_nil ?_
      refine t_norm (hK17 _ _ ?_)
      refine c_cond rfl (fun h18 => ?_) (fun h18 => ?_)
      · -- (0 : Int) ≠ 0
        exact absurd rfl h18
      · -- not: (0 : Int) ≠ 0
        refine wp_skip ?_
        refine t_norm (hK16 _ _ ?_)
        refine wp_seq_k fun K19 hK19 => ?_
        refine wp_seq_k fun K20 hK20 => ?_
        refine c_region ?_
        refine s_op (o_move (v := (S (pgB d.la 1))) rfl ?_)
        refine s_op (o_callf (vs := #[(S (pgB d.la 1))]) ca66 rfl (args1 rfl) (pread_c (s := (pgB d.la 1)) hH14.all (hg.mono (seg_sub 3 rfl))) ?_)
        rintro _ w26 ⟨v21, s22, rfl, ho23, hX24⟩
        refine ⟨_, rfl, ?_⟩
        have hH25 : Has E w26 [s22, sg, [Hp.one pb (.cells #[(.bool d.p.off), (.bool d.p.armed), (.int .i64 d.p.left), (.int .i64 d.p.uses)] 101 (0, 0))], [Hp.one tb (.cells #[(.pointer (some ⟨db, 0, none⟩)), (.int .i64 n)] 98 (0, 0))], R] := hX24.of_all1
        refine s_op (o_move (v := (.tuple #[(.agg #[(.int .i64 ((readP (pgB d.la 1)).2.1)), (.int .i64 ((readP (pgB d.la 1)).2.2.1)), v21]), (.bool ((readP (pgB d.la 1)).1))])) rfl ?_)
        refine s_op (o_extract (v := (.agg #[(.int .i64 ((readP (pgB d.la 1)).2.1)), (.int .i64 ((readP (pgB d.la 1)).2.2.1)), v21])) rfl rfl ?_)
        refine s_op (o_extract (v := (.bool ((readP (pgB d.la 1)).1))) rfl rfl ?_)
        refine s_op (o_alloc (cs := #[(.int .i64 0), (.int .i64 0), (.slice none 0 0)]) ti36 rfl hH25 fun b27 w28 hH29 => ?_)
        refine s_eff (o_storeN (vs := [(.int .i64 ((readP (pgB d.la 1)).2.1)), (.int .i64 ((readP (pgB d.la 1)).2.2.1)), v21]) (c' := #[(.int .i64 ((readP (pgB d.la 1)).2.1)), (.int .i64 ((readP (pgB d.la 1)).2.2.1)), v21]) ti36 rfl rfl rfl rfl (by intro u hu; simp only [List.mem_cons, List.not_mem_nil, or_false] at hu; rcases hu with rfl | rfl | rfl <;> first | rfl | exact ho23.one) (by simp) (by kernel_rfl) (hH29.front 0 rfl) fun w30 hH31 => ?_)
        refine s_op (o_assign (v := (.bool ((readP (pgB d.la 1)).1))) rfl ?_)
        refine s_nil ?_
        refine t_norm (hK20 _ _ ?_)
        refine wp_seq_k fun K32 hK32 => ?_
        refine c_region ?_
        refine s_op (o_move (v := (.bool ((readP (pgB d.la 1)).1))) rfl ?_)
        refine s_op (o_not rfl ?_)
        refine s_op (o_move (v := (.bool (!((readP (pgB d.la 1)).1)))) rfl ?_)
        rcases Bool.eq_false_or_eq_true (!((readP (pgB d.la 1)).1)) with h33 | h33
        · -- !((readP (pgB d.la 1)).1)
          have h33_n : ((readP (pgB d.la 1)).1) = false := by simpa using h33
          refine s_off (b' := true) 36 rfl (congrArg Value.bool h33) rfl ?_
          refine s_off (b' := true) 36 rfl (congrArg Value.bool h33) rfl ?_
          refine s_off (b' := true) 36 rfl (congrArg Value.bool h33) rfl ?_
          refine s_off (b' := true) 36 rfl (congrArg Value.bool h33) rfl ?_
          refine s_op (o_pick_t (u := (.bool true)) ((rfl : _ = _).trans (congrArg Value.bool h33)) rfl ?_)
          refine s_nil ?_
          refine t_norm (hK32 _ _ ?_)
          refine c_true rfl rfl ?_
          refine wp_seq_k fun K34 hK34 => ?_
          refine c_region ?_
          refine s_op (o_assign (v := (.int .i64 9)) rfl ?_)
          refine s_nil ?_
          refine t_norm (hK34 _ _ ?_)
          refine wp_ret ?_
          refine t_ret (c_ret1 Tryz.results59  (v := (.int .i64 9)) rfl ?_)
          have hH35 : Has E w30 [sg, [Hp.one pb (.cells #[(.bool d.p.off), (.bool d.p.armed), (.int .i64 d.p.left), (.int .i64 d.p.uses)] 101 (0, 0))], [Hp.one tb (.cells #[(.pointer (some ⟨db, 0, none⟩)), (.int .i64 n)] 98 (0, 0))], R] := ((((hH31.front 5 rfl).front 5 rfl).front 5 rfl).front 5 rfl).first 4 rfl
          have hE_ : (mendR d n) = (9, d) := mend_bad hon (Classical.not_not.1 h8) h10 (fun k => by first | exact absurd k.1 (by simpa using h33) | exact absurd k.1 (by decide) k.2)
          exact ⟨_, by rw [hE_], by rw [hE_]; exact hd, by rw [hE_]; exact hH35⟩
        · -- not: !((readP (pgB d.la 1)).1)
          have h33_n : ((readP (pgB d.la 1)).1) = true := by simpa using h33
          refine s_on 36 rfl (congrArg Value.bool h33) (o_fieldAddr (k := 0) (fun _ => by kernel_rfl) rfl ?_)
          refine s_on 36 rfl (congrArg Value.bool h33) (o_load1 (v := (.int .i64 ((readP (pgB d.la 1)).2.1))) Tryz.underlying3 rfl rfl hH31 (seg_sub 0 rfl) (CellsAt.one rfl) ?_)
          refine s_on 36 rfl (congrArg Value.bool h33) (o_move (v := (.int .i64 ((notedS (sec d.la 0) n).1))) rfl ?_)
          refine s_on 36 rfl (congrArg Value.bool h33) (o_neq (a := (readP (pgB d.la 1)).2.1) (b := (notedS (sec d.la 0) n).1) rfl rfl ?_)
          refine s_op (o_pick_f (u := (.bool (decide ((readP (pgB d.la 1)).2.1 ≠ (notedS (sec d.la 0) n).1)))) ((rfl : _ = _).trans (congrArg Value.bool h33)) rfl ?_)
          refine s_nil ?_
          refine t_norm (hK32 _ _ ?_)
          refine c_cond rfl (fun h36 => ?_) (fun h36 => ?_)
          · -- (readP (pgB d.la 1)).2.1 ≠ (notedS (sec d.la 0) n).1
            refine wp_seq_k fun K37 hK37 => ?_
            refine c_region ?_
            refine s_op (o_assign (v := (.int .i64 9)) rfl ?_)
            refine s_nil ?_
            refine t_norm (hK37 _ _ ?_)
            refine wp_ret ?_
            refine t_ret (c_ret1 Tryz.results59  (v := (.int .i64 9)) rfl ?_)
            have hH38 : Has E w30 [sg, [Hp.one pb (.cells #[(.bool d.p.off), (.bool d.p.armed), (.int .i64 d.p.left), (.int .i64 d.p.uses)] 101 (0, 0))], [Hp.one tb (.cells #[(.pointer (some ⟨db, 0, none⟩)), (.int .i64 n)] 98 (0, 0))], R] := ((((hH31.front 5 rfl).front 5 rfl).front 5 rfl).front 5 rfl).first 4 rfl
            have hE_ : (mendR d n) = (9, d) := mend_bad hon (Classical.not_not.1 h8) h10 (fun k => by first | exact absurd k.1 (by simpa using h33) | exact h36 k.2)
            exact ⟨_, by rw [hE_], by rw [hE_]; exact hd, by rw [hE_]; exact hH38⟩
          · -- not: (readP (pgB d.la 1)).2.1 ≠ (notedS (sec d.la 0) n).1
            refine wp_skip ?_
            refine t_norm (hK19 _ _ ?_)
            refine wp_seq_k fun K39 hK39 => ?_
            refine wp_seq_k fun K40 hK40 => ?_
            refine c_region ?_
            refine s_op (o_move (v := (.pointer (some ⟨tb, 0, none⟩))) rfl ?_)
            refine s_op (o_move (v := (.int .i64 ((notedS (sec d.la 0) n).1))) rfl ?_)
            refine s_op (o_callf (vs := #[(.int .i64 ((notedS (sec d.la 0) n).1))]) ca64 rfl (args1 rfl) (place_c hH31.all (x := (notedS (sec d.la 0) n).1) ⟨by omega, by omega⟩) ?_)
            rintro _ w43 ⟨rfl, hX41⟩
            refine ⟨_, rfl, ?_⟩
            have hH42 := hX41.of_all
            refine s_op (o_move (v := (S (pgB d.la 1))) rfl ?_)
            refine s_op (o_callf (vs := #[(.pointer (some ⟨tb, 0, none⟩)), (.int .i64 (plc ((notedS (sec d.la 0) n).1))), (S (pgB d.la 1))]) ca97 rfl (args3 rfl rfl rfl) (tset_c (d := d) (n := n) (((hH42.front 4 rfl).front 4 rfl).front 4 rfl).all3 hd hf (by omega) (by rw [hlo]; exact LoOk.nil _) h4 (x := plc ((notedS (sec d.la 0) n).1)) (by unfold plc; exact ⟨by omega, by omega⟩) (s := (pgB d.la 1)) hBl_) ?_)
            rintro _ w48 ⟨sg44, rfl, hd45, hX46⟩
            refine ⟨_, rfl, ?_⟩
            have hH47 : Has E w48 [sg44, [Hp.one pb (.cells #[(.bool ((wrsy d (setT (plc ((notedS (sec d.la 0) n).1)) (pgB d.la 1))).2).p.off), (.bool ((wrsy d (setT (plc ((notedS (sec d.la 0) n).1)) (pgB d.la 1))).2).p.armed), (.int .i64 ((wrsy d (setT (plc ((notedS (sec d.la 0) n).1)) (pgB d.la 1))).2).p.left), (.int .i64 ((wrsy d (setT (plc ((notedS (sec d.la 0) n).1)) (pgB d.la 1))).2).p.uses)] 101 (0, 0))], [Hp.one tb (.cells #[(.pointer (some ⟨db, 0, none⟩)), (.int .i64 n)] 98 (0, 0))], [Hp.one b27 (.cells #[(.int .i64 ((readP (pgB d.la 1)).2.1)), (.int .i64 ((readP (pgB d.la 1)).2.2.1)), v21] 36 (0, 0))], s22, R] := hX46.of_all3
            refine s_op (o_assign (v := (.int .i64 ((wrsy d (setT (plc ((notedS (sec d.la 0) n).1)) (pgB d.la 1))).1))) rfl ?_)
            refine s_nil ?_
            refine t_norm (hK40 _ _ ?_)
            refine wp_seq_k fun K49 hK49 => ?_
            refine c_region ?_
            refine s_op (o_move (v := (.int .i64 ((wrsy d (setT (plc ((notedS (sec d.la 0) n).1)) (pgB d.la 1))).1))) rfl ?_)
            refine s_op (o_neq (a := (wrsy d (setT (plc ((notedS (sec d.la 0) n).1)) (pgB d.la 1))).1) (b := 0) rfl rfl ?_)
            refine s_nil ?_
            refine t_norm (hK49 _ _ ?_)
            refine c_cond rfl (fun h50 => ?_) (fun h50 => ?_)
            · -- (wrsy d (setT (plc ((notedS (sec d.la 0) n).1)) (pgB d.la 1))).1 ≠ 0
              refine wp_seq_k fun K51 hK51 => ?_
              refine c_region ?_
              refine s_op (o_move (v := (.int .i64 ((wrsy d (setT (plc ((notedS (sec d.la 0) n).1)) (pgB d.la 1))).1))) rfl ?_)
              refine s_op (o_assign (v := (.int .i64 ((wrsy d (setT (plc ((notedS (sec d.la 0) n).1)) (pgB d.la 1))).1))) rfl ?_)
              refine s_nil ?_
              refine t_norm (hK51 _ _ ?_)
              refine wp_ret ?_
              refine t_ret (c_ret1 Tryz.results59  (v := (.int .i64 ((wrsy d (setT (plc ((notedS (sec d.la 0) n).1)) (pgB d.la 1))).1))) rfl ?_)
              have hH52 : Has E w48 [sg44, [Hp.one pb (.cells #[(.bool ((wrsy d (setT (plc ((notedS (sec d.la 0) n).1)) (pgB d.la 1))).2).p.off), (.bool ((wrsy d (setT (plc ((notedS (sec d.la 0) n).1)) (pgB d.la 1))).2).p.armed), (.int .i64 ((wrsy d (setT (plc ((notedS (sec d.la 0) n).1)) (pgB d.la 1))).2).p.left), (.int .i64 ((wrsy d (setT (plc ((notedS (sec d.la 0) n).1)) (pgB d.la 1))).2).p.uses)] 101 (0, 0))], [Hp.one tb (.cells #[(.pointer (some ⟨db, 0, none⟩)), (.int .i64 n)] 98 (0, 0))], R] := ((((hH47.front 5 rfl).front 3 rfl).front 3 rfl).front 3 rfl).first 4 rfl
              have hE_ : (mendR d n) = ((wrsy d (setT (plc ((notedS (sec d.la 0) n).1)) (pgB d.la 1))).1, (wrsy d (setT (plc ((notedS (sec d.la 0) n).1)) (pgB d.la 1))).2) := by rw [mend_go hon (Classical.not_not.1 h8) h10 ⟨by simpa using h33, (Classical.not_not.1 h36)⟩]; show runs d [setT (plc (notedS (sec d.la 0) n).1) (pgB d.la 1), mrkG []] = _; rw [runs_stop h50]
              exact ⟨_, by rw [hE_], by rw [hE_]; exact hd45, by rw [hE_]; exact hH52⟩
            · -- not: (wrsy d (setT (plc ((notedS (sec d.la 0) n).1)) (pgB d.la 1))).1 ≠ 0
              refine wp_skip ?_
              refine t_norm (hK39 _ _ ?_)
              refine wp_seq_k fun K53 hK53 => ?_
              refine c_region ?_
              refine s_op (o_move (v := (.pointer (some ⟨tb, 0, none⟩))) rfl ?_)
              refine s_op (o_callf (vs := #[(.pointer (some ⟨tb, 0, none⟩)), (.slice none 0 0)]) ca98 rfl (args2 rfl rfl) (tmark_c (d := (wrsy d (setT (plc ((notedS (sec d.la 0) n).1)) (pgB d.la 1))).2) (n := n) (((hH47.front 2 rfl).front 2 rfl).front 2 rfl).all3 hd45 ((few_wrsy hf).mono (show _ ≤ k + 5 from Nat.le_refl _)) (by omega) (by rw [wrsy_zero (Classical.not_not.1 h50)]; exact LoOk.nil _) (by simp only [wrsy_len]; exact h4) (l := ([] : List Int)) (sl_nil 1) (by simp) (by rw [put_nil]; decide)) ?_)
              rintro _ w58 ⟨sg54, rfl, hd55, hX56⟩
              refine ⟨_, rfl, ?_⟩
              have hH57 : Has E w58 [sg54, [Hp.one pb (.cells #[(.bool ((wrsy ((wrsy d (setT (plc ((notedS (sec d.la 0) n).1)) (pgB d.la 1))).2) (mrkG [])).2).p.off), (.bool ((wrsy ((wrsy d (setT (plc ((notedS (sec d.la 0) n).1)) (pgB d.la 1))).2) (mrkG [])).2).p.armed), (.int .i64 ((wrsy ((wrsy d (setT (plc ((notedS (sec d.la 0) n).1)) (pgB d.la 1))).2) (mrkG [])).2).p.left), (.int .i64 ((wrsy ((wrsy d (setT (plc ((notedS (sec d.la 0) n).1)) (pgB d.la 1))).2) (mrkG [])).2).p.uses)] 101 (0, 0))], [Hp.one tb (.cells #[(.pointer (some ⟨db, 0, none⟩)), (.int .i64 n)] 98 (0, 0))], [Hp.one b27 (.cells #[(.int .i64 ((readP (pgB d.la 1)).2.1)), (.int .i64 ((readP (pgB d.la 1)).2.2.1)), v21] 36 (0, 0))], s22, R] := hX56.of_all3
              refine s_op (o_assign (v := (.int .i64 ((wrsy ((wrsy d (setT (plc ((notedS (sec d.la 0) n).1)) (pgB d.la 1))).2) (mrkG [])).1))) rfl ?_)
              refine s_nil ?_
              refine t_norm (hK53 _ _ ?_)
              refine wp_ret ?_
              refine c_ret1 Tryz.results59  (v := (.int .i64 ((wrsy ((wrsy d (setT (plc ((notedS (sec d.la 0) n).1)) (pgB d.la 1))).2) (mrkG [])).1))) rfl ?_
              have hH59 : Has E w58 [sg54, [Hp.one pb (.cells #[(.bool ((wrsy ((wrsy d (setT (plc ((notedS (sec d.la 0) n).1)) (pgB d.la 1))).2) (mrkG [])).2).p.off), (.bool ((wrsy ((wrsy d (setT (plc ((notedS (sec d.la 0) n).1)) (pgB d.la 1))).2) (mrkG [])).2).p.armed), (.int .i64 ((wrsy ((wrsy d (setT (plc ((notedS (sec d.la 0) n).1)) (pgB d.la 1))).2) (mrkG [])).2).p.left), (.int .i64 ((wrsy ((wrsy d (setT (plc ((notedS (sec d.la 0) n).1)) (pgB d.la 1))).2) (mrkG [])).2).p.uses)] 101 (0, 0))], [Hp.one tb (.cells #[(.pointer (some ⟨db, 0, none⟩)), (.int .i64 n)] 98 (0, 0))], R] := ((((hH57.front 5 rfl).front 3 rfl).front 3 rfl).front 3 rfl).first 4 rfl
              have hE_ : (mendR d n) = ((wrsy ((wrsy d (setT (plc ((notedS (sec d.la 0) n).1)) (pgB d.la 1))).2) (mrkG [])).1, (wrsy ((wrsy d (setT (plc ((notedS (sec d.la 0) n).1)) (pgB d.la 1))).2) (mrkG [])).2) := by rw [mend_go hon (Classical.not_not.1 h8) h10 ⟨by simpa using h33, (Classical.not_not.1 h36)⟩]; show runs d [setT (plc (notedS (sec d.la 0) n).1) (pgB d.la 1), mrkG []] = _; rw [runs_go (Classical.not_not.1 h50), runs_last]
              exact ⟨_, by rw [hE_], by rw [hE_]; exact hd55, by rw [hE_]; exact hH59⟩
end Go.Q
namespace Go.Q
open Go.Proofs
set_option linter.unusedVariables false
set_option maxRecDepth 100000
attribute [local irreducible] wpList OK Code.wp
set_option maxHeartbeats 4000000 in
theorem topen_ok {E w : World} {R sg : List Hp} {pb db : Nat} {d : Dv} (hH : Has E w [sg, [Hp.one pb (.cells #[(.bool d.p.off), (.bool d.p.armed), (.int .i64 d.p.left), (.int .i64 d.p.uses)] 101 (0, 0))], R]) (hd : DevAt pb sg db d.la d.lo) {n : Int} {k : Nat} (hf : Few d.p k) (hk : k ≤ 850000) (hlo : d.lo = []) (h4 : d.la.length ≤ 4096) (hn : 1 ≤ n ∧ n ≤ 64) (hln : 5 + n * 4 ≤ d.la.length) (hg : CellsAt R 1 0 nibV) (h64 : Full64 d.la) (hon : d.p.off = false) (hm : (mendR d n).1 = 0) :
    Calls Tryz.prog 21 #[(.pointer (some ⟨db, 0, none⟩)), (.int .i64 n)] w fun e w' => ∃ tb sg', e = .returned (.tuple #[.pointer (some ⟨tb, 0, none⟩), .int .i64 0]) ∧ DevAt pb sg' db (mendR d n).2.la (mendR d n).2.lo ∧ Has E w' [[Hp.one tb (.cells #[(.pointer (some ⟨db, 0, none⟩)), (.int .i64 n)] 98 (0, 0))], sg', [Hp.one pb (.cells #[(.bool ((mendR d n).2).p.off), (.bool ((mendR d n).2).p.armed), (.int .i64 ((mendR d n).2).p.left), (.int .i64 ((mendR d n).2).p.uses)] 101 (0, 0))], R] := by
  refine c_enter (args := [(.pointer (some ⟨db, 0, none⟩)), (.int .i64 n)]) Tryz.func21 rfl Tryz.ntmps21 (by simp) ?_
  refine wp_seq_k fun K1 hK1 => ?_
  refine c_region ?_
  refine s_op (o_assign (v := (.pointer none)) rfl ?_)
  refine s_op (o_assign (v := (.int .i64 0)) rfl ?_)
  refine s_nil ?_
  refine t_norm (hK1 _ _ ?_)
  refine wp_seq_k fun K2 hK2 => ?_
  refine wp_seq_k fun K3 hK3 => ?_
  refine c_region ?_
  refine s_op (o_move (v := (.pointer (some ⟨db, 0, none⟩))) rfl ?_)
  refine s_op (o_move (v := (.int .i64 n)) rfl ?_)
  refine s_op (o_callf (vs := #[(.pointer (some ⟨db, 0, none⟩)), (.int .i64 n)]) ca50 rfl (args2 rfl rfl) (begin_ok (d := d) ((hH.front 1 rfl).front 1 rfl).all2 hd (n := n) h4 hn hln hon) ?_)
  rintro _ w6 ⟨rfl, hX4⟩
  refine ⟨_, rfl, ?_⟩
  have hH5 : Has E w6 [sg, [Hp.one pb (.cells #[(.bool d.p.off), (.bool d.p.armed), (.int .i64 d.p.left), (.int .i64 d.p.uses)] 101 (0, 0))], R] := hX4.of_all2
  refine s_op (o_assign (v := (.int .i64 (0 : Int))) rfl ?_)
  refine s_nil ?_
  refine t_norm (hK3 _ _ ?_)
  refine wp_seq_k fun K7 hK7 => ?_
  refine c_region ?_
  refine s_op (o_move (v := (.int .i64 (0 : Int))) rfl ?_)
  refine s_op (o_neq (a := (0 : Int)) (b := 0) rfl rfl ?_)
  refine s_nil ?_
  refine t_norm (hK7 _ _ ?_)
  refine c_cond rfl (fun h8 => ?_) (fun h8 => ?_)
  · -- (0 : Int) ≠ 0
    exact absurd rfl h8
  · -- not: (0 : Int) ≠ 0
    refine wp_skip ?_
    refine t_norm (hK2 _ _ ?_)
    refine wp_seq_k fun K9 hK9 => ?_
    refine c_region ?_
    refine s_op (o_move (v := (.pointer (some ⟨db, 0, none⟩))) rfl ?_)
    refine s_op (o_move (v := (.int .i64 n)) rfl ?_)
    refine s_op (o_sight (v := (.agg #[(.pointer (some ⟨db, 0, none⟩)), (.int .i64 n)])) (fun _ => by kernel_rfl) ?_)
    refine s_op (o_box (cs := #[(.pointer (some ⟨db, 0, none⟩)), (.int .i64 n)]) rfl rfl hH5 fun b10 w11 hH12 => ?_)
    refine s_op (o_assign (v := (.pointer (some ⟨b10, 0, none⟩))) rfl ?_)
    refine s_nil ?_
    refine t_norm (hK9 _ _ ?_)
    refine wp_seq_k fun K13 hK13 => ?_
    refine wp_seq_k fun K14 hK14 => ?_
    refine c_region ?_
    refine s_op (o_move (v := (.pointer (some ⟨b10, 0, none⟩))) rfl ?_)
    refine s_op (o_callf (vs := #[(.pointer (some ⟨b10, 0, none⟩))]) ca59 rfl (args1 rfl) (tmend_on (d := d) (n := n) ((hH12.front 2 rfl).front 2 rfl).all3 hd hf (by omega) hlo h4 hon h64 (hg.mono (seg_sub 0 rfl)) hn hln) ?_)
    rintro _ w19 ⟨sg15, rfl, hd16, hX17⟩
    refine ⟨_, rfl, ?_⟩
    have hH18 : Has E w19 [sg15, [Hp.one pb (.cells #[(.bool ((mendR d n).2).p.off), (.bool ((mendR d n).2).p.armed), (.int .i64 ((mendR d n).2).p.left), (.int .i64 ((mendR d n).2).p.uses)] 101 (0, 0))], [Hp.one b10 (.cells #[(.pointer (some ⟨db, 0, none⟩)), (.int .i64 n)] 98 (0, 0))], R] := hX17.of_all3
    refine s_op (o_assign (v := (.int .i64 ((mendR d n).1))) rfl ?_)
    refine s_nil ?_
    refine t_norm (hK14 _ _ ?_)
    refine wp_seq_k fun K20 hK20 => ?_
    refine c_region ?_
    refine s_op (o_move (v := (.int .i64 ((mendR d n).1))) rfl ?_)
    refine s_op (o_neq (a := (mendR d n).1) (b := 0) rfl rfl ?_)
    refine s_nil ?_
    refine t_norm (hK20 _ _ ?_)
    refine c_cond rfl (fun h21 => ?_) (fun h21 => ?_)
    · -- (mendR d n).1 ≠ 0
      exact absurd hm h21
    · -- not: (mendR d n).1 ≠ 0
      refine wp_skip ?_
      refine t_norm (hK13 _ _ ?_)
      refine wp_seq_k fun K22 hK22 => ?_
      refine c_region ?_
      refine s_op (o_move (v := (.pointer (some ⟨b10, 0, none⟩))) rfl ?_)
      refine s_op (o_assign (v := (.pointer (some ⟨b10, 0, none⟩))) rfl ?_)
      refine s_op (o_assign (v := (.int .i64 0)) rfl ?_)
      refine s_nil ?_
      refine t_norm (hK22 _ _ ?_)
      refine wp_ret ?_
      refine c_ret2 Tryz.results21  (v := (.pointer (some ⟨b10, 0, none⟩))) rfl (x := (.int .i64 0)) rfl ?_
      have hH23 : Has E w19 [[Hp.one b10 (.cells #[(.pointer (some ⟨db, 0, none⟩)), (.int .i64 n)] 98 (0, 0))], sg15, [Hp.one pb (.cells #[(.bool ((mendR d n).2).p.off), (.bool ((mendR d n).2).p.armed), (.int .i64 ((mendR d n).2).p.left), (.int .i64 ((mendR d n).2).p.uses)] 101 (0, 0))], R] := ((((hH18.front 3 rfl).front 2 rfl).front 2 rfl).front 3 rfl).first 4 rfl
      exact ⟨_, _, rfl, hd16, hH23⟩
set_option maxHeartbeats 4000000 in
theorem topen_off {E w : World} {R sg : List Hp} {pb db : Nat} {d : Dv} (hH : Has E w [sg, [Hp.one pb (.cells #[(.bool d.p.off), (.bool d.p.armed), (.int .i64 d.p.left), (.int .i64 d.p.uses)] 101 (0, 0))], R]) (hd : DevAt pb sg db d.la d.lo) {n : Int} {k : Nat} (hf : Few d.p k) (hk : k ≤ 850000) (hlo : d.lo = []) (h4 : d.la.length ≤ 4096) (hn : 1 ≤ n ∧ n ≤ 64) (hln : 5 + n * 4 ≤ d.la.length) (hg : CellsAt R 1 0 nibV) (h64 : Full64 d.la) (hoff : d.p.off = true) :
    Calls Tryz.prog 21 #[(.pointer (some ⟨db, 0, none⟩)), (.int .i64 n)] w fun e w' => e = .returned (.tuple #[.pointer none, .int .i64 6]) ∧ Has E w' [sg, [Hp.one pb (.cells #[(.bool d.p.off), (.bool d.p.armed), (.int .i64 d.p.left), (.int .i64 d.p.uses)] 101 (0, 0))], R] := by
  refine c_enter (args := [(.pointer (some ⟨db, 0, none⟩)), (.int .i64 n)]) Tryz.func21 rfl Tryz.ntmps21 (by simp) ?_
  refine wp_seq_k fun K1 hK1 => ?_
  refine c_region ?_
  refine s_op (o_assign (v := (.pointer none)) rfl ?_)
  refine s_op (o_assign (v := (.int .i64 0)) rfl ?_)
  refine s_nil ?_
  refine t_norm (hK1 _ _ ?_)
  refine wp_seq_k fun K2 hK2 => ?_
  refine wp_seq_k fun K3 hK3 => ?_
  refine c_region ?_
  refine s_op (o_move (v := (.pointer (some ⟨db, 0, none⟩))) rfl ?_)
  refine s_op (o_move (v := (.int .i64 n)) rfl ?_)
  refine s_op (o_callf (vs := #[(.pointer (some ⟨db, 0, none⟩)), (.int .i64 n)]) ca50 rfl (args2 rfl rfl) (begin_off (d := d) ((hH.front 1 rfl).front 1 rfl).all2 hd (n := n) h4 hn hln hoff) ?_)
  rintro _ w6 ⟨rfl, hX4⟩
  refine ⟨_, rfl, ?_⟩
  have hH5 : Has E w6 [sg, [Hp.one pb (.cells #[(.bool d.p.off), (.bool d.p.armed), (.int .i64 d.p.left), (.int .i64 d.p.uses)] 101 (0, 0))], R] := hX4.of_all2
  refine s_op (o_assign (v := (.int .i64 (6 : Int))) rfl ?_)
  refine s_nil ?_
  refine t_norm (hK3 _ _ ?_)
  refine wp_seq_k fun K7 hK7 => ?_
  refine c_region ?_
  refine s_op (o_move (v := (.int .i64 (6 : Int))) rfl ?_)
  refine s_op (o_neq (a := (6 : Int)) (b := 0) rfl rfl ?_)
  refine s_nil ?_
  refine t_norm (hK7 _ _ ?_)
  refine c_cond rfl (fun h8 => ?_) (fun h8 => ?_)
  · -- (6 : Int) ≠ 0
    refine wp_seq_k fun K9 hK9 => ?_
    refine c_region ?_
    refine s_op (o_move (v := (.int .i64 (6 : Int))) rfl ?_)
    refine s_op (o_assign (v := (.pointer none)) rfl ?_)
    refine s_op (o_assign (v := (.int .i64 (6 : Int))) rfl ?_)
    refine s_nil ?_
    refine t_norm (hK9 _ _ ?_)
    refine wp_ret ?_
    refine t_ret (c_ret2 Tryz.results21  (v := (.pointer none)) rfl (x := (.int .i64 (6 : Int))) rfl ?_)
    exact ⟨rfl, hH5⟩
  · -- not: (6 : Int) ≠ 0
    exact absurd (by decide) h8
set_option maxHeartbeats 4000000 in
theorem topen_nil {E w : World} {R : List Hp} (hH : Has E w [R]) {n : Int} (hn : 1 ≤ n ∧ n ≤ 64) :
    Calls Tryz.prog 21 #[(.pointer none), (.int .i64 n)] w fun e w' => e = .returned (.tuple #[.pointer none, .int .i64 1]) ∧ Has E w' [R] := by
  refine c_enter (args := [(.pointer none), (.int .i64 n)]) Tryz.func21 rfl Tryz.ntmps21 (by simp) ?_
  refine wp_seq_k fun K1 hK1 => ?_
  refine c_region ?_
  refine s_op (o_assign (v := (.pointer none)) rfl ?_)
  refine s_op (o_assign (v := (.int .i64 0)) rfl ?_)
  refine s_nil ?_
  refine t_norm (hK1 _ _ ?_)
  refine wp_seq_k fun K2 hK2 => ?_
  refine wp_seq_k fun K3 hK3 => ?_
  refine c_region ?_
  refine s_op (o_move (v := (.pointer none)) rfl ?_)
  refine s_op (o_move (v := (.int .i64 n)) rfl ?_)
  refine s_op (o_callf (vs := #[(.pointer none), (.int .i64 n)]) ca50 rfl (args2 rfl rfl) (begin_nil hH.all (n := n) (by omega)) ?_)
  rintro _ w6 ⟨rfl, hX4⟩
  refine ⟨_, rfl, ?_⟩
  have hH5 := hX4.of_all
  refine s_op (o_assign (v := (.int .i64 (1 : Int))) rfl ?_)
  refine s_nil ?_
  refine t_norm (hK3 _ _ ?_)
  refine wp_seq_k fun K7 hK7 => ?_
  refine c_region ?_
  refine s_op (o_move (v := (.int .i64 (1 : Int))) rfl ?_)
  refine s_op (o_neq (a := (1 : Int)) (b := 0) rfl rfl ?_)
  refine s_nil ?_
  refine t_norm (hK7 _ _ ?_)
  refine c_cond rfl (fun h8 => ?_) (fun h8 => ?_)
  · -- (1 : Int) ≠ 0
    refine wp_seq_k fun K9 hK9 => ?_
    refine c_region ?_
    refine s_op (o_move (v := (.int .i64 (1 : Int))) rfl ?_)
    refine s_op (o_assign (v := (.pointer none)) rfl ?_)
    refine s_op (o_assign (v := (.int .i64 (1 : Int))) rfl ?_)
    refine s_nil ?_
    refine t_norm (hK9 _ _ ?_)
    refine wp_ret ?_
    refine t_ret (c_ret2 Tryz.results21  (v := (.pointer none)) rfl (x := (.int .i64 (1 : Int))) rfl ?_)
    exact ⟨rfl, hH5⟩
  · -- not: (1 : Int) ≠ 0
    exact absurd (by decide) h8
end Go.Q
namespace Go.Q
open Go.Proofs
set_option linter.unusedVariables false
set_option maxRecDepth 100000
attribute [local irreducible] wpList OK Code.wp
set_option maxHeartbeats 4000000 in
theorem tpage_on {E w : World} {R sg : List Hp} {pb db tb : Nat} {d : Dv} {n : Int} (hH : Has E w [sg, [Hp.one pb (.cells #[(.bool d.p.off), (.bool d.p.armed), (.int .i64 d.p.left), (.int .i64 d.p.uses)] 101 (0, 0))], [Hp.one tb (.cells #[(.pointer (some ⟨db, 0, none⟩)), (.int .i64 n)] 98 (0, 0))], R]) (hd : DevAt pb sg db d.la d.lo) (hlo : d.lo = []) (hon : d.p.off = false) (h64 : Full64 d.la) (h4 : d.la.length ≤ 4096) (hn : 1 ≤ n ∧ n ≤ 64) (hln : 5 + n * 4 ≤ d.la.length) (hg : CellsAt R 1 0 nibV) {x : Int} (hx : 0 ≤ x ∧ x < n) :
    Calls Tryz.prog 24 #[(.pointer (some ⟨tb, 0, none⟩)), (.int .i64 x)] w fun e w' => ∃ v hs, e = .returned (.tuple #[.agg #[.int .i64 (pgOf (pgB d.la (plc x)) x).1.1, .int .i64 (pgOf (pgB d.la (plc x)) x).1.2.1, v], .int .i64 (pgOf (pgB d.la (plc x)) x).2]) ∧ Own 70 2 v (pgOf (pgB d.la (plc x)) x).1.2.2.length ((pgOf (pgB d.la (plc x)) x).1.2.2.flatMap ceC) hs ∧ Has E w' [hs, sg, [Hp.one pb (.cells #[(.bool d.p.off), (.bool d.p.armed), (.int .i64 d.p.left), (.int .i64 d.p.uses)] 101 (0, 0))], [Hp.one tb (.cells #[(.pointer (some ⟨db, 0, none⟩)), (.int .i64 n)] 98 (0, 0))], R] := by
  have hBl_ := pgB_len h64 (x := plc x) (by unfold plc; omega) (by unfold plc; omega)
  refine c_enter (args := [(.pointer (some ⟨tb, 0, none⟩)), (.int .i64 x)]) Tryz.func24 rfl Tryz.ntmps24 (by simp) ?_
  refine wp_seq_k fun K1 hK1 => ?_
  refine c_region ?_
  refine s_op (o_alloc (cs := #[(.int .i64 0), (.int .i64 0), (.slice none 0 0)]) ti36 rfl hH fun b2 w3 hH4 => ?_)
  refine s_op (o_assign (v := (.int .i64 0)) rfl ?_)
  refine s_nil ?_
  refine t_norm (hK1 _ _ ?_)
  refine wp_seq_k fun K5 hK5 => ?_
  refine wp_block ?_
  refine wp_seq_k fun K6 hK6 => ?_
  refine c_region ?_
  refine s_op (o_move (v := (.pointer (some ⟨tb, 0, none⟩))) rfl ?_)
  refine s_op (o_pnil (p := some _) Tryz.underlying25 rfl rfl ?_)
  refine s_op (o_assign (v := (.bool false)) rfl ?_)
  refine s_nil ?_
  refine t_norm (hK6 _ _ ?_)
  refine c_false rfl rfl ?_
  refine wp_seq_k fun K7 hK7 => ?_
  refine c_region ?_
  refine s_op (o_move (v := (.int .i64 x)) rfl ?_)
  refine s_op (o_lss (a := x) (b := 0) rfl rfl ?_)
  refine s_op (o_move (v := (.bool (decide (x < 0)))) rfl ?_)
  by_cases h8 : x < 0
  · -- x < 0
    exfalso; omega
  · -- not: x < 0
    refine s_on 17 rfl (congrArg Value.bool (decide_eq_false h8)) (o_move (v := (.int .i64 x)) rfl ?_)
    refine s_on 17 rfl (congrArg Value.bool (decide_eq_false h8)) (o_move (v := (.pointer (some ⟨tb, 0, none⟩))) rfl ?_)
    refine s_on 17 rfl (congrArg Value.bool (decide_eq_false h8)) (o_nilCheck rfl ?_)
    refine s_on 17 rfl (congrArg Value.bool (decide_eq_false h8)) (o_fieldAddr (k := 1) (fun _ => by kernel_rfl) rfl ?_)
    refine s_on 17 rfl (congrArg Value.bool (decide_eq_false h8)) (o_load1 (v := (.int .i64 n)) Tryz.underlying3 rfl rfl hH4 (seg_sub 3 rfl) (CellsAt.one rfl) ?_)
    refine s_on 17 rfl (congrArg Value.bool (decide_eq_false h8)) (o_geq (a := x) (b := n) rfl rfl ?_)
    refine s_op (o_pick_f (u := (.bool (decide (n ≤ x)))) ((rfl : _ = _).trans (congrArg Value.bool (decide_eq_false h8))) rfl ?_)
    refine s_op (o_assign (v := (.bool (decide (n ≤ x)))) rfl ?_)
    refine s_nil ?_
    refine t_norm (hK7 _ _ ?_)
    refine c_cond rfl (fun h9 => ?_) (fun h9 => ?_)
    · -- n ≤ x
      exfalso; omega
    · -- not: n ≤ x
      refine wp_skip ?_
      refine b_norm ?_
      refine t_norm (hK5 _ _ ?_)
      refine wp_seq_k fun K10 hK10 => ?_
      refine c_region ?_
      refine s_op (o_move (v := (.pointer (some ⟨tb, 0, none⟩))) rfl ?_)
      refine s_op (o_move (v := (.int .i64 x)) rfl ?_)
      refine s_op (o_callf (vs := #[(.int .i64 x)]) ca64 rfl (args1 rfl) (place_c hH4.all (x := x) ⟨by omega, by omega⟩) ?_)
      rintro _ w13 ⟨rfl, hX11⟩
      refine ⟨_, rfl, ?_⟩
      have hH12 := hX11.of_all
      refine s_op (o_callf (vs := #[(.pointer (some ⟨tb, 0, none⟩)), (.int .i64 (plc x))]) ca63 rfl (args2 rfl rfl) (tget_on (d := d) (n := n) (((hH12.front 3 rfl).front 3 rfl).front 3 rfl).all3 hd hlo hon h64 (x := plc x) (by unfold plc; exact ⟨by omega, by omega⟩) h4) ?_)
      rintro _ w16 ⟨rfl, hX14⟩
      refine ⟨_, rfl, ?_⟩
      have hH15 : Has E w16 [sg, [Hp.one pb (.cells #[(.bool d.p.off), (.bool d.p.armed), (.int .i64 d.p.left), (.int .i64 d.p.uses)] 101 (0, 0))], [Hp.one tb (.cells #[(.pointer (some ⟨db, 0, none⟩)), (.int .i64 n)] 98 (0, 0))], [Hp.one b2 (.cells #[(.int .i64 0), (.int .i64 0), (.slice none 0 0)] 36 (0, 0))], R] := hX14.of_all3
      refine s_op (o_move (v := (.tuple #[(S (pgB d.la (plc x))), (.int .i64 (0 : Int))])) rfl ?_)
      refine s_op (o_extract (v := (S (pgB d.la (plc x)))) rfl rfl ?_)
      refine s_op (o_extract (v := (.int .i64 (0 : Int))) rfl rfl ?_)
      refine s_op (o_assign (v := (S (pgB d.la (plc x)))) rfl ?_)
      refine s_op (o_assign (v := (.int .i64 (0 : Int))) rfl ?_)
      refine s_nil ?_
      refine t_norm (hK10 _ _ ?_)
      refine wp_seq_k fun K17 hK17 => ?_
      refine wp_seq_k fun K18 hK18 => ?_
      refine c_region ?_
      refine s_op (o_move (v := (.int .i64 (0 : Int))) rfl ?_)
      refine s_op (o_neq (a := (0 : Int)) (b := 0) rfl rfl ?_)
      refine s_nil ?_
      refine t_norm (hK18 _ _ ?_)
      refine c_cond rfl (fun h19 => ?_) (fun h19 => ?_)
      · -- (0 : Int) ≠ 0
        exact absurd rfl h19
      · -- not: (0 : Int) ≠ 0
        refine wp_skip ?_
        refine t_norm (hK17 _ _ ?_)
        refine wp_seq_k fun K20 hK20 => ?_
        refine wp_seq_k fun K21 hK21 => ?_
        refine c_region ?_
        refine s_op (o_move (v := (S (pgB d.la (plc x)))) rfl ?_)
        refine s_op (o_callf (vs := #[(S (pgB d.la (plc x)))]) ca65 rfl (args1 rfl) (tblank_c hH15.all (pgB d.la (plc x)) (by omega)) ?_)
        rintro _ w24 ⟨rfl, hX22⟩
        refine ⟨_, rfl, ?_⟩
        have hH23 := hX22.of_all
        refine s_nil ?_
        refine t_norm (hK21 _ _ ?_)
        refine c_cond rfl (fun h25 => ?_) (fun h25 => ?_)
        · -- (pgB d.la (plc x)) = zer (pgB d.la (plc x)).length
          refine wp_seq_k fun K26 hK26 => ?_
          refine c_region ?_
          refine s_op (o_move (v := (.int .i64 x)) rfl ?_)
          refine s_op (o_sight (v := (.agg #[(.int .i64 x), (.int .i64 0), (.slice none 0 0)])) (fun _ => by kernel_rfl) ?_)
          refine s_eff (o_storeN (vs := [(.int .i64 x), (.int .i64 0), (.slice none 0 0)]) (c' := #[(.int .i64 x), (.int .i64 0), (.slice none 0 0)]) ti36 rfl rfl rfl rfl (by intro u hu; simp only [List.mem_cons, List.not_mem_nil, or_false] at hu; rcases hu with rfl | rfl | rfl <;> first | rfl) (by simp) (by kernel_rfl) (hH23.front 3 rfl) fun w27 hH28 => ?_)
          refine s_op (o_assign (v := (.int .i64 0)) rfl ?_)
          refine s_nil ?_
          refine t_norm (hK26 _ _ ?_)
          refine wp_ret ?_
          refine t_ret (c_retC2 Tryz.results24 rfl (run_loadVarN (cs := [(.int .i64 x), (.int .i64 0), (.slice none 0 0)]) Tryz.underlying36 rfl ti36 hH28 (seg_sub 0 rfl) (CellsAt.one rfl)) (x := (.int .i64 0)) rfl ?_)
          have hH29 : Has E w27 [[], sg, [Hp.one pb (.cells #[(.bool d.p.off), (.bool d.p.armed), (.int .i64 d.p.left), (.int .i64 d.p.uses)] 101 (0, 0))], [Hp.one tb (.cells #[(.pointer (some ⟨db, 0, none⟩)), (.int .i64 n)] 98 (0, 0))], R] := (Has.nil ((((hH28.front 4 rfl).front 4 rfl).front 4 rfl).front 4 rfl)).first 5 rfl
          have hE_ : (pgOf (pgB d.la (plc x)) x) = _ := pg_blank h25 hBl_
          exact ⟨_, _, by rw [hE_], by rw [hE_]; exact (Own.nil 70 2), hH29⟩
        · -- not: (pgB d.la (plc x)) = zer (pgB d.la (plc x)).length
          refine wp_skip ?_
          refine t_norm (hK20 _ _ ?_)
          refine wp_seq_k fun K30 hK30 => ?_
          refine c_region ?_
          refine s_op (o_move (v := (S (pgB d.la (plc x)))) rfl ?_)
          refine s_op (o_callf (vs := #[(S (pgB d.la (plc x)))]) ca66 rfl (args1 rfl) (pread_c (s := (pgB d.la (plc x))) hH23.all (hg.mono (seg_sub 4 rfl))) ?_)
          rintro _ w36 ⟨v31, s32, rfl, ho33, hX34⟩
          refine ⟨_, rfl, ?_⟩
          have hH35 : Has E w36 [s32, sg, [Hp.one pb (.cells #[(.bool d.p.off), (.bool d.p.armed), (.int .i64 d.p.left), (.int .i64 d.p.uses)] 101 (0, 0))], [Hp.one tb (.cells #[(.pointer (some ⟨db, 0, none⟩)), (.int .i64 n)] 98 (0, 0))], [Hp.one b2 (.cells #[(.int .i64 0), (.int .i64 0), (.slice none 0 0)] 36 (0, 0))], R] := hX34.of_all1
          refine s_op (o_move (v := (.tuple #[(.agg #[(.int .i64 ((readP (pgB d.la (plc x))).2.1)), (.int .i64 ((readP (pgB d.la (plc x))).2.2.1)), v31]), (.bool ((readP (pgB d.la (plc x))).1))])) rfl ?_)
          refine s_op (o_extract (v := (.agg #[(.int .i64 ((readP (pgB d.la (plc x))).2.1)), (.int .i64 ((readP (pgB d.la (plc x))).2.2.1)), v31])) rfl rfl ?_)
          refine s_op (o_extract (v := (.bool ((readP (pgB d.la (plc x))).1))) rfl rfl ?_)
          refine s_op (o_alloc (cs := #[(.int .i64 0), (.int .i64 0), (.slice none 0 0)]) ti36 rfl hH35 fun b37 w38 hH39 => ?_)
          refine s_eff (o_storeN (vs := [(.int .i64 ((readP (pgB d.la (plc x))).2.1)), (.int .i64 ((readP (pgB d.la (plc x))).2.2.1)), v31]) (c' := #[(.int .i64 ((readP (pgB d.la (plc x))).2.1)), (.int .i64 ((readP (pgB d.la (plc x))).2.2.1)), v31]) ti36 rfl rfl rfl rfl (by intro u hu; simp only [List.mem_cons, List.not_mem_nil, or_false] at hu; rcases hu with rfl | rfl | rfl <;> first | rfl | exact ho33.one) (by simp) (by kernel_rfl) (hH39.front 0 rfl) fun w40 hH41 => ?_)
          refine s_op (o_assign (v := (.bool ((readP (pgB d.la (plc x))).1))) rfl ?_)
          refine s_nil ?_
          refine t_norm (hK30 _ _ ?_)
          refine wp_seq_k fun K42 hK42 => ?_
          refine wp_seq_k fun K43 hK43 => ?_
          refine c_region ?_
          refine s_op (o_move (v := (.bool ((readP (pgB d.la (plc x))).1))) rfl ?_)
          refine s_op (o_not rfl ?_)
          refine s_op (o_move (v := (.bool (!((readP (pgB d.la (plc x))).1)))) rfl ?_)
          rcases Bool.eq_false_or_eq_true (!((readP (pgB d.la (plc x))).1)) with h44 | h44
          · -- !((readP (pgB d.la (plc x))).1)
            have h44_n : ((readP (pgB d.la (plc x))).1) = false := by simpa using h44
            refine s_off (b' := true) 48 rfl (congrArg Value.bool h44) rfl ?_
            refine s_off (b' := true) 48 rfl (congrArg Value.bool h44) rfl ?_
            refine s_off (b' := true) 48 rfl (congrArg Value.bool h44) rfl ?_
            refine s_off (b' := true) 48 rfl (congrArg Value.bool h44) rfl ?_
            refine s_op (o_pick_t (u := (.bool true)) ((rfl : _ = _).trans (congrArg Value.bool h44)) rfl ?_)
            refine s_nil ?_
            refine t_norm (hK43 _ _ ?_)
            refine c_true rfl rfl ?_
            refine wp_seq_k fun K45 hK45 => ?_
            refine c_region ?_
            refine s_op (o_sight (v := (.agg #[(.int .i64 0), (.int .i64 0), (.slice none 0 0)])) (fun _ => by kernel_rfl) ?_)
            refine s_eff (o_storeN (vs := [(.int .i64 0), (.int .i64 0), (.slice none 0 0)]) (c' := #[(.int .i64 0), (.int .i64 0), (.slice none 0 0)]) ti36 rfl rfl rfl rfl (by intro u hu; simp only [List.mem_cons, List.not_mem_nil, or_false] at hu; rcases hu with rfl | rfl | rfl <;> first | rfl) (by simp) (by kernel_rfl) (hH41.front 5 rfl) fun w46 hH47 => ?_)
            refine s_op (o_assign (v := (.int .i64 9)) rfl ?_)
            refine s_nil ?_
            refine t_norm (hK45 _ _ ?_)
            refine wp_ret ?_
            refine t_ret (c_retC2 Tryz.results24 rfl (run_loadVarN (cs := [(.int .i64 0), (.int .i64 0), (.slice none 0 0)]) Tryz.underlying36 rfl ti36 hH47 (seg_sub 0 rfl) (CellsAt.one rfl)) (x := (.int .i64 9)) rfl ?_)
            have hH48 : Has E w46 [[], sg, [Hp.one pb (.cells #[(.bool d.p.off), (.bool d.p.armed), (.int .i64 d.p.left), (.int .i64 d.p.uses)] 101 (0, 0))], [Hp.one tb (.cells #[(.pointer (some ⟨db, 0, none⟩)), (.int .i64 n)] 98 (0, 0))], R] := (Has.nil ((((hH47.front 6 rfl).front 6 rfl).front 6 rfl).front 6 rfl)).first 5 rfl
            have hE_ : (pgOf (pgB d.la (plc x)) x) = _ := pg_bad h25 hBl_ (fun k => by first | exact absurd k.1 (by simpa using h44))
            exact ⟨_, _, by rw [hE_], by rw [hE_]; exact (Own.nil 70 2), hH48⟩
          · -- not: !((readP (pgB d.la (plc x))).1)
            have h44_n : ((readP (pgB d.la (plc x))).1) = true := by simpa using h44
            refine s_on 48 rfl (congrArg Value.bool h44) (o_fieldAddr (k := 0) (fun _ => by kernel_rfl) rfl ?_)
            refine s_on 48 rfl (congrArg Value.bool h44) (o_load1 (v := (.int .i64 ((readP (pgB d.la (plc x))).2.1))) Tryz.underlying3 rfl rfl hH41 (seg_sub 0 rfl) (CellsAt.one rfl) ?_)
            refine s_on 48 rfl (congrArg Value.bool h44) (o_move (v := (.int .i64 x)) rfl ?_)
            refine s_on 48 rfl (congrArg Value.bool h44) (o_neq (a := (readP (pgB d.la (plc x))).2.1) (b := x) rfl rfl ?_)
            refine s_op (o_pick_f (u := (.bool (decide ((readP (pgB d.la (plc x))).2.1 ≠ x)))) ((rfl : _ = _).trans (congrArg Value.bool h44)) rfl ?_)
            refine s_nil ?_
            refine t_norm (hK43 _ _ ?_)
            refine c_cond rfl (fun h49 => ?_) (fun h49 => ?_)
            · -- (readP (pgB d.la (plc x))).2.1 ≠ x
              refine wp_seq_k fun K50 hK50 => ?_
              refine c_region ?_
              refine s_op (o_sight (v := (.agg #[(.int .i64 0), (.int .i64 0), (.slice none 0 0)])) (fun _ => by kernel_rfl) ?_)
              refine s_eff (o_storeN (vs := [(.int .i64 0), (.int .i64 0), (.slice none 0 0)]) (c' := #[(.int .i64 0), (.int .i64 0), (.slice none 0 0)]) ti36 rfl rfl rfl rfl (by intro u hu; simp only [List.mem_cons, List.not_mem_nil, or_false] at hu; rcases hu with rfl | rfl | rfl <;> first | rfl) (by simp) (by kernel_rfl) (hH41.front 5 rfl) fun w51 hH52 => ?_)
              refine s_op (o_assign (v := (.int .i64 9)) rfl ?_)
              refine s_nil ?_
              refine t_norm (hK50 _ _ ?_)
              refine wp_ret ?_
              refine t_ret (c_retC2 Tryz.results24 rfl (run_loadVarN (cs := [(.int .i64 0), (.int .i64 0), (.slice none 0 0)]) Tryz.underlying36 rfl ti36 hH52 (seg_sub 0 rfl) (CellsAt.one rfl)) (x := (.int .i64 9)) rfl ?_)
              have hH53 : Has E w51 [[], sg, [Hp.one pb (.cells #[(.bool d.p.off), (.bool d.p.armed), (.int .i64 d.p.left), (.int .i64 d.p.uses)] 101 (0, 0))], [Hp.one tb (.cells #[(.pointer (some ⟨db, 0, none⟩)), (.int .i64 n)] 98 (0, 0))], R] := (Has.nil ((((hH52.front 6 rfl).front 6 rfl).front 6 rfl).front 6 rfl)).first 5 rfl
              have hE_ : (pgOf (pgB d.la (plc x)) x) = _ := pg_bad h25 hBl_ (fun k => by first | exact absurd k.1 (by simpa using h44) | exact h49 k.2)
              exact ⟨_, _, by rw [hE_], by rw [hE_]; exact (Own.nil 70 2), hH53⟩
            · -- not: (readP (pgB d.la (plc x))).2.1 ≠ x
              refine wp_skip ?_
              refine t_norm (hK42 _ _ ?_)
              refine wp_seq_k fun K54 hK54 => ?_
              refine c_region ?_
              refine s_op (o_loadN (cs := [(.int .i64 ((readP (pgB d.la (plc x))).2.1)), (.int .i64 ((readP (pgB d.la (plc x))).2.2.1)), v31]) Tryz.underlying36 rfl ti36 rfl hH41 (seg_sub 0 rfl) (CellsAt.one rfl) ?_)
              refine s_eff (o_storeN (vs := [(.int .i64 ((readP (pgB d.la (plc x))).2.1)), (.int .i64 ((readP (pgB d.la (plc x))).2.2.1)), v31]) (c' := #[(.int .i64 ((readP (pgB d.la (plc x))).2.1)), (.int .i64 ((readP (pgB d.la (plc x))).2.2.1)), v31]) ti36 rfl rfl rfl rfl (by intro u hu; simp only [List.mem_cons, List.not_mem_nil, or_false] at hu; rcases hu with rfl | rfl | rfl <;> first | rfl | exact ho33.one) (by simp) (by kernel_rfl) (hH41.front 5 rfl) fun w55 hH56 => ?_)
              refine s_op (o_assign (v := (.int .i64 0)) rfl ?_)
              refine s_nil ?_
              refine t_norm (hK54 _ _ ?_)
              refine wp_ret ?_
              refine c_retC2 Tryz.results24 rfl (run_loadVarN (cs := [(.int .i64 ((readP (pgB d.la (plc x))).2.1)), (.int .i64 ((readP (pgB d.la (plc x))).2.2.1)), v31]) Tryz.underlying36 rfl ti36 hH56 (seg_sub 0 rfl) (CellsAt.one rfl)) (x := (.int .i64 0)) rfl ?_
              have hH57 : Has E w55 [s32, sg, [Hp.one pb (.cells #[(.bool d.p.off), (.bool d.p.armed), (.int .i64 d.p.left), (.int .i64 d.p.uses)] 101 (0, 0))], [Hp.one tb (.cells #[(.pointer (some ⟨db, 0, none⟩)), (.int .i64 n)] 98 (0, 0))], R] := (((((hH56.front 6 rfl).front 6 rfl).front 6 rfl).front 6 rfl).front 6 rfl).first 5 rfl
              have hE_ : (pgOf (pgB d.la (plc x)) x) = _ := pg_read h25 hBl_ (by simpa using h44) (Classical.not_not.1 h49)
              exact ⟨_, _, by rw [hE_], by rw [hE_]; exact ho33, hH57⟩
set_option maxHeartbeats 4000000 in
theorem tpage_off {E w : World} {R sg : List Hp} {pb db tb : Nat} {d : Dv} {n : Int} (hH : Has E w [sg, [Hp.one pb (.cells #[(.bool d.p.off), (.bool d.p.armed), (.int .i64 d.p.left), (.int .i64 d.p.uses)] 101 (0, 0))], [Hp.one tb (.cells #[(.pointer (some ⟨db, 0, none⟩)), (.int .i64 n)] 98 (0, 0))], R]) (hd : DevAt pb sg db d.la d.lo) (hoff : d.p.off = true) {x : Int} (hn : n ≤ 64) (hx : 0 ≤ x ∧ x < n) :
    Calls Tryz.prog 24 #[(.pointer (some ⟨tb, 0, none⟩)), (.int .i64 x)] w fun e w' => e = .returned (.tuple #[.agg #[.int .i64 0, .int .i64 0, .slice none 0 0], .int .i64 6]) ∧ Has E w' [sg, [Hp.one pb (.cells #[(.bool d.p.off), (.bool d.p.armed), (.int .i64 d.p.left), (.int .i64 d.p.uses)] 101 (0, 0))], [Hp.one tb (.cells #[(.pointer (some ⟨db, 0, none⟩)), (.int .i64 n)] 98 (0, 0))], R] := by
  have hpl_ : 0 ≤ plc x ∧ plc x ≤ 4096 := by unfold plc; omega
  refine c_enter (args := [(.pointer (some ⟨tb, 0, none⟩)), (.int .i64 x)]) Tryz.func24 rfl Tryz.ntmps24 (by simp) ?_
  refine wp_seq_k fun K1 hK1 => ?_
  refine c_region ?_
  refine s_op (o_alloc (cs := #[(.int .i64 0), (.int .i64 0), (.slice none 0 0)]) ti36 rfl hH fun b2 w3 hH4 => ?_)
  refine s_op (o_assign (v := (.int .i64 0)) rfl ?_)
  refine s_nil ?_
  refine t_norm (hK1 _ _ ?_)
  refine wp_seq_k fun K5 hK5 => ?_
  refine wp_block ?_
  refine wp_seq_k fun K6 hK6 => ?_
  refine c_region ?_
  refine s_op (o_move (v := (.pointer (some ⟨tb, 0, none⟩))) rfl ?_)
  refine s_op (o_pnil (p := some _) Tryz.underlying25 rfl rfl ?_)
  refine s_op (o_assign (v := (.bool false)) rfl ?_)
  refine s_nil ?_
  refine t_norm (hK6 _ _ ?_)
  refine c_false rfl rfl ?_
  refine wp_seq_k fun K7 hK7 => ?_
  refine c_region ?_
  refine s_op (o_move (v := (.int .i64 x)) rfl ?_)
  refine s_op (o_lss (a := x) (b := 0) rfl rfl ?_)
  refine s_op (o_move (v := (.bool (decide (x < 0)))) rfl ?_)
  by_cases h8 : x < 0
  · -- x < 0
    exfalso; omega
  · -- not: x < 0
    refine s_on 17 rfl (congrArg Value.bool (decide_eq_false h8)) (o_move (v := (.int .i64 x)) rfl ?_)
    refine s_on 17 rfl (congrArg Value.bool (decide_eq_false h8)) (o_move (v := (.pointer (some ⟨tb, 0, none⟩))) rfl ?_)
    refine s_on 17 rfl (congrArg Value.bool (decide_eq_false h8)) (o_nilCheck rfl ?_)
    refine s_on 17 rfl (congrArg Value.bool (decide_eq_false h8)) (o_fieldAddr (k := 1) (fun _ => by kernel_rfl) rfl ?_)
    refine s_on 17 rfl (congrArg Value.bool (decide_eq_false h8)) (o_load1 (v := (.int .i64 n)) Tryz.underlying3 rfl rfl hH4 (seg_sub 3 rfl) (CellsAt.one rfl) ?_)
    refine s_on 17 rfl (congrArg Value.bool (decide_eq_false h8)) (o_geq (a := x) (b := n) rfl rfl ?_)
    refine s_op (o_pick_f (u := (.bool (decide (n ≤ x)))) ((rfl : _ = _).trans (congrArg Value.bool (decide_eq_false h8))) rfl ?_)
    refine s_op (o_assign (v := (.bool (decide (n ≤ x)))) rfl ?_)
    refine s_nil ?_
    refine t_norm (hK7 _ _ ?_)
    refine c_cond rfl (fun h9 => ?_) (fun h9 => ?_)
    · -- n ≤ x
      exfalso; omega
    · -- not: n ≤ x
      refine wp_skip ?_
      refine b_norm ?_
      refine t_norm (hK5 _ _ ?_)
      refine wp_seq_k fun K10 hK10 => ?_
      refine c_region ?_
      refine s_op (o_move (v := (.pointer (some ⟨tb, 0, none⟩))) rfl ?_)
      refine s_op (o_move (v := (.int .i64 x)) rfl ?_)
      refine s_op (o_callf (vs := #[(.int .i64 x)]) ca64 rfl (args1 rfl) (place_c hH4.all (x := x) ⟨by omega, by omega⟩) ?_)
      rintro _ w13 ⟨rfl, hX11⟩
      refine ⟨_, rfl, ?_⟩
      have hH12 := hX11.of_all
      refine s_op (o_callf (vs := #[(.pointer (some ⟨tb, 0, none⟩)), (.int .i64 (plc x))]) ca63 rfl (args2 rfl rfl) (tget_off (d := d) (n := n) (((hH12.front 3 rfl).front 3 rfl).front 3 rfl).all3 hd hoff (x := plc x) ⟨by omega, by omega⟩) ?_)
      rintro _ w16 ⟨rfl, hX14⟩
      refine ⟨_, rfl, ?_⟩
      have hH15 : Has E w16 [sg, [Hp.one pb (.cells #[(.bool d.p.off), (.bool d.p.armed), (.int .i64 d.p.left), (.int .i64 d.p.uses)] 101 (0, 0))], [Hp.one tb (.cells #[(.pointer (some ⟨db, 0, none⟩)), (.int .i64 n)] 98 (0, 0))], [Hp.one b2 (.cells #[(.int .i64 0), (.int .i64 0), (.slice none 0 0)] 36 (0, 0))], R] := hX14.of_all3
      refine s_op (o_move (v := (.tuple #[(S ([] : Bs)), (.int .i64 (6 : Int))])) rfl ?_)
      refine s_op (o_extract (v := (S ([] : Bs))) rfl rfl ?_)
      refine s_op (o_extract (v := (.int .i64 (6 : Int))) rfl rfl ?_)
      refine s_op (o_assign (v := (S ([] : Bs))) rfl ?_)
      refine s_op (o_assign (v := (.int .i64 (6 : Int))) rfl ?_)
      refine s_nil ?_
      refine t_norm (hK10 _ _ ?_)
      refine wp_seq_k fun K17 hK17 => ?_
      refine wp_seq_k fun K18 hK18 => ?_
      refine c_region ?_
      refine s_op (o_move (v := (.int .i64 (6 : Int))) rfl ?_)
      refine s_op (o_neq (a := (6 : Int)) (b := 0) rfl rfl ?_)
      refine s_nil ?_
      refine t_norm (hK18 _ _ ?_)
      refine c_cond rfl (fun h19 => ?_) (fun h19 => ?_)
      · -- (6 : Int) ≠ 0
        refine wp_seq_k fun K20 hK20 => ?_
        refine c_region ?_
        refine s_op (o_sight (v := (.agg #[(.int .i64 0), (.int .i64 0), (.slice none 0 0)])) (fun _ => by kernel_rfl) ?_)
        refine s_op (o_move (v := (.int .i64 (6 : Int))) rfl ?_)
        refine s_eff (o_storeN (vs := [(.int .i64 0), (.int .i64 0), (.slice none 0 0)]) (c' := #[(.int .i64 0), (.int .i64 0), (.slice none 0 0)]) ti36 rfl rfl rfl rfl (by intro u hu; simp only [List.mem_cons, List.not_mem_nil, or_false] at hu; rcases hu with rfl | rfl | rfl <;> first | rfl) (by simp) (by kernel_rfl) (hH15.front 3 rfl) fun w21 hH22 => ?_)
        refine s_op (o_assign (v := (.int .i64 (6 : Int))) rfl ?_)
        refine s_nil ?_
        refine t_norm (hK20 _ _ ?_)
        refine wp_ret ?_
        refine t_ret (c_retC2 Tryz.results24 rfl (run_loadVarN (cs := [(.int .i64 0), (.int .i64 0), (.slice none 0 0)]) Tryz.underlying36 rfl ti36 hH22 (seg_sub 0 rfl) (CellsAt.one rfl)) (x := (.int .i64 (6 : Int))) rfl ?_)
        have hH23 : Has E w21 [sg, [Hp.one pb (.cells #[(.bool d.p.off), (.bool d.p.armed), (.int .i64 d.p.left), (.int .i64 d.p.uses)] 101 (0, 0))], [Hp.one tb (.cells #[(.pointer (some ⟨db, 0, none⟩)), (.int .i64 n)] 98 (0, 0))], R] := ((((hH22.front 4 rfl).front 4 rfl).front 4 rfl).front 4 rfl).first 4 rfl
        exact ⟨rfl, hH23⟩
      · -- not: (6 : Int) ≠ 0
        exact absurd (by decide) h19
set_option maxHeartbeats 4000000 in
theorem tpage_nil {E w : World} {R : List Hp} (hH : Has E w [R]) (x : Int) :
    Calls Tryz.prog 24 #[(.pointer none), (.int .i64 x)] w fun e w' => e = .returned (.tuple #[.agg #[.int .i64 0, .int .i64 0, .slice none 0 0], .int .i64 1]) ∧ Has E w' [R] := by
  refine c_enter (args := [(.pointer none), (.int .i64 x)]) Tryz.func24 rfl Tryz.ntmps24 (by simp) ?_
  refine wp_seq_k fun K1 hK1 => ?_
  refine c_region ?_
  refine s_op (o_alloc (cs := #[(.int .i64 0), (.int .i64 0), (.slice none 0 0)]) ti36 rfl hH fun b2 w3 hH4 => ?_)
  refine s_op (o_assign (v := (.int .i64 0)) rfl ?_)
  refine s_nil ?_
  refine t_norm (hK1 _ _ ?_)
  refine wp_seq_k fun K5 hK5 => ?_
  refine wp_block ?_
  refine wp_seq_k fun K6 hK6 => ?_
  refine c_region ?_
  refine s_op (o_move (v := (.pointer none)) rfl ?_)
  refine s_op (o_pnil (p := none) Tryz.underlying25 rfl rfl ?_)
  refine s_op (o_assign (v := (.bool true)) rfl ?_)
  refine s_nil ?_
  refine t_norm (hK6 _ _ ?_)
  refine c_true rfl rfl ?_
  refine wp_seq_k fun K7 hK7 => ?_
  refine c_region ?_
  refine s_op (o_sight (v := (.agg #[(.int .i64 0), (.int .i64 0), (.slice none 0 0)])) (fun _ => by kernel_rfl) ?_)
  refine s_eff (o_storeN (vs := [(.int .i64 0), (.int .i64 0), (.slice none 0 0)]) (c' := #[(.int .i64 0), (.int .i64 0), (.slice none 0 0)]) ti36 rfl rfl rfl rfl (by intro u hu; simp only [List.mem_cons, List.not_mem_nil, or_false] at hu; rcases hu with rfl | rfl | rfl <;> first | rfl) (by simp) (by kernel_rfl) (hH4.front 0 rfl) fun w8 hH9 => ?_)
  refine s_op (o_assign (v := (.int .i64 1)) rfl ?_)
  refine s_nil ?_
  refine t_norm (hK7 _ _ ?_)
  refine wp_ret ?_
  refine b_ret (t_ret (c_retC2 Tryz.results24 rfl (run_loadVarN (cs := [(.int .i64 0), (.int .i64 0), (.slice none 0 0)]) Tryz.underlying36 rfl ti36 hH9 (seg_sub 0 rfl) (CellsAt.one rfl)) (x := (.int .i64 1)) rfl ?_))
  have hH10 : Has E w8 [R] := (hH9.front 1 rfl).first 1 rfl
  exact ⟨rfl, hH10⟩
set_option maxHeartbeats 4000000 in
theorem tpages_c {E w : World} {R : List Hp} (hH : Has E w [R]) {tb db : Nat} {n : Int} (hc : CellsAt R tb 0 [(.pointer (some ⟨db, 0, none⟩)), (.int .i64 n)]) :
    Calls Tryz.prog 28 #[(.pointer (some ⟨tb, 0, none⟩))] w fun e w' => e = .returned (.int .i64 n) ∧ Has E w' [R] := by
  refine c_enter (args := [(.pointer (some ⟨tb, 0, none⟩))]) Tryz.func28 rfl Tryz.ntmps28 (by simp) ?_
  refine wp_seq_k fun K1 hK1 => ?_
  refine c_region ?_
  refine s_op (o_assign (v := (.int .i64 0)) rfl ?_)
  refine s_nil ?_
  refine t_norm (hK1 _ _ ?_)
  refine wp_seq_k fun K2 hK2 => ?_
  refine wp_seq_k fun K3 hK3 => ?_
  refine c_region ?_
  refine s_op (o_move (v := (.pointer (some ⟨tb, 0, none⟩))) rfl ?_)
  refine s_op (o_pnil (p := some _) Tryz.underlying25 rfl rfl ?_)
  refine s_nil ?_
  refine t_norm (hK3 _ _ ?_)
  refine c_false rfl rfl ?_
  refine wp_skip ?_
  refine t_norm (hK2 _ _ ?_)
  refine wp_seq_k fun K4 hK4 => ?_
  refine c_region ?_
  refine s_op (o_move (v := (.pointer (some ⟨tb, 0, none⟩))) rfl ?_)
  refine s_op (o_nilCheck rfl ?_)
  refine s_op (o_fieldAddr (k := 1) (fun _ => by kernel_rfl) rfl ?_)
  refine s_op (o_load1 (v := (.int .i64 n)) Tryz.underlying3 rfl rfl hH (seg_sub 0 rfl) (CellsAt.field (k := 1) (ds := [(.int .i64 n)]) hc rfl) ?_)
  refine s_op (o_assign (v := (.int .i64 n)) rfl ?_)
  refine s_nil ?_
  refine t_norm (hK4 _ _ ?_)
  refine wp_ret ?_
  refine c_ret1 Tryz.results28  (v := (.int .i64 n)) rfl ?_
  exact ⟨rfl, hH⟩
set_option maxHeartbeats 4000000 in
theorem tpages_nil {E w : World} {R : List Hp} (hH : Has E w [R]) :
    Calls Tryz.prog 28 #[(.pointer none)] w fun e w' => e = .returned (.int .i64 0) ∧ Has E w' [R] := by
  refine c_enter (args := [(.pointer none)]) Tryz.func28 rfl Tryz.ntmps28 (by simp) ?_
  refine wp_seq_k fun K1 hK1 => ?_
  refine c_region ?_
  refine s_op (o_assign (v := (.int .i64 0)) rfl ?_)
  refine s_nil ?_
  refine t_norm (hK1 _ _ ?_)
  refine wp_seq_k fun K2 hK2 => ?_
  refine wp_seq_k fun K3 hK3 => ?_
  refine c_region ?_
  refine s_op (o_move (v := (.pointer none)) rfl ?_)
  refine s_op (o_pnil (p := none) Tryz.underlying25 rfl rfl ?_)
  refine s_nil ?_
  refine t_norm (hK3 _ _ ?_)
  refine c_true rfl rfl ?_
  refine wp_seq_k fun K4 hK4 => ?_
  refine c_region ?_
  refine s_op (o_assign (v := (.int .i64 0)) rfl ?_)
  refine s_nil ?_
  refine t_norm (hK4 _ _ ?_)
  refine wp_ret ?_
  refine t_ret (c_ret1 Tryz.results28  (v := (.int .i64 0)) rfl ?_)
  exact ⟨rfl, hH⟩
set_option maxHeartbeats 4000000 in
theorem tstore_nil {E w : World} {R : List Hp} (hH : Has E w [R]) (v : Value) :
    Calls Tryz.prog 18 #[(.pointer none), v] w fun e w' => e = .returned (.int .i64 1) ∧ Has E w' [R] := by
  refine c_enter (args := [(.pointer none), v]) Tryz.func18 rfl Tryz.ntmps18 (by simp) ?_
  refine wp_seq_k fun K1 hK1 => ?_
  refine c_region ?_
  refine s_op (o_assign (v := (.int .i64 0)) rfl ?_)
  refine s_nil ?_
  refine t_norm (hK1 _ _ ?_)
  refine wp_seq_k fun K2 hK2 => ?_
  refine wp_seq_k fun K3 hK3 => ?_
  refine c_region ?_
  refine s_op (o_move (v := (.pointer none)) rfl ?_)
  refine s_op (o_pnil (p := none) Tryz.underlying25 rfl rfl ?_)
  refine s_nil ?_
  refine t_norm (hK3 _ _ ?_)
  refine c_true rfl rfl ?_
  refine wp_seq_k fun K4 hK4 => ?_
  refine c_region ?_
  refine s_op (o_assign (v := (.int .i64 1)) rfl ?_)
  refine s_nil ?_
  refine t_norm (hK4 _ _ ?_)
  refine wp_ret ?_
  refine t_ret (c_ret1 Tryz.results18  (v := (.int .i64 1)) rfl ?_)
  exact ⟨rfl, hH⟩
end Go.Q
namespace Go.Q
def Dv.sy2 (d : Dv) : Dv := ⟨useS d.p, if useB d.p = true then nowS d.la d.lo else d.la, syncO d.p d.lo⟩
theorem sy_eq {d : Dv} (h : LoOk d.lo d.la.length) : d.sy = d.sy2 := by
  unfold Dv.sy Dv.sy2 syncA
  rw [now_sync h]
def wrsy2 (d : Dv) (l : Grp) : Int × Dv := if (wrs d l).1 = 0 then ((wrs d l).2.syE, (wrs d l).2.sy2) else wrs d l
theorem wrsy_eq {d : Dv} {g : Grp} (h : LoOk d.lo d.la.length) : wrsy d g = wrsy2 d g := by
  unfold wrsy wrsy2
  rw [sy_eq (d := (wrs d g).2) (by rw [wrs_la]; exact lo_wrs g d h)]
def runs2 : Dv → List Grp → Int × Dv
  | d, [] => (0, d)
  | d, g :: t => if (wrsy2 d g).1 = 0 then runs2 (wrsy2 d g).2 t else wrsy2 d g
theorem runs_eq : ∀ (gs : List Grp) (d : Dv), d.lo = [] → runs d gs = runs2 d gs
  | [], _, _ => rfl
  | g :: t, d, h => by
    have e : wrsy d g = wrsy2 d g := wrsy_eq (by rw [h]; exact LoOk.nil _)
    have e1 : runs d (g :: t) = if (wrsy d g).1 = 0 then runs (wrsy d g).2 t else wrsy d g := rfl
    have e2 : runs2 d (g :: t) = if (wrsy2 d g).1 = 0 then runs2 (wrsy2 d g).2 t else wrsy2 d g := rfl
    rw [e1, e2]
    by_cases h0 : (wrsy d g).1 = 0
    · rw [if_pos h0, if_pos (by rw [← e]; exact h0), ← e]
      exact runs_eq t _ (wrsy_zero h0)
    · rw [if_neg h0, if_neg (by rw [← e]; exact h0), e]
def st2 (d : Dv) (n : Int) (a : Pg) : Int × Dv := if lpg a = [] ∨ n ≤ a.1 then (1, d) else runs2 d (stG a.1 (lpg a))
theorem st_eq {d : Dv} {n : Int} {a : Pg} (h : d.lo = []) : st1 d n a = st2 d n a := by
  unfold st1 st2
  rw [runs_eq _ _ h]
theorem stL_one {d : Dv} {n : Int} {a : Pg} : stL d n [a] = st1 d n a := by
  show (if (st1 d n a).1 = 0 then (0, (st1 d n a).2) else st1 d n a) = _
  split
  · rename_i h; rw [← h]
  · rfl
def mend2 (d : Dv) (n : Int) : Int × Dv :=
  if d.p.off = true then (6, d) else if (notedS (sec d.la 0) n).2 ≠ 0 then (9, d) else if (notedS (sec d.la 0) n).1 < 0 then (0, d)
  else if (readP (pgB d.la 1)).1 = true ∧ (readP (pgB d.la 1)).2.1 = (notedS (sec d.la 0) n).1 then runs2 d (mendG (notedS (sec d.la 0) n).1 (pgB d.la 1)) else (9, d)
theorem mend_eq {d : Dv} {n : Int} (h : d.lo = []) : mendR d n = mend2 d n := by
  unfold mendR mend2
  rw [runs_eq _ _ h]
def awA : Pg := (2, 7, .slice none 0 0, [])
def aw0 : Dv := Dv.ar ⟨⟨false, false, 0 - (((50 : Nat) : Int) + 1), 0 + (((50 : Nat) : Int) + 1)⟩, List.replicate 50 blankS, []⟩ 9
def aw1 : Dv := (stL aw0 4 [awA]).2
def aw2 : Dv := aw1.cr [14]
def bw1 : Dv := (st2 aw0 4 awA).2
def bw2 : Dv := bw1.cr [14]
theorem aw1_eq : aw1 = bw1 := by unfold aw1 bw1; rw [stL_one, st_eq rfl]
theorem aw2_eq : aw2 = bw2 := by unfold aw2 bw2; rw [aw1_eq]
theorem aw2_lo : aw2.lo = [] := rfl
theorem aw3_h : mendR aw2 4 = mend2 aw2 4 := mend_eq aw2_lo
theorem aw3_k {a b : Dv} (e : a = b) : mend2 a 4 = mend2 b 4 := by rw [e]
theorem aw3_e : mend2 aw2 4 = mend2 bw2 4 := aw3_k aw2_eq
theorem aw3_s {x y : Int × Dv} (e : x = y) : x.2 = y.2 := by rw [e]
theorem aw3_t : mendR aw2 4 = mend2 bw2 4 := aw3_h.trans aw3_e
theorem aw3_u : (mendR aw2 4).2 = (mend2 bw2 4).2 := aw3_s aw3_t
set_option maxRecDepth 1000000
theorem aw_f : (stL aw0 4 [awA]).1 = 6 := by rw [stL_one, st_eq rfl]; decide +kernel
theorem aw_g : (mendR aw2 4).1 = 0 := by rw [mend_eq rfl, aw2_eq]; decide +kernel
theorem aw_p : pgOf (pgB (mendR aw2 4).2.la (plc 2)) 2 = ((2, 7, []), 0) := by rw [aw3_u]; decide +kernel
theorem aw_l1 : LoOk aw1.lo aw1.la.length := by rw [aw1_eq]; unfold LoOk inS; decide +kernel
theorem aw_64 : Full64 aw2.la := by rw [aw2_eq]; unfold Full64; decide +kernel
theorem aw_643 : Full64 (mendR aw2 4).2.la := by rw [aw3_u]; unfold Full64; decide +kernel
theorem aw_n : aw2.la.length = 50 ∧ (mendR aw2 4).2.la.length = 50 := by rw [mend_len, aw2_eq]; decide +kernel
theorem aw_on : (mendR aw2 4).2.p.off = false ∧ (mendR aw2 4).2.lo = [] := by rw [aw3_u]; decide +kernel
theorem aw_few0 : Few aw0.p 60 := by unfold Few; decide +kernel
theorem aw_few2 : Few aw2.p 80 := by rw [aw2_eq]; unfold Few; decide +kernel
/-- a device that is off -/
def aw9 : Dv := (Dv.ar ⟨⟨false, false, 0 - (((30 : Nat) : Int) + 1), 0 + (((30 : Nat) : Int) + 1)⟩, List.replicate 30 blankS, []⟩ 0).sy
theorem aw_few9 : Few aw9.p 60 := by unfold Few; decide +kernel
theorem aw_9 : (stL aw9 3 [((0, 0, .slice none 0 0, []) : Pg)]).1 = 6 := by rw [stL_one, st_eq rfl]; decide +kernel
end Go.Q
namespace Go.Q
open Go.Proofs
set_option linter.unusedVariables false
set_option maxRecDepth 100000
attribute [local irreducible] wpList OK Code.wp
set_option maxHeartbeats 4000000 in
theorem awake12_c {E w : World} {R : List Hp} (hH : Has E w [R]) (hg : CellsAt R 1 0 nibV) :
    Calls Tryz.prog 11 #[] w fun e w' => e = .returned (.bool true) ∧ Has E w' [R] := by
  refine c_enter (args := []) Tryz.func11 rfl Tryz.ntmps11 (by simp) ?_
  refine wp_seq_k fun K1 hK1 => ?_
  refine c_region ?_
  refine s_op (o_assign (v := (.bool false)) rfl ?_)
  refine s_nil ?_
  refine t_norm (hK1 _ _ ?_)
  refine wp_seq_k fun K2 hK2 => ?_
  refine c_region ?_
  refine s_op (o_callf (vs := #[(.pointer none), (.int .i64 50)]) ca14 rfl (args2 rfl rfl) (new_nil hH.all (n := 50) (by decide)) ?_)
  rintro _ w9 ⟨db3, pb4, sg5, rfl, hd6, hX7⟩
  refine ⟨_, rfl, ?_⟩
  have hH8 : Has E w9 [sg5, [Hp.one pb4 (.cells #[(.bool (Pw.mk false false 0 0).off), (.bool (Pw.mk false false 0 0).armed), (.int .i64 (Pw.mk false false 0 0).left), (.int .i64 (Pw.mk false false 0 0).uses)] 101 (0, 0))], R] := hX7.of_all2
  refine s_op (o_assign (v := (.pointer (some ⟨db3, 0, none⟩))) rfl ?_)
  refine s_nil ?_
  refine t_norm (hK2 _ _ ?_)
  refine wp_seq_k fun K10 hK10 => ?_
  refine c_region ?_
  refine s_op (o_move (v := (.pointer (some ⟨db3, 0, none⟩))) rfl ?_)
  refine s_op (o_callf (vs := #[(.pointer (some ⟨db3, 0, none⟩)), (.int .i64 4)]) ca13 rfl (args2 rfl rfl) (tfmt_ok (p := (Pw.mk false false 0 0)) (m := 50) ((hH8.front 1 rfl).front 1 rfl).all2 hd6 (n := 4) ⟨rfl, rfl⟩ Few.new (by decide) (by decide) (by decide) (by decide)) ?_)
  rintro _ w16 ⟨tb11, sg12, rfl, hd13, hX14⟩
  refine ⟨_, rfl, ?_⟩
  have hH15 : Has E w16 [[Hp.one tb11 (.cells #[(.pointer (some ⟨db3, 0, none⟩)), (.int .i64 4)] 98 (0, 0))], sg12, [Hp.one pb4 (.cells #[(.bool (Pw.mk false false (0 - (((50 : Nat) : Int) + 1)) (0 + (((50 : Nat) : Int) + 1))).off), (.bool (Pw.mk false false (0 - (((50 : Nat) : Int) + 1)) (0 + (((50 : Nat) : Int) + 1))).armed), (.int .i64 (Pw.mk false false (0 - (((50 : Nat) : Int) + 1)) (0 + (((50 : Nat) : Int) + 1))).left), (.int .i64 (Pw.mk false false (0 - (((50 : Nat) : Int) + 1)) (0 + (((50 : Nat) : Int) + 1))).uses)] 101 (0, 0))], R] := hX14.of_all3
  refine s_op (o_move (v := (.tuple #[(.pointer (some ⟨tb11, 0, none⟩)), (.int .i64 (0 : Int))])) rfl ?_)
  refine s_op (o_extract (v := (.pointer (some ⟨tb11, 0, none⟩))) rfl rfl ?_)
  refine s_op (o_extract (v := (.int .i64 (0 : Int))) rfl rfl ?_)
  refine s_op (o_assign (v := (.pointer (some ⟨tb11, 0, none⟩))) rfl ?_)
  refine s_op (o_assign (v := (.int .i64 (0 : Int))) rfl ?_)
  refine s_nil ?_
  refine t_norm (hK10 _ _ ?_)
  refine wp_seq_k fun K17 hK17 => ?_
  refine c_region ?_
  refine s_op (o_move (v := (.pointer (some ⟨db3, 0, none⟩))) rfl ?_)
  refine s_op (o_callf (vs := #[(.pointer (some ⟨db3, 0, none⟩)), (.int .i64 9)]) ca22 rfl (args2 rfl rfl) (dv_ar (d := (Dv.mk (Pw.mk false false (0 - (((50 : Nat) : Int) + 1)) (0 + (((50 : Nat) : Int) + 1))) (List.replicate 50 blankS) [])) ((hH15.front 2 rfl).front 2 rfl).all2 hd13 9) ?_)
  rintro _ w21 ⟨rfl, hd18, hX19⟩
  refine ⟨_, rfl, ?_⟩
  have hH20 : Has E w21 [sg12, [Hp.one pb4 (.cells #[(.bool ((Dv.mk (Pw.mk false false (0 - (((50 : Nat) : Int) + 1)) (0 + (((50 : Nat) : Int) + 1))) (List.replicate 50 blankS) []).ar 9).p.off), (.bool ((Dv.mk (Pw.mk false false (0 - (((50 : Nat) : Int) + 1)) (0 + (((50 : Nat) : Int) + 1))) (List.replicate 50 blankS) []).ar 9).p.armed), (.int .i64 ((Dv.mk (Pw.mk false false (0 - (((50 : Nat) : Int) + 1)) (0 + (((50 : Nat) : Int) + 1))) (List.replicate 50 blankS) []).ar 9).p.left), (.int .i64 ((Dv.mk (Pw.mk false false (0 - (((50 : Nat) : Int) + 1)) (0 + (((50 : Nat) : Int) + 1))) (List.replicate 50 blankS) []).ar 9).p.uses)] 101 (0, 0))], [Hp.one tb11 (.cells #[(.pointer (some ⟨db3, 0, none⟩)), (.int .i64 4)] 98 (0, 0))], R] := hX19.of_all2
  have hH22 : Has E w21 [sg12, [Hp.one pb4 (.cells #[(.bool aw0.p.off), (.bool aw0.p.armed), (.int .i64 aw0.p.left), (.int .i64 aw0.p.uses)] 101 (0, 0))], [Hp.one tb11 (.cells #[(.pointer (some ⟨db3, 0, none⟩)), (.int .i64 4)] 98 (0, 0))], R] := hH20
  have hd23 : DevAt pb4 sg12 db3 aw0.la aw0.lo := hd18
  refine s_nil ?_
  refine t_norm (hK17 _ _ ?_)
  refine wp_seq_k fun K24 hK24 => ?_
  refine c_region ?_
  refine s_op (o_move (v := (.pointer (some ⟨tb11, 0, none⟩))) rfl ?_)
  refine s_op (o_sight (v := (.agg #[(.int .i64 2), (.int .i64 7), (.slice none 0 0)])) (fun _ => by kernel_rfl) ?_)
  refine s_op (o_buildSlice (ps := #[(0, (.agg #[(.int .i64 2), (.int .i64 7), (.slice none 0 0)]))]) (cells := #[(.int .i64 2), (.int .i64 7), (.slice none 0 0)]) Tryz.underlying31 ti36 (by decide) (parts1 rfl) (by kernel_rfl) hH22 fun b25 w26 hH27 => ?_)
  refine s_op (o_callf (vs := #[(.pointer (some ⟨tb11, 0, none⟩)), (.slice (some ⟨b25, 0, none⟩) 1 1)]) ca18 rfl (args2 rfl rfl) (tstoreL_c (d := aw0) (n := 4) (((hH27.front 3 rfl).front 3 rfl).front 3 rfl).all3 hd23 aw_few0 (by omega) rfl (by decide) (hg.mono (seg_sub 1 rfl)) (l := [((2, 7, (.slice none 0 0), []) : Pg)]) ((sl_litF (f := pgC) (l := [((2, 7, (.slice none 0 0), []) : Pg)]) pgC_len rfl rfl (by simp)).mono (seg_sub 0 rfl)) (fun a ha => by rw [List.mem_singleton.1 ha]; exact sl_nil 2) (by first | omega | simp)) ?_)
  rintro _ w32 ⟨sg28, rfl, hd29, hX30⟩
  refine ⟨_, rfl, ?_⟩
  have hH31 : Has E w32 [sg28, [Hp.one pb4 (.cells #[(.bool ((stL aw0 4 [((2, 7, (.slice none 0 0), []) : Pg)]).2).p.off), (.bool ((stL aw0 4 [((2, 7, (.slice none 0 0), []) : Pg)]).2).p.armed), (.int .i64 ((stL aw0 4 [((2, 7, (.slice none 0 0), []) : Pg)]).2).p.left), (.int .i64 ((stL aw0 4 [((2, 7, (.slice none 0 0), []) : Pg)]).2).p.uses)] 101 (0, 0))], [Hp.one tb11 (.cells #[(.pointer (some ⟨db3, 0, none⟩)), (.int .i64 4)] 98 (0, 0))], [Hp.one b25 (.cells #[(.int .i64 2), (.int .i64 7), (.slice none 0 0)] 36 (0, 0))], R] := hX30.of_all3
  have hH33 : Has E w32 [sg28, [Hp.one pb4 (.cells #[(.bool aw1.p.off), (.bool aw1.p.armed), (.int .i64 aw1.p.left), (.int .i64 aw1.p.uses)] 101 (0, 0))], [Hp.one tb11 (.cells #[(.pointer (some ⟨db3, 0, none⟩)), (.int .i64 4)] 98 (0, 0))], [Hp.one b25 (.cells #[(.int .i64 2), (.int .i64 7), (.slice none 0 0)] 36 (0, 0))], R] := hH31
  have hd34 : DevAt pb4 sg28 db3 aw1.la aw1.lo := hd29
  refine s_op (o_assign (v := (.int .i64 ((stL aw0 4 [awA]).1))) rfl ?_)
  refine s_nil ?_
  refine t_norm (hK24 _ _ ?_)
  refine wp_seq_k fun K35 hK35 => ?_
  refine c_region ?_
  refine s_op (o_move (v := (.pointer (some ⟨db3, 0, none⟩))) rfl ?_)
  refine s_op (o_buildSlice (ps := #[(0, (.int .i64 14))]) (cells := #[(.int .i64 14)]) Tryz.underlying40 ti3 (by decide) (parts1 rfl) (by kernel_rfl) hH33 fun b36 w37 hH38 => ?_)
  refine s_op (o_callf (vs := #[(.pointer (some ⟨db3, 0, none⟩)), (.slice (some ⟨b36, 0, none⟩) 1 1)]) ca23 rfl (args2 rfl rfl) (dv_cr (d := aw1) ((hH38.front 2 rfl).front 2 rfl).all2 hd34 aw_l1 (keep := [14]) ((sl_lit (f := iV) (l := [14]) rfl rfl (by simp)).mono (seg_sub 0 rfl))) ?_)
  rintro _ w43 ⟨sg39, rfl, hd40, hX41⟩
  refine ⟨_, rfl, ?_⟩
  have hH42 : Has E w43 [sg39, [Hp.one pb4 (.cells #[(.bool (aw1.cr [14]).p.off), (.bool (aw1.cr [14]).p.armed), (.int .i64 (aw1.cr [14]).p.left), (.int .i64 (aw1.cr [14]).p.uses)] 101 (0, 0))], [Hp.one b36 (.cells #[(.int .i64 14)] 3 (0, 0))], [Hp.one tb11 (.cells #[(.pointer (some ⟨db3, 0, none⟩)), (.int .i64 4)] 98 (0, 0))], [Hp.one b25 (.cells #[(.int .i64 2), (.int .i64 7), (.slice none 0 0)] 36 (0, 0))], R] := hX41.of_all2
  have hH44 : Has E w43 [sg39, [Hp.one pb4 (.cells #[(.bool aw2.p.off), (.bool aw2.p.armed), (.int .i64 aw2.p.left), (.int .i64 aw2.p.uses)] 101 (0, 0))], [Hp.one b36 (.cells #[(.int .i64 14)] 3 (0, 0))], [Hp.one tb11 (.cells #[(.pointer (some ⟨db3, 0, none⟩)), (.int .i64 4)] 98 (0, 0))], [Hp.one b25 (.cells #[(.int .i64 2), (.int .i64 7), (.slice none 0 0)] 36 (0, 0))], R] := hH42
  have hd45 : DevAt pb4 sg39 db3 aw2.la aw2.lo := hd40
  refine s_nil ?_
  refine t_norm (hK35 _ _ ?_)
  refine wp_seq_k fun K46 hK46 => ?_
  refine c_region ?_
  refine s_op (o_move (v := (.pointer (some ⟨db3, 0, none⟩))) rfl ?_)
  refine s_op (o_callf (vs := #[(.pointer (some ⟨db3, 0, none⟩)), (.int .i64 4)]) ca21 rfl (args2 rfl rfl) (topen_ok (d := aw2) ((hH44.front 1 rfl).front 1 rfl).all2 hd45 (n := 4) aw_few2 (by omega) rfl (by rw [aw_n.1]; decide) ⟨by decide, by decide⟩ (by rw [aw_n.1]; decide) (hg.mono (seg_sub 3 rfl)) aw_64 rfl aw_g) ?_)
  rintro _ w52 ⟨tb49, sg47, rfl, hd48, hX50⟩
  refine ⟨_, rfl, ?_⟩
  have hH51 : Has E w52 [[Hp.one tb49 (.cells #[(.pointer (some ⟨db3, 0, none⟩)), (.int .i64 4)] 98 (0, 0))], sg47, [Hp.one pb4 (.cells #[(.bool ((mendR aw2 4).2).p.off), (.bool ((mendR aw2 4).2).p.armed), (.int .i64 ((mendR aw2 4).2).p.left), (.int .i64 ((mendR aw2 4).2).p.uses)] 101 (0, 0))], [Hp.one b36 (.cells #[(.int .i64 14)] 3 (0, 0))], [Hp.one tb11 (.cells #[(.pointer (some ⟨db3, 0, none⟩)), (.int .i64 4)] 98 (0, 0))], [Hp.one b25 (.cells #[(.int .i64 2), (.int .i64 7), (.slice none 0 0)] 36 (0, 0))], R] := hX50.of_all3
  refine s_op (o_move (v := (.tuple #[(.pointer (some ⟨tb49, 0, none⟩)), (.int .i64 (0 : Int))])) rfl ?_)
  refine s_op (o_extract (v := (.pointer (some ⟨tb49, 0, none⟩))) rfl rfl ?_)
  refine s_op (o_extract (v := (.int .i64 (0 : Int))) rfl rfl ?_)
  refine s_op (o_assign (v := (.pointer (some ⟨tb49, 0, none⟩))) rfl ?_)
  refine s_op (o_assign (v := (.int .i64 (0 : Int))) rfl ?_)
  refine s_nil ?_
  refine t_norm (hK46 _ _ ?_)
  refine wp_seq_k fun K53 hK53 => ?_
  refine c_region ?_
  refine s_op (o_move (v := (.pointer (some ⟨tb49, 0, none⟩))) rfl ?_)
  refine s_op (o_callf (vs := #[(.pointer (some ⟨tb49, 0, none⟩)), (.int .i64 2)]) ca24 rfl (args2 rfl rfl) (tpage_on (d := (mendR aw2 4).2) (n := 4) ((hH51.front 2 rfl).front 2 rfl).all3 hd48 aw_on.2 aw_on.1 aw_643 (by rw [aw_n.2]; decide) ⟨by decide, by decide⟩ (by rw [aw_n.2]; decide) (hg.mono (seg_sub 3 rfl)) (x := 2) ⟨by omega, by omega⟩) ?_)
  rintro _ w59 ⟨v54, hs55, rfl, ho56, hX57⟩
  refine ⟨_, rfl, ?_⟩
  have hH58 : Has E w59 [hs55, sg47, [Hp.one pb4 (.cells #[(.bool ((mendR aw2 4).2).p.off), (.bool ((mendR aw2 4).2).p.armed), (.int .i64 ((mendR aw2 4).2).p.left), (.int .i64 ((mendR aw2 4).2).p.uses)] 101 (0, 0))], [Hp.one tb49 (.cells #[(.pointer (some ⟨db3, 0, none⟩)), (.int .i64 4)] 98 (0, 0))], [Hp.one b36 (.cells #[(.int .i64 14)] 3 (0, 0))], [Hp.one tb11 (.cells #[(.pointer (some ⟨db3, 0, none⟩)), (.int .i64 4)] 98 (0, 0))], [Hp.one b25 (.cells #[(.int .i64 2), (.int .i64 7), (.slice none 0 0)] 36 (0, 0))], R] := hX57.of_all4
  refine s_op (o_move (v := (.tuple #[(.agg #[(.int .i64 ((pgOf (pgB ((mendR aw2 4).2).la (plc 2)) 2).1.1)), (.int .i64 ((pgOf (pgB ((mendR aw2 4).2).la (plc 2)) 2).1.2.1)), v54]), (.int .i64 ((pgOf (pgB ((mendR aw2 4).2).la (plc 2)) 2).2))])) rfl ?_)
  refine s_op (o_extract (v := (.agg #[(.int .i64 ((pgOf (pgB ((mendR aw2 4).2).la (plc 2)) 2).1.1)), (.int .i64 ((pgOf (pgB ((mendR aw2 4).2).la (plc 2)) 2).1.2.1)), v54])) rfl rfl ?_)
  refine s_op (o_extract (v := (.int .i64 ((pgOf (pgB ((mendR aw2 4).2).la (plc 2)) 2).2))) rfl rfl ?_)
  refine s_op (o_alloc (cs := #[(.int .i64 0), (.int .i64 0), (.slice none 0 0)]) ti36 rfl hH58 fun b60 w61 hH62 => ?_)
  refine s_eff (o_storeN (vs := [(.int .i64 ((pgOf (pgB ((mendR aw2 4).2).la (plc 2)) 2).1.1)), (.int .i64 ((pgOf (pgB ((mendR aw2 4).2).la (plc 2)) 2).1.2.1)), v54]) (c' := #[(.int .i64 ((pgOf (pgB ((mendR aw2 4).2).la (plc 2)) 2).1.1)), (.int .i64 ((pgOf (pgB ((mendR aw2 4).2).la (plc 2)) 2).1.2.1)), v54]) ti36 rfl rfl rfl rfl (by intro u hu; simp only [List.mem_cons, List.not_mem_nil, or_false] at hu; rcases hu with rfl | rfl | rfl <;> first | rfl | exact ho56.one) (by simp) (by kernel_rfl) (hH62.front 0 rfl) fun w63 hH64 => ?_)
  refine s_op (o_assign (v := (.int .i64 ((pgOf (pgB ((mendR aw2 4).2).la (plc 2)) 2).2))) rfl ?_)
  refine s_nil ?_
  refine t_norm (hK53 _ _ ?_)
  refine wp_seq_k fun K65 hK65 => ?_
  refine c_region ?_
  refine s_op (o_move (v := (.int .i64 (0 : Int))) rfl ?_)
  refine s_op (o_eql (a := (0 : Int)) (b := 0) rfl rfl ?_)
  refine s_op (o_move (v := (.bool (decide ((0 : Int) = 0)))) rfl ?_)
  by_cases h66 : (0 : Int) = 0
  · -- (0 : Int) = 0
    refine s_on 36 rfl (congrArg Value.bool (decide_eq_true h66)) (o_move (v := (.int .i64 ((stL aw0 4 [awA]).1))) rfl ?_)
    refine s_on 36 rfl (congrArg Value.bool (decide_eq_true h66)) (o_eql (a := (stL aw0 4 [awA]).1) (b := 6) rfl rfl ?_)
    refine s_op (o_pick_t (u := (.bool (decide ((stL aw0 4 [awA]).1 = 6)))) ((rfl : _ = _).trans (congrArg Value.bool (decide_eq_true h66))) rfl ?_)
    refine s_op (o_move (v := (.bool (decide ((stL aw0 4 [awA]).1 = 6)))) rfl ?_)
    by_cases h67 : (stL aw0 4 [awA]).1 = 6
    · -- (stL aw0 4 [awA]).1 = 6
      refine s_on 40 rfl (congrArg Value.bool (decide_eq_true h67)) (o_move (v := (.int .i64 (0 : Int))) rfl ?_)
      refine s_on 40 rfl (congrArg Value.bool (decide_eq_true h67)) (o_eql (a := (0 : Int)) (b := 0) rfl rfl ?_)
      refine s_op (o_pick_t (u := (.bool (decide ((0 : Int) = 0)))) ((rfl : _ = _).trans (congrArg Value.bool (decide_eq_true h67))) rfl ?_)
      refine s_op (o_move (v := (.bool (decide ((0 : Int) = 0)))) rfl ?_)
      refine s_on 44 rfl (congrArg Value.bool (decide_eq_true h66)) (o_move (v := (.int .i64 ((pgOf (pgB ((mendR aw2 4).2).la (plc 2)) 2).2))) rfl ?_)
      refine s_on 44 rfl (congrArg Value.bool (decide_eq_true h66)) (o_eql (a := (pgOf (pgB ((mendR aw2 4).2).la (plc 2)) 2).2) (b := 0) rfl rfl ?_)
      refine s_op (o_pick_t (u := (.bool (decide ((pgOf (pgB ((mendR aw2 4).2).la (plc 2)) 2).2 = 0)))) ((rfl : _ = _).trans (congrArg Value.bool (decide_eq_true h66))) rfl ?_)
      refine s_op (o_move (v := (.bool (decide ((pgOf (pgB ((mendR aw2 4).2).la (plc 2)) 2).2 = 0)))) rfl ?_)
      by_cases h68 : (pgOf (pgB ((mendR aw2 4).2).la (plc 2)) 2).2 = 0
      · -- (pgOf (pgB ((mendR aw2 4).2).la (plc 2)) 2).2 = 0
        refine s_on 48 rfl (congrArg Value.bool (decide_eq_true h68)) (o_fieldAddr (k := 1) (fun _ => by kernel_rfl) rfl ?_)
        refine s_on 48 rfl (congrArg Value.bool (decide_eq_true h68)) (o_load1 (v := (.int .i64 ((pgOf (pgB ((mendR aw2 4).2).la (plc 2)) 2).1.2.1))) Tryz.underlying3 rfl rfl hH64 (seg_sub 0 rfl) (CellsAt.one rfl) ?_)
        refine s_on 48 rfl (congrArg Value.bool (decide_eq_true h68)) (o_eql (a := (pgOf (pgB ((mendR aw2 4).2).la (plc 2)) 2).1.2.1) (b := 7) rfl rfl ?_)
        refine s_op (o_pick_t (u := (.bool (decide ((pgOf (pgB ((mendR aw2 4).2).la (plc 2)) 2).1.2.1 = 7)))) ((rfl : _ = _).trans (congrArg Value.bool (decide_eq_true h68))) rfl ?_)
        refine s_op (o_move (v := (.bool (decide ((pgOf (pgB ((mendR aw2 4).2).la (plc 2)) 2).1.2.1 = 7)))) rfl ?_)
        by_cases h69 : (pgOf (pgB ((mendR aw2 4).2).la (plc 2)) 2).1.2.1 = 7
        · -- (pgOf (pgB ((mendR aw2 4).2).la (plc 2)) 2).1.2.1 = 7
          refine s_on 53 rfl (congrArg Value.bool (decide_eq_true h69)) (o_move (v := (.pointer (some ⟨tb49, 0, none⟩))) rfl ?_)
          refine s_on 53 rfl (congrArg Value.bool (decide_eq_true h69)) (o_callf (vs := #[(.pointer (some ⟨tb49, 0, none⟩))]) ca28 rfl (args1 rfl) (tpages_c (db := db3) (n := 4) hH64.all ((CellsAt.one rfl).mono (seg_sub 4 rfl))) ?_)
          rintro _ w72 ⟨rfl, hX70⟩
          refine ⟨_, rfl, ?_⟩
          have hH71 := hX70.of_all
          refine s_on 53 rfl (congrArg Value.bool (decide_eq_true h69)) (o_eql (a := 4) (b := 4) rfl rfl ?_)
          refine s_op (o_pick_t (u := (.bool (decide ((4 : Int) = (4 : Int))))) ((rfl : _ = _).trans (congrArg Value.bool (decide_eq_true h69))) rfl ?_)
          refine s_op (o_assign (v := (.bool (decide ((4 : Int) = (4 : Int))))) rfl ?_)
          refine s_nil ?_
          refine t_norm (hK65 _ _ ?_)
          refine wp_ret ?_
          refine c_ret1 Tryz.results11  (v := (.bool (decide ((4 : Int) = (4 : Int))))) rfl ?_
          have hH73 : Has E w72 [R] := (hH71.front 8 rfl).first 1 rfl
          exact ⟨by first | rfl | (rw [decide_eq_true (by decide)]), hH73⟩
        · -- not: (pgOf (pgB ((mendR aw2 4).2).la (plc 2)) 2).1.2.1 = 7
          exact absurd (by rw [aw_p]) h69
      · -- not: (pgOf (pgB ((mendR aw2 4).2).la (plc 2)) 2).2 = 0
        exact absurd (by rw [aw_p]) h68
    · -- not: (stL aw0 4 [awA]).1 = 6
      exact absurd aw_f h67
  · -- not: (0 : Int) = 0
    exact absurd (by decide) h66
end Go.Q
namespace Go.Q
open Go.Proofs
set_option linter.unusedVariables false
set_option maxRecDepth 100000
attribute [local irreducible] wpList OK Code.wp
end Go.Q
namespace Go.Q
open Go.Proofs
set_option linter.unusedVariables false
set_option maxRecDepth 100000
attribute [local irreducible] wpList OK Code.wp
set_option maxHeartbeats 4000000 in
theorem r11great_c {E w : World} {R : List Hp} {no : Int} {gsn : Int} {v_l : Value} {l : List Cel}  (hH : Has E w [R]) (h_l : Sl R 2 v_l l.length (l.flatMap ceC)) :
    Calls Tryz.prog 26 #[(.agg #[(.int .i64 no), (.int .i64 gsn), v_l])] w fun e w' => ∃ (gb : Bool), e = .returned (.bool gb) ∧ (gb = false → l.length ≤ 20 ∧ ∀ c ∈ l, c.1.length ≤ 100 ∧ c.2.length ≤ 100) ∧ Has E w' [R] := by
  have hn_ := h_l.le
  refine c_enter (args := [(.agg #[(.int .i64 no), (.int .i64 gsn), v_l])]) Tryz.func26 rfl Tryz.ntmps26 (by simp) ?_
  refine wp_seq_k fun K1 hK1 => ?_
  refine c_region ?_
  refine s_op (o_box (cs := #[(.int .i64 no), (.int .i64 gsn), v_l]) rfl rfl hH fun b2 w3 hH4 => ?_)
  refine s_op (o_assign (v := (.bool false)) rfl ?_)
  refine s_nil ?_
  refine t_norm (hK1 _ _ ?_)
  refine wp_seq_k fun K5 hK5 => ?_
  refine wp_seq_k fun K6 hK6 => ?_
  refine c_region ?_
  refine s_op (o_fieldAddr (k := 2) (fun _ => by kernel_rfl) rfl ?_)
  refine s_op (o_load1 (v := v_l) Tryz.underlying34 rfl rfl hH4 (seg_sub 0 rfl) (CellsAt.one rfl) ?_)
  refine s_op (o_lenS Tryz.underlying34 rfl h_l ?_)
  refine s_op (o_gtr (a := ((l.length : Nat) : Int)) (b := 20) rfl rfl ?_)
  refine s_nil ?_
  refine t_norm (hK6 _ _ ?_)
  refine c_cond rfl (fun h7 => ?_) (fun h7 => ?_)
  · -- 20 < ((l.length : Nat) : Int)
    refine wp_seq_k fun K8 hK8 => ?_
    refine c_region ?_
    refine s_op (o_assign (v := (.bool true)) rfl ?_)
    refine s_nil ?_
    refine t_norm (hK8 _ _ ?_)
    refine wp_ret ?_
    refine t_ret (c_ret1 Tryz.results26  (v := (.bool true)) rfl ?_)
    have hH9 : Has E w3 [R] := (hH4.front 1 rfl).first 1 rfl
    exact ⟨true, rfl, (fun g => by cases g), hH9⟩
  · -- not: 20 < ((l.length : Nat) : Int)
    refine wp_skip ?_
    refine t_norm (hK5 _ _ ?_)
    refine wp_seq_k fun K10 hK10 => ?_
    refine wp_seq_k fun K11 hK11 => ?_
    refine c_region ?_
    refine s_op (o_assign (v := (.int .i64 0)) rfl ?_)
    refine s_nil ?_
    refine t_norm (hK11 _ _ ?_)
    refine wp_block ?_
    let I13 : Nat → (Nat → Value) → World → Prop := fun n__ r__ w__ => ∃ (k : Nat), n__ = l.length - k ∧ Has E w__ [[Hp.one b2 (.cells #[(.int .i64 no), (.int .i64 gsn), v_l] 36 (0, 0))], R] ∧ (k ≤ l.length) ∧ (∀ c ∈ l.take k, c.1.length ≤ 100 ∧ c.2.length ≤ 100) ∧ r__ 0 = (.agg #[(.int .i64 no), (.int .i64 gsn), v_l]) ∧ r__ 1 = (.pointer (some ⟨b2, 0, none⟩)) ∧ r__ 3 = (.int .i64 (k : Int)) ∧ r__ 7 = (.bool (decide (20 < ((l.length : Nat) : Int))))
    refine c_loop I13 _ ⟨0, rfl, hH4, Nat.zero_le _, (by simp), rfl, rfl, rfl, rfl⟩ ?_
    rintro n_ r16 w14 ⟨k, rfl, hH15, hk, hgf, e12_0, e12_1, e12_3, e12_7⟩
    refine wp_seq_k fun K17 hK17 => ?_
    refine wp_seq_k fun K18 hK18 => ?_
    refine c_region ?_
    refine s_op (o_move (v := (.int .i64 (k : Int))) e12_3 ?_)
    refine s_op (o_fieldAddr (k := 2) (fun _ => by kernel_rfl) e12_1 ?_)
    refine s_op (o_load1 (v := v_l) Tryz.underlying34 rfl rfl hH15 (seg_sub 0 rfl) (CellsAt.one rfl) ?_)
    refine s_op (o_lenS Tryz.underlying34 rfl h_l ?_)
    refine s_op (o_lss (a := (k : Int)) (b := ((l.length : Nat) : Int)) rfl rfl ?_)
    refine s_nil ?_
    refine t_norm (hK18 _ _ ?_)
    refine c_cond rfl (fun h19 => ?_) (fun h19 => ?_)
    · -- (k : Int) < ((l.length : Nat) : Int)
      refine wp_skip ?_
      refine t_norm (hK17 _ _ ?_)
      refine wp_seq_k fun K20 hK20 => ?_
      refine wp_block ?_
      refine wp_seq_k fun K21 hK21 => ?_
      refine c_region ?_
      refine s_op (o_fieldAddr (k := 2) (fun _ => by kernel_rfl) e12_1 ?_)
      refine s_op (o_load1 (v := v_l) Tryz.underlying34 rfl rfl hH15 (seg_sub 0 rfl) (CellsAt.one rfl) ?_)
      refine s_op (o_move (v := (.int .i64 (k : Int))) e12_3 ?_)
      obtain ⟨x25, hx26⟩ : ∃ x_, l[((k : Int)).toNat]? = some x_ := get_some (by omega)
      refine s_op (o_indexF ceC_len Tryz.underlying34 ti70 rfl h_l rfl rfl (by omega) hx26 fun b22 o23 hc24 => ?_)
      refine s_op (o_fieldAddr (k := o23) (fun _ => by kernel_rfl) rfl ?_)
      refine s_op (o_load1 (v := (S x25.1)) Tryz.underlying9 rfl rfl hH15 (seg_sub 1 rfl) (CellsAt.field (k := 0) (ds := [(S x25.1)]) hc24 rfl) ?_)
      refine s_op (o_slen Tryz.underlying9 rfl ?_)
      refine s_op (o_gtr (a := (x25.1.length : Int)) (b := 100) rfl rfl ?_)
      refine s_op (o_move (v := (.bool (decide (100 < (x25.1.length : Int))))) rfl ?_)
      by_cases h27 : 100 < (x25.1.length : Int)
      · -- 100 < (x25.1.length : Int)
        refine s_off (b' := true) 23 rfl (congrArg Value.bool (decide_eq_true h27)) rfl ?_
        refine s_off (b' := true) 23 rfl (congrArg Value.bool (decide_eq_true h27)) rfl ?_
        refine s_off (b' := true) 23 rfl (congrArg Value.bool (decide_eq_true h27)) rfl ?_
        refine s_off (b' := true) 23 rfl (congrArg Value.bool (decide_eq_true h27)) rfl ?_
        refine s_off (b' := true) 23 rfl (congrArg Value.bool (decide_eq_true h27)) rfl ?_
        refine s_off (b' := true) 23 rfl (congrArg Value.bool (decide_eq_true h27)) rfl ?_
        refine s_off (b' := true) 23 rfl (congrArg Value.bool (decide_eq_true h27)) rfl ?_
        refine s_off (b' := true) 23 rfl (congrArg Value.bool (decide_eq_true h27)) rfl ?_
        refine s_op (o_pick_t (u := (.bool true)) ((rfl : _ = _).trans (congrArg Value.bool (decide_eq_true h27))) rfl ?_)
        refine s_nil ?_
        refine t_norm (hK21 _ _ ?_)
        refine c_true rfl rfl ?_
        refine wp_seq_k fun K28 hK28 => ?_
        refine c_region ?_
        refine s_op (o_assign (v := (.bool true)) rfl ?_)
        refine s_nil ?_
        refine t_norm (hK28 _ _ ?_)
        refine wp_ret ?_
        refine b_ret (t_ret (t_ret (b_ret (t_ret (c_ret1 Tryz.results26  (v := (.bool true)) rfl ?_)))))
        have hH29 : Has E w14 [R] := (hH15.front 1 rfl).first 1 rfl
        exact ⟨true, rfl, (fun g => by cases g), hH29⟩
      · -- not: 100 < (x25.1.length : Int)
        refine s_on 23 rfl (congrArg Value.bool (decide_eq_false h27)) (o_fieldAddr (k := 2) (fun _ => by kernel_rfl) e12_1 ?_)
        refine s_on 23 rfl (congrArg Value.bool (decide_eq_false h27)) (o_load1 (v := v_l) Tryz.underlying34 rfl rfl hH15 (seg_sub 0 rfl) (CellsAt.one rfl) ?_)
        refine s_on 23 rfl (congrArg Value.bool (decide_eq_false h27)) (o_move (v := (.int .i64 (k : Int))) e12_3 ?_)
        refine s_on 23 rfl (congrArg Value.bool (decide_eq_false h27)) (o_indexF ceC_len Tryz.underlying34 ti70 rfl h_l rfl rfl (by omega) hx26 fun b30 o31 hc32 => ?_)
        refine s_on 23 rfl (congrArg Value.bool (decide_eq_false h27)) (o_fieldAddr (k := o31 + 1) (fun _ => by kernel_rfl) rfl ?_)
        refine s_on 23 rfl (congrArg Value.bool (decide_eq_false h27)) (o_load1 (v := (S x25.2)) Tryz.underlying9 rfl rfl hH15 (seg_sub 1 rfl) (CellsAt.field (k := 1) (ds := [(S x25.2)]) hc32 rfl) ?_)
        refine s_on 23 rfl (congrArg Value.bool (decide_eq_false h27)) (o_slen Tryz.underlying9 rfl ?_)
        refine s_on 23 rfl (congrArg Value.bool (decide_eq_false h27)) (o_gtr (a := (x25.2.length : Int)) (b := 100) rfl rfl ?_)
        refine s_op (o_pick_f (u := (.bool (decide (100 < (x25.2.length : Int))))) ((rfl : _ = _).trans (congrArg Value.bool (decide_eq_false h27))) rfl ?_)
        refine s_nil ?_
        refine t_norm (hK21 _ _ ?_)
        refine c_cond rfl (fun h33 => ?_) (fun h33 => ?_)
        · -- 100 < (x25.2.length : Int)
          refine wp_seq_k fun K34 hK34 => ?_
          refine c_region ?_
          refine s_op (o_assign (v := (.bool true)) rfl ?_)
          refine s_nil ?_
          refine t_norm (hK34 _ _ ?_)
          refine wp_ret ?_
          refine b_ret (t_ret (t_ret (b_ret (t_ret (c_ret1 Tryz.results26  (v := (.bool true)) rfl ?_)))))
          have hH35 : Has E w14 [R] := (hH15.front 1 rfl).first 1 rfl
          exact ⟨true, rfl, (fun g => by cases g), hH35⟩
        · -- not: 100 < (x25.2.length : Int)
          refine wp_skip ?_
          refine b_norm ?_
          refine t_norm (hK20 _ _ ?_)
          refine c_region ?_
          refine s_op (o_move (v := (.int .i64 (k : Int))) e12_3 ?_)
          refine s_op (o_add (a := (k : Int)) (b := 1) rfl rfl (w64 (by omega) (by omega)) ?_)
          refine s_op (o_assign (v := (.int .i64 ((k : Int) + 1))) rfl ?_)
          refine s_nil ?_
          refine t_norm ⟨l.length - (k + 1), _, rfl, ?_, ?_⟩
          · omega
          · exact ⟨(k + 1), rfl, hH15, (by omega), (great_next hgf (show l[k]? = some _ from hx26) (by omega)), e12_0, e12_1, rfl, e12_7⟩
    · -- not: (k : Int) < ((l.length : Nat) : Int)
      refine wp_exit ?_
      refine t_exit (t_exit (x_in (?_)))
      refine t_norm (hK10 _ _ ?_)
      refine wp_seq_k fun K36 hK36 => ?_
      refine c_region ?_
      refine s_op (o_assign (v := (.bool false)) rfl ?_)
      refine s_nil ?_
      refine t_norm (hK36 _ _ ?_)
      refine wp_ret ?_
      refine c_ret1 Tryz.results26  (v := (.bool false)) rfl ?_
      have hH37 : Has E w14 [R] := (hH15.front 1 rfl).first 1 rfl
      have e_ : k = l.length := by omega
      rw [e_, List.take_length] at hgf
      exact ⟨false, rfl, (fun _ => ⟨by omega, hgf⟩), hH37⟩
end Go.Q
namespace Go.Q
open Go.Proofs
set_option linter.unusedVariables false
set_option maxRecDepth 100000
attribute [local irreducible] wpList OK Code.wp
set_option maxHeartbeats 4000000 in
theorem TwiceNone_c {E w : World} {R : List Hp} (hH : Has E w [R]) (hg : CellsAt R 1 0 nibV) (no : Int) {a : Pg} (hin : PgIn R a) :
    Calls Tryz.prog 5 #[(.int .i64 no), (.agg #[(.int .i64 a.1), (.int .i64 a.2.1), a.2.2.1])] w fun e w' => e = .returned (.bool true) ∧ Has E w' [R] := by
  have hcn_ := Sl.le hin
  refine c_enter (args := [(.int .i64 no), (.agg #[(.int .i64 a.1), (.int .i64 a.2.1), a.2.2.1])]) Tryz.func5 rfl Tryz.ntmps5 (by simp) ?_
  refine wp_seq_k fun K1 hK1 => ?_
  refine c_region ?_
  refine s_op (o_box (cs := #[(.int .i64 a.1), (.int .i64 a.2.1), a.2.2.1]) rfl rfl hH fun b2 w3 hH4 => ?_)
  refine s_op (o_assign (v := (.bool false)) rfl ?_)
  refine s_nil ?_
  refine t_norm (hK1 _ _ ?_)
  refine wp_seq_k fun K5 hK5 => ?_
  refine wp_seq_k fun K6 hK6 => ?_
  refine c_region ?_
  refine s_op (o_loadN (cs := [(.int .i64 a.1), (.int .i64 a.2.1), a.2.2.1]) Tryz.underlying36 rfl ti36 rfl hH4 (seg_sub 0 rfl) (CellsAt.one rfl) ?_)
  refine s_op (o_callf (vs := #[(.agg #[(.int .i64 a.1), (.int .i64 a.2.1), a.2.2.1])]) ca26 rfl (args1 rfl) (r11great_c (no := a.1) (gsn := a.2.1) (l := a.2.2.2) hH4.all (hin.mono (seg_sub 1 rfl))) ?_)
  rintro _ w11 ⟨gb_7, rfl, hg_8, hX9⟩
  refine ⟨_, rfl, ?_⟩
  have hH10 : Has E w11 [[Hp.one b2 (.cells #[(.int .i64 a.1), (.int .i64 a.2.1), a.2.2.1] 36 (0, 0))], R] := hX9.of_all
  refine s_op (o_move (v := (.bool gb_7)) rfl ?_)
  rcases Bool.eq_false_or_eq_true gb_7 with h12 | h12
  · -- gb_7
    refine s_off (b' := true) 19 rfl (congrArg Value.bool h12) rfl ?_
    refine s_off (b' := true) 19 rfl (congrArg Value.bool h12) rfl ?_
    refine s_op (o_pick_t (u := (.bool true)) ((rfl : _ = _).trans (congrArg Value.bool h12)) rfl ?_)
    refine s_nil ?_
    refine t_norm (hK6 _ _ ?_)
    refine c_true rfl rfl ?_
    refine wp_seq_k fun K13 hK13 => ?_
    refine c_region ?_
    refine s_op (o_callf (vs := #[]) ca11 rfl (args0) (awake12_c hH10.all (hg.mono (seg_sub 1 rfl))) ?_)
    rintro _ w16 ⟨rfl, hX14⟩
    refine ⟨_, rfl, ?_⟩
    have hH15 := hX14.of_all
    refine s_op (o_assign (v := (.bool true)) rfl ?_)
    refine s_nil ?_
    refine t_norm (hK13 _ _ ?_)
    refine wp_ret ?_
    refine t_ret (c_ret1 Tryz.results5  (v := (.bool true)) rfl ?_)
    have hH17 : Has E w16 [R] := (hH15.front 1 rfl).first 1 rfl
    exact ⟨by first | rfl | (rw [decide_eq_true (by decide)]), hH17⟩
  · -- not: gb_7
    refine s_on 19 rfl (congrArg Value.bool h12) (o_callf (vs := #[]) ca11 rfl (args0) (awake12_c hH10.all (hg.mono (seg_sub 1 rfl))) ?_)
    rintro _ w20 ⟨rfl, hX18⟩
    refine ⟨_, rfl, ?_⟩
    have hH19 := hX18.of_all
    refine s_on 19 rfl (congrArg Value.bool h12) (o_not rfl ?_)
    refine s_op (o_pick_f (u := (.bool false)) ((rfl : _ = _).trans (congrArg Value.bool h12)) rfl ?_)
    refine s_nil ?_
    refine t_norm (hK6 _ _ ?_)
    refine c_false rfl rfl ?_
    refine wp_skip ?_
    refine t_norm (hK5 _ _ ?_)
    refine wp_seq_k fun K21 hK21 => ?_
    refine c_region ?_
    refine s_op (o_callf (vs := #[(.pointer none), (.int .i64 3)]) ca21 rfl (args2 rfl rfl) (topen_nil hH19.all (n := 3) (by omega)) ?_)
    rintro _ w24 ⟨rfl, hX22⟩
    refine ⟨_, rfl, ?_⟩
    have hH23 := hX22.of_all
    refine s_op (o_move (v := (.tuple #[(.pointer none), (.int .i64 (1 : Int))])) rfl ?_)
    refine s_op (o_extract (v := (.pointer none)) rfl rfl ?_)
    refine s_op (o_extract (v := (.int .i64 (1 : Int))) rfl rfl ?_)
    refine s_op (o_assign (v := (.pointer none)) rfl ?_)
    refine s_op (o_assign (v := (.int .i64 (1 : Int))) rfl ?_)
    refine s_nil ?_
    refine t_norm (hK21 _ _ ?_)
    refine wp_seq_k fun K25 hK25 => ?_
    refine c_region ?_
    refine s_op (o_callf (vs := #[(.pointer none), (.int .i64 30)]) ca14 rfl (args2 rfl rfl) (new_nil hH23.all (n := 30) (by decide)) ?_)
    rintro _ w32 ⟨db26, pb27, sg28, rfl, hd29, hX30⟩
    refine ⟨_, rfl, ?_⟩
    have hH31 : Has E w32 [sg28, [Hp.one pb27 (.cells #[(.bool (Pw.mk false false 0 0).off), (.bool (Pw.mk false false 0 0).armed), (.int .i64 (Pw.mk false false 0 0).left), (.int .i64 (Pw.mk false false 0 0).uses)] 101 (0, 0))], [Hp.one b2 (.cells #[(.int .i64 a.1), (.int .i64 a.2.1), a.2.2.1] 36 (0, 0))], R] := hX30.of_all2
    refine s_op (o_assign (v := (.pointer (some ⟨db26, 0, none⟩))) rfl ?_)
    refine s_nil ?_
    refine t_norm (hK25 _ _ ?_)
    refine wp_seq_k fun K33 hK33 => ?_
    refine c_region ?_
    refine s_op (o_move (v := (.pointer (some ⟨db26, 0, none⟩))) rfl ?_)
    refine s_op (o_callf (vs := #[(.pointer (some ⟨db26, 0, none⟩)), (.int .i64 3)]) ca13 rfl (args2 rfl rfl) (tfmt_ok (p := (Pw.mk false false 0 0)) (m := 30) ((hH31.front 1 rfl).front 1 rfl).all2 hd29 (n := 3) ⟨rfl, rfl⟩ Few.new (by decide) (by decide) (by decide) (by decide)) ?_)
    rintro _ w39 ⟨tb34, sg35, rfl, hd36, hX37⟩
    refine ⟨_, rfl, ?_⟩
    have hH38 : Has E w39 [[Hp.one tb34 (.cells #[(.pointer (some ⟨db26, 0, none⟩)), (.int .i64 3)] 98 (0, 0))], sg35, [Hp.one pb27 (.cells #[(.bool (Pw.mk false false (0 - (((30 : Nat) : Int) + 1)) (0 + (((30 : Nat) : Int) + 1))).off), (.bool (Pw.mk false false (0 - (((30 : Nat) : Int) + 1)) (0 + (((30 : Nat) : Int) + 1))).armed), (.int .i64 (Pw.mk false false (0 - (((30 : Nat) : Int) + 1)) (0 + (((30 : Nat) : Int) + 1))).left), (.int .i64 (Pw.mk false false (0 - (((30 : Nat) : Int) + 1)) (0 + (((30 : Nat) : Int) + 1))).uses)] 101 (0, 0))], [Hp.one b2 (.cells #[(.int .i64 a.1), (.int .i64 a.2.1), a.2.2.1] 36 (0, 0))], R] := hX37.of_all3
    refine s_op (o_move (v := (.tuple #[(.pointer (some ⟨tb34, 0, none⟩)), (.int .i64 (0 : Int))])) rfl ?_)
    refine s_op (o_extract (v := (.pointer (some ⟨tb34, 0, none⟩))) rfl rfl ?_)
    refine s_op (o_extract (v := (.int .i64 (0 : Int))) rfl rfl ?_)
    refine s_op (o_assign (v := (.pointer (some ⟨tb34, 0, none⟩))) rfl ?_)
    refine s_op (o_assign (v := (.int .i64 (0 : Int))) rfl ?_)
    refine s_nil ?_
    refine t_norm (hK33 _ _ ?_)
    refine wp_seq_k fun K40 hK40 => ?_
    refine c_region ?_
    refine s_op (o_move (v := (.pointer (some ⟨db26, 0, none⟩))) rfl ?_)
    refine s_op (o_callf (vs := #[(.pointer (some ⟨db26, 0, none⟩)), (.int .i64 0)]) ca22 rfl (args2 rfl rfl) (dv_ar (d := (Dv.mk (Pw.mk false false (0 - (((30 : Nat) : Int) + 1)) (0 + (((30 : Nat) : Int) + 1))) (List.replicate 30 blankS) [])) ((hH38.front 2 rfl).front 2 rfl).all2 hd36 0) ?_)
    rintro _ w44 ⟨rfl, hd41, hX42⟩
    refine ⟨_, rfl, ?_⟩
    have hH43 : Has E w44 [sg35, [Hp.one pb27 (.cells #[(.bool ((Dv.mk (Pw.mk false false (0 - (((30 : Nat) : Int) + 1)) (0 + (((30 : Nat) : Int) + 1))) (List.replicate 30 blankS) []).ar 0).p.off), (.bool ((Dv.mk (Pw.mk false false (0 - (((30 : Nat) : Int) + 1)) (0 + (((30 : Nat) : Int) + 1))) (List.replicate 30 blankS) []).ar 0).p.armed), (.int .i64 ((Dv.mk (Pw.mk false false (0 - (((30 : Nat) : Int) + 1)) (0 + (((30 : Nat) : Int) + 1))) (List.replicate 30 blankS) []).ar 0).p.left), (.int .i64 ((Dv.mk (Pw.mk false false (0 - (((30 : Nat) : Int) + 1)) (0 + (((30 : Nat) : Int) + 1))) (List.replicate 30 blankS) []).ar 0).p.uses)] 101 (0, 0))], [Hp.one tb34 (.cells #[(.pointer (some ⟨db26, 0, none⟩)), (.int .i64 3)] 98 (0, 0))], [Hp.one b2 (.cells #[(.int .i64 a.1), (.int .i64 a.2.1), a.2.2.1] 36 (0, 0))], R] := hX42.of_all2
    refine s_nil ?_
    refine t_norm (hK40 _ _ ?_)
    refine wp_seq_k fun K45 hK45 => ?_
    refine c_region ?_
    refine s_op (o_move (v := (.pointer (some ⟨db26, 0, none⟩))) rfl ?_)
    refine s_op (o_callf (vs := #[(.pointer (some ⟨db26, 0, none⟩))]) ca27 rfl (args1 rfl) (dv_sy (d := ((Dv.mk (Pw.mk false false (0 - (((30 : Nat) : Int) + 1)) (0 + (((30 : Nat) : Int) + 1))) (List.replicate 30 blankS) []).ar 0)) ((hH43.front 1 rfl).front 1 rfl).all2 hd41 ((few_ar (n := 0) (few_fm 30) (by omega)).ok (by omega)) (by decide) (LoOk.nil _)) ?_)
    rintro _ w50 ⟨sg46, rfl, hd47, hX48⟩
    refine ⟨_, rfl, ?_⟩
    have hH49 : Has E w50 [sg46, [Hp.one pb27 (.cells #[(.bool (((Dv.mk (Pw.mk false false (0 - (((30 : Nat) : Int) + 1)) (0 + (((30 : Nat) : Int) + 1))) (List.replicate 30 blankS) []).ar 0).sy).p.off), (.bool (((Dv.mk (Pw.mk false false (0 - (((30 : Nat) : Int) + 1)) (0 + (((30 : Nat) : Int) + 1))) (List.replicate 30 blankS) []).ar 0).sy).p.armed), (.int .i64 (((Dv.mk (Pw.mk false false (0 - (((30 : Nat) : Int) + 1)) (0 + (((30 : Nat) : Int) + 1))) (List.replicate 30 blankS) []).ar 0).sy).p.left), (.int .i64 (((Dv.mk (Pw.mk false false (0 - (((30 : Nat) : Int) + 1)) (0 + (((30 : Nat) : Int) + 1))) (List.replicate 30 blankS) []).ar 0).sy).p.uses)] 101 (0, 0))], [Hp.one tb34 (.cells #[(.pointer (some ⟨db26, 0, none⟩)), (.int .i64 3)] 98 (0, 0))], [Hp.one b2 (.cells #[(.int .i64 a.1), (.int .i64 a.2.1), a.2.2.1] 36 (0, 0))], R] := hX48.of_all2
    have hH51 : Has E w50 [sg46, [Hp.one pb27 (.cells #[(.bool aw9.p.off), (.bool aw9.p.armed), (.int .i64 aw9.p.left), (.int .i64 aw9.p.uses)] 101 (0, 0))], [Hp.one tb34 (.cells #[(.pointer (some ⟨db26, 0, none⟩)), (.int .i64 3)] 98 (0, 0))], [Hp.one b2 (.cells #[(.int .i64 a.1), (.int .i64 a.2.1), a.2.2.1] 36 (0, 0))], R] := hH49
    have hd52 : DevAt pb27 sg46 db26 aw9.la aw9.lo := hd47
    refine s_nil ?_
    refine t_norm (hK45 _ _ ?_)
    refine wp_seq_k fun K53 hK53 => ?_
    refine c_region ?_
    refine s_op (o_move (v := (.pointer (some ⟨db26, 0, none⟩))) rfl ?_)
    refine s_op (o_callf (vs := #[(.pointer (some ⟨db26, 0, none⟩)), (.int .i64 3)]) ca21 rfl (args2 rfl rfl) (topen_off (d := aw9) ((hH51.front 1 rfl).front 1 rfl).all2 hd52 (n := 3) aw_few9 (by omega) rfl (by decide) ⟨by decide, by decide⟩ (by decide) (hg.mono (seg_sub 2 rfl)) (full_blank _) rfl) ?_)
    rintro _ w58 ⟨rfl, hX56⟩
    refine ⟨_, rfl, ?_⟩
    have hH57 : Has E w58 [sg46, [Hp.one pb27 (.cells #[(.bool aw9.p.off), (.bool aw9.p.armed), (.int .i64 aw9.p.left), (.int .i64 aw9.p.uses)] 101 (0, 0))], [Hp.one tb34 (.cells #[(.pointer (some ⟨db26, 0, none⟩)), (.int .i64 3)] 98 (0, 0))], [Hp.one b2 (.cells #[(.int .i64 a.1), (.int .i64 a.2.1), a.2.2.1] 36 (0, 0))], R] := hX56.of_all2
    refine s_op (o_move (v := (.tuple #[(.pointer none), (.int .i64 (6 : Int))])) rfl ?_)
    refine s_op (o_extract (v := (.pointer none)) rfl rfl ?_)
    refine s_op (o_extract (v := (.int .i64 (6 : Int))) rfl rfl ?_)
    refine s_op (o_assign (v := (.pointer none)) rfl ?_)
    refine s_op (o_assign (v := (.int .i64 (6 : Int))) rfl ?_)
    refine s_nil ?_
    refine t_norm (hK53 _ _ ?_)
    refine wp_seq_k fun K59 hK59 => ?_
    refine c_region ?_
    refine s_op (o_move (v := (.pointer (some ⟨tb34, 0, none⟩))) rfl ?_)
    refine s_op (o_callf (vs := #[(.pointer (some ⟨tb34, 0, none⟩)), (.int .i64 0)]) ca24 rfl (args2 rfl rfl) (tpage_off (d := aw9) (n := 3) (((hH57.front 2 rfl).front 2 rfl).front 2 rfl).all3 hd52 (show aw9.p.off = true by rfl) (x := 0) (by omega) ⟨by omega, by omega⟩) ?_)
    rintro _ w62 ⟨rfl, hX60⟩
    refine ⟨_, rfl, ?_⟩
    have hH61 : Has E w62 [sg46, [Hp.one pb27 (.cells #[(.bool aw9.p.off), (.bool aw9.p.armed), (.int .i64 aw9.p.left), (.int .i64 aw9.p.uses)] 101 (0, 0))], [Hp.one tb34 (.cells #[(.pointer (some ⟨db26, 0, none⟩)), (.int .i64 3)] 98 (0, 0))], [Hp.one b2 (.cells #[(.int .i64 a.1), (.int .i64 a.2.1), a.2.2.1] 36 (0, 0))], R] := hX60.of_all3
    refine s_op (o_move (v := (.tuple #[(.agg #[(.int .i64 0), (.int .i64 0), (.slice none 0 0)]), (.int .i64 (6 : Int))])) rfl ?_)
    refine s_op (o_extract (v := (.agg #[(.int .i64 0), (.int .i64 0), (.slice none 0 0)])) rfl rfl ?_)
    refine s_op (o_extract (v := (.int .i64 (6 : Int))) rfl rfl ?_)
    refine s_op (o_alloc (cs := #[(.int .i64 0), (.int .i64 0), (.slice none 0 0)]) ti36 rfl hH61 fun b63 w65 hH66 => ?_)
    refine s_eff (o_storeN (vs := [(.int .i64 0), (.int .i64 0), (.slice none 0 0)]) (c' := #[(.int .i64 0), (.int .i64 0), (.slice none 0 0)]) ti36 rfl rfl rfl rfl (by intro u hu; simp only [List.mem_cons, List.not_mem_nil, or_false] at hu; rcases hu with rfl | rfl | rfl <;> first | rfl) (by simp) (by kernel_rfl) (hH66.front 0 rfl) fun w67 hH68 => ?_)
    refine s_op (o_assign (v := (.int .i64 (6 : Int))) rfl ?_)
    refine s_nil ?_
    refine t_norm (hK59 _ _ ?_)
    refine wp_seq_k fun K69 hK69 => ?_
    refine c_region ?_
    refine s_op (o_assign (v := (.pointer none)) rfl ?_)
    refine s_nil ?_
    refine t_norm (hK69 _ _ ?_)
    refine wp_seq_k fun K70 hK70 => ?_
    refine c_region ?_
    refine s_op (o_move (v := (.pointer none)) rfl ?_)
    refine s_op (o_move (v := (.int .i64 no)) rfl ?_)
    refine s_op (o_callf (vs := #[(.pointer none), (.int .i64 no)]) ca24 rfl (args2 rfl rfl) (tpage_nil hH68.all no) ?_)
    rintro _ w73 ⟨rfl, hX71⟩
    refine ⟨_, rfl, ?_⟩
    have hH72 := hX71.of_all
    refine s_op (o_move (v := (.tuple #[(.agg #[(.int .i64 0), (.int .i64 0), (.slice none 0 0)]), (.int .i64 (1 : Int))])) rfl ?_)
    refine s_op (o_extract (v := (.agg #[(.int .i64 0), (.int .i64 0), (.slice none 0 0)])) rfl rfl ?_)
    refine s_op (o_extract (v := (.int .i64 (1 : Int))) rfl rfl ?_)
    refine s_op (o_alloc (cs := #[(.int .i64 0), (.int .i64 0), (.slice none 0 0)]) ti36 rfl hH72 fun b74 w75 hH76 => ?_)
    refine s_eff (o_storeN (vs := [(.int .i64 0), (.int .i64 0), (.slice none 0 0)]) (c' := #[(.int .i64 0), (.int .i64 0), (.slice none 0 0)]) ti36 rfl rfl rfl rfl (by intro u hu; simp only [List.mem_cons, List.not_mem_nil, or_false] at hu; rcases hu with rfl | rfl | rfl <;> first | rfl) (by simp) (by kernel_rfl) (hH76.front 0 rfl) fun w77 hH78 => ?_)
    refine s_op (o_assign (v := (.int .i64 (1 : Int))) rfl ?_)
    refine s_nil ?_
    refine t_norm (hK70 _ _ ?_)
    refine wp_seq_k fun K79 hK79 => ?_
    refine c_region ?_
    refine s_op (o_move (v := (.pointer none)) rfl ?_)
    refine s_op (o_pnil (p := none) Tryz.underlying25 rfl rfl ?_)
    refine s_op (o_move (v := (.bool true)) rfl ?_)
    refine s_on 56 rfl rfl (o_move (v := (.int .i64 (1 : Int))) rfl ?_)
    refine s_on 56 rfl rfl (o_eql (a := (1 : Int)) (b := 1) rfl rfl ?_)
    refine s_op (o_pick_t (u := (.bool (decide ((1 : Int) = 1)))) rfl rfl ?_)
    refine s_op (o_move (v := (.bool (decide ((1 : Int) = 1)))) rfl ?_)
    by_cases h80 : (1 : Int) = 1
    · -- (1 : Int) = 1
      refine s_on 60 rfl (congrArg Value.bool (decide_eq_true h80)) (o_move (v := (.pointer (some ⟨tb34, 0, none⟩))) rfl ?_)
      refine s_on 60 rfl (congrArg Value.bool (decide_eq_true h80)) (o_pnnil (p := some _) Tryz.underlying25 rfl rfl ?_)
      refine s_op (o_pick_t (u := (.bool true)) ((rfl : _ = _).trans (congrArg Value.bool (decide_eq_true h80))) rfl ?_)
      refine s_op (o_move (v := (.bool true)) rfl ?_)
      refine s_on 64 rfl rfl (o_move (v := (.int .i64 (0 : Int))) rfl ?_)
      refine s_on 64 rfl rfl (o_eql (a := (0 : Int)) (b := 0) rfl rfl ?_)
      refine s_op (o_pick_t (u := (.bool (decide ((0 : Int) = 0)))) rfl rfl ?_)
      refine s_op (o_move (v := (.bool (decide ((0 : Int) = 0)))) rfl ?_)
      by_cases h81 : (0 : Int) = 0
      · -- (0 : Int) = 0
        refine s_on 68 rfl (congrArg Value.bool (decide_eq_true h81)) (o_move (v := (.pointer none)) rfl ?_)
        refine s_on 68 rfl (congrArg Value.bool (decide_eq_true h81)) (o_pnil (p := none) Tryz.underlying25 rfl rfl ?_)
        refine s_op (o_pick_t (u := (.bool true)) ((rfl : _ = _).trans (congrArg Value.bool (decide_eq_true h81))) rfl ?_)
        refine s_op (o_move (v := (.bool true)) rfl ?_)
        refine s_on 72 rfl rfl (o_move (v := (.int .i64 (6 : Int))) rfl ?_)
        refine s_on 72 rfl rfl (o_eql (a := (6 : Int)) (b := 6) rfl rfl ?_)
        refine s_op (o_pick_t (u := (.bool (decide ((6 : Int) = 6)))) rfl rfl ?_)
        refine s_op (o_move (v := (.bool (decide ((6 : Int) = 6)))) rfl ?_)
        by_cases h82 : (6 : Int) = 6
        · -- (6 : Int) = 6
          refine s_on 76 rfl (congrArg Value.bool (decide_eq_true h82)) (o_move (v := (.int .i64 (6 : Int))) rfl ?_)
          refine s_on 76 rfl (congrArg Value.bool (decide_eq_true h82)) (o_eql (a := (6 : Int)) (b := 6) rfl rfl ?_)
          refine s_op (o_pick_t (u := (.bool (decide ((6 : Int) = 6)))) ((rfl : _ = _).trans (congrArg Value.bool (decide_eq_true h82))) rfl ?_)
          refine s_op (o_move (v := (.bool (decide ((6 : Int) = 6)))) rfl ?_)
          refine s_on 80 rfl (congrArg Value.bool (decide_eq_true h82)) (o_move (v := (.pointer (some ⟨tb34, 0, none⟩))) rfl ?_)
          refine s_on 80 rfl (congrArg Value.bool (decide_eq_true h82)) (o_sight (v := (.agg #[(.int .i64 0), (.int .i64 0), (.slice none 0 0)])) (fun _ => by kernel_rfl) ?_)
          refine s_on 80 rfl (congrArg Value.bool (decide_eq_true h82)) (o_buildSlice (ps := #[(0, (.agg #[(.int .i64 0), (.int .i64 0), (.slice none 0 0)]))]) (cells := #[(.int .i64 0), (.int .i64 0), (.slice none 0 0)]) Tryz.underlying31 ti36 (by decide) (parts1 rfl) (by kernel_rfl) hH78 fun b83 w84 hH85 => ?_)
          refine s_on 80 rfl (congrArg Value.bool (decide_eq_true h82)) (o_callf (vs := #[(.pointer (some ⟨tb34, 0, none⟩)), (.slice (some ⟨b83, 0, none⟩) 1 1)]) ca18 rfl (args2 rfl rfl) (tstoreL_c (d := aw9) (n := 3) (((hH85.front 5 rfl).front 5 rfl).front 5 rfl).all3 hd52 aw_few9 (by omega) rfl (by decide) (hg.mono (seg_sub 4 rfl)) (l := [((0, 0, (.slice none 0 0), []) : Pg)]) ((sl_litF (f := pgC) (l := [((0, 0, (.slice none 0 0), []) : Pg)]) pgC_len rfl rfl (by simp)).mono (seg_sub 0 rfl)) (fun a ha => by rw [List.mem_singleton.1 ha]; exact sl_nil 2) (by first | omega | simp)) ?_)
          rintro _ w90 ⟨sg86, rfl, hd87, hX88⟩
          refine ⟨_, rfl, ?_⟩
          have hH89 : Has E w90 [sg86, [Hp.one pb27 (.cells #[(.bool ((stL aw9 3 [((0, 0, (.slice none 0 0), []) : Pg)]).2).p.off), (.bool ((stL aw9 3 [((0, 0, (.slice none 0 0), []) : Pg)]).2).p.armed), (.int .i64 ((stL aw9 3 [((0, 0, (.slice none 0 0), []) : Pg)]).2).p.left), (.int .i64 ((stL aw9 3 [((0, 0, (.slice none 0 0), []) : Pg)]).2).p.uses)] 101 (0, 0))], [Hp.one tb34 (.cells #[(.pointer (some ⟨db26, 0, none⟩)), (.int .i64 3)] 98 (0, 0))], [Hp.one b83 (.cells #[(.int .i64 0), (.int .i64 0), (.slice none 0 0)] 36 (0, 0))], [Hp.one b74 (.cells #[(.int .i64 0), (.int .i64 0), (.slice none 0 0)] 36 (0, 0))], [Hp.one b63 (.cells #[(.int .i64 0), (.int .i64 0), (.slice none 0 0)] 36 (0, 0))], [Hp.one b2 (.cells #[(.int .i64 a.1), (.int .i64 a.2.1), a.2.2.1] 36 (0, 0))], R] := hX88.of_all3
          refine s_on 80 rfl (congrArg Value.bool (decide_eq_true h82)) (o_eql (a := (stL aw9 3 [((0, 0, (.slice none 0 0), []) : Pg)]).1) (b := 6) rfl rfl ?_)
          refine s_op (o_pick_t (u := (.bool (decide ((stL aw9 3 [((0, 0, (.slice none 0 0), []) : Pg)]).1 = 6)))) ((rfl : _ = _).trans (congrArg Value.bool (decide_eq_true h82))) rfl ?_)
          refine s_op (o_move (v := (.bool (decide ((stL aw9 3 [((0, 0, (.slice none 0 0), []) : Pg)]).1 = 6)))) rfl ?_)
          by_cases h91 : (stL aw9 3 [((0, 0, (.slice none 0 0), []) : Pg)]).1 = 6
          · -- (stL aw9 3 [((0, 0, (.slice none 0 0), []) : Pg)]).1 = 6
            refine s_on 87 rfl (congrArg Value.bool (decide_eq_true h91)) (o_move (v := (.int .i64 (1 : Int))) rfl ?_)
            refine s_on 87 rfl (congrArg Value.bool (decide_eq_true h91)) (o_eql (a := (1 : Int)) (b := 1) rfl rfl ?_)
            refine s_op (o_pick_t (u := (.bool (decide ((1 : Int) = 1)))) ((rfl : _ = _).trans (congrArg Value.bool (decide_eq_true h91))) rfl ?_)
            refine s_op (o_move (v := (.bool (decide ((1 : Int) = 1)))) rfl ?_)
            refine s_on 91 rfl (congrArg Value.bool (decide_eq_true h80)) (o_move (v := (.pointer none)) rfl ?_)
            refine s_on 91 rfl (congrArg Value.bool (decide_eq_true h80)) (o_loadN (cs := [(.int .i64 a.1), (.int .i64 a.2.1), a.2.2.1]) Tryz.underlying36 rfl ti36 rfl hH89 (seg_sub 6 rfl) (CellsAt.one rfl) ?_)
            refine s_on 91 rfl (congrArg Value.bool (decide_eq_true h80)) (o_buildSlice (ps := #[(0, (.agg #[(.int .i64 a.1), (.int .i64 a.2.1), a.2.2.1]))]) (cells := #[(.int .i64 a.1), (.int .i64 a.2.1), a.2.2.1]) Tryz.underlying31 ti36 (by decide) (parts1 rfl) (by kernel_rfl) hH89 fun b92 w93 hH94 => ?_)
            refine s_on 91 rfl (congrArg Value.bool (decide_eq_true h80)) (o_callf (vs := #[(.pointer none), (.slice (some ⟨b92, 0, none⟩) 1 1)]) ca18 rfl (args2 rfl rfl) (tstore_nil hH94.all (.slice (some ⟨b92, 0, none⟩) 1 1)) ?_)
            rintro _ w97 ⟨rfl, hX95⟩
            refine ⟨_, rfl, ?_⟩
            have hH96 := hX95.of_all
            refine s_on 91 rfl (congrArg Value.bool (decide_eq_true h80)) (o_eql (a := (1 : Int)) (b := 1) rfl rfl ?_)
            refine s_op (o_pick_t (u := (.bool (decide ((1 : Int) = 1)))) ((rfl : _ = _).trans (congrArg Value.bool (decide_eq_true h80))) rfl ?_)
            refine s_op (o_move (v := (.bool (decide ((1 : Int) = 1)))) rfl ?_)
            refine s_on 98 rfl (congrArg Value.bool (decide_eq_true h80)) (o_move (v := (.pointer none)) rfl ?_)
            refine s_on 98 rfl (congrArg Value.bool (decide_eq_true h80)) (o_callf (vs := #[(.pointer none)]) ca28 rfl (args1 rfl) (tpages_nil hH96.all) ?_)
            rintro _ w100 ⟨rfl, hX98⟩
            refine ⟨_, rfl, ?_⟩
            have hH99 := hX98.of_all
            refine s_on 98 rfl (congrArg Value.bool (decide_eq_true h80)) (o_eql (a := (0 : Int)) (b := 0) rfl rfl ?_)
            refine s_op (o_pick_t (u := (.bool (decide ((0 : Int) = 0)))) ((rfl : _ = _).trans (congrArg Value.bool (decide_eq_true h80))) rfl ?_)
            refine s_op (o_assign (v := (.bool (decide ((0 : Int) = 0)))) rfl ?_)
            refine s_nil ?_
            refine t_norm (hK79 _ _ ?_)
            refine wp_ret ?_
            refine c_ret1 Tryz.results5  (v := (.bool (decide ((0 : Int) = 0)))) rfl ?_
            have hH101 : Has E w100 [R] := (hH99.front 8 rfl).first 1 rfl
            exact ⟨by first | rfl | (rw [decide_eq_true (by decide)]), hH101⟩
          · -- not: (stL aw9 3 [((0, 0, (.slice none 0 0), []) : Pg)]).1 = 6
            exact absurd aw_9 h91
        · -- not: (6 : Int) = 6
          exact absurd h82 (by decide)
      · -- not: (0 : Int) = 0
        exact absurd h81 (by decide)
    · -- not: (1 : Int) = 1
      exact absurd h80 (by decide)
end Go.Q
namespace Go.Q
theorem arr_cells {H : Type} {enc : TypeId × Value → H} {P : Program} {w : World} {base : Nat} {spare : Nat → Bool} {held : Bool} {fuel n : Nat} {t e : TypeId} {k : IntKind} {cs : List Value} {l : List Int} {p : List MemPlace}
    (ht : P.underlying t = some (.array n e)) (he : P.underlying e = some (.int k)) (hc : P.cellsOf e = 1) (hl : l.length = n)
    (h : DataW.trod enc P w base spare held fuel t cs = some (.agg (l.map fun z => (DataW.lit (Lit.int k z) : DataW H)), p)) : ∀ (i : Nat) (z : Int), l[i]? = some z → cs[i]? = some (Value.int k z) := by
  intro i z hz
  obtain ⟨xs, m, _, hx, _, hn, hel⟩ := DataW.trod_array ht h
  simp only [Prod.mk.injEq, DataW.agg.injEq] at hx
  have hi : i < n := by rw [← hl]; exact (List.getElem?_eq_some_iff.1 hz).1
  have h1 := hel i hi
  rw [hc, Nat.mul_one, List.getElem?_eq_getElem (by omega)] at h1
  obtain ⟨r, e1, e2, _⟩ := DataW.trod_int he h1
  have e3 : (xs.map (·.1))[i]? = some (DataW.lit (Lit.int k z)) := by rw [← hx.1, List.getElem?_map, hz]; rfl
  rw [List.getElem?_map, List.getElem?_eq_getElem (by omega), Option.map_some] at e3
  rw [e2] at e3
  have e4 : r = z := by simpa using e3
  subst e4
  have e5 : (List.take 1 (List.drop i cs))[0]? = some (.int k r) := by rw [e1]; rfl
  rw [List.getElem?_take, if_pos (by omega), List.getElem?_drop] at e5
  simpa using e5
end Go.Q
namespace Go.Q
open Go.Proofs
set_option linter.unusedVariables false
set_option maxRecDepth 100000
attribute [local irreducible] wpList OK Code.wp
theorem rd_cel {H : Type} {enc : TypeId × Value → H} {w : World} {cs : List Value} (h : Rd enc Tryz.prog w 70 cs) : ∃ a : Cel, cs = ceC a ∧ True := by
  obtain ⟨hl, hf⟩ := rd_struct Tryz.underlying70 h
  have hl : cs.length = 2 := hl.trans (by kernel_rfl)
  obtain ⟨c0, c1, rfl⟩ : ∃ c0 c1, cs = [c0, c1] := by
    match cs, hl with
    | [c0, c1], _ => exact ⟨c0, c1, rfl⟩
  have f0_6 : Rd enc Tryz.prog w 9 [c0] := rd_field (i := 0) (k := 1) hf rfl rfl (by kernel_rfl) rfl
  obtain ⟨n0, e0, b0⟩ := rd_string Tryz.underlying9 f0_6
  obtain rfl := (List.cons.inj e0).1
  have f1_9 : Rd enc Tryz.prog w 9 [c1] := rd_field (i := 1) (k := 1) hf rfl rfl (by kernel_rfl) rfl
  obtain ⟨n1, e1, b1⟩ := rd_string Tryz.underlying9 f1_9
  obtain rfl := (List.cons.inj e1).1
  exact ⟨(n0, n1), rfl, trivial⟩
theorem rd_cels {H : Type} {enc : TypeId × Value → H} {w : World} {cs : List Value} (h : Rd enc Tryz.prog w 34 cs) : ∃ (v : Value) (l : List Cel), cs = [v] ∧ Sl [Hp.of w] 2 v l.length (l.flatMap ceC) ∧ ∀ a ∈ l, True :=
  rd_rows Tryz.underlying34 (by kernel_rfl) (by decide) ceC_len (fun r hr => rd_cel hr) h
theorem rd_page {H : Type} {enc : TypeId × Value → H} {w : World} {cs : List Value} (h : Rd enc Tryz.prog w 36 cs) : ∃ a : Pg, cs = pgC a ∧ PgIn [Hp.of w] a := by
  obtain ⟨hl, hf⟩ := rd_struct Tryz.underlying36 h
  have hl : cs.length = 3 := hl.trans (by kernel_rfl)
  obtain ⟨c0, c1, c2, rfl⟩ : ∃ c0 c1 c2, cs = [c0, c1, c2] := by
    match cs, hl with
    | [c0, c1, c2], _ => exact ⟨c0, c1, c2, rfl⟩
  have f0_6 : Rd enc Tryz.prog w 3 [c0] := rd_field (i := 0) (k := 1) hf rfl rfl (by kernel_rfl) rfl
  obtain ⟨n0, e0, b0⟩ := rd_i64 Tryz.underlying3 f0_6
  obtain rfl := (List.cons.inj e0).1
  have f1_9 : Rd enc Tryz.prog w 3 [c1] := rd_field (i := 1) (k := 1) hf rfl rfl (by kernel_rfl) rfl
  obtain ⟨n1, e1, b1⟩ := rd_i64 Tryz.underlying3 f1_9
  obtain rfl := (List.cons.inj e1).1
  have f2_12 : Rd enc Tryz.prog w 34 [c2] := rd_field (i := 2) (k := 1) hf rfl rfl (by kernel_rfl) rfl
  obtain ⟨u2, n2, e2, s2, b2⟩ := rd_cels f2_12
  obtain rfl := (List.cons.inj e2).1
  exact ⟨(n0, n1, _, n2), rfl, s2⟩
end Go.Q
