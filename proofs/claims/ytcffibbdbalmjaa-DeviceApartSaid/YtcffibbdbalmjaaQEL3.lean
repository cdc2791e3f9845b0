/-
  Parts of a walk: what functions of the program compute, each told by a theorem.
-/
import Derived.Test.YtcffibbdbalmjaaQE9
set_option linter.unusedVariables false
set_option linter.unusedSimpArgs false
namespace Go.Q
open Go.Proofs
set_option linter.unusedVariables false
set_option maxRecDepth 100000
attribute [local irreducible] wpList OK Code.wp
set_option maxHeartbeats 4000000 in
theorem DeviceApart_c {E w : World} {R : List Hp} (hH : Has E w [R]) {v1 : Value} {first : List Bs} (hf : Sl R 1 v1 first.length (first.map sV)) {v : Value} {l : List DAct} (hv : Sl R 5 v l.length (l.flatMap daC)) (hok : ∀ a ∈ l, DaOk R a) :
    Calls Try.prog 11 #[v1, v] w fun e w' => e = .returned (.bool true) ∧ Has E w' [R] := by
  have hn1_ := hf.le
  have hn_ := hv.le
  refine c_enter (args := [v1, v]) Try.func11 rfl Try.ntmps11 (by simp) ?_
  refine wp_seq_k fun K1 hK1 => ?_
  refine c_region ?_
  refine s_op (o_assign (v := (.bool false)) rfl ?_)
  refine s_nil ?_
  refine t_norm (hK1 _ _ ?_)
  refine wp_seq_k fun K2 hK2 => ?_
  refine wp_seq_k fun K3 hK3 => ?_
  refine c_region ?_
  refine s_op (o_move (v := v) rfl ?_)
  refine s_op (o_callf (vs := #[v]) ca50 rfl (args1 rfl) (lgreat_c hH.all (l := l) (hv.mono (seg_sub 0 rfl)) (fun a ha => (hok a ha).mono (seg_sub 0 rfl))) ?_)
  rintro _ w8 ⟨gb4, rfl, hg5, hX6⟩
  refine ⟨_, rfl, ?_⟩
  have hH7 : Has E w8 [R] := hX6.of_all
  refine s_op (o_move (v := (.bool gb4)) rfl ?_)
  rcases Bool.eq_false_or_eq_true gb4 with h9 | h9
  · -- gb4
    refine s_off (b' := true) 20 rfl (congrArg Value.bool h9) rfl ?_
    refine s_off (b' := true) 20 rfl (congrArg Value.bool h9) rfl ?_
    refine s_off (b' := true) 20 rfl (congrArg Value.bool h9) rfl ?_
    refine s_op (o_pick_t (u := (.bool true)) ((rfl : _ = _).trans (congrArg Value.bool h9)) rfl ?_)
    refine s_op (o_move (v := (.bool true)) rfl ?_)
    refine s_off (b' := true) 25 rfl rfl rfl ?_
    refine s_off (b' := true) 25 rfl rfl rfl ?_
    refine s_op (o_pick_t (u := (.bool true)) rfl rfl ?_)
    refine s_nil ?_
    refine t_norm (hK3 _ _ ?_)
    refine c_true rfl rfl ?_
    refine wp_seq_k fun K10 hK10 => ?_
    refine c_region ?_
    refine s_op (o_callf (vs := #[]) ca27 rfl (args0) (awake5_c hH7.all) ?_)
    rintro _ w13 ⟨rfl, hX11⟩
    refine ⟨_, rfl, ?_⟩
    have hH12 := hX11.of_all
    refine s_op (o_assign (v := (.bool true)) rfl ?_)
    refine s_nil ?_
    refine t_norm (hK10 _ _ ?_)
    refine wp_ret ?_
    refine t_ret (c_ret1 Try.results11  (v := (.bool true)) rfl ?_)
    exact ⟨rfl, hH12⟩
  · -- not: gb4
    have hfine := hg5 h9
    have hl60 := hfine.1
    refine s_on 20 rfl (congrArg Value.bool h9) (o_move (v := v1) rfl ?_)
    refine s_on 20 rfl (congrArg Value.bool h9) (o_lenS Try.underlying53 rfl hf ?_)
    refine s_on 20 rfl (congrArg Value.bool h9) (o_gtr (a := ((first.length : Nat) : Int)) (b := 20) rfl rfl ?_)
    refine s_op (o_pick_f (u := (.bool (decide (20 < ((first.length : Nat) : Int))))) ((rfl : _ = _).trans (congrArg Value.bool h9)) rfl ?_)
    refine s_op (o_move (v := (.bool (decide (20 < ((first.length : Nat) : Int))))) rfl ?_)
    by_cases h14 : 20 < ((first.length : Nat) : Int)
    · -- 20 < ((first.length : Nat) : Int)
      refine s_off (b' := true) 25 rfl (congrArg Value.bool (decide_eq_true h14)) rfl ?_
      refine s_off (b' := true) 25 rfl (congrArg Value.bool (decide_eq_true h14)) rfl ?_
      refine s_op (o_pick_t (u := (.bool true)) ((rfl : _ = _).trans (congrArg Value.bool (decide_eq_true h14))) rfl ?_)
      refine s_nil ?_
      refine t_norm (hK3 _ _ ?_)
      refine c_true rfl rfl ?_
      refine wp_seq_k fun K15 hK15 => ?_
      refine c_region ?_
      refine s_op (o_callf (vs := #[]) ca27 rfl (args0) (awake5_c hH7.all) ?_)
      rintro _ w18 ⟨rfl, hX16⟩
      refine ⟨_, rfl, ?_⟩
      have hH17 := hX16.of_all
      refine s_op (o_assign (v := (.bool true)) rfl ?_)
      refine s_nil ?_
      refine t_norm (hK15 _ _ ?_)
      refine wp_ret ?_
      refine t_ret (c_ret1 Try.results11  (v := (.bool true)) rfl ?_)
      exact ⟨rfl, hH17⟩
    · -- not: 20 < ((first.length : Nat) : Int)
      refine s_on 25 rfl (congrArg Value.bool (decide_eq_false h14)) (o_callf (vs := #[]) ca27 rfl (args0) (awake5_c hH7.all) ?_)
      rintro _ w21 ⟨rfl, hX19⟩
      refine ⟨_, rfl, ?_⟩
      have hH20 := hX19.of_all
      refine s_on 25 rfl (congrArg Value.bool (decide_eq_false h14)) (o_not rfl ?_)
      refine s_op (o_pick_f (u := (.bool false)) ((rfl : _ = _).trans (congrArg Value.bool (decide_eq_false h14))) rfl ?_)
      refine s_nil ?_
      refine t_norm (hK3 _ _ ?_)
      refine c_false rfl rfl ?_
      refine wp_skip ?_
      refine t_norm (hK2 _ _ ?_)
      refine wp_seq_k fun K22 hK22 => ?_
      refine c_region ?_
      refine s_op (o_sight (v := (.agg #[(.bool false), (.bool false), (.int .i64 0), (.int .i64 0)])) (fun _ => by kernel_rfl) ?_)
      refine s_op (o_box (cs := #[(.bool false), (.bool false), (.int .i64 0), (.int .i64 0)]) rfl rfl hH20 fun b23 w24 hH25 => ?_)
      refine s_op (o_assign (v := (.pointer (some ⟨b23, 0, none⟩))) rfl ?_)
      refine s_nil ?_
      refine t_norm (hK22 _ _ ?_)
      refine wp_seq_k fun K26 hK26 => ?_
      refine c_region ?_
      refine s_op (o_move (v := (.pointer (some ⟨b23, 0, none⟩))) rfl ?_)
      have hH27 : Has E w24 [[Hp.one b23 (.cells #[(.bool (Pw.mk false false 0 0).off), (.bool (Pw.mk false false 0 0).armed), (.int .i64 (Pw.mk false false 0 0).left), (.int .i64 (Pw.mk false false 0 0).uses)] 101 (0, 0))], R] := hH25
      refine s_op (o_callf (vs := #[(.pointer (some ⟨b23, 0, none⟩)), (.int .i64 6)]) ca23 rfl (args2 rfl rfl) (new_w hH27.all (pb := b23) (n := 6) (by decide)) ?_)
      rintro _ w33 ⟨db28, sg29, rfl, hd30, hX31⟩
      refine ⟨_, rfl, ?_⟩
      have hH32 : Has E w33 [sg29, [Hp.one b23 (.cells #[(.bool (Pw.mk false false 0 0).off), (.bool (Pw.mk false false 0 0).armed), (.int .i64 (Pw.mk false false 0 0).left), (.int .i64 (Pw.mk false false 0 0).uses)] 101 (0, 0))], R] := hX31.of_all1
      refine s_op (o_move (v := (.pointer (some ⟨b23, 0, none⟩))) rfl ?_)
      refine s_op (o_callf (vs := #[(.pointer (some ⟨b23, 0, none⟩)), (.int .i64 6)]) ca23 rfl (args2 rfl rfl) (new_w hH32.all (pb := b23) (n := 6) (by decide)) ?_)
      rintro _ w39 ⟨db34, sg35, rfl, hd36, hX37⟩
      refine ⟨_, rfl, ?_⟩
      have hH38 : Has E w39 [sg35, sg29, [Hp.one b23 (.cells #[(.bool (Pw.mk false false 0 0).off), (.bool (Pw.mk false false 0 0).armed), (.int .i64 (Pw.mk false false 0 0).left), (.int .i64 (Pw.mk false false 0 0).uses)] 101 (0, 0))], R] := hX37.of_all1
      refine s_op (o_assign (v := (.pointer (some ⟨db28, 0, none⟩))) rfl ?_)
      refine s_op (o_assign (v := (.pointer (some ⟨db34, 0, none⟩))) rfl ?_)
      refine s_nil ?_
      refine t_norm (hK26 _ _ ?_)
      refine wp_seq_k fun K40 hK40 => ?_
      let J42 : (Nat → Value) → World → Prop := fun r__ w__ => ∃ (p2 : Pw) (lo2 : List (Int × Bs)) (sg2 : List Hp), Has E w__ [sg2, [Hp.one b23 (.cells #[(.bool p2.off), (.bool p2.armed), (.int .i64 p2.left), (.int .i64 p2.uses)] 101 (0, 0))], sg35, R] ∧ (DevAt b23 sg2 db28 (List.replicate 6 blankS) lo2) ∧ (Calm p2 6) ∧ (LoOk lo2 (List.replicate 6 blankS).length) ∧ r__ 0 = v1 ∧ r__ 1 = v ∧ r__ 4 = (.bool false) ∧ r__ 5 = (.pointer (some ⟨b23, 0, none⟩)) ∧ r__ 6 = (.pointer (some ⟨db28, 0, none⟩)) ∧ r__ 7 = (.pointer (some ⟨db34, 0, none⟩)) ∧ r__ 28 = (.bool false)
      have hJ43 : ∀ r w, J42 r w → K40 (Go.Q.fr 163 r) w := by
        rintro r46 w44 ⟨p2, lo2, sg2, hH45, hd2, hp2, hlo2, e41_0, e41_1, e41_4, e41_5, e41_6, e41_7, e41_28⟩
        refine hK40 _ _ ?_
        refine wp_seq_k fun K47 hK47 => ?_
        refine c_region ?_
        refine s_op (o_assign (v := (.slice none 0 0)) rfl ?_)
        refine s_op (o_assign (v := (.slice none 0 0)) rfl ?_)
        refine s_nil ?_
        refine t_norm (hK47 _ _ ?_)
        refine wp_seq_k fun K48 hK48 => ?_
        refine wp_seq_k fun K49 hK49 => ?_
        refine c_region ?_
        refine s_op (o_assign (v := (.int .i64 0)) rfl ?_)
        refine s_nil ?_
        refine t_norm (hK49 _ _ ?_)
        refine wp_block ?_
        let I51 : Nat → (Nat → Value) → World → Prop := fun n__ r__ w__ => ∃ (k : Nat) (va : Value) (ha : List Hp) (W : List Bs) (vb : Value) (hb : List Hp) (M : List Bs), n__ = 6 - k ∧ Has E w__ [ha, hb, sg2, [Hp.one b23 (.cells #[(.bool p2.off), (.bool p2.armed), (.int .i64 p2.left), (.int .i64 p2.uses)] 101 (0, 0))], sg35, R] ∧ (k ≤ 6) ∧ (Own 9 1 va W.length (W.map sV) ha) ∧ (Own 9 1 vb M.length (M.map sV) hb) ∧ (W.length = k) ∧ (M.length = k) ∧ (W = (List.range k).map (fun j : Nat => readS p2 (List.replicate 6 blankS) lo2 (j : Int))) ∧ (M = (List.range k).map (fun j : Nat => lastsS (List.replicate 6 blankS) (j : Int))) ∧ r__ 0 = v1 ∧ r__ 1 = v ∧ r__ 4 = (.bool false) ∧ r__ 5 = (.pointer (some ⟨b23, 0, none⟩)) ∧ r__ 6 = (.pointer (some ⟨db28, 0, none⟩)) ∧ r__ 7 = (.pointer (some ⟨db34, 0, none⟩)) ∧ r__ 9 = va ∧ r__ 10 = vb ∧ r__ 11 = (.int .i64 (k : Int)) ∧ r__ 28 = (.bool false)
        have hH52 : Has E w44 [[], [], sg2, [Hp.one b23 (.cells #[(.bool p2.off), (.bool p2.armed), (.int .i64 p2.left), (.int .i64 p2.uses)] 101 (0, 0))], sg35, R] := Has.pick (Has.nil (Has.nil hH45)) [0, 0, 0, 0, 0, 0] (by kernel_rfl)
        refine c_loop I51 _ ⟨0, (.slice none 0 0), [], [], (.slice none 0 0), [], [], rfl, hH52, Nat.zero_le _, Own.nil 9 1, Own.nil 9 1, rfl, rfl, rfl, rfl, e41_0, e41_1, e41_4, e41_5, e41_6, e41_7, rfl, rfl, rfl, e41_28⟩ ?_
        rintro n_ r55 w53 ⟨k, va, ha, W, vb, hb, M, rfl, hH54, hk, hva, hvb, hWl, hMl, hW, hM, e50_0, e50_1, e50_4, e50_5, e50_6, e50_7, e50_9, e50_10, e50_11, e50_28⟩
        refine wp_seq_k fun K56 hK56 => ?_
        refine wp_seq_k fun K57 hK57 => ?_
        refine c_region ?_
        refine s_op (o_move (v := (.int .i64 (k : Int))) e50_11 ?_)
        refine s_op (o_lss (a := (k : Int)) (b := 6) rfl rfl ?_)
        refine s_nil ?_
        refine t_norm (hK57 _ _ ?_)
        refine c_cond rfl (fun h58 => ?_) (fun h58 => ?_)
        · -- (k : Int) < 6
          refine wp_skip ?_
          refine t_norm (hK56 _ _ ?_)
          refine wp_seq_k fun K59 hK59 => ?_
          refine wp_block ?_
          refine wp_seq_k fun K60 hK60 => ?_
          refine c_region ?_
          refine s_op (o_move (v := (.pointer (some ⟨db28, 0, none⟩))) e50_6 ?_)
          refine s_op (o_move (v := (.int .i64 (k : Int))) e50_11 ?_)
          refine s_op (o_callf (vs := #[(.pointer (some ⟨db28, 0, none⟩)), (.int .i64 (k : Int))]) ca33 rfl (args2 rfl rfl) (read_d (p := p2) (la := (List.replicate 6 blankS)) (lo := lo2) ((hH54.front 3 rfl).front 3 rfl).all2 hd2 (k : Int)) ?_)
          rintro _ w63 ⟨rfl, hX61⟩
          refine ⟨_, rfl, ?_⟩
          have hH62 : Has E w63 [sg2, [Hp.one b23 (.cells #[(.bool p2.off), (.bool p2.armed), (.int .i64 p2.left), (.int .i64 p2.uses)] 101 (0, 0))], ha, hb, sg35, R] := hX61.of_all2
          refine s_op (o_move (v := (.tuple #[(S (readS p2 (List.replicate 6 blankS) lo2 (k : Int))), (.int .i64 (readE p2 (List.replicate 6 blankS) (k : Int)))])) rfl ?_)
          refine s_op (o_extract (v := (S (readS p2 (List.replicate 6 blankS) lo2 (k : Int)))) rfl rfl ?_)
          refine s_op (o_extract (v := (.int .i64 (readE p2 (List.replicate 6 blankS) (k : Int)))) rfl rfl ?_)
          refine s_op (o_assign (v := (S (readS p2 (List.replicate 6 blankS) lo2 (k : Int)))) rfl ?_)
          refine s_op (o_assign (v := (.int .i64 (readE p2 (List.replicate 6 blankS) (k : Int)))) rfl ?_)
          refine s_nil ?_
          refine t_norm (hK60 _ _ ?_)
          refine wp_seq_k fun K64 hK64 => ?_
          refine c_region ?_
          refine s_op (o_move (v := va) e50_9 ?_)
          refine s_op (o_move (v := (S (readS p2 (List.replicate 6 blankS) lo2 (k : Int)))) rfl ?_)
          refine s_op (o_buildSlice (ps := #[(0, (S (readS p2 (List.replicate 6 blankS) lo2 (k : Int))))]) (cells := #[(S (readS p2 (List.replicate 6 blankS) lo2 (k : Int)))]) Try.underlying53 ti9 (by decide) (parts1 rfl) (by kernel_rfl) hH62 fun b65 w66 hH67 => ?_)
          refine s_op (o_append Try.underlying53 ti9 rfl (by decide) rfl hva rfl (sl_lit (f := sV) (l := [(readS p2 (List.replicate 6 blankS) lo2 (k : Int))]) rfl rfl (by simp)) (hH67.front 3 rfl) (seg_sub 0 rfl) (one_sV _) (by simp; omega) (by simp; omega) fun v68 s69 w71 ho70 hH72 => ?_)
          have ho70 : Own 9 1 v68 (W ++ [(readS p2 (List.replicate 6 blankS) lo2 (k : Int))]).length ((W ++ [(readS p2 (List.replicate 6 blankS) lo2 (k : Int))]).map sV) s69 := ho70.app
          refine s_op (o_assign (v := v68) rfl ?_)
          refine s_nil ?_
          refine t_norm (hK64 _ _ ?_)
          refine c_region ?_
          refine s_op (o_move (v := vb) e50_10 ?_)
          refine s_op (o_move (v := (.pointer (some ⟨db28, 0, none⟩))) e50_6 ?_)
          refine s_op (o_move (v := (.int .i64 (k : Int))) e50_11 ?_)
          refine s_op (o_callf (vs := #[(.pointer (some ⟨db28, 0, none⟩)), (.int .i64 (k : Int))]) ca51 rfl (args2 rfl rfl) (lasts_d (p := p2) (la := (List.replicate 6 blankS)) (lo := lo2) ((hH72.front 3 rfl).front 3 rfl).all2 hd2 (k : Int)) ?_)
          rintro _ w75 ⟨rfl, hX73⟩
          refine ⟨_, rfl, ?_⟩
          have hH74 : Has E w75 [sg2, [Hp.one b23 (.cells #[(.bool p2.off), (.bool p2.armed), (.int .i64 p2.left), (.int .i64 p2.uses)] 101 (0, 0))], s69, [Hp.one b65 (.cells #[(S (readS p2 (List.replicate 6 blankS) lo2 (k : Int)))] 9 (0, 0))], hb, sg35, R] := hX73.of_all2
          refine s_op (o_buildSlice (ps := #[(0, (S (lastsS (List.replicate 6 blankS) (k : Int))))]) (cells := #[(S (lastsS (List.replicate 6 blankS) (k : Int)))]) Try.underlying53 ti9 (by decide) (parts1 rfl) (by kernel_rfl) hH74 fun b76 w77 hH78 => ?_)
          refine s_op (o_append Try.underlying53 ti9 rfl (by decide) rfl hvb rfl (sl_lit (f := sV) (l := [(lastsS (List.replicate 6 blankS) (k : Int))]) rfl rfl (by simp)) (hH78.front 5 rfl) (seg_sub 0 rfl) (one_sV _) (by simp; omega) (by simp; omega) fun v79 s80 w82 ho81 hH83 => ?_)
          have ho81 : Own 9 1 v79 (M ++ [(lastsS (List.replicate 6 blankS) (k : Int))]).length ((M ++ [(lastsS (List.replicate 6 blankS) (k : Int))]).map sV) s80 := ho81.app
          refine s_op (o_assign (v := v79) rfl ?_)
          refine s_nil ?_
          refine b_norm ?_
          refine t_norm (hK59 _ _ ?_)
          refine c_region ?_
          refine s_op (o_move (v := (.int .i64 (k : Int))) e50_11 ?_)
          refine s_op (o_add (a := (k : Int)) (b := 1) rfl rfl (w64 (by omega) (by omega)) ?_)
          refine s_op (o_assign (v := (.int .i64 ((k : Int) + 1))) rfl ?_)
          refine s_nil ?_
          have hH84 : Has E w82 [s69, s80, sg2, [Hp.one b23 (.cells #[(.bool p2.off), (.bool p2.armed), (.int .i64 p2.left), (.int .i64 p2.uses)] 101 (0, 0))], sg35, R] := Has.pick hH83 [4, 0, 1, 1, 2, 2] (by kernel_rfl)
          refine t_norm ⟨6 - (k + 1), _, rfl, ?_, ?_⟩
          · omega
          · exact ⟨(k + 1), v68, s69, (W ++ [(readS p2 (List.replicate 6 blankS) lo2 (k : Int))]), v79, s80, (M ++ [(lastsS (List.replicate 6 blankS) (k : Int))]), rfl, hH84, (by omega), (ho70), (ho81), (by simp; omega), (by simp; omega), (by rw [range_snoc, ← hW]), (by rw [range_snoc, ← hM]), e50_0, e50_1, e50_4, e50_5, e50_6, e50_7, rfl, rfl, rfl, e50_28⟩
        · -- not: (k : Int) < 6
          refine wp_exit ?_
          refine t_exit (t_exit (x_in (?_)))
          refine t_norm (hK48 _ _ ?_)
          refine wp_seq_k fun K85 hK85 => ?_
          refine wp_seq_k fun K86 hK86 => ?_
          refine c_region ?_
          refine s_op (o_assign (v := (.int .i64 0)) rfl ?_)
          refine s_nil ?_
          refine t_norm (hK86 _ _ ?_)
          refine wp_block ?_
          have hk6 : k = 6 := by omega
          have hW6 : W = (List.range 6).map (fun j : Nat => readS p2 (List.replicate 6 blankS) lo2 (j : Int)) := hk6 ▸ hW
          have hM6 : M = (List.range 6).map (fun j : Nat => lastsS (List.replicate 6 blankS) (j : Int)) := hk6 ▸ hM
          let I88 : Nat → (Nat → Value) → World → Prop := fun n__ r__ w__ => ∃ (i : Nat) (p3 : Pw) (lae : List Bs) (loe : List (Int × Bs)) (sge : List Hp), n__ = l.length - i ∧ Has E w__ [sge, [Hp.one b23 (.cells #[(.bool p3.off), (.bool p3.armed), (.int .i64 p3.left), (.int .i64 p3.uses)] 101 (0, 0))], ha, hb, sg2, R] ∧ (i ≤ l.length) ∧ (DevAt b23 sge db34 lae loe) ∧ (lae.length = 6) ∧ (LoOk loe 6) ∧ (Calm p3 (i + 6)) ∧ r__ 0 = v1 ∧ r__ 1 = v ∧ r__ 5 = (.pointer (some ⟨b23, 0, none⟩)) ∧ r__ 6 = (.pointer (some ⟨db28, 0, none⟩)) ∧ r__ 7 = (.pointer (some ⟨db34, 0, none⟩)) ∧ r__ 9 = va ∧ r__ 10 = vb ∧ r__ 11 = (.int .i64 (k : Int)) ∧ r__ 14 = (.int .i64 (i : Int)) ∧ r__ 28 = (.bool false) ∧ r__ 61 = (.bool (decide ((k : Int) < 6)))
          have hH89 : Has E w53 [sg35, [Hp.one b23 (.cells #[(.bool p2.off), (.bool p2.armed), (.int .i64 p2.left), (.int .i64 p2.uses)] 101 (0, 0))], ha, hb, sg2, R] := Has.pick hH54 [4, 3, 0, 0, 0, 0] (by kernel_rfl)
          refine c_loop I88 _ ⟨0, p2, (List.replicate 6 blankS), ([] : List (Int × Bs)), sg35, rfl, hH89, Nat.zero_le _, hd36, (by simp), LoOk.nil 6, hp2, e50_0, e50_1, e50_5, e50_6, e50_7, e50_9, e50_10, e50_11, rfl, e50_28, rfl⟩ ?_
          rintro n_ r92 w90 ⟨i, p3, lae, loe, sge, rfl, hH91, hi, hde, hlae, hloe, hp3, e87_0, e87_1, e87_5, e87_6, e87_7, e87_9, e87_10, e87_11, e87_14, e87_28, e87_61⟩
          refine wp_seq_k fun K93 hK93 => ?_
          refine wp_seq_k fun K94 hK94 => ?_
          refine c_region ?_
          refine s_op (o_move (v := (.int .i64 (i : Int))) e87_14 ?_)
          refine s_op (o_move (v := v) e87_1 ?_)
          refine s_op (o_lenS Try.underlying97 rfl hv ?_)
          refine s_op (o_lss (a := (i : Int)) (b := ((l.length : Nat) : Int)) rfl rfl ?_)
          refine s_nil ?_
          refine t_norm (hK94 _ _ ?_)
          refine c_cond rfl (fun h95 => ?_) (fun h95 => ?_)
          · -- (i : Int) < ((l.length : Nat) : Int)
            refine wp_skip ?_
            refine t_norm (hK93 _ _ ?_)
            refine wp_seq_k fun K96 hK96 => ?_
            refine wp_block ?_
            refine wp_seq_k fun K97 hK97 => ?_
            let J99 : (Nat → Value) → World → Prop := fun r__ w__ => ∃ (p4 : Pw) (la4 : List Bs) (lo4 : List (Int × Bs)) (sg4 : List Hp), Has E w__ [sg4, [Hp.one b23 (.cells #[(.bool p4.off), (.bool p4.armed), (.int .i64 p4.left), (.int .i64 p4.uses)] 101 (0, 0))], ha, hb, sg2, R] ∧ (DevAt b23 sg4 db34 la4 lo4) ∧ (la4.length = 6) ∧ (LoOk lo4 6) ∧ (Calm p4 (i + 6 + 1)) ∧ r__ 0 = v1 ∧ r__ 1 = v ∧ r__ 5 = (.pointer (some ⟨b23, 0, none⟩)) ∧ r__ 6 = (.pointer (some ⟨db28, 0, none⟩)) ∧ r__ 7 = (.pointer (some ⟨db34, 0, none⟩)) ∧ r__ 9 = va ∧ r__ 10 = vb ∧ r__ 11 = (.int .i64 (k : Int)) ∧ r__ 14 = (.int .i64 (i : Int)) ∧ r__ 28 = (.bool false) ∧ r__ 61 = (.bool (decide ((k : Int) < 6))) ∧ r__ 83 = (.bool (decide ((i : Int) < ((l.length : Nat) : Int))))
            have hJ100 : ∀ r w, J99 r w → K97 (Go.Q.fr 163 r) w := by
              rintro r103 w101 ⟨p4, la4, lo4, sg4, hH102, hd4, hla4, hlo4, hp4, e98_0, e98_1, e98_5, e98_6, e98_7, e98_9, e98_10, e98_11, e98_14, e98_28, e98_61, e98_83⟩
              refine hK97 _ _ ?_
              refine wp_seq_k fun K104 hK104 => ?_
              refine c_region ?_
              refine s_op (o_assign (v := (.int .i64 0)) rfl ?_)
              refine s_nil ?_
              refine t_norm (hK104 _ _ ?_)
              refine wp_block ?_
              let I106 : Nat → (Nat → Value) → World → Prop := fun n__ r__ w__ => ∃ (m : Nat), n__ = 6 - m ∧ Has E w__ [sg4, [Hp.one b23 (.cells #[(.bool p4.off), (.bool p4.armed), (.int .i64 p4.left), (.int .i64 p4.uses)] 101 (0, 0))], ha, hb, sg2, R] ∧ (m ≤ 6) ∧ r__ 0 = v1 ∧ r__ 1 = v ∧ r__ 5 = (.pointer (some ⟨b23, 0, none⟩)) ∧ r__ 6 = (.pointer (some ⟨db28, 0, none⟩)) ∧ r__ 7 = (.pointer (some ⟨db34, 0, none⟩)) ∧ r__ 9 = va ∧ r__ 10 = vb ∧ r__ 11 = (.int .i64 (k : Int)) ∧ r__ 14 = (.int .i64 (i : Int)) ∧ r__ 15 = (.int .i64 (m : Int)) ∧ r__ 28 = (.bool false) ∧ r__ 61 = (.bool (decide ((k : Int) < 6))) ∧ r__ 83 = (.bool (decide ((i : Int) < ((l.length : Nat) : Int))))
              refine c_loop I106 _ ⟨0, rfl, hH102, Nat.zero_le _, e98_0, e98_1, e98_5, e98_6, e98_7, e98_9, e98_10, e98_11, e98_14, rfl, e98_28, e98_61, e98_83⟩ ?_
              rintro n_ r109 w107 ⟨m, rfl, hH108, hm, e105_0, e105_1, e105_5, e105_6, e105_7, e105_9, e105_10, e105_11, e105_14, e105_15, e105_28, e105_61, e105_83⟩
              refine wp_seq_k fun K110 hK110 => ?_
              refine wp_seq_k fun K111 hK111 => ?_
              refine c_region ?_
              refine s_op (o_move (v := (.int .i64 (m : Int))) e105_15 ?_)
              refine s_op (o_lss (a := (m : Int)) (b := 6) rfl rfl ?_)
              refine s_nil ?_
              refine t_norm (hK111 _ _ ?_)
              refine c_cond rfl (fun h112 => ?_) (fun h112 => ?_)
              · -- (m : Int) < 6
                have hin_ : inS (m : Int) (List.replicate 6 blankS).length := ⟨by omega, by simp; omega⟩
                have hre_ := readE_on hp4.off hin_
                have hrs_ := readS_on (la := (List.replicate 6 blankS)) (lo := lo2) (n := (m : Int)) hp4.off hp2.off
                refine wp_skip ?_
                refine t_norm (hK110 _ _ ?_)
                refine wp_seq_k fun K113 hK113 => ?_
                refine wp_block ?_
                refine wp_seq_k fun K114 hK114 => ?_
                refine c_region ?_
                refine s_op (o_move (v := (.pointer (some ⟨db28, 0, none⟩))) e105_6 ?_)
                refine s_op (o_move (v := (.int .i64 (m : Int))) e105_15 ?_)
                refine s_op (o_callf (vs := #[(.pointer (some ⟨db28, 0, none⟩)), (.int .i64 (m : Int))]) ca33 rfl (args2 rfl rfl) (read_d (p := p4) (la := (List.replicate 6 blankS)) (lo := lo2) ((hH108.front 1 rfl).front 4 rfl).all2 hd2 (m : Int)) ?_)
                rintro _ w117 ⟨rfl, hX115⟩
                refine ⟨_, rfl, ?_⟩
                have hH116 : Has E w117 [sg2, [Hp.one b23 (.cells #[(.bool p4.off), (.bool p4.armed), (.int .i64 p4.left), (.int .i64 p4.uses)] 101 (0, 0))], sg4, ha, hb, R] := hX115.of_all2
                refine s_op (o_move (v := (.tuple #[(S (readS p4 (List.replicate 6 blankS) lo2 (m : Int))), (.int .i64 (readE p4 (List.replicate 6 blankS) (m : Int)))])) rfl ?_)
                refine s_op (o_extract (v := (S (readS p4 (List.replicate 6 blankS) lo2 (m : Int)))) rfl rfl ?_)
                refine s_op (o_extract (v := (.int .i64 (readE p4 (List.replicate 6 blankS) (m : Int)))) rfl rfl ?_)
                refine s_op (o_assign (v := (S (readS p4 (List.replicate 6 blankS) lo2 (m : Int)))) rfl ?_)
                refine s_op (o_assign (v := (.int .i64 (readE p4 (List.replicate 6 blankS) (m : Int)))) rfl ?_)
                refine s_nil ?_
                refine t_norm (hK114 _ _ ?_)
                refine wp_seq_k fun K118 hK118 => ?_
                by_cases h119 : readE p4 (List.replicate 6 blankS) (m : Int) ≠ 0
                · -- readE p4 (List.replicate 6 blankS) (m : Int) ≠ 0
                  exact absurd hre_ h119
                · -- not: readE p4 (List.replicate 6 blankS) (m : Int) ≠ 0
                  obtain ⟨x123, hx124⟩ : ∃ x_, W[((m : Int)).toNat]? = some x_ := get_some (by omega)
                  by_cases h125 : (readS p4 (List.replicate 6 blankS) lo2 (m : Int)) ≠ x123
                  · -- (readS p4 (List.replicate 6 blankS) lo2 (m : Int)) ≠ x123
                    exact absurd (by rw [hrs_]; have g_ := (show W[m]? = some _ from hx124); rw [hW6, map_range_get _ (by omega)] at g_; exact Option.some.inj g_) h125
                  · -- not: (readS p4 (List.replicate 6 blankS) lo2 (m : Int)) ≠ x123
                    have hnd129 : (sg2 ++ [Hp.one b23 (.cells #[(.bool p4.off), (.bool p4.armed), (.int .i64 p4.left), (.int .i64 p4.uses)] 101 (0, 0))]).Nodup := dev_nodup hd2 ((hH116.front 1 rfl).front 1 rfl)
                    obtain ⟨x136, hx137⟩ : ∃ x_, M[((m : Int)).toNat]? = some x_ := get_some (by omega)
                    refine c_flow3 [sg2, [Hp.one b23 (.cells #[(.bool p4.off), (.bool p4.armed), (.int .i64 p4.left), (.int .i64 p4.uses)] 101 (0, 0))], sg4, ha, hb, R] (fun i_ => match i_ with | _ => []) (fun i_ v_ h_ m_ => match i_ with | 0 => v_ = (.int .i64 (readE p4 (List.replicate 6 blankS) (m : Int))) ∧ h_ = [] | 1 => v_ = (.bool (decide (readE p4 (List.replicate 6 blankS) (m : Int) ≠ 0))) ∧ h_ = [] | 2 => v_ = (.bool (decide (readE p4 (List.replicate 6 blankS) (m : Int) ≠ 0))) ∧ h_ = [] | 3 => v_ = (S (readS p4 (List.replicate 6 blankS) lo2 (m : Int))) ∧ h_ = [] | 4 => v_ = va ∧ h_ = [] | 5 => v_ = (.int .i64 (m : Int)) ∧ h_ = [] | 6 => ∃ (b126 : Nat) (o127 : Nat), v_ = (.pointer (some ⟨b126, o127, none⟩)) ∧ h_ = [] ∧ (CellsAt ha b126 o127 [(S x123)]) | 7 => v_ = (S x123) ∧ h_ = [] | 8 => v_ = (.bool (decide ((readS p4 (List.replicate 6 blankS) lo2 (m : Int)) ≠ x123))) ∧ h_ = [] | 9 => v_ = (.bool (decide ((readS p4 (List.replicate 6 blankS) lo2 (m : Int)) ≠ x123))) ∧ h_ = [] | 10 => v_ = (.bool (decide ((readS p4 (List.replicate 6 blankS) lo2 (m : Int)) ≠ x123))) ∧ h_ = [] | 11 => v_ = (.pointer (some ⟨db28, 0, none⟩)) ∧ h_ = [] | 12 => v_ = (.int .i64 (m : Int)) ∧ h_ = [] | 13 => v_ = (S (lastsS (List.replicate 6 blankS) (m : Int))) ∧ h_ = [] | 14 => v_ = vb ∧ h_ = [] | 15 => v_ = (.int .i64 (m : Int)) ∧ h_ = [] | 16 => ∃ (b133 : Nat) (o134 : Nat), v_ = (.pointer (some ⟨b133, o134, none⟩)) ∧ h_ = [] ∧ (CellsAt hb b133 o134 [(S x136)]) | 17 => v_ = (S x136) ∧ h_ = [] | 18 => v_ = (.bool (decide ((lastsS (List.replicate 6 blankS) (m : Int)) ≠ x136))) ∧ h_ = [] | 19 => v_ = (.bool (decide ((lastsS (List.replicate 6 blankS) (m : Int)) ≠ x136))) ∧ h_ = [] | _ => True) mixed (by kernel_rfl) (flow_has (cs := []) hH116 rfl) ?_ ?_
                    · intro i_ o_ ho_ r' w' G hs_ ht
                      match i_, ho_ with
                      | 0, ho_ =>
                        obtain rfl := Option.some.inj ho_
                        have e17 : r' 17 = (.int .i64 (readE p4 (List.replicate 6 blankS) (m : Int))) := ht.was 17 (by kernel_rfl)
                        have hG := ht.has.drop
                        refine GOK.free rfl ?_
                        refine o_move (v := (.int .i64 (readE p4 (List.replicate 6 blankS) (m : Int)))) e17 ?_
                        exact ⟨_, ⟨rfl, rfl⟩, hG⟩
                      | 1, ho_ =>
                        obtain rfl := Option.some.inj ho_
                        obtain ⟨e143, eh0⟩ := (ht.done 0 _ rfl rfl).1
                        have hG := ht.has.drop
                        refine GOK.free rfl ?_
                        refine o_neq (a := readE p4 (List.replicate 6 blankS) (m : Int)) (b := 0) e143 rfl ?_
                        exact ⟨_, ⟨rfl, rfl⟩, hG⟩
                      | 2, ho_ =>
                        obtain rfl := Option.some.inj ho_
                        obtain ⟨e144, eh1⟩ := (ht.done 1 _ rfl rfl).1
                        have hG := ht.has.drop
                        refine GOK.free rfl ?_
                        refine o_move (v := (.bool (decide (readE p4 (List.replicate 6 blankS) (m : Int) ≠ 0)))) e144 ?_
                        exact ⟨_, ⟨rfl, rfl⟩, hG⟩
                      | 3, ho_ =>
                        obtain rfl := Option.some.inj ho_
                        obtain ⟨e145, eh2⟩ := (ht.done 2 _ rfl rfl).1
                        have e16 : r' 16 = (S (readS p4 (List.replicate 6 blankS) lo2 (m : Int))) := ht.was 16 (by kernel_rfl)
                        have hG := ht.has.drop
                        refine GOK.on rfl rfl (Eq.trans e145 (congrArg Value.bool (decide_eq_false h119))) ?_
                        refine o_move (v := (S (readS p4 (List.replicate 6 blankS) lo2 (m : Int)))) e16 ?_
                        exact ⟨_, ⟨rfl, rfl⟩, hG⟩
                      | 4, ho_ =>
                        obtain rfl := Option.some.inj ho_
                        obtain ⟨e145, eh2⟩ := (ht.done 2 _ rfl rfl).1
                        have e9 : r' 9 = va := (ht.was 9 (by kernel_rfl)).trans e105_9
                        have hG := ht.has.drop
                        refine GOK.on rfl rfl (Eq.trans e145 (congrArg Value.bool (decide_eq_false h119))) ?_
                        refine o_move (v := va) e9 ?_
                        exact ⟨_, ⟨rfl, rfl⟩, hG⟩
                      | 5, ho_ =>
                        obtain rfl := Option.some.inj ho_
                        obtain ⟨e145, eh2⟩ := (ht.done 2 _ rfl rfl).1
                        have e15 : r' 15 = (.int .i64 (m : Int)) := (ht.was 15 (by kernel_rfl)).trans e105_15
                        have hG := ht.has.drop
                        refine GOK.on rfl rfl (Eq.trans e145 (congrArg Value.bool (decide_eq_false h119))) ?_
                        refine o_move (v := (.int .i64 (m : Int))) e15 ?_
                        exact ⟨_, ⟨rfl, rfl⟩, hG⟩
                      | 6, ho_ =>
                        obtain rfl := Option.some.inj ho_
                        obtain ⟨e145, eh2⟩ := (ht.done 2 _ rfl rfl).1
                        obtain ⟨e147, eh4⟩ := (ht.done 4 _ rfl rfl).1
                        obtain ⟨e148, eh5⟩ := (ht.done 5 _ rfl rfl).1
                        have hG := ht.has.drop
                        refine GOK.on rfl rfl (Eq.trans e145 (congrArg Value.bool (decide_eq_false h119))) ?_
                        refine o_index1 Try.underlying53 ti9 e147 hva.sl e148 (by omega) hx124 fun b126 o127 hc128 => ?_
                        exact ⟨_, ⟨b126, o127, rfl, rfl, hc128⟩, hG⟩
                      | 7, ho_ =>
                        obtain rfl := Option.some.inj ho_
                        obtain ⟨e145, eh2⟩ := (ht.done 2 _ rfl rfl).1
                        obtain ⟨b126, o127, e149, eh6, hc128⟩ := (ht.done 6 _ rfl rfl).1
                        have hG := ht.has.drop
                        refine GOK.on rfl rfl (Eq.trans e145 (congrArg Value.bool (decide_eq_false h119))) ?_
                        refine o_load1 (v := (S x123)) Try.underlying9 rfl e149 hG (ht.fr ha (by simp)) hc128 ?_
                        exact ⟨_, ⟨rfl, rfl⟩, hG⟩
                      | 8, ho_ =>
                        obtain rfl := Option.some.inj ho_
                        obtain ⟨e145, eh2⟩ := (ht.done 2 _ rfl rfl).1
                        obtain ⟨e146, eh3⟩ := (ht.done 3 _ rfl rfl).1
                        obtain ⟨b126, o127, e149, eh6, hc128⟩ := (ht.done 6 _ rfl rfl).1
                        obtain ⟨e150, eh7⟩ := (ht.done 7 _ rfl rfl).1
                        have hG := ht.has.drop
                        refine GOK.on rfl rfl (Eq.trans e145 (congrArg Value.bool (decide_eq_false h119))) ?_
                        refine o_sneq (a := (readS p4 (List.replicate 6 blankS) lo2 (m : Int))) (b := x123) e146 e150 ?_
                        exact ⟨_, ⟨rfl, rfl⟩, hG⟩
                      | 9, ho_ =>
                        obtain rfl := Option.some.inj ho_
                        obtain ⟨e145, eh2⟩ := (ht.done 2 _ rfl rfl).1
                        obtain ⟨b126, o127, e149, eh6, hc128⟩ := (ht.done 6 _ rfl rfl).1
                        obtain ⟨e151, eh8⟩ := (ht.done 8 _ rfl rfl).1
                        have hG := ht.has.drop
                        refine GOK.free rfl ?_
                        refine o_pick_f (u := (.bool (decide ((readS p4 (List.replicate 6 blankS) lo2 (m : Int)) ≠ x123)))) ((e145 : _ = _).trans (congrArg Value.bool (decide_eq_false h119))) e151 ?_
                        exact ⟨_, ⟨rfl, rfl⟩, hG⟩
                      | 10, ho_ =>
                        obtain rfl := Option.some.inj ho_
                        obtain ⟨b126, o127, e149, eh6, hc128⟩ := (ht.done 6 _ rfl rfl).1
                        obtain ⟨e152, eh9⟩ := (ht.done 9 _ rfl rfl).1
                        have hG := ht.has.drop
                        refine GOK.free rfl ?_
                        refine o_move (v := (.bool (decide ((readS p4 (List.replicate 6 blankS) lo2 (m : Int)) ≠ x123)))) e152 ?_
                        exact ⟨_, ⟨rfl, rfl⟩, hG⟩
                      | 11, ho_ =>
                        obtain rfl := Option.some.inj ho_
                        obtain ⟨b126, o127, e149, eh6, hc128⟩ := (ht.done 6 _ rfl rfl).1
                        obtain ⟨e153, eh10⟩ := (ht.done 10 _ rfl rfl).1
                        have e6 : r' 6 = (.pointer (some ⟨db28, 0, none⟩)) := (ht.was 6 (by kernel_rfl)).trans e105_6
                        have hG := ht.has.drop
                        refine GOK.on rfl rfl (Eq.trans e153 (congrArg Value.bool (decide_eq_false h125))) ?_
                        refine o_move (v := (.pointer (some ⟨db28, 0, none⟩))) e6 ?_
                        exact ⟨_, ⟨rfl, rfl⟩, hG⟩
                      | 12, ho_ =>
                        obtain rfl := Option.some.inj ho_
                        obtain ⟨b126, o127, e149, eh6, hc128⟩ := (ht.done 6 _ rfl rfl).1
                        obtain ⟨e153, eh10⟩ := (ht.done 10 _ rfl rfl).1
                        have e15 : r' 15 = (.int .i64 (m : Int)) := (ht.was 15 (by kernel_rfl)).trans e105_15
                        have hG := ht.has.drop
                        refine GOK.on rfl rfl (Eq.trans e153 (congrArg Value.bool (decide_eq_false h125))) ?_
                        refine o_move (v := (.int .i64 (m : Int))) e15 ?_
                        exact ⟨_, ⟨rfl, rfl⟩, hG⟩
                      | 13, ho_ =>
                        obtain rfl := Option.some.inj ho_
                        obtain ⟨b126, o127, e149, eh6, hc128⟩ := (ht.done 6 _ rfl rfl).1
                        obtain ⟨e153, eh10⟩ := (ht.done 10 _ rfl rfl).1
                        obtain ⟨e154, eh11⟩ := (ht.done 11 _ rfl rfl).1
                        obtain ⟨e155, eh12⟩ := (ht.done 12 _ rfl rfl).1
                        have hG := ht.has.drop
                        refine GOK.on rfl rfl (Eq.trans e153 (congrArg Value.bool (decide_eq_false h125))) ?_
                        refine o_callf (vs := #[(.pointer (some ⟨db28, 0, none⟩)), (.int .i64 (m : Int))]) ca51 rfl (args2 e154 e155) (lasts_r (p := p4) (la := (List.replicate 6 blankS)) (lo := lo2) hG.all hd2 hnd129 (in_sub (ht.fr sg2 (by simp)) (ht.fr [Hp.one b23 (.cells #[(.bool p4.off), (.bool p4.armed), (.int .i64 p4.left), (.int .i64 p4.uses)] 101 (0, 0))] (by simp))) (m : Int)) ?_
                        rintro _ w132 ⟨rfl, hX130⟩
                        refine ⟨_, rfl, ?_⟩
                        have hH131 := hX130.of_all
                        exact ⟨_, ⟨rfl, rfl⟩, hH131⟩
                      | 14, ho_ =>
                        obtain rfl := Option.some.inj ho_
                        obtain ⟨b126, o127, e149, eh6, hc128⟩ := (ht.done 6 _ rfl rfl).1
                        obtain ⟨e153, eh10⟩ := (ht.done 10 _ rfl rfl).1
                        have e10 : r' 10 = vb := (ht.was 10 (by kernel_rfl)).trans e105_10
                        have hG := ht.has.drop
                        refine GOK.on rfl rfl (Eq.trans e153 (congrArg Value.bool (decide_eq_false h125))) ?_
                        refine o_move (v := vb) e10 ?_
                        exact ⟨_, ⟨rfl, rfl⟩, hG⟩
                      | 15, ho_ =>
                        obtain rfl := Option.some.inj ho_
                        obtain ⟨b126, o127, e149, eh6, hc128⟩ := (ht.done 6 _ rfl rfl).1
                        obtain ⟨e153, eh10⟩ := (ht.done 10 _ rfl rfl).1
                        have e15 : r' 15 = (.int .i64 (m : Int)) := (ht.was 15 (by kernel_rfl)).trans e105_15
                        have hG := ht.has.drop
                        refine GOK.on rfl rfl (Eq.trans e153 (congrArg Value.bool (decide_eq_false h125))) ?_
                        refine o_move (v := (.int .i64 (m : Int))) e15 ?_
                        exact ⟨_, ⟨rfl, rfl⟩, hG⟩
                      | 16, ho_ =>
                        obtain rfl := Option.some.inj ho_
                        obtain ⟨b126, o127, e149, eh6, hc128⟩ := (ht.done 6 _ rfl rfl).1
                        obtain ⟨e153, eh10⟩ := (ht.done 10 _ rfl rfl).1
                        obtain ⟨e157, eh14⟩ := (ht.done 14 _ rfl rfl).1
                        obtain ⟨e158, eh15⟩ := (ht.done 15 _ rfl rfl).1
                        have hG := ht.has.drop
                        refine GOK.on rfl rfl (Eq.trans e153 (congrArg Value.bool (decide_eq_false h125))) ?_
                        refine o_index1 Try.underlying53 ti9 e157 hvb.sl e158 (by omega) hx137 fun b133 o134 hc135 => ?_
                        exact ⟨_, ⟨b133, o134, rfl, rfl, hc135⟩, hG⟩
                      | 17, ho_ =>
                        obtain rfl := Option.some.inj ho_
                        obtain ⟨b126, o127, e149, eh6, hc128⟩ := (ht.done 6 _ rfl rfl).1
                        obtain ⟨e153, eh10⟩ := (ht.done 10 _ rfl rfl).1
                        obtain ⟨b133, o134, e159, eh16, hc135⟩ := (ht.done 16 _ rfl rfl).1
                        have hG := ht.has.drop
                        refine GOK.on rfl rfl (Eq.trans e153 (congrArg Value.bool (decide_eq_false h125))) ?_
                        refine o_load1 (v := (S x136)) Try.underlying9 rfl e159 hG (ht.fr hb (by simp)) hc135 ?_
                        exact ⟨_, ⟨rfl, rfl⟩, hG⟩
                      | 18, ho_ =>
                        obtain rfl := Option.some.inj ho_
                        obtain ⟨b126, o127, e149, eh6, hc128⟩ := (ht.done 6 _ rfl rfl).1
                        obtain ⟨e153, eh10⟩ := (ht.done 10 _ rfl rfl).1
                        obtain ⟨e156, eh13⟩ := (ht.done 13 _ rfl rfl).1
                        obtain ⟨b133, o134, e159, eh16, hc135⟩ := (ht.done 16 _ rfl rfl).1
                        obtain ⟨e160, eh17⟩ := (ht.done 17 _ rfl rfl).1
                        have hG := ht.has.drop
                        refine GOK.on rfl rfl (Eq.trans e153 (congrArg Value.bool (decide_eq_false h125))) ?_
                        refine o_sneq (a := (lastsS (List.replicate 6 blankS) (m : Int))) (b := x136) e156 e160 ?_
                        exact ⟨_, ⟨rfl, rfl⟩, hG⟩
                      | 19, ho_ =>
                        obtain rfl := Option.some.inj ho_
                        obtain ⟨b126, o127, e149, eh6, hc128⟩ := (ht.done 6 _ rfl rfl).1
                        obtain ⟨e153, eh10⟩ := (ht.done 10 _ rfl rfl).1
                        obtain ⟨b133, o134, e159, eh16, hc135⟩ := (ht.done 16 _ rfl rfl).1
                        obtain ⟨e161, eh18⟩ := (ht.done 18 _ rfl rfl).1
                        have hG := ht.has.drop
                        refine GOK.free rfl ?_
                        refine o_pick_f (u := (.bool (decide ((lastsS (List.replicate 6 blankS) (m : Int)) ≠ x136)))) ((e153 : _ = _).trans (congrArg Value.bool (decide_eq_false h125))) e161 ?_
                        exact ⟨_, ⟨rfl, rfl⟩, hG⟩
                      | i_ + 20, ho_ => exact absurd ho_ (by simp)
                    · intro vs138 hs139 w140 hT141 hH142
                      obtain ⟨e0_, eh0_⟩ := hT141 0 _ rfl
                      obtain ⟨e1_, eh1_⟩ := hT141 1 _ rfl
                      obtain ⟨e2_, eh2_⟩ := hT141 2 _ rfl
                      obtain ⟨e3_, eh3_⟩ := hT141 3 _ rfl
                      obtain ⟨e4_, eh4_⟩ := hT141 4 _ rfl
                      obtain ⟨e5_, eh5_⟩ := hT141 5 _ rfl
                      obtain ⟨b126, o127, e6_, eh6_, hc128⟩ := hT141 6 _ rfl
                      obtain ⟨e7_, eh7_⟩ := hT141 7 _ rfl
                      obtain ⟨e8_, eh8_⟩ := hT141 8 _ rfl
                      obtain ⟨e9_, eh9_⟩ := hT141 9 _ rfl
                      obtain ⟨e10_, eh10_⟩ := hT141 10 _ rfl
                      obtain ⟨e11_, eh11_⟩ := hT141 11 _ rfl
                      obtain ⟨e12_, eh12_⟩ := hT141 12 _ rfl
                      obtain ⟨e13_, eh13_⟩ := hT141 13 _ rfl
                      obtain ⟨e14_, eh14_⟩ := hT141 14 _ rfl
                      obtain ⟨e15_, eh15_⟩ := hT141 15 _ rfl
                      obtain ⟨b133, o134, e16_, eh16_, hc135⟩ := hT141 16 _ rfl
                      obtain ⟨e17_, eh17_⟩ := hT141 17 _ rfl
                      obtain ⟨e18_, eh18_⟩ := hT141 18 _ rfl
                      obtain ⟨e19_, eh19_⟩ := hT141 19 _ rfl
                      have hH143 : Has E w140 ([sg2, [Hp.one b23 (.cells #[(.bool p4.off), (.bool p4.armed), (.int .i64 p4.left), (.int .i64 p4.uses)] 101 (0, 0))], sg4, ha, hb, R] ++ []) := flow_back (cs := []) hH142 (by show (hs139 0 ++ (hs139 1 ++ (hs139 2 ++ (hs139 3 ++ (hs139 4 ++ (hs139 5 ++ (hs139 6 ++ (hs139 7 ++ (hs139 8 ++ (hs139 9 ++ (hs139 10 ++ (hs139 11 ++ (hs139 12 ++ (hs139 13 ++ (hs139 14 ++ (hs139 15 ++ (hs139 16 ++ (hs139 17 ++ (hs139 18 ++ (hs139 19 ++ [])))))))))))))))))))) = _; rw [eh0_, eh1_, eh2_, eh3_, eh4_, eh5_, eh6_, eh7_, eh8_, eh9_, eh10_, eh11_, eh12_, eh13_, eh14_, eh15_, eh16_, eh17_, eh18_, eh19_]; rfl)
                      generalize hr145 : puts vs138 _ 0 _ = r144
                      have e146_0 : r144 0 = v1 := by rw [← hr145]; exact e105_0
                      have e146_1 : r144 1 = v := by rw [← hr145]; exact e105_1
                      have e146_5 : r144 5 = (.pointer (some ⟨b23, 0, none⟩)) := by rw [← hr145]; exact e105_5
                      have e146_6 : r144 6 = (.pointer (some ⟨db28, 0, none⟩)) := by rw [← hr145]; exact e105_6
                      have e146_7 : r144 7 = (.pointer (some ⟨db34, 0, none⟩)) := by rw [← hr145]; exact e105_7
                      have e146_9 : r144 9 = va := by rw [← hr145]; exact e105_9
                      have e146_10 : r144 10 = vb := by rw [← hr145]; exact e105_10
                      have e146_11 : r144 11 = (.int .i64 (k : Int)) := by rw [← hr145]; exact e105_11
                      have e146_14 : r144 14 = (.int .i64 (i : Int)) := by rw [← hr145]; exact e105_14
                      have e146_15 : r144 15 = (.int .i64 (m : Int)) := by rw [← hr145]; exact e105_15
                      have e146_16 : r144 16 = (S (readS p4 (List.replicate 6 blankS) lo2 (m : Int))) := by rw [← hr145]; exact rfl
                      have e146_17 : r144 17 = (.int .i64 (readE p4 (List.replicate 6 blankS) (m : Int))) := by rw [← hr145]; exact rfl
                      have e146_28 : r144 28 = (.bool false) := by rw [← hr145]; exact e105_28
                      have e146_61 : r144 61 = (.bool (decide ((k : Int) < 6))) := by rw [← hr145]; exact e105_61
                      have e146_83 : r144 83 = (.bool (decide ((i : Int) < ((l.length : Nat) : Int)))) := by rw [← hr145]; exact e105_83
                      have e146_134 : r144 134 = (.bool (decide ((m : Int) < 6))) := by rw [← hr145]; exact rfl
                      have e146_162 : r144 162 = (.bool (decide ((lastsS (List.replicate 6 blankS) (m : Int)) ≠ x136))) := by rw [← hr145]; exact e19_
                      refine t_norm (hK118 _ _ ?_)
                      refine c_cond e146_162 (fun h147 => ?_) (fun h147 => ?_)
                      · -- (lastsS (List.replicate 6 blankS) (m : Int)) ≠ x136
                        exact absurd (by have g_ := (show M[m]? = some _ from hx137); rw [hM6, map_range_get _ (by omega)] at g_; exact Option.some.inj g_) h147
                      · -- not: (lastsS (List.replicate 6 blankS) (m : Int)) ≠ x136
                        refine wp_skip ?_
                        refine b_norm ?_
                        refine t_norm (hK113 _ _ ?_)
                        refine c_region ?_
                        refine s_op (o_move (v := (.int .i64 (m : Int))) e146_15 ?_)
                        refine s_op (o_add (a := (m : Int)) (b := 1) rfl rfl (w64 (by omega) (by omega)) ?_)
                        refine s_op (o_assign (v := (.int .i64 ((m : Int) + 1))) rfl ?_)
                        refine s_nil ?_
                        have hH148 : Has E w140 [sg4, [Hp.one b23 (.cells #[(.bool p4.off), (.bool p4.armed), (.int .i64 p4.left), (.int .i64 p4.uses)] 101 (0, 0))], ha, hb, sg2, R] := Has.pick hH143 [2, 1, 1, 1, 0, 0] (by kernel_rfl)
                        refine t_norm ⟨6 - (m + 1), _, rfl, ?_, ?_⟩
                        · omega
                        · exact ⟨(m + 1), rfl, hH148, (by omega), e146_0, e146_1, e146_5, e146_6, e146_7, e146_9, e146_10, e146_11, e146_14, rfl, e146_28, e146_61, e146_83⟩
              · -- not: (m : Int) < 6
                refine wp_exit ?_
                refine t_exit (t_exit (x_in (?_)))
                refine b_norm ?_
                refine t_norm (hK96 _ _ ?_)
                refine c_region ?_
                refine s_op (o_move (v := (.int .i64 (i : Int))) e105_14 ?_)
                refine s_op (o_add (a := (i : Int)) (b := 1) rfl rfl (w64 (by omega) (by omega)) ?_)
                refine s_op (o_assign (v := (.int .i64 ((i : Int) + 1))) rfl ?_)
                refine s_nil ?_
                refine t_norm ⟨l.length - (i + 1), _, rfl, ?_, ?_⟩
                · omega
                · exact ⟨(i + 1), p4, la4, lo4, sg4, rfl, hH108, (by omega), (hd4), (hla4), (hlo4), (hp4.mono (by omega)), e105_0, e105_1, e105_5, e105_6, e105_7, e105_9, e105_10, e105_11, rfl, e105_28, e105_61⟩
            refine wp_seq_k fun K149 hK149 => ?_
            refine c_region ?_
            refine s_op (o_move (v := v) e87_1 ?_)
            refine s_op (o_move (v := (.int .i64 (i : Int))) e87_14 ?_)
            obtain ⟨x153, hx154⟩ : ∃ x_, l[((i : Int)).toNat]? = some x_ := get_some (by omega)
            refine s_op (o_indexF daC_len Try.underlying97 ti104 rfl hv rfl rfl (by omega) hx154 fun b150 o151 hc152 => ?_)
            refine s_op (o_fieldAddr (k := o151) (fun _ => by kernel_rfl) rfl ?_)
            refine s_op (o_load1 (v := (.int .i64 x153.kind)) Try.underlying3 rfl rfl hH91 (seg_sub 5 rfl) (CellsAt.field (k := 0) (ds := [(.int .i64 x153.kind)]) hc152 rfl) ?_)
            refine s_nil ?_
            refine t_norm (hK149 _ _ ?_)
            refine wp_block ?_
            refine wp_seq_k fun K155 hK155 => ?_
            refine c_region ?_
            refine s_op (o_eql (a := x153.kind) (b := 0) rfl rfl ?_)
            refine s_op (o_assign (v := (.bool (decide (x153.kind = 0)))) rfl ?_)
            refine s_nil ?_
            refine t_norm (hK155 _ _ ?_)
            refine c_cond rfl (fun h156 => ?_) (fun h156 => ?_)
            · -- x153.kind = 0
              obtain ⟨hfa_, hfb_, hfc_⟩ := hfine.2 _ (List.mem_of_getElem? hx154)
              have hdt_ := (hok _ (List.mem_of_getElem? hx154)).2.2.1
              refine c_flow4 [sge, [Hp.one b23 (.cells #[(.bool p3.off), (.bool p3.armed), (.int .i64 p3.left), (.int .i64 p3.uses)] 101 (0, 0))], ha, hb, sg2, R] (fun i_ => match i_ with | _ => []) (fun i_ v_ h_ m_ => match i_ with | 0 => v_ = (.pointer (some ⟨db34, 0, none⟩)) ∧ h_ = [] | 1 => v_ = v ∧ h_ = [] | 2 => v_ = (.int .i64 (i : Int)) ∧ h_ = [] | 3 => ∃ (b157 : Nat) (o158 : Nat), v_ = (.pointer (some ⟨b157, o158, none⟩)) ∧ h_ = [] ∧ (CellsAt R b157 o158 [(.int .i64 x153.kind), (.int .i64 x153.n), (.bool x153.other), x153.dv, x153.kv]) | 4 => ∃ (b157 : Nat) (o158 : Nat), m_ 3 = (.pointer (some ⟨b157, o158, none⟩)) ∧ v_ = (.pointer (some ⟨b157, o158 + 1, none⟩)) ∧ h_ = [] | 5 => v_ = (.int .i64 x153.n) ∧ h_ = [] | 6 => v_ = v ∧ h_ = [] | 7 => v_ = (.int .i64 (i : Int)) ∧ h_ = [] | 8 => ∃ (b160 : Nat) (o161 : Nat), v_ = (.pointer (some ⟨b160, o161, none⟩)) ∧ h_ = [] ∧ (CellsAt R b160 o161 [(.int .i64 x153.kind), (.int .i64 x153.n), (.bool x153.other), x153.dv, x153.kv]) | 9 => ∃ (b160 : Nat) (o161 : Nat), m_ 8 = (.pointer (some ⟨b160, o161, none⟩)) ∧ v_ = (.pointer (some ⟨b160, o161 + 3, none⟩)) ∧ h_ = [] | 10 => v_ = x153.dv ∧ h_ = [] | _ => True) mixed 11 (by kernel_rfl) (by decide) (by kernel_rfl) (flow_has (cs := []) hH91 rfl) ?_ ?_
              · intro i_ o_ him_ ho_ r' w' G hs_ ht
                match i_, ho_, him_ with
                | 0, ho_, him_ =>
                  obtain rfl := Option.some.inj ho_
                  have e7 : r' 7 = (.pointer (some ⟨db34, 0, none⟩)) := (ht.was 7 (by kernel_rfl)).trans e87_7
                  have hG := ht.has.drop
                  refine GOK.free rfl ?_
                  refine o_move (v := (.pointer (some ⟨db34, 0, none⟩))) e7 ?_
                  exact ⟨_, ⟨rfl, rfl⟩, hG⟩
                | 1, ho_, him_ =>
                  obtain rfl := Option.some.inj ho_
                  have e1 : r' 1 = v := (ht.was 1 (by kernel_rfl)).trans e87_1
                  have hG := ht.has.drop
                  refine GOK.free rfl ?_
                  refine o_move (v := v) e1 ?_
                  exact ⟨_, ⟨rfl, rfl⟩, hG⟩
                | 2, ho_, him_ =>
                  obtain rfl := Option.some.inj ho_
                  have e14 : r' 14 = (.int .i64 (i : Int)) := (ht.was 14 (by kernel_rfl)).trans e87_14
                  have hG := ht.has.drop
                  refine GOK.free rfl ?_
                  refine o_move (v := (.int .i64 (i : Int))) e14 ?_
                  exact ⟨_, ⟨rfl, rfl⟩, hG⟩
                | 3, ho_, him_ =>
                  obtain rfl := Option.some.inj ho_
                  obtain ⟨e94, eh1⟩ := (ht.done 1 _ rfl rfl).1
                  obtain ⟨e95, eh2⟩ := (ht.done 2 _ rfl rfl).1
                  have hG := ht.has.drop
                  refine GOK.free rfl ?_
                  refine o_indexF daC_len Try.underlying97 ti104 e94 hv rfl e95 (by omega) hx154 fun b157 o158 hc159 => ?_
                  exact ⟨_, ⟨b157, o158, rfl, rfl, hc159⟩, hG⟩
                | 4, ho_, him_ =>
                  obtain rfl := Option.some.inj ho_
                  obtain ⟨b157, o158, e96, eh3, hc159⟩ := (ht.done 3 _ rfl rfl).1
                  have hG := ht.has.drop
                  refine GOK.free rfl ?_
                  refine o_fieldAddr (k := o158 + 1) (fun _ => by kernel_rfl) e96 ?_
                  exact ⟨_, ⟨b157, o158, e96, rfl, rfl⟩, hG⟩
                | 5, ho_, him_ =>
                  obtain rfl := Option.some.inj ho_
                  obtain ⟨b157, o158, e96, eh3, hc159⟩ := (ht.done 3 _ rfl rfl).1
                  obtain ⟨b157_4, o158_4, q4_3, e97, eh4⟩ := (ht.done 4 _ rfl rfl).1
                  have z_ : b157 = b157_4 := by have z0_ := Eq.trans (Eq.symm e96) q4_3; first | simpa using z0_ | (simp at z0_; first | exact z0_.1 | exact z0_.2)
                  subst z_
                  have z_ : o158 = o158_4 := by have z0_ := Eq.trans (Eq.symm e96) q4_3; first | simpa using z0_ | (simp at z0_; first | exact z0_.1 | exact z0_.2)
                  subst z_
                  have hG := ht.has.drop
                  refine GOK.free rfl ?_
                  refine o_load1 (v := (.int .i64 x153.n)) Try.underlying3 rfl e97 hG (ht.fr R (by simp)) (CellsAt.field (k := 1) (ds := [(.int .i64 x153.n)]) hc159 rfl) ?_
                  exact ⟨_, ⟨rfl, rfl⟩, hG⟩
                | 6, ho_, him_ =>
                  obtain rfl := Option.some.inj ho_
                  have e1 : r' 1 = v := (ht.was 1 (by kernel_rfl)).trans e87_1
                  have hG := ht.has.drop
                  refine GOK.free rfl ?_
                  refine o_move (v := v) e1 ?_
                  exact ⟨_, ⟨rfl, rfl⟩, hG⟩
                | 7, ho_, him_ =>
                  obtain rfl := Option.some.inj ho_
                  have e14 : r' 14 = (.int .i64 (i : Int)) := (ht.was 14 (by kernel_rfl)).trans e87_14
                  have hG := ht.has.drop
                  refine GOK.free rfl ?_
                  refine o_move (v := (.int .i64 (i : Int))) e14 ?_
                  exact ⟨_, ⟨rfl, rfl⟩, hG⟩
                | 8, ho_, him_ =>
                  obtain rfl := Option.some.inj ho_
                  obtain ⟨e99, eh6⟩ := (ht.done 6 _ rfl rfl).1
                  obtain ⟨e100, eh7⟩ := (ht.done 7 _ rfl rfl).1
                  have hG := ht.has.drop
                  refine GOK.free rfl ?_
                  refine o_indexF daC_len Try.underlying97 ti104 e99 hv rfl e100 (by omega) hx154 fun b160 o161 hc162 => ?_
                  exact ⟨_, ⟨b160, o161, rfl, rfl, hc162⟩, hG⟩
                | 9, ho_, him_ =>
                  obtain rfl := Option.some.inj ho_
                  obtain ⟨b160, o161, e101, eh8, hc162⟩ := (ht.done 8 _ rfl rfl).1
                  have hG := ht.has.drop
                  refine GOK.free rfl ?_
                  refine o_fieldAddr (k := o161 + 3) (fun _ => by kernel_rfl) e101 ?_
                  exact ⟨_, ⟨b160, o161, e101, rfl, rfl⟩, hG⟩
                | 10, ho_, him_ =>
                  obtain rfl := Option.some.inj ho_
                  obtain ⟨b160, o161, e101, eh8, hc162⟩ := (ht.done 8 _ rfl rfl).1
                  obtain ⟨b160_9, o161_9, q9_8, e102, eh9⟩ := (ht.done 9 _ rfl rfl).1
                  have z_ : b160 = b160_9 := by have z0_ := Eq.trans (Eq.symm e101) q9_8; first | simpa using z0_ | (simp at z0_; first | exact z0_.1 | exact z0_.2)
                  subst z_
                  have z_ : o161 = o161_9 := by have z0_ := Eq.trans (Eq.symm e101) q9_8; first | simpa using z0_ | (simp at z0_; first | exact z0_.1 | exact z0_.2)
                  subst z_
                  have hG := ht.has.drop
                  refine GOK.free rfl ?_
                  refine o_load1 (v := x153.dv) Try.underlying53 rfl e102 hG (ht.fr R (by simp)) (CellsAt.field (k := 3) (ds := [x153.dv]) hc162 rfl) ?_
                  exact ⟨_, ⟨rfl, rfl⟩, hG⟩
                | i_ + 11, ho_, him_ => exact absurd him_ (by omega)
              · intro vs163 hs164 w165 hT166 hC_ hH167
                obtain ⟨e0_, eh0_⟩ := hT166 0 _ (by decide) rfl
                obtain ⟨e1_, eh1_⟩ := hT166 1 _ (by decide) rfl
                obtain ⟨e2_, eh2_⟩ := hT166 2 _ (by decide) rfl
                obtain ⟨b157, o158, e3_, eh3_, hc159⟩ := hT166 3 _ (by decide) rfl
                obtain ⟨b157_4, o158_4, q4_3, e4_, eh4_⟩ := hT166 4 _ (by decide) rfl
                have z_ : b157 = b157_4 := by have z0_ := Eq.trans (Eq.symm e3_) q4_3; first | simpa using z0_ | (simp at z0_; first | exact z0_.1 | exact z0_.2)
                subst z_
                have z_ : o158 = o158_4 := by have z0_ := Eq.trans (Eq.symm e3_) q4_3; first | simpa using z0_ | (simp at z0_; first | exact z0_.1 | exact z0_.2)
                subst z_
                obtain ⟨e5_, eh5_⟩ := hT166 5 _ (by decide) rfl
                obtain ⟨e6_, eh6_⟩ := hT166 6 _ (by decide) rfl
                obtain ⟨e7_, eh7_⟩ := hT166 7 _ (by decide) rfl
                obtain ⟨b160, o161, e8_, eh8_, hc162⟩ := hT166 8 _ (by decide) rfl
                obtain ⟨b160_9, o161_9, q9_8, e9_, eh9_⟩ := hT166 9 _ (by decide) rfl
                have z_ : b160 = b160_9 := by have z0_ := Eq.trans (Eq.symm e8_) q9_8; first | simpa using z0_ | (simp at z0_; first | exact z0_.1 | exact z0_.2)
                subst z_
                have z_ : o161 = o161_9 := by have z0_ := Eq.trans (Eq.symm e8_) q9_8; first | simpa using z0_ | (simp at z0_; first | exact z0_.1 | exact z0_.2)
                subst z_
                obtain ⟨e10_, eh10_⟩ := hT166 10 _ (by decide) rfl
                have hH168 : Has E w165 ([sge, [Hp.one b23 (.cells #[(.bool p3.off), (.bool p3.armed), (.int .i64 p3.left), (.int .i64 p3.uses)] 101 (0, 0))], ha, hb, sg2, R] ++ []) := flow_back (cs := []) hH167 (by show (hs164 0 ++ (hs164 1 ++ (hs164 2 ++ (hs164 3 ++ (hs164 4 ++ (hs164 5 ++ (hs164 6 ++ (hs164 7 ++ (hs164 8 ++ (hs164 9 ++ (hs164 10 ++ (hs164 11 ++ [])))))))))))) = _; rw [eh0_, eh1_, eh2_, eh3_, eh4_, eh5_, eh6_, eh7_, eh8_, eh9_, eh10_, hC_ 11 (by decide) (by decide)]; rfl)
                generalize hr170 : puts vs163 _ 0 _ = r169
                have e171_0 : r169 0 = v1 := by rw [← hr170]; exact e87_0
                have e171_1 : r169 1 = v := by rw [← hr170]; exact e87_1
                have e171_5 : r169 5 = (.pointer (some ⟨b23, 0, none⟩)) := by rw [← hr170]; exact e87_5
                have e171_6 : r169 6 = (.pointer (some ⟨db28, 0, none⟩)) := by rw [← hr170]; exact e87_6
                have e171_7 : r169 7 = (.pointer (some ⟨db34, 0, none⟩)) := by rw [← hr170]; exact e87_7
                have e171_9 : r169 9 = va := by rw [← hr170]; exact e87_9
                have e171_10 : r169 10 = vb := by rw [← hr170]; exact e87_10
                have e171_11 : r169 11 = (.int .i64 (k : Int)) := by rw [← hr170]; exact e87_11
                have e171_14 : r169 14 = (.int .i64 (i : Int)) := by rw [← hr170]; exact e87_14
                have e171_28 : r169 28 = (.bool false) := by rw [← hr170]; exact e87_28
                have e171_61 : r169 61 = (.bool (decide ((k : Int) < 6))) := by rw [← hr170]; exact e87_61
                have e171_83 : r169 83 = (.bool (decide ((i : Int) < ((l.length : Nat) : Int)))) := by rw [← hr170]; exact rfl
                have e171_90 : r169 90 = (.int .i64 x153.kind) := by rw [← hr170]; exact rfl
                have e171_91 : r169 91 = (.bool (decide (x153.kind = 0))) := by rw [← hr170]; exact rfl
                have e171_93 : r169 93 = (.pointer (some ⟨db34, 0, none⟩)) := by rw [← hr170]; exact e0_
                have e171_98 : r169 98 = (.int .i64 x153.n) := by rw [← hr170]; exact e5_
                have e171_103 : r169 103 = x153.dv := by rw [← hr170]; exact e10_
                refine s_op (o_callf (vs := #[(.pointer (some ⟨db34, 0, none⟩)), (.int .i64 x153.n), x153.dv]) ca29 rfl (args3 e171_93 e171_98 e171_103) (write_d (p := p3) (la := lae) (lo := loe) ((hH168.front 1 rfl).front 1 rfl).all2 hde (hp3.ok (by omega)) (by omega) x153.n (l := x153.data) ((hok x153 (List.mem_of_getElem? hx154)).1.mono (seg_sub 3 rfl)) (by first | omega | simp) (by first | omega | (simp; omega))) ?_)
                rintro _ w176 ⟨sg172, rfl, hd173, hX174⟩
                refine ⟨_, rfl, ?_⟩
                have hH175 : Has E w176 [sg172, [Hp.one b23 (.cells #[(.bool (useS p3).off), (.bool (useS p3).armed), (.int .i64 (useS p3).left), (.int .i64 (useS p3).uses)] 101 (0, 0))], ha, hb, sg2, R] := hX174.of_all2
                refine s_nil ?_
                refine b_norm ?_
                refine t_norm (hJ100 _ _ ⟨(useS p3), lae, (writeS p3 lae.length loe x153.n x153.data.flatten), sg172, hH175, (hd173), (hlae), (by rw [hlae]; exact hloe.write _ _ _), (hp3.use), e171_0, e171_1, e171_5, e171_6, e171_7, e171_9, e171_10, e171_11, e171_14, e171_28, e171_61, e171_83⟩)
            · -- not: x153.kind = 0
              obtain ⟨hfa_, hfb_, hfc_⟩ := hfine.2 _ (List.mem_of_getElem? hx154)
              have hdt_ := (hok _ (List.mem_of_getElem? hx154)).2.2.1
              refine wp_seq_k fun K177 hK177 => ?_
              refine c_region ?_
              refine s_op (o_eql (a := x153.kind) (b := 1) rfl rfl ?_)
              refine s_op (o_assign (v := (.bool (decide (x153.kind = 1)))) rfl ?_)
              refine s_nil ?_
              refine t_norm (hK177 _ _ ?_)
              refine c_cond rfl (fun h178 => ?_) (fun h178 => ?_)
              · -- x153.kind = 1
                refine c_region ?_
                refine s_op (o_move (v := (.pointer (some ⟨db34, 0, none⟩))) e87_7 ?_)
                refine s_op (o_callf (vs := #[(.pointer (some ⟨db34, 0, none⟩))]) ca31 rfl (args1 rfl) (sync_d (p := p3) (la := lae) (lo := loe) ((hH91.front 1 rfl).front 1 rfl).all2 hde (hp3.ok (by omega)) (by omega) (by rw [hlae]; exact hloe)) ?_)
                rintro _ w183 ⟨sg179, rfl, hd180, hX181⟩
                refine ⟨_, rfl, ?_⟩
                have hH182 : Has E w183 [sg179, [Hp.one b23 (.cells #[(.bool (useS p3).off), (.bool (useS p3).armed), (.int .i64 (useS p3).left), (.int .i64 (useS p3).uses)] 101 (0, 0))], ha, hb, sg2, R] := hX181.of_all2
                refine s_nil ?_
                refine b_norm ?_
                refine t_norm (hJ100 _ _ ⟨(useS p3), (syncA p3 lae loe), (syncO p3 loe), sg179, hH182, (hd180), (by rw [syncA_len]; exact hlae), (hloe.sync _), (hp3.use), e87_0, e87_1, e87_5, e87_6, e87_7, e87_9, e87_10, e87_11, e87_14, e87_28, e87_61, rfl⟩)
              · -- not: x153.kind = 1
                refine wp_seq_k fun K184 hK184 => ?_
                refine c_region ?_
                refine s_op (o_eql (a := x153.kind) (b := 4) rfl rfl ?_)
                refine s_op (o_assign (v := (.bool (decide (x153.kind = 4)))) rfl ?_)
                refine s_nil ?_
                refine t_norm (hK184 _ _ ?_)
                refine c_cond rfl (fun h185 => ?_) (fun h185 => ?_)
                · -- x153.kind = 4
                  refine c_region ?_
                  refine s_op (o_move (v := (.pointer (some ⟨db34, 0, none⟩))) e87_7 ?_)
                  refine s_op (o_move (v := v) e87_1 ?_)
                  refine s_op (o_move (v := (.int .i64 (i : Int))) e87_14 ?_)
                  refine s_op (o_indexF daC_len Try.underlying97 ti104 rfl hv rfl rfl (by omega) hx154 fun b186 o187 hc188 => ?_)
                  refine s_op (o_fieldAddr (k := o187 + 4) (fun _ => by kernel_rfl) rfl ?_)
                  refine s_op (o_load1 (v := x153.kv) Try.underlying54 rfl rfl hH91 (seg_sub 5 rfl) (CellsAt.field (k := 4) (ds := [x153.kv]) hc188 rfl) ?_)
                  refine s_op (o_callf (vs := #[(.pointer (some ⟨db34, 0, none⟩)), x153.kv]) ca32 rfl (args2 rfl rfl) (crash_d (p := p3) (la := lae) (lo := loe) ((hH91.front 1 rfl).front 1 rfl).all2 hde (by rw [hlae]; exact hloe) (keep := x153.keep) ((hok x153 (List.mem_of_getElem? hx154)).2.1.mono (seg_sub 3 rfl))) ?_)
                  rintro _ w193 ⟨sg189, rfl, hd190, hX191⟩
                  refine ⟨_, rfl, ?_⟩
                  have hH192 : Has E w193 [sg189, [Hp.one b23 (.cells #[(.bool (backS p3).off), (.bool (backS p3).armed), (.int .i64 (backS p3).left), (.int .i64 (backS p3).uses)] 101 (0, 0))], ha, hb, sg2, R] := hX191.of_all2
                  refine s_nil ?_
                  refine b_norm ?_
                  refine t_norm (hJ100 _ _ ⟨(backS p3), (settleS loe lae x153.keep), ([] : List (Int × Bs)), sg189, hH192, (hd190), (by rw [settle_len]; exact hlae), (LoOk.nil 6), (hp3.back.mono (by omega)), e87_0, e87_1, e87_5, e87_6, e87_7, e87_9, e87_10, e87_11, e87_14, e87_28, e87_61, rfl⟩)
                · -- not: x153.kind = 4
                  refine wp_seq_k fun K194 hK194 => ?_
                  refine c_region ?_
                  refine s_op (o_eql (a := x153.kind) (b := 5) rfl rfl ?_)
                  refine s_op (o_assign (v := (.bool (decide (x153.kind = 5)))) rfl ?_)
                  refine s_nil ?_
                  refine t_norm (hK194 _ _ ?_)
                  refine c_cond rfl (fun h195 => ?_) (fun h195 => ?_)
                  · -- x153.kind = 5
                    refine c_flow4 [sge, [Hp.one b23 (.cells #[(.bool p3.off), (.bool p3.armed), (.int .i64 p3.left), (.int .i64 p3.uses)] 101 (0, 0))], ha, hb, sg2, R] (fun i_ => match i_ with | _ => []) (fun i_ v_ h_ m_ => match i_ with | 0 => v_ = (.pointer (some ⟨db34, 0, none⟩)) ∧ h_ = [] | 1 => v_ = v ∧ h_ = [] | 2 => v_ = (.int .i64 (i : Int)) ∧ h_ = [] | 3 => ∃ (b196 : Nat) (o197 : Nat), v_ = (.pointer (some ⟨b196, o197, none⟩)) ∧ h_ = [] ∧ (CellsAt R b196 o197 [(.int .i64 x153.kind), (.int .i64 x153.n), (.bool x153.other), x153.dv, x153.kv]) | 4 => ∃ (b196 : Nat) (o197 : Nat), m_ 3 = (.pointer (some ⟨b196, o197, none⟩)) ∧ v_ = (.pointer (some ⟨b196, o197 + 1, none⟩)) ∧ h_ = [] | 5 => v_ = (.int .i64 x153.n) ∧ h_ = [] | 6 => v_ = v ∧ h_ = [] | 7 => v_ = (.int .i64 (i : Int)) ∧ h_ = [] | 8 => ∃ (b199 : Nat) (o200 : Nat), v_ = (.pointer (some ⟨b199, o200, none⟩)) ∧ h_ = [] ∧ (CellsAt R b199 o200 [(.int .i64 x153.kind), (.int .i64 x153.n), (.bool x153.other), x153.dv, x153.kv]) | 9 => ∃ (b199 : Nat) (o200 : Nat), m_ 8 = (.pointer (some ⟨b199, o200, none⟩)) ∧ v_ = (.pointer (some ⟨b199, o200 + 3, none⟩)) ∧ h_ = [] | 10 => v_ = x153.dv ∧ h_ = [] | 11 => v_ = (S x153.data.flatten) ∧ h_ = [] | _ => True) mixed 12 (by kernel_rfl) (by decide) (by kernel_rfl) (flow_has (cs := []) hH91 rfl) ?_ ?_
                    · intro i_ o_ him_ ho_ r' w' G hs_ ht
                      match i_, ho_, him_ with
                      | 0, ho_, him_ =>
                        obtain rfl := Option.some.inj ho_
                        have e7 : r' 7 = (.pointer (some ⟨db34, 0, none⟩)) := (ht.was 7 (by kernel_rfl)).trans e87_7
                        have hG := ht.has.drop
                        refine GOK.free rfl ?_
                        refine o_move (v := (.pointer (some ⟨db34, 0, none⟩))) e7 ?_
                        exact ⟨_, ⟨rfl, rfl⟩, hG⟩
                      | 1, ho_, him_ =>
                        obtain rfl := Option.some.inj ho_
                        have e1 : r' 1 = v := (ht.was 1 (by kernel_rfl)).trans e87_1
                        have hG := ht.has.drop
                        refine GOK.free rfl ?_
                        refine o_move (v := v) e1 ?_
                        exact ⟨_, ⟨rfl, rfl⟩, hG⟩
                      | 2, ho_, him_ =>
                        obtain rfl := Option.some.inj ho_
                        have e14 : r' 14 = (.int .i64 (i : Int)) := (ht.was 14 (by kernel_rfl)).trans e87_14
                        have hG := ht.has.drop
                        refine GOK.free rfl ?_
                        refine o_move (v := (.int .i64 (i : Int))) e14 ?_
                        exact ⟨_, ⟨rfl, rfl⟩, hG⟩
                      | 3, ho_, him_ =>
                        obtain rfl := Option.some.inj ho_
                        obtain ⟨e121, eh1⟩ := (ht.done 1 _ rfl rfl).1
                        obtain ⟨e122, eh2⟩ := (ht.done 2 _ rfl rfl).1
                        have hG := ht.has.drop
                        refine GOK.free rfl ?_
                        refine o_indexF daC_len Try.underlying97 ti104 e121 hv rfl e122 (by omega) hx154 fun b196 o197 hc198 => ?_
                        exact ⟨_, ⟨b196, o197, rfl, rfl, hc198⟩, hG⟩
                      | 4, ho_, him_ =>
                        obtain rfl := Option.some.inj ho_
                        obtain ⟨b196, o197, e123, eh3, hc198⟩ := (ht.done 3 _ rfl rfl).1
                        have hG := ht.has.drop
                        refine GOK.free rfl ?_
                        refine o_fieldAddr (k := o197 + 1) (fun _ => by kernel_rfl) e123 ?_
                        exact ⟨_, ⟨b196, o197, e123, rfl, rfl⟩, hG⟩
                      | 5, ho_, him_ =>
                        obtain rfl := Option.some.inj ho_
                        obtain ⟨b196, o197, e123, eh3, hc198⟩ := (ht.done 3 _ rfl rfl).1
                        obtain ⟨b196_4, o197_4, q4_3, e124, eh4⟩ := (ht.done 4 _ rfl rfl).1
                        have z_ : b196 = b196_4 := by have z0_ := Eq.trans (Eq.symm e123) q4_3; first | simpa using z0_ | (simp at z0_; first | exact z0_.1 | exact z0_.2)
                        subst z_
                        have z_ : o197 = o197_4 := by have z0_ := Eq.trans (Eq.symm e123) q4_3; first | simpa using z0_ | (simp at z0_; first | exact z0_.1 | exact z0_.2)
                        subst z_
                        have hG := ht.has.drop
                        refine GOK.free rfl ?_
                        refine o_load1 (v := (.int .i64 x153.n)) Try.underlying3 rfl e124 hG (ht.fr R (by simp)) (CellsAt.field (k := 1) (ds := [(.int .i64 x153.n)]) hc198 rfl) ?_
                        exact ⟨_, ⟨rfl, rfl⟩, hG⟩
                      | 6, ho_, him_ =>
                        obtain rfl := Option.some.inj ho_
                        have e1 : r' 1 = v := (ht.was 1 (by kernel_rfl)).trans e87_1
                        have hG := ht.has.drop
                        refine GOK.free rfl ?_
                        refine o_move (v := v) e1 ?_
                        exact ⟨_, ⟨rfl, rfl⟩, hG⟩
                      | 7, ho_, him_ =>
                        obtain rfl := Option.some.inj ho_
                        have e14 : r' 14 = (.int .i64 (i : Int)) := (ht.was 14 (by kernel_rfl)).trans e87_14
                        have hG := ht.has.drop
                        refine GOK.free rfl ?_
                        refine o_move (v := (.int .i64 (i : Int))) e14 ?_
                        exact ⟨_, ⟨rfl, rfl⟩, hG⟩
                      | 8, ho_, him_ =>
                        obtain rfl := Option.some.inj ho_
                        obtain ⟨e126, eh6⟩ := (ht.done 6 _ rfl rfl).1
                        obtain ⟨e127, eh7⟩ := (ht.done 7 _ rfl rfl).1
                        have hG := ht.has.drop
                        refine GOK.free rfl ?_
                        refine o_indexF daC_len Try.underlying97 ti104 e126 hv rfl e127 (by omega) hx154 fun b199 o200 hc201 => ?_
                        exact ⟨_, ⟨b199, o200, rfl, rfl, hc201⟩, hG⟩
                      | 9, ho_, him_ =>
                        obtain rfl := Option.some.inj ho_
                        obtain ⟨b199, o200, e128, eh8, hc201⟩ := (ht.done 8 _ rfl rfl).1
                        have hG := ht.has.drop
                        refine GOK.free rfl ?_
                        refine o_fieldAddr (k := o200 + 3) (fun _ => by kernel_rfl) e128 ?_
                        exact ⟨_, ⟨b199, o200, e128, rfl, rfl⟩, hG⟩
                      | 10, ho_, him_ =>
                        obtain rfl := Option.some.inj ho_
                        obtain ⟨b199, o200, e128, eh8, hc201⟩ := (ht.done 8 _ rfl rfl).1
                        obtain ⟨b199_9, o200_9, q9_8, e129, eh9⟩ := (ht.done 9 _ rfl rfl).1
                        have z_ : b199 = b199_9 := by have z0_ := Eq.trans (Eq.symm e128) q9_8; first | simpa using z0_ | (simp at z0_; first | exact z0_.1 | exact z0_.2)
                        subst z_
                        have z_ : o200 = o200_9 := by have z0_ := Eq.trans (Eq.symm e128) q9_8; first | simpa using z0_ | (simp at z0_; first | exact z0_.1 | exact z0_.2)
                        subst z_
                        have hG := ht.has.drop
                        refine GOK.free rfl ?_
                        refine o_load1 (v := x153.dv) Try.underlying53 rfl e129 hG (ht.fr R (by simp)) (CellsAt.field (k := 3) (ds := [x153.dv]) hc201 rfl) ?_
                        exact ⟨_, ⟨rfl, rfl⟩, hG⟩
                      | 11, ho_, him_ =>
                        obtain rfl := Option.some.inj ho_
                        obtain ⟨b199, o200, e128, eh8, hc201⟩ := (ht.done 8 _ rfl rfl).1
                        obtain ⟨b199_9, o200_9, q9_8, e129, eh9⟩ := (ht.done 9 _ rfl rfl).1
                        have z_ : b199 = b199_9 := by have z0_ := Eq.trans (Eq.symm e128) q9_8; first | simpa using z0_ | (simp at z0_; first | exact z0_.1 | exact z0_.2)
                        subst z_
                        have z_ : o200 = o200_9 := by have z0_ := Eq.trans (Eq.symm e128) q9_8; first | simpa using z0_ | (simp at z0_; first | exact z0_.1 | exact z0_.2)
                        subst z_
                        obtain ⟨e130, eh10⟩ := (ht.done 10 _ rfl rfl).1
                        have hG := ht.has.drop
                        refine GOK.free rfl ?_
                        refine o_callf (vs := #[x153.dv]) ca53 rfl (args1 e130) (ljoin_c hG.all (l := x153.data) ((hok x153 (List.mem_of_getElem? hx154)).1.mono (ht.fr R (by simp))) hdt_ (by omega)) ?_
                        rintro _ w204 ⟨rfl, hX202⟩
                        refine ⟨_, rfl, ?_⟩
                        have hH203 := hX202.of_all
                        exact ⟨_, ⟨rfl, rfl⟩, hH203⟩
                      | i_ + 12, ho_, him_ => exact absurd him_ (by omega)
                    · intro vs205 hs206 w207 hT208 hC_ hH209
                      obtain ⟨e0_, eh0_⟩ := hT208 0 _ (by decide) rfl
                      obtain ⟨e1_, eh1_⟩ := hT208 1 _ (by decide) rfl
                      obtain ⟨e2_, eh2_⟩ := hT208 2 _ (by decide) rfl
                      obtain ⟨b196, o197, e3_, eh3_, hc198⟩ := hT208 3 _ (by decide) rfl
                      obtain ⟨b196_4, o197_4, q4_3, e4_, eh4_⟩ := hT208 4 _ (by decide) rfl
                      have z_ : b196 = b196_4 := by have z0_ := Eq.trans (Eq.symm e3_) q4_3; first | simpa using z0_ | (simp at z0_; first | exact z0_.1 | exact z0_.2)
                      subst z_
                      have z_ : o197 = o197_4 := by have z0_ := Eq.trans (Eq.symm e3_) q4_3; first | simpa using z0_ | (simp at z0_; first | exact z0_.1 | exact z0_.2)
                      subst z_
                      obtain ⟨e5_, eh5_⟩ := hT208 5 _ (by decide) rfl
                      obtain ⟨e6_, eh6_⟩ := hT208 6 _ (by decide) rfl
                      obtain ⟨e7_, eh7_⟩ := hT208 7 _ (by decide) rfl
                      obtain ⟨b199, o200, e8_, eh8_, hc201⟩ := hT208 8 _ (by decide) rfl
                      obtain ⟨b199_9, o200_9, q9_8, e9_, eh9_⟩ := hT208 9 _ (by decide) rfl
                      have z_ : b199 = b199_9 := by have z0_ := Eq.trans (Eq.symm e8_) q9_8; first | simpa using z0_ | (simp at z0_; first | exact z0_.1 | exact z0_.2)
                      subst z_
                      have z_ : o200 = o200_9 := by have z0_ := Eq.trans (Eq.symm e8_) q9_8; first | simpa using z0_ | (simp at z0_; first | exact z0_.1 | exact z0_.2)
                      subst z_
                      obtain ⟨e10_, eh10_⟩ := hT208 10 _ (by decide) rfl
                      obtain ⟨e11_, eh11_⟩ := hT208 11 _ (by decide) rfl
                      have hH210 : Has E w207 ([sge, [Hp.one b23 (.cells #[(.bool p3.off), (.bool p3.armed), (.int .i64 p3.left), (.int .i64 p3.uses)] 101 (0, 0))], ha, hb, sg2, R] ++ []) := flow_back (cs := []) hH209 (by show (hs206 0 ++ (hs206 1 ++ (hs206 2 ++ (hs206 3 ++ (hs206 4 ++ (hs206 5 ++ (hs206 6 ++ (hs206 7 ++ (hs206 8 ++ (hs206 9 ++ (hs206 10 ++ (hs206 11 ++ (hs206 12 ++ []))))))))))))) = _; rw [eh0_, eh1_, eh2_, eh3_, eh4_, eh5_, eh6_, eh7_, eh8_, eh9_, eh10_, eh11_, hC_ 12 (by decide) (by decide)]; rfl)
                      generalize hr212 : puts vs205 _ 0 _ = r211
                      have e213_0 : r211 0 = v1 := by rw [← hr212]; exact e87_0
                      have e213_1 : r211 1 = v := by rw [← hr212]; exact e87_1
                      have e213_5 : r211 5 = (.pointer (some ⟨b23, 0, none⟩)) := by rw [← hr212]; exact e87_5
                      have e213_6 : r211 6 = (.pointer (some ⟨db28, 0, none⟩)) := by rw [← hr212]; exact e87_6
                      have e213_7 : r211 7 = (.pointer (some ⟨db34, 0, none⟩)) := by rw [← hr212]; exact e87_7
                      have e213_9 : r211 9 = va := by rw [← hr212]; exact e87_9
                      have e213_10 : r211 10 = vb := by rw [← hr212]; exact e87_10
                      have e213_11 : r211 11 = (.int .i64 (k : Int)) := by rw [← hr212]; exact e87_11
                      have e213_14 : r211 14 = (.int .i64 (i : Int)) := by rw [← hr212]; exact e87_14
                      have e213_28 : r211 28 = (.bool false) := by rw [← hr212]; exact e87_28
                      have e213_61 : r211 61 = (.bool (decide ((k : Int) < 6))) := by rw [← hr212]; exact e87_61
                      have e213_83 : r211 83 = (.bool (decide ((i : Int) < ((l.length : Nat) : Int)))) := by rw [← hr212]; exact rfl
                      have e213_90 : r211 90 = (.int .i64 x153.kind) := by rw [← hr212]; exact rfl
                      have e213_91 : r211 91 = (.bool (decide (x153.kind = 0))) := by rw [← hr212]; exact rfl
                      have e213_105 : r211 105 = (.bool (decide (x153.kind = 1))) := by rw [← hr212]; exact rfl
                      have e213_109 : r211 109 = (.bool (decide (x153.kind = 4))) := by rw [← hr212]; exact rfl
                      have e213_118 : r211 118 = (.bool (decide (x153.kind = 5))) := by rw [← hr212]; exact rfl
                      have e213_120 : r211 120 = (.pointer (some ⟨db34, 0, none⟩)) := by rw [← hr212]; exact e0_
                      have e213_125 : r211 125 = (.int .i64 x153.n) := by rw [← hr212]; exact e5_
                      have e213_131 : r211 131 = (S x153.data.flatten) := by rw [← hr212]; exact e11_
                      refine s_op (o_callf (vs := #[(.pointer (some ⟨db34, 0, none⟩)), (.int .i64 x153.n), (S x153.data.flatten)]) ca52 rfl (args3 e213_120 e213_125 e213_131) (put_d (p := p3) (la := lae) (lo := loe) ((hH210.front 1 rfl).front 1 rfl).all2 hde x153.n x153.data.flatten (by omega)) ?_)
                      rintro _ w218 ⟨sg214, rfl, hd215, hX216⟩
                      refine ⟨_, rfl, ?_⟩
                      have hH217 : Has E w218 [sg214, [Hp.one b23 (.cells #[(.bool p3.off), (.bool p3.armed), (.int .i64 p3.left), (.int .i64 p3.uses)] 101 (0, 0))], ha, hb, sg2, R] := hX216.of_all2
                      refine s_nil ?_
                      refine b_norm ?_
                      refine t_norm (hJ100 _ _ ⟨p3, (putA lae x153.n x153.data.flatten), (putO lae.length loe x153.n x153.data.flatten), sg214, hH217, (hd215), (by rw [putA_len]; exact hlae), (hloe.puto _ _), (hp3.mono (by omega)), e213_0, e213_1, e213_5, e213_6, e213_7, e213_9, e213_10, e213_11, e213_14, e213_28, e213_61, e213_83⟩)
                  · -- not: x153.kind = 5
                    refine wp_skip ?_
                    refine b_norm ?_
                    refine t_norm (hJ100 _ _ ⟨p3, lae, loe, sge, hH91, (hde), (hlae), (hloe), (hp3.mono (by omega)), e87_0, e87_1, e87_5, e87_6, e87_7, e87_9, e87_10, e87_11, e87_14, e87_28, e87_61, rfl⟩)
          · -- not: (i : Int) < ((l.length : Nat) : Int)
            refine wp_exit ?_
            refine t_exit (t_exit (x_in (?_)))
            refine t_norm (hK85 _ _ ?_)
            refine wp_seq_k fun K219 hK219 => ?_
            refine c_region ?_
            refine s_op (o_assign (v := (.bool true)) rfl ?_)
            refine s_nil ?_
            refine t_norm (hK219 _ _ ?_)
            refine wp_ret ?_
            refine c_ret1 Try.results11  (v := (.bool true)) rfl ?_
            have hH220 : Has E w90 [R] := (hH91.front 5 rfl).first 1 rfl
            exact ⟨rfl, hH220⟩
      refine wp_seq_k fun K221 hK221 => ?_
      refine c_region ?_
      refine s_op (o_assign (v := (.int .i64 0)) rfl ?_)
      refine s_nil ?_
      refine t_norm (hK221 _ _ ?_)
      refine wp_block ?_
      let I223 : Nat → (Nat → Value) → World → Prop := fun n__ r__ w__ => ∃ (j : Nat) (p1 : Pw) (lo1 : List (Int × Bs)) (sg1 : List Hp), n__ = 6 - j ∧ Has E w__ [sg1, [Hp.one b23 (.cells #[(.bool p1.off), (.bool p1.armed), (.int .i64 p1.left), (.int .i64 p1.uses)] 101 (0, 0))], sg35, R] ∧ (j ≤ 6) ∧ (DevAt b23 sg1 db28 (List.replicate 6 blankS) lo1) ∧ (Calm p1 j) ∧ (LoOk lo1 (List.replicate 6 blankS).length) ∧ r__ 0 = v1 ∧ r__ 1 = v ∧ r__ 4 = (.bool false) ∧ r__ 5 = (.pointer (some ⟨b23, 0, none⟩)) ∧ r__ 6 = (.pointer (some ⟨db28, 0, none⟩)) ∧ r__ 7 = (.pointer (some ⟨db34, 0, none⟩)) ∧ r__ 8 = (.int .i64 (j : Int)) ∧ r__ 28 = (.bool false)
      have hH224 : Has E w39 [sg29, [Hp.one b23 (.cells #[(.bool (Pw.mk false false 0 0).off), (.bool (Pw.mk false false 0 0).armed), (.int .i64 (Pw.mk false false 0 0).left), (.int .i64 (Pw.mk false false 0 0).uses)] 101 (0, 0))], sg35, R] := ((((hH38.front 3 rfl).front 1 rfl).front 3 rfl).front 3 rfl).first 4 rfl
      refine c_loop I223 _ ⟨0, (Pw.mk false false 0 0), ([] : List (Int × Bs)), sg29, rfl, hH224, Nat.zero_le _, hd30, Calm.new, LoOk.nil _, rfl, rfl, rfl, rfl, rfl, rfl, rfl, rfl⟩ ?_
      rintro n_ r227 w225 ⟨j, p1, lo1, sg1, rfl, hH226, hj, hd1, hp1, hlo1, e222_0, e222_1, e222_4, e222_5, e222_6, e222_7, e222_8, e222_28⟩
      refine wp_seq_k fun K228 hK228 => ?_
      refine wp_seq_k fun K229 hK229 => ?_
      refine c_region ?_
      refine s_op (o_move (v := (.int .i64 (j : Int))) e222_8 ?_)
      refine s_op (o_move (v := v1) e222_0 ?_)
      refine s_op (o_lenS Try.underlying53 rfl hf ?_)
      refine s_op (o_lss (a := (j : Int)) (b := ((first.length : Nat) : Int)) rfl rfl ?_)
      refine s_op (o_move (v := (.bool (decide ((j : Int) < ((first.length : Nat) : Int))))) rfl ?_)
      by_cases h230 : (j : Int) < ((first.length : Nat) : Int)
      · -- (j : Int) < ((first.length : Nat) : Int)
        refine s_on 40 rfl (congrArg Value.bool (decide_eq_true h230)) (o_move (v := (.int .i64 (j : Int))) e222_8 ?_)
        refine s_on 40 rfl (congrArg Value.bool (decide_eq_true h230)) (o_lss (a := (j : Int)) (b := 6) rfl rfl ?_)
        refine s_op (o_pick_t (u := (.bool (decide ((j : Int) < 6)))) ((rfl : _ = _).trans (congrArg Value.bool (decide_eq_true h230))) rfl ?_)
        refine s_nil ?_
        refine t_norm (hK229 _ _ ?_)
        refine c_cond rfl (fun h231 => ?_) (fun h231 => ?_)
        · -- (j : Int) < 6
          refine wp_skip ?_
          refine t_norm (hK228 _ _ ?_)
          refine wp_seq_k fun K232 hK232 => ?_
          refine wp_block ?_
          refine wp_seq_k fun K233 hK233 => ?_
          refine c_region ?_
          refine s_op (o_move (v := v1) e222_0 ?_)
          refine s_op (o_move (v := (.int .i64 (j : Int))) e222_8 ?_)
          obtain ⟨x237, hx238⟩ : ∃ x_, first[((j : Int)).toNat]? = some x_ := get_some (by omega)
          refine s_op (o_index1 Try.underlying53 ti9 rfl hf rfl (by omega) hx238 fun b234 o235 hc236 => ?_)
          refine s_op (o_load1 (v := (S x237)) Try.underlying9 rfl rfl hH226 (seg_sub 3 rfl) hc236 ?_)
          refine s_op (o_slen Try.underlying9 rfl ?_)
          refine s_op (o_leq (a := (x237.length : Int)) (b := 64) rfl rfl ?_)
          refine s_nil ?_
          refine t_norm (hK233 _ _ ?_)
          refine c_cond rfl (fun h239 => ?_) (fun h239 => ?_)
          · -- (x237.length : Int) ≤ 64
            refine c_region ?_
            refine s_op (o_move (v := (.pointer (some ⟨db28, 0, none⟩))) e222_6 ?_)
            refine s_op (o_move (v := (.int .i64 (j : Int))) e222_8 ?_)
            refine s_op (o_move (v := v1) e222_0 ?_)
            refine s_op (o_move (v := (.int .i64 (j : Int))) e222_8 ?_)
            refine s_op (o_index1 Try.underlying53 ti9 rfl hf rfl (by omega) hx238 fun b240 o241 hc242 => ?_)
            refine s_op (o_load1 (v := (S x237)) Try.underlying9 rfl rfl hH226 (seg_sub 3 rfl) hc242 ?_)
            refine s_op (o_buildSlice (ps := #[(0, (S x237))]) (cells := #[(S x237)]) Try.underlying53 ti9 (by decide) (parts1 rfl) (by kernel_rfl) hH226 fun b243 w244 hH245 => ?_)
            refine s_op (o_callf (vs := #[(.pointer (some ⟨db28, 0, none⟩)), (.int .i64 (j : Int)), (.slice (some ⟨b243, 0, none⟩) 1 1)]) ca29 rfl (args3 rfl rfl rfl) (write_d (p := p1) (la := (List.replicate 6 blankS)) (lo := lo1) ((hH245.front 2 rfl).front 2 rfl).all2 hd1 (hp1.ok (by omega)) (by simp) (j : Int) (l := [x237]) ((sl_lit (f := sV) (l := [x237]) rfl rfl (by simp)).mono (seg_sub 0 rfl)) (by first | omega | simp) (by first | omega | (simp; omega))) ?_)
            rintro _ w250 ⟨sg246, rfl, hd247, hX248⟩
            refine ⟨_, rfl, ?_⟩
            have hH249 : Has E w250 [sg246, [Hp.one b23 (.cells #[(.bool (useS p1).off), (.bool (useS p1).armed), (.int .i64 (useS p1).left), (.int .i64 (useS p1).uses)] 101 (0, 0))], [Hp.one b243 (.cells #[(S x237)] 9 (0, 0))], sg35, R] := hX248.of_all2
            refine s_nil ?_
            refine b_norm ?_
            refine t_norm (hK232 _ _ ?_)
            refine c_region ?_
            refine s_op (o_move (v := (.int .i64 (j : Int))) e222_8 ?_)
            refine s_op (o_add (a := (j : Int)) (b := 1) rfl rfl (w64 (by omega) (by omega)) ?_)
            refine s_op (o_assign (v := (.int .i64 ((j : Int) + 1))) rfl ?_)
            refine s_nil ?_
            have hH251 : Has E w250 [sg246, [Hp.one b23 (.cells #[(.bool (useS p1).off), (.bool (useS p1).armed), (.int .i64 (useS p1).left), (.int .i64 (useS p1).uses)] 101 (0, 0))], sg35, R] := ((((hH249.front 4 rfl).front 4 rfl).front 3 rfl).front 3 rfl).first 4 rfl
            refine t_norm ⟨6 - (j + 1), _, rfl, ?_, ?_⟩
            · omega
            · exact ⟨(j + 1), (useS p1), (writeS p1 ((List.replicate 6 blankS).length) lo1 (j : Int) [x237].flatten), sg246, rfl, hH251, (by omega), (hd247), (hp1.use), (hlo1.write _ _ _), e222_0, e222_1, e222_4, e222_5, e222_6, e222_7, rfl, e222_28⟩
          · -- not: (x237.length : Int) ≤ 64
            refine wp_skip ?_
            refine b_norm ?_
            refine t_norm (hK232 _ _ ?_)
            refine c_region ?_
            refine s_op (o_move (v := (.int .i64 (j : Int))) e222_8 ?_)
            refine s_op (o_add (a := (j : Int)) (b := 1) rfl rfl (w64 (by omega) (by omega)) ?_)
            refine s_op (o_assign (v := (.int .i64 ((j : Int) + 1))) rfl ?_)
            refine s_nil ?_
            refine t_norm ⟨6 - (j + 1), _, rfl, ?_, ?_⟩
            · omega
            · exact ⟨(j + 1), p1, lo1, sg1, rfl, hH226, (by omega), (hd1), (hp1.mono (by omega)), (hlo1), e222_0, e222_1, e222_4, e222_5, e222_6, e222_7, rfl, e222_28⟩
        · -- not: (j : Int) < 6
          refine wp_exit ?_
          refine t_exit (t_exit (x_in (?_)))
          refine t_norm (hJ43 _ _ ⟨p1, lo1, sg1, hH226, (hd1), (hp1.mono (by omega)), (hlo1), e222_0, e222_1, e222_4, e222_5, e222_6, e222_7, e222_28⟩)
      · -- not: (j : Int) < ((first.length : Nat) : Int)
        refine s_off (b' := false) 40 rfl (congrArg Value.bool (decide_eq_false h230)) rfl ?_
        refine s_off (b' := false) 40 rfl (congrArg Value.bool (decide_eq_false h230)) rfl ?_
        refine s_op (o_pick_f (u := (.bool false)) ((rfl : _ = _).trans (congrArg Value.bool (decide_eq_false h230))) rfl ?_)
        refine s_nil ?_
        refine t_norm (hK229 _ _ ?_)
        refine c_false rfl rfl ?_
        refine wp_exit ?_
        refine t_exit (t_exit (x_in (?_)))
        refine t_norm (hJ43 _ _ ⟨p1, lo1, sg1, hH226, (hd1), (hp1.mono (by omega)), (hlo1), e222_0, e222_1, e222_4, e222_5, e222_6, e222_7, e222_28⟩)
end Go.Q
