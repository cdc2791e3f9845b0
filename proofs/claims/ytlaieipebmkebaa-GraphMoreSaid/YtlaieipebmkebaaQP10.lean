/-
  Parts of a walk: what functions of the program compute, each told by a theorem.
-/
import Derived.Test.YtlaieipebmkebaaQP9
set_option linter.unusedVariables false
set_option linter.unusedSimpArgs false
namespace Go.Q
open Go.Proofs
set_option linter.unusedVariables false
set_option maxRecDepth 100000
attribute [local irreducible] wpList OK Code.wp
set_option maxHeartbeats 4000000 in
theorem refround_c {E w : World} {R : List Hp} (hH : Has E w [R]) {v : Value} {l : List (Int × Int)} (hv : Sl R 2 v l.length (l.flatMap tmC)) (hl : l.length ≤ 1000) (a : Int) :
    Calls Try.prog 14 #[v, (.int .i64 a)] w fun e w' => e = .returned (.bool (decide (a ∈ reachS l [a]))) ∧ Has E w' [R] := by
  have hn_ := hv.le
  refine c_enter (args := [v, (.int .i64 a)]) Try.func14 rfl Try.ntmps14 (by simp) ?_
  refine wp_seq_k fun K1 hK1 => ?_
  refine c_region ?_
  refine s_op (o_assign (v := (.bool false)) rfl ?_)
  refine s_nil ?_
  refine t_norm (hK1 _ _ ?_)
  refine wp_seq_k fun K2 hK2 => ?_
  refine c_region ?_
  refine s_op (o_move (v := v) rfl ?_)
  refine s_op (o_move (v := (.int .i64 a)) rfl ?_)
  refine s_op (o_buildSlice (ps := #[(0, (.int .i64 a))]) (cells := #[(.int .i64 a)]) Try.underlying23 ti3 (by decide) (parts1 rfl) (by kernel_rfl) hH fun b3 w4 hH5 => ?_)
  refine s_op (o_callf (vs := #[v, (.slice (some ⟨b3, 0, none⟩) 1 1)]) ca13 rfl (args2 rfl rfl) (refreach_c hH5.all (l := l) (hv.mono (seg_sub 1 rfl)) (by omega) (fr := [a]) ((sl_lit (f := iV) (l := [a]) rfl rfl (by simp)).mono (seg_sub 0 rfl))) ?_)
  rintro _ w11 ⟨v6, s7, rfl, ho8, hX9⟩
  refine ⟨_, rfl, ?_⟩
  have hH10 : Has E w11 [s7, [Hp.one b3 (.cells #[(.int .i64 a)] 3 (0, 0))], R] := hX9.of_all1
  refine s_op (o_move (v := (.int .i64 a)) rfl ?_)
  refine s_op (o_callf (vs := #[v6, (.int .i64 a)]) ca20 rfl (args2 rfl rfl) (refhas_c hH10.all (l := (reachS l [a])) (ho8.sl.mono (seg_sub 0 rfl)) a) ?_)
  rintro _ w14 ⟨rfl, hX12⟩
  refine ⟨_, rfl, ?_⟩
  have hH13 := hX12.of_all
  refine s_op (o_assign (v := (.bool (decide (a ∈ (reachS l [a]))))) rfl ?_)
  refine s_nil ?_
  refine t_norm (hK2 _ _ ?_)
  refine wp_ret ?_
  refine c_ret1 Try.results14  (v := (.bool (decide (a ∈ (reachS l [a]))))) rfl ?_
  have hH15 : Has E w14 [R] := (hH13.front 2 rfl).first 1 rfl
  exact ⟨rfl, hH15⟩
set_option maxHeartbeats 4000000 in
theorem refway_c {E w : World} {R : List Hp} (hH : Has E w [R]) {v : Value} {l : List (Int × Int)} (hv : Sl R 2 v l.length (l.flatMap tmC)) (hl : l.length ≤ 1000) (a to : Int) :
    Calls Try.prog 17 #[v, (.int .i64 a), (.int .i64 to)] w fun e w' => ∃ v' hs', e = .returned v' ∧ Own 3 1 v' (rwayS l a to).length ((rwayS l a to).map iV) hs' ∧ Has E w' [hs', R] := by
  have hn_ := hv.le
  have hst := stepsS_le l a to
  refine c_enter (args := [v, (.int .i64 a), (.int .i64 to)]) Try.func17 rfl Try.ntmps17 (by simp) ?_
  refine wp_seq_k fun K1 hK1 => ?_
  refine c_region ?_
  refine s_op (o_assign (v := (.slice none 0 0)) rfl ?_)
  refine s_nil ?_
  refine t_norm (hK1 _ _ ?_)
  refine wp_seq_k fun K2 hK2 => ?_
  refine c_region ?_
  refine s_op (o_move (v := v) rfl ?_)
  refine s_op (o_move (v := (.int .i64 a)) rfl ?_)
  refine s_op (o_move (v := (.int .i64 to)) rfl ?_)
  refine s_op (o_callf (vs := #[v, (.int .i64 a), (.int .i64 to)]) ca25 rfl (args3 rfl rfl rfl) (steps_c hH.all (l := l) (hv.mono (seg_sub 0 rfl)) (by omega) a to) ?_)
  rintro _ w5 ⟨rfl, hX3⟩
  refine ⟨_, rfl, ?_⟩
  have hH4 := hX3.of_all
  refine s_op (o_assign (v := (.int .i64 (stepsS l a to : Int))) rfl ?_)
  refine s_nil ?_
  refine t_norm (hK2 _ _ ?_)
  refine wp_seq_k fun K6 hK6 => ?_
  refine wp_seq_k fun K7 hK7 => ?_
  refine c_region ?_
  refine s_op (o_move (v := (.int .i64 (stepsS l a to : Int))) rfl ?_)
  refine s_op (o_eql (a := (stepsS l a to : Int)) (b := 0) rfl rfl ?_)
  refine s_nil ?_
  refine t_norm (hK7 _ _ ?_)
  refine c_cond rfl (fun h8 => ?_) (fun h8 => ?_)
  · -- (stepsS l a to : Int) = 0
    refine wp_seq_k fun K9 hK9 => ?_
    refine c_region ?_
    refine s_op (o_assign (v := (.slice none 0 0)) rfl ?_)
    refine s_nil ?_
    refine t_norm (hK9 _ _ ?_)
    refine wp_ret ?_
    refine t_ret (c_ret1 Try.results17  (v := (.slice none 0 0)) rfl ?_)
    exact ⟨_, _, rfl, by rw [rwayS, if_pos (by omega)]; exact Own.nil 3 1, Has.nil hH4⟩
  · -- not: (stepsS l a to : Int) = 0
    refine wp_skip ?_
    refine t_norm (hK6 _ _ ?_)
    refine wp_seq_k fun K10 hK10 => ?_
    refine c_region ?_
    refine s_op (o_move (v := (.int .i64 a)) rfl ?_)
    refine s_op (o_buildSlice (ps := #[(0, (.int .i64 a))]) (cells := #[(.int .i64 a)]) Try.underlying23 ti3 (by decide) (parts1 rfl) (by kernel_rfl) hH4 fun b11 w12 hH13 => ?_)
    refine s_op (o_assign (v := (.slice (some ⟨b11, 0, none⟩) 1 1)) rfl ?_)
    refine s_nil ?_
    refine t_norm (hK10 _ _ ?_)
    refine wp_seq_k fun K14 hK14 => ?_
    refine wp_seq_k fun K15 hK15 => ?_
    refine c_region ?_
    refine s_op (o_move (v := (.int .i64 (stepsS l a to : Int))) rfl ?_)
    refine s_op (o_sub (a := (stepsS l a to : Int)) (b := 1) rfl rfl (w64 (by omega) (by omega)) ?_)
    refine s_op (o_assign (v := (.int .i64 ((stepsS l a to : Int) - 1))) rfl ?_)
    refine s_nil ?_
    refine t_norm (hK15 _ _ ?_)
    refine wp_block ?_
    let I17 : Nat → (Nat → Value) → World → Prop := fun n__ r__ w__ => ∃ (k : Nat) (kz : Int) (vo : Value) (ho_ : List Hp) (out : List Int) (cur : Int), n__ = k + 1 ∧ Has E w__ [ho_, R] ∧ (kz = (k : Int)) ∧ (Own 3 1 vo out.length (out.map iV) ho_) ∧ (rwayS l a to = out ++ tailS l to k cur) ∧ (out.drop (out.length - 1) = [cur]) ∧ (1 ≤ out.length ∧ out.length + k ≤ l.length + 2) ∧ r__ 0 = v ∧ r__ 1 = (.int .i64 a) ∧ r__ 2 = (.int .i64 to) ∧ r__ 6 = (.slice none 0 0) ∧ r__ 7 = (.int .i64 (stepsS l a to : Int)) ∧ r__ 8 = vo ∧ r__ 9 = (.int .i64 kz) ∧ r__ 17 = (.bool (decide ((stepsS l a to : Int) = 0)))
    refine c_loop I17 _ ⟨(stepsS l a to - 1), ((stepsS l a to : Int) - 1), (.slice (some ⟨b11, 0, none⟩) 1 1), [Hp.one b11 (.cells #[(.int .i64 a)] 3 (0, 0))], [a], a, rfl, hH13, (by omega), Own.lit (n := 1) rfl (by decide), (by rw [rwayS, if_neg (by omega)]; rfl), rfl, (by have := stepsS_le l a to; simp; omega), rfl, rfl, rfl, rfl, rfl, rfl, rfl, rfl⟩ ?_
    rintro n_ r20 w18 ⟨k, kz, vo, ho_, out, cur, rfl, hH19, hkz, hoo, hr, hlast, hol, e16_0, e16_1, e16_2, e16_6, e16_7, e16_8, e16_9, e16_17⟩
    refine wp_seq_k fun K21 hK21 => ?_
    refine wp_seq_k fun K22 hK22 => ?_
    refine c_region ?_
    refine s_op (o_move (v := (.int .i64 kz)) e16_9 ?_)
    refine s_op (o_gtr (a := kz) (b := 0) rfl rfl ?_)
    refine s_nil ?_
    refine t_norm (hK22 _ _ ?_)
    refine c_cond rfl (fun h23 => ?_) (fun h23 => ?_)
    · -- 0 < kz
      refine wp_skip ?_
      refine t_norm (hK21 _ _ ?_)
      refine wp_seq_k fun K24 hK24 => ?_
      refine wp_block ?_
      refine wp_seq_k fun K25 hK25 => ?_
      refine c_region ?_
      refine s_op (o_move (v := v) e16_0 ?_)
      refine s_op (o_move (v := vo) e16_8 ?_)
      refine s_op (o_move (v := vo) e16_8 ?_)
      refine s_op (o_lenS Try.underlying23 rfl hoo.sl ?_)
      refine s_op (o_sub (a := ((out.length : Nat) : Int)) (b := 1) rfl rfl (w64 (by omega) (by omega)) ?_)
      refine s_op (o_sl_l Try.underlying23 ti3 rfl hoo.sl rfl (by omega) (by omega) fun v26 hv27 => ?_)
      have hv28 := sl_dropm hv27
      refine s_op (o_callf (vs := #[v, v26]) ca11 rfl (args2 rfl rfl) (refnext_c hH19.all (l := l) (hv.mono (seg_sub 1 rfl)) (by omega) (fr := out.drop (((out.length : Nat) : Int) - 1).toNat) (hv28.mono (seg_sub 0 rfl))) ?_)
      rintro _ w34 ⟨v29, s30, rfl, ho31, hX32⟩
      refine ⟨_, rfl, ?_⟩
      have hH33 : Has E w34 [s30, ho_, R] := hX32.of_all1
      refine s_op (o_assign (v := v29) rfl ?_)
      refine s_nil ?_
      refine t_norm (hK25 _ _ ?_)
      refine wp_seq_k fun K35 hK35 => ?_
      refine c_region ?_
      refine s_op (o_assign (v := (.int .i64 0)) rfl ?_)
      refine s_nil ?_
      refine t_norm (hK35 _ _ ?_)
      refine wp_block ?_
      let I37 : Nat → (Nat → Value) → World → Prop := fun n__ r__ w__ => ∃ (j : Nat), n__ = (nextS l (out.drop (((out.length : Nat) : Int) - 1).toNat)).length - j ∧ Has E w__ [s30, ho_, R] ∧ (j ≤ (nextS l (out.drop (((out.length : Nat) : Int) - 1).toNat)).length) ∧ (∀ y ∈ (nextS l (out.drop (((out.length : Nat) : Int) - 1).toNat)).take j, decide (stepsS l y to = k) = false) ∧ r__ 0 = v ∧ r__ 1 = (.int .i64 a) ∧ r__ 2 = (.int .i64 to) ∧ r__ 6 = (.slice none 0 0) ∧ r__ 7 = (.int .i64 (stepsS l a to : Int)) ∧ r__ 8 = vo ∧ r__ 9 = (.int .i64 kz) ∧ r__ 10 = v29 ∧ r__ 11 = (.int .i64 (j : Int)) ∧ r__ 17 = (.bool (decide ((stepsS l a to : Int) = 0))) ∧ r__ 23 = (.bool (decide (0 < kz)))
      refine c_loop I37 _ ⟨0, rfl, hH33, Nat.zero_le _, (by simp), e16_0, e16_1, e16_2, e16_6, e16_7, e16_8, e16_9, rfl, rfl, e16_17, rfl⟩ ?_
      rintro n_ r40 w38 ⟨j, rfl, hH39, hj, hnf, e36_0, e36_1, e36_2, e36_6, e36_7, e36_8, e36_9, e36_10, e36_11, e36_17, e36_23⟩
      have hnl : (nextS l (out.drop (((out.length : Nat) : Int) - 1).toNat)).length ≤ l.length := nextS_len _ _
      refine wp_seq_k fun K41 hK41 => ?_
      refine wp_seq_k fun K42 hK42 => ?_
      refine c_region ?_
      refine s_op (o_move (v := (.int .i64 (j : Int))) e36_11 ?_)
      refine s_op (o_move (v := v29) e36_10 ?_)
      refine s_op (o_lenS Try.underlying23 rfl ho31.sl ?_)
      refine s_op (o_lss (a := (j : Int)) (b := (((nextS l (out.drop (((out.length : Nat) : Int) - 1).toNat)).length : Nat) : Int)) rfl rfl ?_)
      refine s_nil ?_
      refine t_norm (hK42 _ _ ?_)
      refine c_cond rfl (fun h43 => ?_) (fun h43 => ?_)
      · -- (j : Int) < (((nextS l (out.drop (((out.length : Nat) : Int) - 1).toNat)).length : Nat) : Int)
        refine wp_skip ?_
        refine t_norm (hK41 _ _ ?_)
        refine wp_seq_k fun K44 hK44 => ?_
        refine wp_block ?_
        refine wp_seq_k fun K45 hK45 => ?_
        refine c_region ?_
        refine s_op (o_move (v := v) e36_0 ?_)
        refine s_op (o_move (v := v29) e36_10 ?_)
        refine s_op (o_move (v := (.int .i64 (j : Int))) e36_11 ?_)
        obtain ⟨x49, hx50⟩ : ∃ x_, (nextS l (out.drop (((out.length : Nat) : Int) - 1).toNat))[((j : Int)).toNat]? = some x_ := get_some (by omega)
        refine s_op (o_index1 Try.underlying23 ti3 rfl ho31.sl rfl (by omega) hx50 fun b46 o47 hc48 => ?_)
        refine s_op (o_load1 (v := (.int .i64 x49)) Try.underlying3 rfl rfl hH39 (seg_sub 0 rfl) hc48 ?_)
        refine s_op (o_move (v := (.int .i64 to)) e36_2 ?_)
        refine s_op (o_callf (vs := #[v, (.int .i64 x49), (.int .i64 to)]) ca25 rfl (args3 rfl rfl rfl) (steps_c hH39.all (l := l) (hv.mono (seg_sub 2 rfl)) (by omega) x49 to) ?_)
        rintro _ w53 ⟨rfl, hX51⟩
        refine ⟨_, rfl, ?_⟩
        have hH52 := hX51.of_all
        refine s_op (o_move (v := (.int .i64 kz)) e36_9 ?_)
        refine s_op (o_eql (a := (stepsS l x49 to : Int)) (b := kz) rfl rfl ?_)
        refine s_nil ?_
        refine t_norm (hK45 _ _ ?_)
        refine c_cond rfl (fun h54 => ?_) (fun h54 => ?_)
        · -- (stepsS l x49 to : Int) = kz
          refine wp_seq_k fun K55 hK55 => ?_
          refine c_region ?_
          refine s_op (o_move (v := vo) e36_8 ?_)
          refine s_op (o_move (v := v29) e36_10 ?_)
          refine s_op (o_move (v := (.int .i64 (j : Int))) e36_11 ?_)
          refine s_op (o_index1 Try.underlying23 ti3 rfl ho31.sl rfl (by omega) hx50 fun b56 o57 hc58 => ?_)
          refine s_op (o_load1 (v := (.int .i64 x49)) Try.underlying3 rfl rfl hH52 (seg_sub 0 rfl) hc58 ?_)
          refine s_op (o_buildSlice (ps := #[(0, (.int .i64 x49))]) (cells := #[(.int .i64 x49)]) Try.underlying23 ti3 (by decide) (parts1 rfl) (by kernel_rfl) hH52 fun b59 w60 hH61 => ?_)
          refine s_op (o_append Try.underlying23 ti3 rfl (by decide) rfl hoo rfl (sl_lit (f := iV) (l := [x49]) rfl rfl (by simp)) (hH61.front 2 rfl) (seg_sub 0 rfl) (one_iV _) (by first | omega | (simp; omega)) (by first | omega | (simp; omega)) fun v62 s63 w65 ho64 hH66 => ?_)
          have ho64 : Own 3 1 v62 (out ++ [x49]).length ((out ++ [x49]).map iV) s63 := ho64.app
          refine s_op (o_assign (v := v62) rfl ?_)
          refine s_nil ?_
          refine t_norm (hK55 _ _ ?_)
          refine wp_exit ?_
          refine x_out rfl (t_exit (t_exit (x_in (?_))))
          refine b_norm ?_
          refine t_norm (hK24 _ _ ?_)
          refine c_region ?_
          refine s_op (o_move (v := (.int .i64 kz)) e36_9 ?_)
          refine s_op (o_sub (a := kz) (b := 1) rfl rfl (w64 (by omega) (by omega)) ?_)
          refine s_op (o_assign (v := (.int .i64 (kz - 1))) rfl ?_)
          refine s_nil ?_
          have hH67 : Has E w65 [s63, R] := ((hH66.front 3 rfl).front 1 rfl).first 2 rfl
          refine t_norm ⟨(k - 1) + 1, _, rfl, ?_, ?_⟩
          · omega
          · exact ⟨(k - 1), (kz - 1), v62, s63, (out ++ [x49]), x49, rfl, hH67, (by omega), (ho64), (by have hM : (nextS l (out.drop (((out.length : Nat) : Int) - 1).toNat)) = nextS l [cur] := (by rw [show (((out.length : Nat) : Int) - 1).toNat = out.length - 1 from (by omega), hlast]); rw [hM] at hnf; have hx_ := hx50; rw [hM] at hx_; rw [hr, tail_yes (by omega) (find_at hnf (show (nextS l [cur])[j]? = some _ from hx_) (decide_eq_true (by omega)))]; simp), (last_drop hlast), (by rw [List.length_append, List.length_singleton]; omega), e36_0, e36_1, e36_2, e36_6, e36_7, rfl, rfl, e36_17⟩
        · -- not: (stepsS l x49 to : Int) = kz
          refine wp_skip ?_
          refine b_norm ?_
          refine t_norm (hK44 _ _ ?_)
          refine c_region ?_
          refine s_op (o_move (v := (.int .i64 (j : Int))) e36_11 ?_)
          refine s_op (o_add (a := (j : Int)) (b := 1) rfl rfl (w64 (by omega) (by omega)) ?_)
          refine s_op (o_assign (v := (.int .i64 ((j : Int) + 1))) rfl ?_)
          refine s_nil ?_
          refine t_norm ⟨(nextS l (out.drop (((out.length : Nat) : Int) - 1).toNat)).length - (j + 1), _, rfl, ?_, ?_⟩
          · omega
          · exact ⟨(j + 1), rfl, hH52, (by omega), (by rw [take_succ_of (show (nextS l (out.drop (((out.length : Nat) : Int) - 1).toNat))[j]? = some _ from hx50)]; exact fun y hy => (List.mem_append.1 hy).elim (hnf y) (fun g => by rw [List.mem_singleton.1 g]; exact decide_eq_false (by omega))), e36_0, e36_1, e36_2, e36_6, e36_7, e36_8, e36_9, e36_10, rfl, e36_17, e36_23⟩
      · -- not: (j : Int) < (((nextS l (out.drop (((out.length : Nat) : Int) - 1).toNat)).length : Nat) : Int)
        have hj_ : (nextS l (out.drop (((out.length : Nat) : Int) - 1).toNat)).length ≤ j := by omega
        refine wp_exit ?_
        refine t_exit (t_exit (x_in (?_)))
        refine b_norm ?_
        refine t_norm (hK24 _ _ ?_)
        refine c_region ?_
        refine s_op (o_move (v := (.int .i64 kz)) e36_9 ?_)
        refine s_op (o_sub (a := kz) (b := 1) rfl rfl (w64 (by omega) (by omega)) ?_)
        refine s_op (o_assign (v := (.int .i64 (kz - 1))) rfl ?_)
        refine s_nil ?_
        have hH68 : Has E w38 [ho_, R] := ((hH39.front 2 rfl).front 2 rfl).first 2 rfl
        refine t_norm ⟨(k - 1) + 1, _, rfl, ?_, ?_⟩
        · omega
        · exact ⟨(k - 1), (kz - 1), vo, ho_, out, cur, rfl, hH68, (by omega), (hoo), (by have hM : (nextS l (out.drop (((out.length : Nat) : Int) - 1).toNat)) = nextS l [cur] := (by rw [show (((out.length : Nat) : Int) - 1).toNat = out.length - 1 from (by omega), hlast]); rw [hM] at hnf hj_; rw [List.take_of_length_le (by omega)] at hnf; rw [hr, tail_no (by omega) (List.find?_eq_none.2 (fun y hy => by rw [hnf y hy]; decide))]), (hlast), (by omega), e36_0, e36_1, e36_2, e36_6, e36_7, e36_8, rfl, e36_17⟩
    · -- not: 0 < kz
      rw [show k = 0 by omega] at hr
      rw [tailS, List.append_nil] at hr
      refine wp_exit ?_
      refine t_exit (t_exit (x_in (?_)))
      refine t_norm (hK14 _ _ ?_)
      refine wp_seq_k fun K69 hK69 => ?_
      refine c_region ?_
      refine s_op (o_move (v := vo) e16_8 ?_)
      refine s_op (o_assign (v := vo) rfl ?_)
      refine s_nil ?_
      refine t_norm (hK69 _ _ ?_)
      refine wp_ret ?_
      refine c_ret1 Try.results17  (v := vo) rfl ?_
      exact ⟨_, _, rfl, by rw [hr]; exact hoo, hH19⟩
end Go.Q
