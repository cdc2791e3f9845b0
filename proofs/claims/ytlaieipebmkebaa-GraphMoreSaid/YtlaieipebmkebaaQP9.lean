/-
  Parts of a walk: what functions of the program compute, each told by a theorem.
-/
import Derived.Test.YtlaieipebmkebaaQP7
set_option linter.unusedVariables false
set_option linter.unusedSimpArgs false
namespace Go.Q
open Go.Proofs
set_option linter.unusedVariables false
set_option maxRecDepth 100000
attribute [local irreducible] wpList OK Code.wp
set_option maxHeartbeats 4000000 in
theorem refreach_c {E w : World} {R : List Hp} (hH : Has E w [R]) {v : Value} {l : List (Int × Int)} (hv : Sl R 2 v l.length (l.flatMap tmC)) (hl : l.length ≤ 1000) {vf : Value} {fr : List Int} (hf : Ints R vf fr) :
    Calls Try.prog 13 #[v, vf] w fun e w' => ∃ v' hs', e = .returned v' ∧ Own 3 1 v' (reachS l fr).length ((reachS l fr).map iV) hs' ∧ Has E w' [hs', R] := by
  have hn_ := hv.le
  have hnf := hf.le
  refine c_enter (args := [v, vf]) Try.func13 rfl Try.ntmps13 (by simp) ?_
  refine wp_seq_k fun K1 hK1 => ?_
  refine c_region ?_
  refine s_op (o_assign (v := (.slice none 0 0)) rfl ?_)
  refine s_nil ?_
  refine t_norm (hK1 _ _ ?_)
  refine wp_seq_k fun K2 hK2 => ?_
  refine c_region ?_
  refine s_op (o_move (v := v) rfl ?_)
  refine s_op (o_move (v := vf) rfl ?_)
  refine s_op (o_callf (vs := #[v, vf]) ca11 rfl (args2 rfl rfl) (refnext_c hH.all (l := l) (hv.mono (seg_sub 0 rfl)) (by omega) (fr := fr) (hf.mono (seg_sub 0 rfl))) ?_)
  rintro _ w8 ⟨v3, s4, rfl, ho5, hX6⟩
  refine ⟨_, rfl, ?_⟩
  have hH7 : Has E w8 [s4, R] := hX6.of_all1
  refine s_op (o_assign (v := v3) rfl ?_)
  refine s_nil ?_
  refine t_norm (hK2 _ _ ?_)
  refine wp_seq_k fun K9 hK9 => ?_
  refine wp_seq_k fun K10 hK10 => ?_
  refine c_region ?_
  refine s_op (o_assign (v := (.int .i64 0)) rfl ?_)
  refine s_nil ?_
  refine t_norm (hK10 _ _ ?_)
  refine wp_block ?_
  let I12 : Nat → (Nat → Value) → World → Prop := fun n__ r__ w__ => ∃ (k : Nat) (vo : Value) (ho_ : List Hp) (out : List Int), n__ = l.length + 1 - k ∧ Has E w__ [ho_, R] ∧ (k ≤ l.length + 1) ∧ (Own 3 1 vo out.length (out.map iV) ho_) ∧ (reachS l fr = roundS l (l.length + 1 - k) out) ∧ (out.Pairwise (· < ·)) ∧ (∀ a ∈ out, ∃ y, (y, a) ∈ l) ∧ r__ 0 = v ∧ r__ 1 = vf ∧ r__ 4 = (.slice none 0 0) ∧ r__ 5 = vo ∧ r__ 6 = (.int .i64 (k : Int))
  refine c_loop I12 _ ⟨0, v3, s4, (nextS l fr), rfl, hH7, Nat.zero_le _, ho5, rfl, nextS_sorted _ _, next_from l fr, rfl, rfl, rfl, rfl, rfl⟩ ?_
  rintro n_ r15 w13 ⟨k, vo, ho_, out, rfl, hH14, hk, hoo, hr, hos, hof, e11_0, e11_1, e11_4, e11_5, e11_6⟩
  have hol := len_snd hos hof
  have hml := nextS_len l out
  refine wp_seq_k fun K16 hK16 => ?_
  refine wp_seq_k fun K17 hK17 => ?_
  refine c_region ?_
  refine s_op (o_move (v := (.int .i64 (k : Int))) e11_6 ?_)
  refine s_op (o_move (v := v) e11_0 ?_)
  refine s_op (o_lenS Try.underlying24 rfl hv ?_)
  refine s_op (o_leq (a := (k : Int)) (b := ((l.length : Nat) : Int)) rfl rfl ?_)
  refine s_nil ?_
  refine t_norm (hK17 _ _ ?_)
  refine c_cond rfl (fun h18 => ?_) (fun h18 => ?_)
  · -- (k : Int) ≤ ((l.length : Nat) : Int)
    refine wp_skip ?_
    refine t_norm (hK16 _ _ ?_)
    refine wp_seq_k fun K19 hK19 => ?_
    refine wp_block ?_
    refine wp_seq_k fun K20 hK20 => ?_
    refine c_region ?_
    refine s_op (o_move (v := v) e11_0 ?_)
    refine s_op (o_move (v := vo) e11_5 ?_)
    refine s_op (o_callf (vs := #[v, vo]) ca11 rfl (args2 rfl rfl) (refnext_c hH14.all (l := l) (hv.mono (seg_sub 1 rfl)) (by omega) (fr := out) (hoo.sl.mono (seg_sub 0 rfl))) ?_)
    rintro _ w26 ⟨v21, s22, rfl, ho23, hX24⟩
    refine ⟨_, rfl, ?_⟩
    have hH25 : Has E w26 [s22, ho_, R] := hX24.of_all1
    refine s_op (o_assign (v := v21) rfl ?_)
    refine s_nil ?_
    refine t_norm (hK20 _ _ ?_)
    refine wp_seq_k fun K27 hK27 => ?_
    refine c_region ?_
    refine s_op (o_assign (v := (.int .i64 0)) rfl ?_)
    refine s_nil ?_
    refine t_norm (hK27 _ _ ?_)
    refine wp_block ?_
    let I29 : Nat → (Nat → Value) → World → Prop := fun n__ r__ w__ => ∃ (j : Nat) (vc : Value) (hc_ : List Hp) (acc : List Int), n__ = (nextS l out).length - j ∧ Has E w__ [hc_, s22, R] ∧ (j ≤ (nextS l out).length) ∧ (Own 3 1 vc acc.length (acc.map iV) hc_) ∧ (acc = joinS ((nextS l out).take j) out) ∧ (acc.length ≤ out.length + j) ∧ r__ 0 = v ∧ r__ 1 = vf ∧ r__ 4 = (.slice none 0 0) ∧ r__ 5 = vc ∧ r__ 6 = (.int .i64 (k : Int)) ∧ r__ 7 = v21 ∧ r__ 8 = (.int .i64 (j : Int)) ∧ r__ 15 = (.bool (decide ((k : Int) ≤ ((l.length : Nat) : Int))))
    have hH30 : Has E w26 [ho_, s22, R] := (((hH25.front 2 rfl).front 1 rfl).front 2 rfl).first 3 rfl
    refine c_loop I29 _ ⟨0, vo, ho_, out, rfl, hH30, Nat.zero_le _, hoo, rfl, Nat.le_refl _, e11_0, e11_1, e11_4, e11_5, e11_6, rfl, rfl, rfl⟩ ?_
    rintro n_ r33 w31 ⟨j, vc, hc_, acc, rfl, hH32, hj, hoc, hacc, hcl, e28_0, e28_1, e28_4, e28_5, e28_6, e28_7, e28_8, e28_15⟩
    refine wp_seq_k fun K34 hK34 => ?_
    refine wp_seq_k fun K35 hK35 => ?_
    refine c_region ?_
    refine s_op (o_move (v := (.int .i64 (j : Int))) e28_8 ?_)
    refine s_op (o_move (v := v21) e28_7 ?_)
    refine s_op (o_lenS Try.underlying23 rfl ho23.sl ?_)
    refine s_op (o_lss (a := (j : Int)) (b := (((nextS l out).length : Nat) : Int)) rfl rfl ?_)
    refine s_nil ?_
    refine t_norm (hK35 _ _ ?_)
    refine c_cond rfl (fun h36 => ?_) (fun h36 => ?_)
    · -- (j : Int) < (((nextS l out).length : Nat) : Int)
      refine wp_skip ?_
      refine t_norm (hK34 _ _ ?_)
      refine wp_seq_k fun K37 hK37 => ?_
      refine wp_block ?_
      refine c_region ?_
      refine s_op (o_move (v := vc) e28_5 ?_)
      refine s_op (o_move (v := v21) e28_7 ?_)
      refine s_op (o_move (v := (.int .i64 (j : Int))) e28_8 ?_)
      obtain ⟨x41, hx42⟩ : ∃ x_, (nextS l out)[((j : Int)).toNat]? = some x_ := get_some (by omega)
      refine s_op (o_index1 Try.underlying23 ti3 rfl ho23.sl rfl (by omega) hx42 fun b38 o39 hc40 => ?_)
      refine s_op (o_load1 (v := (.int .i64 x41)) Try.underlying3 rfl rfl hH32 (seg_sub 1 rfl) hc40 ?_)
      refine s_op (o_callf (vs := #[vc, (.int .i64 x41), (.bool true)]) ca15 rfl (args3 rfl rfl rfl) (with_c hH32.all (l := acc) (hoc.sl.mono (seg_sub 0 rfl)) (by omega) x41 true) ?_)
      rintro _ w48 ⟨v43, s44, rfl, ho45, hX46⟩
      refine ⟨_, rfl, ?_⟩
      have hH47 : Has E w48 [s44, hc_, s22, R] := hX46.of_all1
      refine s_op (o_assign (v := v43) rfl ?_)
      refine s_nil ?_
      refine b_norm ?_
      refine t_norm (hK37 _ _ ?_)
      refine c_region ?_
      refine s_op (o_move (v := (.int .i64 (j : Int))) e28_8 ?_)
      refine s_op (o_add (a := (j : Int)) (b := 1) rfl rfl (w64 (by omega) (by omega)) ?_)
      refine s_op (o_assign (v := (.int .i64 ((j : Int) + 1))) rfl ?_)
      refine s_nil ?_
      have hH49 : Has E w48 [s44, s22, R] := (((hH47.front 3 rfl).front 3 rfl).front 2 rfl).first 3 rfl
      refine t_norm ⟨(nextS l out).length - (j + 1), _, rfl, ?_, ?_⟩
      · omega
      · exact ⟨(j + 1), v43, s44, (withS x41 (!true) acc), rfl, hH49, (by omega), (ho45), (by rw [join_step (show (nextS l out)[j]? = some _ from hx42), ← hacc]; rfl), (by have := withS_le1 x41 (!true) acc; omega), e28_0, e28_1, e28_4, rfl, e28_6, e28_7, rfl, e28_15⟩
    · -- not: (j : Int) < (((nextS l out).length : Nat) : Int)
      rw [List.take_of_length_le (by omega)] at hacc
      refine wp_exit ?_
      refine t_exit (t_exit (x_in (?_)))
      refine b_norm ?_
      refine t_norm (hK19 _ _ ?_)
      refine c_region ?_
      refine s_op (o_move (v := (.int .i64 (k : Int))) e28_6 ?_)
      refine s_op (o_add (a := (k : Int)) (b := 1) rfl rfl (w64 (by omega) (by omega)) ?_)
      refine s_op (o_assign (v := (.int .i64 ((k : Int) + 1))) rfl ?_)
      refine s_nil ?_
      have hH50 : Has E w31 [hc_, R] := ((hH32.front 2 rfl).front 1 rfl).first 2 rfl
      refine t_norm ⟨l.length + 1 - (k + 1), _, rfl, ?_, ?_⟩
      · omega
      · exact ⟨(k + 1), vc, hc_, acc, rfl, hH50, (by omega), (hoc), (by rw [hr, round_step (by omega), hacc]), (by rw [hacc]; exact joinS_sorted _ _ hos), (by rw [hacc]; exact joined_from hof), e28_0, e28_1, e28_4, e28_5, rfl⟩
  · -- not: (k : Int) ≤ ((l.length : Nat) : Int)
    rw [show l.length + 1 - k = 0 by omega, roundS] at hr
    refine wp_exit ?_
    refine t_exit (t_exit (x_in (?_)))
    refine t_norm (hK9 _ _ ?_)
    refine wp_seq_k fun K51 hK51 => ?_
    refine c_region ?_
    refine s_op (o_move (v := vo) e11_5 ?_)
    refine s_op (o_assign (v := vo) rfl ?_)
    refine s_nil ?_
    refine t_norm (hK51 _ _ ?_)
    refine wp_ret ?_
    refine c_ret1 Try.results13  (v := vo) rfl ?_
    exact ⟨_, _, rfl, by rw [hr]; exact hoo, hH14⟩
set_option maxHeartbeats 4000000 in
theorem steps_c {E w : World} {R : List Hp} (hH : Has E w [R]) {v : Value} {l : List (Int × Int)} (hv : Sl R 2 v l.length (l.flatMap tmC)) (hl : l.length ≤ 1000) (a to : Int) :
    Calls Try.prog 25 #[v, (.int .i64 a), (.int .i64 to)] w fun e w' => e = .returned (.int .i64 (stepsS l a to : Int)) ∧ Has E w' [R] := by
  have hn_ := hv.le
  refine c_enter (args := [v, (.int .i64 a), (.int .i64 to)]) Try.func25 rfl Try.ntmps25 (by simp) ?_
  refine wp_seq_k fun K1 hK1 => ?_
  refine c_region ?_
  refine s_op (o_assign (v := (.int .i64 0)) rfl ?_)
  refine s_nil ?_
  refine t_norm (hK1 _ _ ?_)
  refine wp_seq_k fun K2 hK2 => ?_
  refine c_region ?_
  refine s_op (o_move (v := (.int .i64 a)) rfl ?_)
  refine s_op (o_buildSlice (ps := #[(0, (.int .i64 a))]) (cells := #[(.int .i64 a)]) Try.underlying23 ti3 (by decide) (parts1 rfl) (by kernel_rfl) hH fun b3 w4 hH5 => ?_)
  refine s_op (o_assign (v := (.slice (some ⟨b3, 0, none⟩) 1 1)) rfl ?_)
  refine s_nil ?_
  refine t_norm (hK2 _ _ ?_)
  refine wp_seq_k fun K6 hK6 => ?_
  refine wp_seq_k fun K7 hK7 => ?_
  refine c_region ?_
  refine s_op (o_assign (v := (.int .i64 1)) rfl ?_)
  refine s_nil ?_
  refine t_norm (hK7 _ _ ?_)
  refine wp_block ?_
  let I9 : Nat → (Nat → Value) → World → Prop := fun n__ r__ w__ => ∃ (k : Nat) (vo : Value) (ho_ : List Hp) (now : List Int), n__ = l.length + 2 - k ∧ Has E w__ [ho_, R] ∧ (k ≤ l.length + 2) ∧ (Sl ho_ 1 vo now.length (now.map iV)) ∧ (stepsS l a to = stepsL l to (l.length + 2 - k) k now) ∧ (1 ≤ k) ∧ r__ 0 = v ∧ r__ 1 = (.int .i64 a) ∧ r__ 2 = (.int .i64 to) ∧ r__ 7 = vo ∧ r__ 8 = (.int .i64 (k : Int))
  refine c_loop I9 _ ⟨1, (.slice (some ⟨b3, 0, none⟩) 1 1), [Hp.one b3 (.cells #[(.int .i64 a)] 3 (0, 0))], [a], rfl, hH5, (by omega), (sl_lit (f := iV) (l := [a]) rfl rfl (by simp)), rfl, Nat.le_refl _, rfl, rfl, rfl, rfl, rfl⟩ ?_
  rintro n_ r12 w10 ⟨k, vo, ho_, now, rfl, hH11, hk, hoo, hr, h1k, e8_0, e8_1, e8_2, e8_7, e8_8⟩
  refine wp_seq_k fun K13 hK13 => ?_
  refine wp_seq_k fun K14 hK14 => ?_
  refine c_region ?_
  refine s_op (o_move (v := (.int .i64 (k : Int))) e8_8 ?_)
  refine s_op (o_move (v := v) e8_0 ?_)
  refine s_op (o_lenS Try.underlying24 rfl hv ?_)
  refine s_op (o_add (a := ((l.length : Nat) : Int)) (b := 1) rfl rfl (w64 (by omega) (by omega)) ?_)
  refine s_op (o_leq (a := (k : Int)) (b := ((l.length : Nat) : Int) + 1) rfl rfl ?_)
  refine s_nil ?_
  refine t_norm (hK14 _ _ ?_)
  refine c_cond rfl (fun h15 => ?_) (fun h15 => ?_)
  · -- (k : Int) ≤ ((l.length : Nat) : Int) + 1
    refine wp_skip ?_
    refine t_norm (hK13 _ _ ?_)
    refine wp_seq_k fun K16 hK16 => ?_
    refine wp_block ?_
    refine wp_seq_k fun K17 hK17 => ?_
    refine c_region ?_
    refine s_op (o_move (v := v) e8_0 ?_)
    refine s_op (o_move (v := vo) e8_7 ?_)
    refine s_op (o_callf (vs := #[v, vo]) ca11 rfl (args2 rfl rfl) (refnext_c hH11.all (l := l) (hv.mono (seg_sub 1 rfl)) (by omega) (fr := now) (hoo.mono (seg_sub 0 rfl))) ?_)
    rintro _ w23 ⟨v18, s19, rfl, ho20, hX21⟩
    refine ⟨_, rfl, ?_⟩
    have hH22 : Has E w23 [s19, ho_, R] := hX21.of_all1
    refine s_op (o_assign (v := v18) rfl ?_)
    refine s_nil ?_
    refine t_norm (hK17 _ _ ?_)
    refine wp_seq_k fun K24 hK24 => ?_
    refine c_region ?_
    refine s_op (o_move (v := v18) rfl ?_)
    refine s_op (o_move (v := (.int .i64 to)) e8_2 ?_)
    refine s_op (o_callf (vs := #[v18, (.int .i64 to)]) ca20 rfl (args2 rfl rfl) (refhas_c hH22.all (l := (nextS l now)) (ho20.sl.mono (seg_sub 0 rfl)) to) ?_)
    rintro _ w27 ⟨rfl, hX25⟩
    refine ⟨_, rfl, ?_⟩
    have hH26 := hX25.of_all
    refine s_nil ?_
    refine t_norm (hK24 _ _ ?_)
    refine c_cond rfl (fun h28 => ?_) (fun h28 => ?_)
    · -- to ∈ (nextS l now)
      refine wp_seq_k fun K29 hK29 => ?_
      refine c_region ?_
      refine s_op (o_move (v := (.int .i64 (k : Int))) e8_8 ?_)
      refine s_op (o_assign (v := (.int .i64 (k : Int))) rfl ?_)
      refine s_nil ?_
      refine t_norm (hK29 _ _ ?_)
      refine wp_ret ?_
      refine b_ret (t_ret (t_ret (b_ret (t_ret (c_ret1 Try.results25  (v := (.int .i64 (k : Int))) rfl ?_)))))
      have hH30 : Has E w27 [R] := (hH26.front 2 rfl).first 1 rfl
      exact ⟨by rw [hr, steps_hit (by omega) h28], hH30⟩
    · -- not: to ∈ (nextS l now)
      refine wp_skip ?_
      refine b_norm ?_
      refine t_norm (hK16 _ _ ?_)
      refine c_region ?_
      refine s_op (o_move (v := (.int .i64 (k : Int))) e8_8 ?_)
      refine s_op (o_add (a := (k : Int)) (b := 1) rfl rfl (w64 (by omega) (by omega)) ?_)
      refine s_op (o_assign (v := (.int .i64 ((k : Int) + 1))) rfl ?_)
      refine s_nil ?_
      have hH31 : Has E w27 [s19, R] := ((hH26.front 2 rfl).front 1 rfl).first 2 rfl
      refine t_norm ⟨l.length + 2 - (k + 1), _, rfl, ?_, ?_⟩
      · omega
      · exact ⟨(k + 1), v18, s19, (nextS l now), rfl, hH31, (by omega), (ho20.sl), (by rw [hr, steps_go (by omega) h28]), (by omega), e8_0, e8_1, e8_2, rfl, rfl⟩
  · -- not: (k : Int) ≤ ((l.length : Nat) : Int) + 1
    refine wp_exit ?_
    refine t_exit (t_exit (x_in (?_)))
    refine t_norm (hK6 _ _ ?_)
    refine wp_seq_k fun K32 hK32 => ?_
    refine c_region ?_
    refine s_op (o_assign (v := (.int .i64 0)) rfl ?_)
    refine s_nil ?_
    refine t_norm (hK32 _ _ ?_)
    refine wp_ret ?_
    refine c_ret1 Try.results25  (v := (.int .i64 0)) rfl ?_
    have hH33 : Has E w10 [R] := (hH11.front 1 rfl).first 1 rfl
    exact ⟨by rw [hr, show l.length + 2 - k = 0 by omega]; rfl, hH33⟩
end Go.Q
