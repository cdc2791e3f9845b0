/-
  Parts of a walk: what functions of the program compute, each told by a theorem (QDp2, QEq, QDEq, QDp6, QDp10, QDp7, QDp8, QCut, QDp3).
-/
import Derived.Test.YtcffibbdbalmjaaDoorB3
import Derived.Laws.StructEq
set_option linter.unusedVariables false
set_option linter.unusedSimpArgs false
set_option linter.unnecessarySimpa false
namespace Go.Q
open Go.Proofs
set_option linter.unusedVariables false
set_option maxRecDepth 100000
attribute [local irreducible] wpList OK Code.wp
set_option maxHeartbeats 4000000 in
theorem snan_c {E w : World} {R : List Hp} {a : Bs}  (hH : Has E w [R]) :
    Calls Tryd.prog 109 #[(S a)] w fun e w' => e = .returned (.bool false) ∧ Has E w' [R] := by
  refine c_enter (args := [(S a)]) Tryd.func109 rfl Tryd.ntmps109 (by simp) ?_
  refine wp_seq_k fun K1 hK1 => ?_
  refine c_region ?_
  refine s_op (o_assign (v := (.bool false)) rfl ?_)
  refine s_nil ?_
  refine t_norm (hK1 _ _ ?_)
  refine wp_seq_k fun K2 hK2 => ?_
  refine c_region ?_
  refine s_op (o_move (v := (S a)) rfl ?_)
  refine s_op (o_move (v := (S a)) rfl ?_)
  refine s_op (o_sneq (a := a) (b := a) rfl rfl ?_)
  refine s_op (o_assign (v := (.bool (decide (a ≠ a)))) rfl ?_)
  refine s_nil ?_
  refine t_norm (hK2 _ _ ?_)
  refine wp_ret ?_
  refine c_ret1 Tryd.results109  (v := (.bool (decide (a ≠ a)))) rfl ?_
  have q3 : decide (a ≠ a) = false := by simp
  exact ⟨by rw [q3], hH⟩
set_option maxHeartbeats 4000000 in
theorem scmp_c {E w : World} {R : List Hp} {a : Bs} {b : Bs}  (hH : Has E w [R]) :
    Calls Tryd.prog 81 #[(S a), (S b)] w fun e w' => e = .returned (.int .i64 (cmpS a b)) ∧ Has E w' [R] := by
  refine c_enter (args := [(S a), (S b)]) Tryd.func81 rfl Tryd.ntmps81 (by simp) ?_
  refine wp_seq_k fun K1 hK1 => ?_
  refine c_region ?_
  refine s_op (o_assign (v := (.int .i64 0)) rfl ?_)
  refine s_nil ?_
  refine t_norm (hK1 _ _ ?_)
  refine wp_seq_k fun K2 hK2 => ?_
  refine c_region ?_
  refine s_op (o_move (v := (S a)) rfl ?_)
  refine s_op (o_callf (vs := #[(S a)]) ca109 rfl (args1 rfl) (snan_c (a := a) hH.all ) ?_)
  rintro _ w5 ⟨rfl, hX3⟩
  refine ⟨_, rfl, ?_⟩
  have hH4 := hX3.of_all
  refine s_op (o_assign (v := (.bool false)) rfl ?_)
  refine s_nil ?_
  refine t_norm (hK2 _ _ ?_)
  refine wp_seq_k fun K6 hK6 => ?_
  refine c_region ?_
  refine s_op (o_move (v := (S b)) rfl ?_)
  refine s_op (o_callf (vs := #[(S b)]) ca109 rfl (args1 rfl) (snan_c (a := b) hH4.all ) ?_)
  rintro _ w9 ⟨rfl, hX7⟩
  refine ⟨_, rfl, ?_⟩
  have hH8 := hX7.of_all
  refine s_op (o_assign (v := (.bool false)) rfl ?_)
  refine s_nil ?_
  refine t_norm (hK6 _ _ ?_)
  refine wp_seq_k fun K10 hK10 => ?_
  refine wp_seq_k fun K11 hK11 => ?_
  refine c_region ?_
  refine s_op (o_move (v := (.bool false)) rfl ?_)
  refine s_nil ?_
  refine t_norm (hK11 _ _ ?_)
  refine c_false rfl rfl ?_
  refine wp_skip ?_
  refine t_norm (hK10 _ _ ?_)
  refine wp_seq_k fun K12 hK12 => ?_
  refine wp_seq_k fun K13 hK13 => ?_
  refine c_region ?_
  refine s_op (o_move (v := (.bool false)) rfl ?_)
  refine s_nil ?_
  refine t_norm (hK13 _ _ ?_)
  refine c_false rfl rfl ?_
  refine wp_skip ?_
  refine t_norm (hK12 _ _ ?_)
  refine wp_seq_k fun K14 hK14 => ?_
  refine wp_seq_k fun K15 hK15 => ?_
  refine c_region ?_
  refine s_op (o_move (v := (S a)) rfl ?_)
  refine s_op (o_move (v := (S b)) rfl ?_)
  refine s_op (o_sltP (a := a) (b := b) rfl rfl ?_)
  refine s_nil ?_
  refine t_norm (hK15 _ _ ?_)
  refine c_cond rfl (fun h16 => ?_) (fun h16 => ?_)
  · -- a < b
    refine wp_seq_k fun K17 hK17 => ?_
    refine c_region ?_
    refine s_op (o_assign (v := (.int .i64 (-1))) rfl ?_)
    refine s_nil ?_
    refine t_norm (hK17 _ _ ?_)
    refine wp_ret ?_
    refine t_ret (c_ret1 Tryd.results81  (v := (.int .i64 (-1))) rfl ?_)
    have q18 : (cmpS a b) = -1 := by unfold cmpS; simp [h16]
    exact ⟨by rw [q18], hH8⟩
  · -- not: a < b
    refine wp_skip ?_
    refine t_norm (hK14 _ _ ?_)
    refine wp_seq_k fun K19 hK19 => ?_
    refine wp_seq_k fun K20 hK20 => ?_
    refine c_region ?_
    refine s_op (o_move (v := (S a)) rfl ?_)
    refine s_op (o_move (v := (S b)) rfl ?_)
    refine s_op (o_sgtP (a := a) (b := b) rfl rfl ?_)
    refine s_nil ?_
    refine t_norm (hK20 _ _ ?_)
    refine c_cond rfl (fun h21 => ?_) (fun h21 => ?_)
    · -- b < a
      refine wp_seq_k fun K22 hK22 => ?_
      refine c_region ?_
      refine s_op (o_assign (v := (.int .i64 1)) rfl ?_)
      refine s_nil ?_
      refine t_norm (hK22 _ _ ?_)
      refine wp_ret ?_
      refine t_ret (c_ret1 Tryd.results81  (v := (.int .i64 1)) rfl ?_)
      have q23 : (cmpS a b) = 1 := by unfold cmpS; simp [h16, h21]
      exact ⟨by rw [q23], hH8⟩
    · -- not: b < a
      refine wp_skip ?_
      refine t_norm (hK19 _ _ ?_)
      refine wp_seq_k fun K24 hK24 => ?_
      refine c_region ?_
      refine s_op (o_assign (v := (.int .i64 0)) rfl ?_)
      refine s_nil ?_
      refine t_norm (hK24 _ _ ?_)
      refine wp_ret ?_
      refine c_ret1 Tryd.results81  (v := (.int .i64 0)) rfl ?_
      have q25 : (cmpS a b) = 0 := by unfold cmpS; simp [h16, h21]
      exact ⟨by rw [q25], hH8⟩
set_option maxHeartbeats 4000000 in
theorem findf_c {E w : World} {R : List Hp} {c : Cel} {key : Bs}  (hH : Has E w [R]) :
    Calls Tryd.prog 80 #[(.agg #[(S c.1), (S c.2)]), (S key)] w fun e w' => e = .returned (.int .i64 (cmpS c.1 key)) ∧ Has E w' [R] := by
  refine c_enter (args := [(.agg #[(S c.1), (S c.2)]), (S key)]) Tryd.func80 rfl Tryd.ntmps80 (by simp) ?_
  refine wp_seq_k fun K1 hK1 => ?_
  refine c_region ?_
  refine s_op (o_box (cs := #[(S c.1), (S c.2)]) rfl rfl hH fun b2 w3 hH4 => ?_)
  refine s_op (o_assign (v := (.int .i64 0)) rfl ?_)
  refine s_nil ?_
  refine t_norm (hK1 _ _ ?_)
  refine wp_seq_k fun K5 hK5 => ?_
  refine c_region ?_
  refine s_op (o_fieldAddr (k := 0) (fun _ => by kernel_rfl) rfl ?_)
  refine s_op (o_load1 (v := (S c.1)) Tryd.underlying9 rfl rfl hH4 (seg_sub 0 rfl) (CellsAt.one rfl) ?_)
  refine s_op (o_move (v := (S key)) rfl ?_)
  refine s_op (o_callf (vs := #[(S c.1), (S key)]) ca81 rfl (args2 rfl rfl) (scmp_c (a := c.1) (b := key) hH4.all ) ?_)
  rintro _ w8 ⟨rfl, hX6⟩
  refine ⟨_, rfl, ?_⟩
  have hH7 := hX6.of_all
  refine s_op (o_assign (v := (.int .i64 (cmpS c.1 key))) rfl ?_)
  refine s_nil ?_
  refine t_norm (hK5 _ _ ?_)
  refine wp_ret ?_
  refine c_ret1 Tryd.results80  (v := (.int .i64 (cmpS c.1 key))) rfl ?_
  have hH9 : Has E w8 [R] := (hH7.front 1 rfl).first 1 rfl
  exact ⟨rfl, hH9⟩
set_option maxHeartbeats 4000000 in
theorem bsf_c {E w : World} {R : List Hp} {v_l : Value} {l : List Cel} {key : Bs}   (hH : Has E w [R]) (h_l : Sl R 2 v_l l.length (l.flatMap ceC)) (hs : Rises l) (hl : l.length ≤ 1000000) :
    Calls Tryd.prog 79 #[v_l, (S key), (.func (.func 80) #[] #[])] w fun e w' => e = .returned (.tuple #[(.int .i64 (posC l key)), (.bool (hasC l key))]) ∧ Has E w' [R] := by
  have hn_ := h_l.le
  refine c_enter (args := [v_l, (S key), (.func (.func 80) #[] #[])]) Tryd.func79 rfl Tryd.ntmps79 (by simp) ?_
  refine wp_seq_k fun K1 hK1 => ?_
  refine c_region ?_
  refine s_op (o_assign (v := (.int .i64 0)) rfl ?_)
  refine s_op (o_assign (v := (.bool false)) rfl ?_)
  refine s_nil ?_
  refine t_norm (hK1 _ _ ?_)
  refine wp_seq_k fun K2 hK2 => ?_
  refine c_region ?_
  refine s_op (o_move (v := v_l) rfl ?_)
  refine s_op (o_lenS Tryd.underlying22 rfl h_l ?_)
  refine s_op (o_assign (v := (.int .i64 ((l.length : Nat) : Int))) rfl ?_)
  refine s_nil ?_
  refine t_norm (hK2 _ _ ?_)
  refine wp_seq_k fun K3 hK3 => ?_
  refine c_region ?_
  refine s_op (o_move (v := (.int .i64 ((l.length : Nat) : Int))) rfl ?_)
  refine s_op (o_assign (v := (.int .i64 0)) rfl ?_)
  refine s_op (o_assign (v := (.int .i64 ((l.length : Nat) : Int))) rfl ?_)
  refine s_nil ?_
  refine t_norm (hK3 _ _ ?_)
  refine wp_seq_k fun K4 hK4 => ?_
  refine wp_block ?_
  let I6 : Nat → (Nat → Value) → World → Prop := fun n__ r__ w__ => ∃ (i : Int) (j : Int), n__ = (j - i).toNat ∧ Has E w__ [R] ∧ (0 ≤ i) ∧ (i ≤ j) ∧ (j ≤ (l.length : Int)) ∧ (∀ a ∈ l.take i.toNat, a.1 < key) ∧ (∀ a ∈ l.drop j.toNat, ¬ a.1 < key) ∧ r__ 0 = v_l ∧ r__ 1 = (S key) ∧ r__ 2 = (.func (.func 80) #[] #[]) ∧ r__ 6 = (.int .i64 0) ∧ r__ 7 = (.bool false) ∧ r__ 8 = (.int .i64 ((l.length : Nat) : Int)) ∧ r__ 9 = (.int .i64 i) ∧ r__ 10 = (.int .i64 j)
  refine c_loop I6 _ ⟨0, (l.length : Int), rfl, hH, (by omega), (by omega), (by omega), (by simp), (by simp), rfl, rfl, rfl, rfl, rfl, rfl, rfl, rfl⟩ ?_
  rintro n_ r9 w7 ⟨i, j, rfl, hH8, hi0, hij, hj, hlo, hhi, e5_0, e5_1, e5_2, e5_6, e5_7, e5_8, e5_9, e5_10⟩
  refine wp_seq_k fun K10 hK10 => ?_
  refine wp_seq_k fun K11 hK11 => ?_
  refine c_region ?_
  refine s_op (o_move (v := (.int .i64 i)) e5_9 ?_)
  refine s_op (o_move (v := (.int .i64 j)) e5_10 ?_)
  refine s_op (o_lss (a := i) (b := j) rfl rfl ?_)
  refine s_nil ?_
  refine t_norm (hK11 _ _ ?_)
  refine c_cond rfl (fun h12 => ?_) (fun h12 => ?_)
  · -- i < j
    refine wp_skip ?_
    refine t_norm (hK10 _ _ ?_)
    refine wp_block ?_
    refine wp_seq_k fun K13 hK13 => ?_
    refine c_region ?_
    refine s_op (o_move (v := (.int .i64 i)) e5_9 ?_)
    refine s_op (o_move (v := (.int .i64 j)) e5_10 ?_)
    refine s_op (o_add (a := i) (b := j) rfl rfl (w64 (by omega) (by omega)) ?_)
    refine s_op (o_conv (c := (i + j)) Tryd.underlying3 Tryd.underlying130 rfl (wu64 (by omega) (by omega)) ?_)
    refine s_op (o_shr (c := (i + j) / 2) rfl rfl (by omega) (shr_lit _ (by omega) rfl) ?_)
    refine s_op (o_conv (c := ((i + j) / 2)) Tryd.underlying130 Tryd.underlying3 rfl (w64 (by omega) (by omega)) ?_)
    refine s_op (o_assign (v := (.int .i64 ((i + j) / 2))) rfl ?_)
    refine s_nil ?_
    refine t_norm (hK13 _ _ ?_)
    refine wp_seq_k fun K14 hK14 => ?_
    refine c_region ?_
    refine s_op (o_move (v := (.func (.func 80) #[] #[])) e5_2 ?_)
    refine s_op (o_move (v := v_l) e5_0 ?_)
    refine s_op (o_move (v := (.int .i64 ((i + j) / 2))) rfl ?_)
    obtain ⟨x18, hx19⟩ : ∃ x_, l[((i + j) / 2).toNat]? = some x_ := get_some (by omega)
    refine s_op (o_indexF ceC_len Tryd.underlying22 ti45 rfl h_l rfl rfl (by omega) hx19 fun b15 o16 hc17 => ?_)
    refine s_op (o_loadN (cs := [(S x18.1), (S x18.2)]) Tryd.underlying45 rfl ti45 rfl hH8 (seg_sub 0 rfl) hc17 ?_)
    refine s_op (o_move (v := (S key)) e5_1 ?_)
    refine s_op (o_callf (vs := #[(.agg #[(S x18.1), (S x18.2)]), (S key)]) ca80 rfl (args2 rfl rfl) (findf_c (c := x18) (key := key) hH8.all ) ?_)
    rintro _ w22 ⟨rfl, hX20⟩
    refine ⟨_, rfl, ?_⟩
    have hH21 := hX20.of_all
    refine s_op (o_lss (a := (cmpS x18.1 key)) (b := 0) rfl rfl ?_)
    refine s_nil ?_
    refine t_norm (hK14 _ _ ?_)
    refine c_cond rfl (fun h23 => ?_) (fun h23 => ?_)
    · -- (cmpS x18.1 key) < 0
      refine c_region ?_
      refine s_op (o_move (v := (.int .i64 ((i + j) / 2))) rfl ?_)
      refine s_op (o_add (a := (i + j) / 2) (b := 1) rfl rfl (w64 (by omega) (by omega)) ?_)
      refine s_op (o_assign (v := (.int .i64 (((i + j) / 2) + 1))) rfl ?_)
      refine s_nil ?_
      refine b_norm ?_
      refine t_norm ⟨(j - (((i + j) / 2) + 1)).toNat, _, rfl, ?_, ?_⟩
      · omega
      · exact ⟨(((i + j) / 2) + 1), j, rfl, hH21, (by omega), (by omega), (by omega), (by rw [show (((i + j) / 2) + 1).toNat = ((i + j) / 2).toNat + 1 from by omega]; exact lo_stepC hs hx19 (cmpS_neg.1 h23)), (hhi), e5_0, e5_1, e5_2, e5_6, e5_7, e5_8, rfl, e5_10⟩
    · -- not: (cmpS x18.1 key) < 0
      refine c_region ?_
      refine s_op (o_move (v := (.int .i64 ((i + j) / 2))) rfl ?_)
      refine s_op (o_assign (v := (.int .i64 ((i + j) / 2))) rfl ?_)
      refine s_nil ?_
      refine b_norm ?_
      refine t_norm ⟨(((i + j) / 2) - i).toNat, _, rfl, ?_, ?_⟩
      · omega
      · exact ⟨i, ((i + j) / 2), rfl, hH21, (by omega), (by omega), (by omega), (hlo), (hi_stepC hs hx19 (fun g_ => h23 (cmpS_neg.2 g_))), e5_0, e5_1, e5_2, e5_6, e5_7, e5_8, e5_9, rfl⟩
  · -- not: i < j
    refine wp_exit ?_
    refine t_exit (t_exit (x_in (?_)))
    refine t_norm (hK4 _ _ ?_)
    refine wp_seq_k fun K24 hK24 => ?_
    refine c_region ?_
    refine s_op (o_move (v := (.int .i64 i)) e5_9 ?_)
    refine s_op (o_move (v := (.int .i64 i)) e5_9 ?_)
    refine s_op (o_move (v := (.int .i64 ((l.length : Nat) : Int))) e5_8 ?_)
    refine s_op (o_lss (a := i) (b := ((l.length : Nat) : Int)) rfl rfl ?_)
    refine s_op (o_move (v := (.bool (decide (i < ((l.length : Nat) : Int))))) rfl ?_)
    by_cases h25 : i < ((l.length : Nat) : Int)
    · -- i < ((l.length : Nat) : Int)
      refine s_on 39 rfl (congrArg Value.bool (decide_eq_true h25)) (o_move (v := (.func (.func 80) #[] #[])) e5_2 ?_)
      refine s_on 39 rfl (congrArg Value.bool (decide_eq_true h25)) (o_move (v := v_l) e5_0 ?_)
      refine s_on 39 rfl (congrArg Value.bool (decide_eq_true h25)) (o_move (v := (.int .i64 i)) e5_9 ?_)
      obtain ⟨x29, hx30⟩ : ∃ x_, l[(i).toNat]? = some x_ := get_some (by omega)
      refine s_on 39 rfl (congrArg Value.bool (decide_eq_true h25)) (o_indexF ceC_len Tryd.underlying22 ti45 rfl h_l rfl rfl (by omega) hx30 fun b26 o27 hc28 => ?_)
      refine s_on 39 rfl (congrArg Value.bool (decide_eq_true h25)) (o_loadN (cs := [(S x29.1), (S x29.2)]) Tryd.underlying45 rfl ti45 rfl hH8 (seg_sub 0 rfl) hc28 ?_)
      refine s_on 39 rfl (congrArg Value.bool (decide_eq_true h25)) (o_move (v := (S key)) e5_1 ?_)
      refine s_on 39 rfl (congrArg Value.bool (decide_eq_true h25)) (o_callf (vs := #[(.agg #[(S x29.1), (S x29.2)]), (S key)]) ca80 rfl (args2 rfl rfl) (findf_c (c := x29) (key := key) hH8.all ) ?_)
      rintro _ w33 ⟨rfl, hX31⟩
      refine ⟨_, rfl, ?_⟩
      have hH32 := hX31.of_all
      refine s_on 39 rfl (congrArg Value.bool (decide_eq_true h25)) (o_eql (a := (cmpS x29.1 key)) (b := 0) rfl rfl ?_)
      refine s_op (o_pick_t (u := (.bool (decide ((cmpS x29.1 key) = 0)))) ((rfl : _ = _).trans (congrArg Value.bool (decide_eq_true h25))) rfl ?_)
      refine s_op (o_assign (v := (.int .i64 i)) rfl ?_)
      refine s_op (o_assign (v := (.bool (decide ((cmpS x29.1 key) = 0)))) rfl ?_)
      refine s_nil ?_
      refine t_norm (hK24 _ _ ?_)
      refine wp_ret ?_
      refine c_ret2 Tryd.results79  (v := (.int .i64 i)) rfl (x := (.bool (decide ((cmpS x29.1 key) = 0)))) rfl ?_
      have e_ : i = j := by omega
      subst e_
      have hp_ : posC l key = i := by rw [posC_at (i := i.toNat) (by omega) hlo hhi]; omega
      have hh_ : hasC l key = decide (cmpS x29.1 key = 0) := by (by_cases g_ : cmpS x29.1 key = 0; rw [decide_eq_true g_]; exact hasC_yes hx30 (cmpS_zero.1 g_); rw [decide_eq_false g_]; exact hasC_no hs hlo hhi (fun a_ ha_ e_ => g_ (by rw [hx30] at ha_; cases ha_; exact cmpS_zero.2 e_)))
      exact ⟨by rw [hp_, hh_], hH32⟩
    · -- not: i < ((l.length : Nat) : Int)
      refine s_off (b' := false) 39 rfl (congrArg Value.bool (decide_eq_false h25)) rfl ?_
      refine s_off (b' := false) 39 rfl (congrArg Value.bool (decide_eq_false h25)) rfl ?_
      refine s_off (b' := false) 39 rfl (congrArg Value.bool (decide_eq_false h25)) rfl ?_
      refine s_off (b' := false) 39 rfl (congrArg Value.bool (decide_eq_false h25)) rfl ?_
      refine s_off (b' := false) 39 rfl (congrArg Value.bool (decide_eq_false h25)) rfl ?_
      refine s_off (b' := false) 39 rfl (congrArg Value.bool (decide_eq_false h25)) rfl ?_
      refine s_off (b' := false) 39 rfl (congrArg Value.bool (decide_eq_false h25)) rfl ?_
      refine s_off (b' := false) 39 rfl (congrArg Value.bool (decide_eq_false h25)) rfl ?_
      refine s_op (o_pick_f (u := (.bool false)) ((rfl : _ = _).trans (congrArg Value.bool (decide_eq_false h25))) rfl ?_)
      refine s_op (o_assign (v := (.int .i64 i)) rfl ?_)
      refine s_op (o_assign (v := (.bool false)) rfl ?_)
      refine s_nil ?_
      refine t_norm (hK24 _ _ ?_)
      refine wp_ret ?_
      refine c_ret2 Tryd.results79  (v := (.int .i64 i)) rfl (x := (.bool false)) rfl ?_
      have e_ : i = j := by omega
      subst e_
      have hp_ : posC l key = i := by rw [posC_at (i := i.toNat) (by omega) hlo hhi]; omega
      have hh_ : hasC l key = false := hasC_no hs hlo hhi (fun a_ ha_ => absurd (List.getElem?_eq_some_iff.1 ha_).1 (by omega))
      exact ⟨by rw [hp_, hh_], hH8⟩
set_option maxHeartbeats 4000000 in
theorem find_c {E w : World} {R : List Hp} {no : Int} {gsn : Int} {v_l : Value} {l : List Cel} {key : Bs}  (hH : Has E w [R]) (h_l : Sl R 2 v_l l.length (l.flatMap ceC)) (hs : Rises l) (hl : l.length ≤ 1000000) :
    Calls Tryd.prog 41 #[(.agg #[(.int .i64 no), (.int .i64 gsn), v_l]), (S key)] w fun e w' => e = .returned (.tuple #[(.int .i64 (posC l key)), (.bool (hasC l key))]) ∧ Has E w' [R] := by
  refine c_enter (args := [(.agg #[(.int .i64 no), (.int .i64 gsn), v_l]), (S key)]) Tryd.func41 rfl Tryd.ntmps41 (by simp) ?_
  refine wp_seq_k fun K1 hK1 => ?_
  refine c_region ?_
  refine s_op (o_box (cs := #[(.int .i64 no), (.int .i64 gsn), v_l]) rfl rfl hH fun b2 w3 hH4 => ?_)
  refine s_op (o_assign (v := (.int .i64 0)) rfl ?_)
  refine s_op (o_assign (v := (.bool false)) rfl ?_)
  refine s_nil ?_
  refine t_norm (hK1 _ _ ?_)
  refine wp_seq_k fun K5 hK5 => ?_
  refine c_region ?_
  refine s_op (o_fieldAddr (k := 2) (fun _ => by kernel_rfl) rfl ?_)
  refine s_op (o_load1 (v := v_l) Tryd.underlying22 rfl rfl hH4 (seg_sub 0 rfl) (CellsAt.one rfl) ?_)
  refine s_op (o_move (v := (S key)) rfl ?_)
  refine s_op (o_callf (vs := #[v_l, (S key), (.func (.func 80) #[] #[])]) ca79 rfl (args3 rfl rfl rfl) (bsf_c (l := l) (key := key) hH4.all (h_l.mono (seg_sub 1 rfl)) (by first | omega | (simp only []; omega) | (simp; done) | (simp; omega)) (by first | omega | (simp only []; omega) | (simp; done) | (simp; omega))) ?_)
  rintro _ w8 ⟨rfl, hX6⟩
  refine ⟨_, rfl, ?_⟩
  have hH7 := hX6.of_all
  have hpc_ := posC_le l key
  refine s_op (o_extract (v := (.int .i64 (posC l key))) rfl rfl ?_)
  refine s_op (o_extract (v := (.bool (hasC l key))) rfl rfl ?_)
  refine s_op (o_assign (v := (.int .i64 (posC l key))) rfl ?_)
  refine s_op (o_assign (v := (.bool (hasC l key))) rfl ?_)
  refine s_nil ?_
  refine t_norm (hK5 _ _ ?_)
  refine wp_ret ?_
  refine c_ret2 Tryd.results41  (v := (.int .i64 (posC l key))) rfl (x := (.bool (hasC l key))) rfl ?_
  have hH9 : Has E w8 [R] := (hH7.front 1 rfl).first 1 rfl
  exact ⟨rfl, hH9⟩
set_option maxHeartbeats 4000000 in
theorem pget_c {E w : World} {R : List Hp} {no : Int} {gsn : Int} {v_l : Value} {l : List Cel} {key : Bs}  (hH : Has E w [R]) (h_l : Sl R 2 v_l l.length (l.flatMap ceC)) :
    Calls Tryd.prog 14 #[(.agg #[(.int .i64 no), (.int .i64 gsn), v_l]), (S key)] w fun e w' => e = .returned (.agg #[(.bool ((getC l key).1)), (S ((getC l key).2))]) ∧ Has E w' [R] := by
  have hn_ := h_l.le
  refine c_enter (args := [(.agg #[(.int .i64 no), (.int .i64 gsn), v_l]), (S key)]) Tryd.func14 rfl Tryd.ntmps14 (by simp) ?_
  refine wp_seq_k fun K1 hK1 => ?_
  refine c_region ?_
  refine s_op (o_box (cs := #[(.int .i64 no), (.int .i64 gsn), v_l]) rfl rfl hH fun b2 w3 hH4 => ?_)
  refine s_op (o_alloc (cs := #[(.bool false), (S ([] : List UInt8))]) ti29 rfl hH4 fun b5 w6 hH7 => ?_)
  refine s_nil ?_
  refine t_norm (hK1 _ _ ?_)
  refine wp_seq_k fun K8 hK8 => ?_
  refine wp_seq_k fun K9 hK9 => ?_
  refine c_region ?_
  refine s_op (o_fieldAddr (k := 2) (fun _ => by kernel_rfl) rfl ?_)
  refine s_op (o_load1 (v := v_l) Tryd.underlying22 rfl rfl hH7 (seg_sub 1 rfl) (CellsAt.one rfl) ?_)
  refine s_op (o_lenS Tryd.underlying22 rfl h_l ?_)
  refine s_op (o_move (v := (.int .i64 0)) rfl ?_)
  refine s_nil ?_
  refine t_norm (hK9 _ _ ?_)
  refine wp_block ?_
  let I11 : Nat → (Nat → Value) → World → Prop := fun n__ r__ w__ => ∃ (k : Nat), n__ = l.length - k ∧ Has E w__ [[Hp.one b5 (.cells #[(.bool false), (S ([] : List UInt8))] 29 (0, 0))], [Hp.one b2 (.cells #[(.int .i64 no), (.int .i64 gsn), v_l] 24 (0, 0))], R] ∧ (k ≤ l.length) ∧ (getC l key = getC (l.drop k) key) ∧ r__ 0 = (.agg #[(.int .i64 no), (.int .i64 gsn), v_l]) ∧ r__ 1 = (S key) ∧ r__ 2 = (.pointer (some ⟨b2, 0, none⟩)) ∧ r__ 4 = (.pointer (some ⟨b5, 0, none⟩)) ∧ r__ 8 = v_l ∧ r__ 9 = (.int .i64 ((l.length : Nat) : Int)) ∧ r__ 10 = (.int .i64 (k : Int))
  refine c_loop I11 _ ⟨0, rfl, hH7, Nat.zero_le _, rfl, rfl, rfl, rfl, rfl, rfl, rfl, rfl⟩ ?_
  rintro n_ r14 w12 ⟨k, rfl, hH13, hk, hg, e10_0, e10_1, e10_2, e10_4, e10_8, e10_9, e10_10⟩
  refine wp_seq_k fun K15 hK15 => ?_
  refine c_region ?_
  refine s_op (o_lss (a := (k : Int)) (b := ((l.length : Nat) : Int)) e10_10 e10_9 ?_)
  refine s_nil ?_
  refine t_norm (hK15 _ _ ?_)
  refine wp_seq_k fun K16 hK16 => ?_
  refine c_cond rfl (fun h17 => ?_) (fun h17 => ?_)
  · -- (k : Int) < ((l.length : Nat) : Int)
    refine wp_skip ?_
    refine t_norm (hK16 _ _ ?_)
    refine wp_seq_k fun K18 hK18 => ?_
    refine wp_block ?_
    refine wp_seq_k fun K19 hK19 => ?_
    refine c_region ?_
    obtain ⟨x23, hx24⟩ : ∃ x_, l[((k : Int)).toNat]? = some x_ := get_some (by omega)
    refine s_op (o_indexF ceC_len Tryd.underlying22 ti45 e10_8 h_l rfl e10_10 (by omega) hx24 fun b20 o21 hc22 => ?_)
    refine s_op (o_loadN (cs := [(S x23.1), (S x23.2)]) Tryd.underlying45 rfl ti45 rfl hH13 (seg_sub 2 rfl) hc22 ?_)
    refine s_op (o_alloc (cs := #[(S ([] : List UInt8)), (S ([] : List UInt8))]) ti45 rfl hH13 fun b25 w26 hH27 => ?_)
    refine s_eff (o_storeN (vs := [(S x23.1), (S x23.2)]) (c' := #[(S x23.1), (S x23.2)]) ti45 rfl rfl rfl rfl (by intro u hu; simp only [List.mem_cons, List.not_mem_nil, or_false] at hu; rcases hu with rfl | rfl <;> first | rfl) (by simp) (by kernel_rfl) (hH27.front 0 rfl) fun w28 hH29 => ?_)
    refine s_nil ?_
    refine t_norm (hK19 _ _ ?_)
    refine wp_seq_k fun K30 hK30 => ?_
    refine c_region ?_
    refine s_op (o_fieldAddr (k := 0) (fun _ => by kernel_rfl) rfl ?_)
    refine s_op (o_load1 (v := (S x23.1)) Tryd.underlying9 rfl rfl hH29 (seg_sub 0 rfl) (CellsAt.one rfl) ?_)
    refine s_op (o_move (v := (S key)) e10_1 ?_)
    refine s_op (o_seql (a := x23.1) (b := key) rfl rfl ?_)
    refine s_nil ?_
    refine t_norm (hK30 _ _ ?_)
    refine c_cond rfl (fun h31 => ?_) (fun h31 => ?_)
    · -- x23.1 = key
      refine wp_seq_k fun K32 hK32 => ?_
      refine c_region ?_
      refine s_op (o_fieldAddr (k := 1) (fun _ => by kernel_rfl) rfl ?_)
      refine s_op (o_load1 (v := (S x23.2)) Tryd.underlying9 rfl rfl hH29 (seg_sub 0 rfl) (CellsAt.one rfl) ?_)
      refine s_op (o_callf (vs := #[(S x23.2)]) ca38 rfl (args1 rfl) (rhas_c (s := x23.2) hH29.all ) ?_)
      rintro _ w35 ⟨rfl, hX33⟩
      refine ⟨_, rfl, ?_⟩
      have hH34 := hX33.of_all
      refine s_eff (o_storeN (vs := [(.bool true), (S x23.2)]) (c' := #[(.bool true), (S x23.2)]) ti29 e10_4 rfl rfl rfl (by intro u hu; simp only [List.mem_cons, List.not_mem_nil, or_false] at hu; rcases hu with rfl | rfl <;> first | rfl) (by simp) (by kernel_rfl) (hH34.front 1 rfl) fun w36 hH37 => ?_)
      refine s_nil ?_
      refine t_norm (hK32 _ _ ?_)
      refine wp_ret ?_
      refine b_ret (t_ret (t_ret (b_ret (t_ret (c_retC1 Tryd.results14 e10_4 (run_loadVarN (cs := [(.bool true), (S x23.2)]) Tryd.underlying29 rfl ti29 hH37 (seg_sub 0 rfl) (CellsAt.one rfl)) ?_)))))
      have q38 : (getC l key) = (true, x23.2) := by rw [getC_hit hg (show l[k]? = some _ from hx24) h31]
      have hH39 : Has E w36 [R] := (hH37.front 3 rfl).first 1 rfl
      exact ⟨by rw [q38], hH39⟩
    · -- not: x23.1 = key
      refine wp_skip ?_
      refine b_norm ?_
      refine t_norm (hK18 _ _ ?_)
      refine c_region ?_
      refine s_op (o_add (a := (k : Int)) (b := 1) e10_10 rfl (w64 (by omega) (by omega)) ?_)
      refine s_op (o_move (v := (.int .i64 ((k : Int) + 1))) rfl ?_)
      refine s_nil ?_
      have hH40 : Has E w28 [[Hp.one b5 (.cells #[(.bool false), (S ([] : List UInt8))] 29 (0, 0))], [Hp.one b2 (.cells #[(.int .i64 no), (.int .i64 gsn), v_l] 24 (0, 0))], R] := (((hH29.front 3 rfl).front 3 rfl).front 3 rfl).first 3 rfl
      refine t_norm ⟨l.length - (k + 1), _, rfl, ?_, ?_⟩
      · omega
      · exact ⟨(k + 1), rfl, hH40, (by omega), (getC_skip hg (show l[k]? = some _ from hx24) h31), e10_0, e10_1, e10_2, e10_4, e10_8, e10_9, rfl⟩
  · -- not: (k : Int) < ((l.length : Nat) : Int)
    refine wp_exit ?_
    refine t_exit (t_exit (x_in (?_)))
    refine t_norm (hK8 _ _ ?_)
    refine wp_seq_k fun K41 hK41 => ?_
    refine c_region ?_
    refine s_op (o_sight (v := (.agg #[(.bool false), (S ([] : List UInt8))])) (fun _ => by kernel_rfl) ?_)
    refine s_eff (o_storeN (vs := [(.bool false), (S ([] : List UInt8))]) (c' := #[(.bool false), (S ([] : List UInt8))]) ti29 e10_4 rfl rfl rfl (by intro u hu; simp only [List.mem_cons, List.not_mem_nil, or_false] at hu; rcases hu with rfl | rfl <;> first | rfl) (by simp) (by kernel_rfl) (hH13.front 0 rfl) fun w42 hH43 => ?_)
    refine s_nil ?_
    refine t_norm (hK41 _ _ ?_)
    refine wp_ret ?_
    refine c_retC1 Tryd.results14 e10_4 (run_loadVarN (cs := [(.bool false), (S ([] : List UInt8))]) Tryd.underlying29 rfl ti29 hH43 (seg_sub 0 rfl) (CellsAt.one rfl)) ?_
    have q44 : (getC l key) = (false, ([] : List UInt8)) := by rw [getC_end hg (by omega)]
    have hH45 : Has E w42 [R] := (hH43.front 2 rfl).first 1 rfl
    exact ⟨by rw [q44], hH45⟩
end Go.Q
namespace Go.Q
theorem S_beq' (a b : List UInt8) : ((⟨a.toArray⟩ : ByteArray).toList == (⟨b.toArray⟩ : ByteArray).toList) = decide (a = b) := by
  rw [bytes_toList, bytes_toList]
  by_cases h : a = b
  · subst h; simp
  · rw [decide_eq_false h]; simpa using h
theorem int_beq' (a b : Int) : (a == b) = decide (a = b) := by
  by_cases h : a = b
  · subst h; simp
  · rw [decide_eq_false h]; simpa using h
theorem bool_beq' (a b : Bool) : (a == b) = decide (a = b) := by cases a <;> cases b <;> rfl
theorem part1 {P : Program} {t : TypeId} {d : TypeDesc} (ht : P.underlying t = some d) (hd : aggB d = false) {xs : Array Value} {o : Nat} {v : Value} (hv : xs[o]? = some v) (w : World) : (part t xs o).run P w = .ok v w := by
  unfold part
  rw [Sem.run_bind, run_isAgg ht, hd]
  simp [hv]
theorem partN {P : Program} {t : TypeId} {d : TypeDesc} {z : Value} {sz by_ : Nat} (ht : P.underlying t = some d) (hd : aggB d = true) (hi : TI P t z sz by_) {xs ys : Array Value} {o : Nat} (hv : xs.extract o (o + sz) = ys) (w : World) : (part t xs o).run P w = .ok (.agg ys) w := by
  unfold part
  rw [Sem.run_bind, run_isAgg ht, hd]
  simp only [Result.andThen_ok, if_true, Sem.run_bind, hi.size, Sem.run_pure, hv]
theorem eqC_nil {P : Program} {d : Nat} {xs ys : Array Value} {w : World} : (Op.eqFields d xs ys []).run P w = .ok true w := rfl
theorem eqC_cons {P : Program} {d : Nat} {xs ys : Array Value} {f : Field} {fs : List Field} {a b : Value} {r r' : Bool} {w : World} {ft fo : Nat} (h : (f.type, f.offset, f.name == "_") = (ft, fo, false)) (ha : (part ft xs fo).run P w = .ok a w) (hb : (part ft ys fo).run P w = .ok b w)
    (he : (Op.equalIn d ft a b).run P w = .ok r w) (hk : (Op.eqFields d xs ys fs).run P w = .ok r' w) : (Op.eqFields d xs ys (f :: fs)).run P w = .ok (r && r') w := by
  simp only [Prod.mk.injEq] at h
  obtain ⟨rfl, rfl, hn⟩ := h
  have hn' : f.name ≠ "_" := by simpa using hn
  rw [Op.eqFields, if_pos hn']
  simp only [Sem.run_bind, ha, hb, he, Result.andThen_ok]
  cases r
  · simp
  · simpa using hk
theorem eqC_fields {P : Program} {d : Nat} {xs ys : Array Value} {r : Bool} {w : World} {l : List Field} {m : List (Nat × Nat × Bool)} (hf : l.map (fun f => (f.type, f.offset, f.name == "_")) = m) (h : ∀ l : List Field, l.map (fun f => (f.type, f.offset, f.name == "_")) = m → (Op.eqFields d xs ys l).run P w = .ok r w) :
    (Op.eqFields d xs ys l).run P w = .ok r w := h l hf
theorem eq_int {P : Program} {t : TypeId} {k' : IntKind} (h : P.underlying t = some (.int k')) (d : Nat) (k : IntKind) (a b : Int) (w : World) : (Op.equalIn (d + 1) t (.int k a) (.int k b)).run P w = .ok (decide (a = b)) w := by rw [run_equalIn_int w d t _ _ _ _ h, int_beq']
theorem eq_bool {P : Program} {t : TypeId} (h : P.underlying t = some .bool) (d : Nat) (a b : Bool) (w : World) : (Op.equalIn (d + 1) t (.bool a) (.bool b)).run P w = .ok (decide (a = b)) w := by rw [run_equalIn_bool' w d t _ _ h, bool_beq']
theorem eq_str {P : Program} {t : TypeId} (h : P.underlying t = some .string) (d : Nat) (a b : List UInt8) (w : World) : (Op.equalIn (d + 1) t (S a) (S b)).run P w = .ok (decide (a = b)) w := by
  unfold S; rw [run_equalIn_string w d t _ _ h, S_beq']
end Go.Q
namespace Go.Q
open Go.Proofs
set_option linter.unusedVariables false
set_option maxRecDepth 100000
def eqv45 (a0 : List UInt8) (a1 : List UInt8) (b0 : List UInt8) (b1 : List UInt8) : Bool := (decide (a0 = b0) && (decide (a1 = b1) && true))
theorem eqT45 (d : Nat) (w : World) (a0 : List UInt8) (a1 : List UInt8) (b0 : List UInt8) (b1 : List UInt8) : (Op.equalIn (d + 2) 45 (.agg #[(S a0), (S a1)]) (.agg #[(S b0), (S b1)])).run Tryd.prog w = .ok (eqv45 a0 a1 b0 b1) w := by
  rw [run_equalIn_struct w _ 45 _ _ (by kernel_rfl) (by kernel_rfl)]
  refine eqC_fields (m := [(9, 0, false), (9, 1, false)]) (by kernel_rfl) fun l hl => ?_
  obtain ⟨f0, l0, rfl, h0, hl⟩ := List.map_eq_cons_iff.1 hl
  refine eqC_cons (ft := 9) (fo := 0) (a := (S a0)) (b := (S b0)) h0 (part1 Tryd.underlying9 rfl (by kernel_rfl) w) (part1 Tryd.underlying9 rfl (by kernel_rfl) w) (eq_str Tryd.underlying9 (d + 0) _ _ w) ?_
  obtain ⟨f1, l1, rfl, h1, hl⟩ := List.map_eq_cons_iff.1 hl
  refine eqC_cons (ft := 9) (fo := 1) (a := (S a1)) (b := (S b1)) h1 (part1 Tryd.underlying9 rfl (by kernel_rfl) w) (part1 Tryd.underlying9 rfl (by kernel_rfl) w) (eq_str Tryd.underlying9 (d + 0) _ _ w) ?_
  obtain rfl := List.map_eq_nil_iff.1 hl
  exact eqC_nil
theorem o_eql45 {ρ : Operand → Value} {w : World} {K : Value → World → Prop} {dst : Option Tmp} {T : TypeId} {pos : String} {after : Array Edge} {g : Option (Nat × Bool)} {u : TypeId} {x y : Operand} (a0 : List UInt8) (a1 : List UInt8) (b0 : List UInt8) (b1 : List UInt8) (hx : ρ x = .agg #[(S a0), (S a1)]) (hy : ρ y = .agg #[(S b0), (S b1)]) (h : K (.bool ((eqv45 a0 a1 b0 b1))) w) :
    OK Tryd.prog ⟨dst, .binOp .eql 45 x y u, T, pos, after, g⟩ ρ w K :=
  o_eqx hx hy (run_eqGuard_agg w _ _ _ _ _ _ (by kernel_rfl)) rfl (eqT45 (9998) w a0 a1 b0 b1) h
theorem o_neq45 {ρ : Operand → Value} {w : World} {K : Value → World → Prop} {dst : Option Tmp} {T : TypeId} {pos : String} {after : Array Edge} {g : Option (Nat × Bool)} {u : TypeId} {x y : Operand} (a0 : List UInt8) (a1 : List UInt8) (b0 : List UInt8) (b1 : List UInt8) (hx : ρ x = .agg #[(S a0), (S a1)]) (hy : ρ y = .agg #[(S b0), (S b1)]) (h : K (.bool (!(eqv45 a0 a1 b0 b1))) w) :
    OK Tryd.prog ⟨dst, .binOp .neq 45 x y u, T, pos, after, g⟩ ρ w K :=
  o_nex hx hy (run_eqGuard_agg w _ _ _ _ _ _ (by kernel_rfl)) rfl (eqT45 (9998) w a0 a1 b0 b1) h
theorem eqv45_iff (a0 : List UInt8) (a1 : List UInt8) (b0 : List UInt8) (b1 : List UInt8) : eqv45 a0 a1 b0 b1 = true ↔ a0 = b0 ∧ a1 = b1 := by
  unfold eqv45; simp
theorem eqv45_dec (a0 : List UInt8) (a1 : List UInt8) (b0 : List UInt8) (b1 : List UInt8) : eqv45 a0 a1 b0 b1 = decide (a0 = b0 ∧ a1 = b1) := by rw [Bool.eq_iff_iff, eqv45_iff, decide_eq_true_iff]
def eqv29 (a0 : Bool) (a1 : List UInt8) (b0 : Bool) (b1 : List UInt8) : Bool := (decide (a0 = b0) && (decide (a1 = b1) && true))
theorem eqT29 (d : Nat) (w : World) (a0 : Bool) (a1 : List UInt8) (b0 : Bool) (b1 : List UInt8) : (Op.equalIn (d + 2) 29 (.agg #[(.bool a0), (S a1)]) (.agg #[(.bool b0), (S b1)])).run Tryd.prog w = .ok (eqv29 a0 a1 b0 b1) w := by
  rw [run_equalIn_struct w _ 29 _ _ (by kernel_rfl) (by kernel_rfl)]
  refine eqC_fields (m := [(4, 0, false), (9, 1, false)]) (by kernel_rfl) fun l hl => ?_
  obtain ⟨f0, l0, rfl, h0, hl⟩ := List.map_eq_cons_iff.1 hl
  refine eqC_cons (ft := 4) (fo := 0) (a := (.bool a0)) (b := (.bool b0)) h0 (part1 Tryd.underlying4 rfl (by kernel_rfl) w) (part1 Tryd.underlying4 rfl (by kernel_rfl) w) (eq_bool Tryd.underlying4 (d + 0) _ _ w) ?_
  obtain ⟨f1, l1, rfl, h1, hl⟩ := List.map_eq_cons_iff.1 hl
  refine eqC_cons (ft := 9) (fo := 1) (a := (S a1)) (b := (S b1)) h1 (part1 Tryd.underlying9 rfl (by kernel_rfl) w) (part1 Tryd.underlying9 rfl (by kernel_rfl) w) (eq_str Tryd.underlying9 (d + 0) _ _ w) ?_
  obtain rfl := List.map_eq_nil_iff.1 hl
  exact eqC_nil
theorem o_eql29 {ρ : Operand → Value} {w : World} {K : Value → World → Prop} {dst : Option Tmp} {T : TypeId} {pos : String} {after : Array Edge} {g : Option (Nat × Bool)} {u : TypeId} {x y : Operand} (a0 : Bool) (a1 : List UInt8) (b0 : Bool) (b1 : List UInt8) (hx : ρ x = .agg #[(.bool a0), (S a1)]) (hy : ρ y = .agg #[(.bool b0), (S b1)]) (h : K (.bool ((eqv29 a0 a1 b0 b1))) w) :
    OK Tryd.prog ⟨dst, .binOp .eql 29 x y u, T, pos, after, g⟩ ρ w K :=
  o_eqx hx hy (run_eqGuard_agg w _ _ _ _ _ _ (by kernel_rfl)) rfl (eqT29 (9998) w a0 a1 b0 b1) h
theorem o_neq29 {ρ : Operand → Value} {w : World} {K : Value → World → Prop} {dst : Option Tmp} {T : TypeId} {pos : String} {after : Array Edge} {g : Option (Nat × Bool)} {u : TypeId} {x y : Operand} (a0 : Bool) (a1 : List UInt8) (b0 : Bool) (b1 : List UInt8) (hx : ρ x = .agg #[(.bool a0), (S a1)]) (hy : ρ y = .agg #[(.bool b0), (S b1)]) (h : K (.bool (!(eqv29 a0 a1 b0 b1))) w) :
    OK Tryd.prog ⟨dst, .binOp .neq 29 x y u, T, pos, after, g⟩ ρ w K :=
  o_nex hx hy (run_eqGuard_agg w _ _ _ _ _ _ (by kernel_rfl)) rfl (eqT29 (9998) w a0 a1 b0 b1) h
theorem eqv29_iff (a0 : Bool) (a1 : List UInt8) (b0 : Bool) (b1 : List UInt8) : eqv29 a0 a1 b0 b1 = true ↔ a0 = b0 ∧ a1 = b1 := by
  unfold eqv29; simp
theorem eqv29_dec (a0 : Bool) (a1 : List UInt8) (b0 : Bool) (b1 : List UInt8) : eqv29 a0 a1 b0 b1 = decide (a0 = b0 ∧ a1 = b1) := by rw [Bool.eq_iff_iff, eqv29_iff, decide_eq_true_iff]
end Go.Q
namespace Go.Q
open Go.Proofs
set_option linter.unusedVariables false
set_option maxRecDepth 100000
attribute [local irreducible] wpList OK Code.wp
set_option maxHeartbeats 4000000 in
theorem cequal_c {E w : World} {R : List Hp} {v_l : Value} {l : List Cel} {v_m : Value} {m : List Cel}  (hH : Has E w [R]) (h_l : Sl R 2 v_l l.length (l.flatMap ceC)) (h_m : Sl R 2 v_m m.length (m.flatMap ceC)) :
    Calls Tryd.prog 37 #[v_l, v_m] w fun e w' => e = .returned (.bool (decide (l = m))) ∧ Has E w' [R] := by
  have hn_ := h_l.le
  have hm_ := h_m.le
  refine c_enter (args := [v_l, v_m]) Tryd.func37 rfl Tryd.ntmps37 (by simp) ?_
  refine wp_seq_k fun K1 hK1 => ?_
  refine c_region ?_
  refine s_op (o_assign (v := (.bool false)) rfl ?_)
  refine s_nil ?_
  refine t_norm (hK1 _ _ ?_)
  refine wp_seq_k fun K2 hK2 => ?_
  refine wp_seq_k fun K3 hK3 => ?_
  refine c_region ?_
  refine s_op (o_move (v := v_l) rfl ?_)
  refine s_op (o_lenS Tryd.underlying22 rfl h_l ?_)
  refine s_op (o_move (v := v_m) rfl ?_)
  refine s_op (o_lenS Tryd.underlying22 rfl h_m ?_)
  refine s_op (o_neq (a := ((l.length : Nat) : Int)) (b := ((m.length : Nat) : Int)) rfl rfl ?_)
  refine s_nil ?_
  refine t_norm (hK3 _ _ ?_)
  refine c_cond rfl (fun h4 => ?_) (fun h4 => ?_)
  · -- ((l.length : Nat) : Int) ≠ ((m.length : Nat) : Int)
    refine wp_seq_k fun K5 hK5 => ?_
    refine c_region ?_
    refine s_op (o_assign (v := (.bool false)) rfl ?_)
    refine s_nil ?_
    refine t_norm (hK5 _ _ ?_)
    refine wp_ret ?_
    refine t_ret (c_ret1 Tryd.results37  (v := (.bool false)) rfl ?_)
    have q6 : (decide (l = m)) = false := by rw [decide_eq_false (fun e_ => by subst e_; omega)]
    exact ⟨by rw [q6], hH⟩
  · -- not: ((l.length : Nat) : Int) ≠ ((m.length : Nat) : Int)
    refine wp_skip ?_
    refine t_norm (hK2 _ _ ?_)
    refine wp_seq_k fun K7 hK7 => ?_
    refine wp_seq_k fun K8 hK8 => ?_
    refine c_region ?_
    refine s_op (o_move (v := v_l) rfl ?_)
    refine s_op (o_lenS Tryd.underlying22 rfl h_l ?_)
    refine s_op (o_move (v := (.int .i64 0)) rfl ?_)
    refine s_nil ?_
    refine t_norm (hK8 _ _ ?_)
    refine wp_block ?_
    let I10 : Nat → (Nat → Value) → World → Prop := fun n__ r__ w__ => ∃ (k : Nat), n__ = l.length - k ∧ Has E w__ [R] ∧ (k ≤ l.length) ∧ (∀ j, j < k → l[j]? = m[j]?) ∧ r__ 0 = v_l ∧ r__ 1 = v_m ∧ r__ 10 = (.bool (decide (((l.length : Nat) : Int) ≠ ((m.length : Nat) : Int)))) ∧ r__ 12 = (.int .i64 ((l.length : Nat) : Int)) ∧ r__ 13 = (.int .i64 (k : Int))
    refine c_loop I10 _ ⟨0, rfl, hH, Nat.zero_le _, fun j hj => absurd hj (Nat.not_lt_zero j), rfl, rfl, rfl, rfl, rfl⟩ ?_
    rintro n_ r13 w11 ⟨k, rfl, hH12, hk, he, e9_0, e9_1, e9_10, e9_12, e9_13⟩
    refine wp_seq_k fun K14 hK14 => ?_
    refine c_region ?_
    refine s_op (o_lss (a := (k : Int)) (b := ((l.length : Nat) : Int)) e9_13 e9_12 ?_)
    refine s_nil ?_
    refine t_norm (hK14 _ _ ?_)
    refine wp_seq_k fun K15 hK15 => ?_
    refine c_cond rfl (fun h16 => ?_) (fun h16 => ?_)
    · -- (k : Int) < ((l.length : Nat) : Int)
      refine wp_skip ?_
      refine t_norm (hK15 _ _ ?_)
      refine wp_seq_k fun K17 hK17 => ?_
      refine wp_block ?_
      refine wp_seq_k fun K18 hK18 => ?_
      refine c_region ?_
      refine s_op (o_move (v := (.int .i64 (k : Int))) e9_13 ?_)
      refine s_op (o_assign (v := (.int .i64 (k : Int))) rfl ?_)
      refine s_nil ?_
      refine t_norm (hK18 _ _ ?_)
      refine wp_seq_k fun K19 hK19 => ?_
      refine Rest.region mixed (by kernel_rfl) ?_
      have hH20 : Has E { w11 with drawn := w11.drawn + 1 } [R] := Has0.drew hH12 _
      refine Rest.phaseA (fun w_ => Has E w_ [R]) 0 8 8 rfl (by decide) (by kernel_rfl) ?_
      refine a_op 0 rfl (by kernel_rfl) (fun w_ h_ => o_move (v := v_l) e9_0 ⟨rfl, rfl⟩) ?_
      refine a_op 1 rfl (by kernel_rfl) (fun w_ h_ => o_move (v := (.int .i64 (k : Int))) rfl ⟨rfl, rfl⟩) ?_
      obtain ⟨x24, hx25⟩ : ∃ x_, l[((k : Int)).toNat]? = some x_ := get_some (by omega)
      obtain ⟨b21, o22, hc23, ho26⟩ := ix_exF ceC_len Tryd.underlying22 ti45 h_l (by omega) hx25
      refine a_op 2 rfl (by kernel_rfl) (fun w_ h_ => ho26 rfl rfl ⟨rfl, rfl⟩) ?_
      refine a_op 3 rfl (by kernel_rfl) (fun w_ h_ => o_loadN (cs := [(S x24.1), (S x24.2)]) Tryd.underlying45 rfl ti45 rfl h_ (seg_sub 0 rfl) hc23 ⟨rfl, rfl⟩) ?_
      refine a_op 4 rfl (by kernel_rfl) (fun w_ h_ => o_move (v := v_m) e9_1 ⟨rfl, rfl⟩) ?_
      refine a_op 5 rfl (by kernel_rfl) (fun w_ h_ => o_move (v := (.int .i64 (k : Int))) rfl ⟨rfl, rfl⟩) ?_
      obtain ⟨x30, hx31⟩ : ∃ x_, m[((k : Int)).toNat]? = some x_ := get_some (by omega)
      obtain ⟨b27, o28, hc29, ho32⟩ := ix_exF ceC_len Tryd.underlying22 ti45 h_m (by omega) hx31
      refine a_op 6 rfl (by kernel_rfl) (fun w_ h_ => ho32 rfl rfl ⟨rfl, rfl⟩) ?_
      refine a_op 7 rfl (by kernel_rfl) (fun w_ h_ => o_loadN (cs := [(S x30.1), (S x30.2)]) Tryd.underlying45 rfl ti45 rfl h_ (seg_sub 0 rfl) hc29 ⟨rfl, rfl⟩) ?_
      refine a_done (by kernel_rfl) hH20 ?_
      refine r_op 8 rfl (by kernel_rfl) (o_neq45 x24.1 x24.2 x30.1 x30.2 rfl rfl ?_)
      refine Rest.done (by kernel_rfl) ?_
      refine t_norm (hK19 _ _ ?_)
      refine c_condb rfl (fun h33 => ?_) (fun h33 => ?_)
      · -- !(eqv45 x24.1 x24.2 x30.1 x30.2)
        have h33_n : (eqv45 x24.1 x24.2 x30.1 x30.2) = false := by simpa using h33
        refine wp_seq_k fun K34 hK34 => ?_
        refine c_region ?_
        refine s_op (o_assign (v := (.bool false)) rfl ?_)
        refine s_nil ?_
        refine t_norm (hK34 _ _ ?_)
        refine wp_ret ?_
        refine b_ret (t_ret (t_ret (b_ret (t_ret (c_ret1 Tryd.results37  (v := (.bool false)) rfl ?_)))))
        have q35 : (decide (l = m)) = false := by rw [decide_eq_false (same_not hx25 hx31 (fun e_ => by subst e_; exact absurd ((eqv45_iff _ _ _ _).2 ⟨rfl, rfl⟩) (by simpa using h33)))]
        exact ⟨by rw [q35], hH20⟩
      · -- not: !(eqv45 x24.1 x24.2 x30.1 x30.2)
        have h33_n : (eqv45 x24.1 x24.2 x30.1 x30.2) = true := by simpa using h33
        refine wp_skip ?_
        refine b_norm ?_
        refine t_norm (hK17 _ _ ?_)
        refine c_region ?_
        refine s_op (o_add (a := (k : Int)) (b := 1) e9_13 rfl (w64 (by omega) (by omega)) ?_)
        refine s_op (o_move (v := (.int .i64 ((k : Int) + 1))) rfl ?_)
        refine s_nil ?_
        refine t_norm ⟨l.length - (k + 1), _, rfl, ?_, ?_⟩
        · omega
        · exact ⟨(k + 1), rfl, hH20, (by omega), (same_next he (show l[k]? = some _ from hx25) (show m[k]? = some _ from hx31) (by have h_ := h33; have e_ := (eqv45_iff _ _ _ _).1 (by simpa using h_); exact Prod.ext e_.1 e_.2)), e9_0, e9_1, e9_10, e9_12, rfl⟩
    · -- not: (k : Int) < ((l.length : Nat) : Int)
      refine wp_exit ?_
      refine t_exit (t_exit (x_in (?_)))
      refine t_norm (hK7 _ _ ?_)
      refine wp_seq_k fun K36 hK36 => ?_
      refine c_region ?_
      refine s_op (o_assign (v := (.bool true)) rfl ?_)
      refine s_nil ?_
      refine t_norm (hK36 _ _ ?_)
      refine wp_ret ?_
      refine c_ret1 Tryd.results37  (v := (.bool true)) rfl ?_
      have q37 : (decide (l = m)) = true := by rw [decide_eq_true (same_all he (by omega) (by omega))]
      exact ⟨by rw [q37], hH12⟩
set_option maxHeartbeats 4000000 in
theorem psame_c {E w : World} {R : List Hp} {noa : Int} {gsna : Int} {v_la : Value} {la : List Cel} {nob : Int} {gsnb : Int} {v_lb : Value} {lb : List Cel}  (hH : Has E w [R]) (h_la : Sl R 2 v_la la.length (la.flatMap ceC)) (h_lb : Sl R 2 v_lb lb.length (lb.flatMap ceC)) :
    Calls Tryd.prog 12 #[(.agg #[(.int .i64 noa), (.int .i64 gsna), v_la]), (.agg #[(.int .i64 nob), (.int .i64 gsnb), v_lb])] w fun e w' => e = .returned (.bool (decide (noa = nob ∧ gsna = gsnb ∧ la = lb))) ∧ Has E w' [R] := by
  refine c_enter (args := [(.agg #[(.int .i64 noa), (.int .i64 gsna), v_la]), (.agg #[(.int .i64 nob), (.int .i64 gsnb), v_lb])]) Tryd.func12 rfl Tryd.ntmps12 (by simp) ?_
  refine wp_seq_k fun K1 hK1 => ?_
  refine c_region ?_
  refine s_op (o_box (cs := #[(.int .i64 noa), (.int .i64 gsna), v_la]) rfl rfl hH fun b2 w3 hH4 => ?_)
  refine s_op (o_box (cs := #[(.int .i64 nob), (.int .i64 gsnb), v_lb]) rfl rfl hH4 fun b5 w6 hH7 => ?_)
  refine s_op (o_assign (v := (.bool false)) rfl ?_)
  refine s_nil ?_
  refine t_norm (hK1 _ _ ?_)
  refine wp_seq_k fun K8 hK8 => ?_
  refine c_region ?_
  refine s_op (o_fieldAddr (k := 0) (fun _ => by kernel_rfl) rfl ?_)
  refine s_op (o_load1 (v := (.int .i64 noa)) Tryd.underlying3 rfl rfl hH7 (seg_sub 1 rfl) (CellsAt.one rfl) ?_)
  refine s_op (o_fieldAddr (k := 0) (fun _ => by kernel_rfl) rfl ?_)
  refine s_op (o_load1 (v := (.int .i64 nob)) Tryd.underlying3 rfl rfl hH7 (seg_sub 0 rfl) (CellsAt.one rfl) ?_)
  refine s_op (o_eql (a := noa) (b := nob) rfl rfl ?_)
  refine s_op (o_move (v := (.bool (decide (noa = nob)))) rfl ?_)
  by_cases h9 : noa = nob
  · -- noa = nob
    refine s_on 10 rfl (congrArg Value.bool (decide_eq_true h9)) (o_fieldAddr (k := 1) (fun _ => by kernel_rfl) rfl ?_)
    refine s_on 10 rfl (congrArg Value.bool (decide_eq_true h9)) (o_load1 (v := (.int .i64 gsna)) Tryd.underlying3 rfl rfl hH7 (seg_sub 1 rfl) (CellsAt.one rfl) ?_)
    refine s_on 10 rfl (congrArg Value.bool (decide_eq_true h9)) (o_fieldAddr (k := 1) (fun _ => by kernel_rfl) rfl ?_)
    refine s_on 10 rfl (congrArg Value.bool (decide_eq_true h9)) (o_load1 (v := (.int .i64 gsnb)) Tryd.underlying3 rfl rfl hH7 (seg_sub 0 rfl) (CellsAt.one rfl) ?_)
    refine s_on 10 rfl (congrArg Value.bool (decide_eq_true h9)) (o_eql (a := gsna) (b := gsnb) rfl rfl ?_)
    refine s_op (o_pick_t (u := (.bool (decide (gsna = gsnb)))) ((rfl : _ = _).trans (congrArg Value.bool (decide_eq_true h9))) rfl ?_)
    refine s_op (o_move (v := (.bool (decide (gsna = gsnb)))) rfl ?_)
    by_cases h10 : gsna = gsnb
    · -- gsna = gsnb
      refine s_on 17 rfl (congrArg Value.bool (decide_eq_true h10)) (o_fieldAddr (k := 2) (fun _ => by kernel_rfl) rfl ?_)
      refine s_on 17 rfl (congrArg Value.bool (decide_eq_true h10)) (o_load1 (v := v_la) Tryd.underlying22 rfl rfl hH7 (seg_sub 1 rfl) (CellsAt.one rfl) ?_)
      refine s_on 17 rfl (congrArg Value.bool (decide_eq_true h10)) (o_fieldAddr (k := 2) (fun _ => by kernel_rfl) rfl ?_)
      refine s_on 17 rfl (congrArg Value.bool (decide_eq_true h10)) (o_load1 (v := v_lb) Tryd.underlying22 rfl rfl hH7 (seg_sub 0 rfl) (CellsAt.one rfl) ?_)
      refine s_on 17 rfl (congrArg Value.bool (decide_eq_true h10)) (o_callf (vs := #[v_la, v_lb]) ca37 rfl (args2 rfl rfl) (cequal_c (l := la) (m := lb) hH7.all (h_la.mono (seg_sub 2 rfl)) (h_lb.mono (seg_sub 2 rfl))) ?_)
      rintro _ w13 ⟨rfl, hX11⟩
      refine ⟨_, rfl, ?_⟩
      have hH12 := hX11.of_all
      refine s_op (o_pick_t (u := (.bool (decide (la = lb)))) ((rfl : _ = _).trans (congrArg Value.bool (decide_eq_true h10))) rfl ?_)
      refine s_op (o_assign (v := (.bool (decide (la = lb)))) rfl ?_)
      refine s_nil ?_
      refine t_norm (hK8 _ _ ?_)
      refine wp_ret ?_
      refine c_ret1 Tryd.results12  (v := (.bool (decide (la = lb)))) rfl ?_
      have q14 : (decide (noa = nob ∧ gsna = gsnb ∧ la = lb)) = (decide (la = lb)) := by rw [Bool.eq_iff_iff]; simp [h9, h10]
      have hH15 : Has E w13 [R] := (hH12.front 2 rfl).first 1 rfl
      exact ⟨by rw [q14], hH15⟩
    · -- not: gsna = gsnb
      refine s_off (b' := false) 17 rfl (congrArg Value.bool (decide_eq_false h10)) rfl ?_
      refine s_off (b' := false) 17 rfl (congrArg Value.bool (decide_eq_false h10)) rfl ?_
      refine s_off (b' := false) 17 rfl (congrArg Value.bool (decide_eq_false h10)) rfl ?_
      refine s_off (b' := false) 17 rfl (congrArg Value.bool (decide_eq_false h10)) rfl ?_
      refine s_off (b' := false) 17 rfl (congrArg Value.bool (decide_eq_false h10)) rfl ?_
      refine s_op (o_pick_f (u := (.bool false)) ((rfl : _ = _).trans (congrArg Value.bool (decide_eq_false h10))) rfl ?_)
      refine s_op (o_assign (v := (.bool false)) rfl ?_)
      refine s_nil ?_
      refine t_norm (hK8 _ _ ?_)
      refine wp_ret ?_
      refine c_ret1 Tryd.results12  (v := (.bool false)) rfl ?_
      have q16 : (decide (noa = nob ∧ gsna = gsnb ∧ la = lb)) = false := by rw [Bool.eq_iff_iff]; simp [h9, h10]
      have hH17 : Has E w6 [R] := (hH7.front 2 rfl).first 1 rfl
      exact ⟨by rw [q16], hH17⟩
  · -- not: noa = nob
    refine s_off (b' := false) 10 rfl (congrArg Value.bool (decide_eq_false h9)) rfl ?_
    refine s_off (b' := false) 10 rfl (congrArg Value.bool (decide_eq_false h9)) rfl ?_
    refine s_off (b' := false) 10 rfl (congrArg Value.bool (decide_eq_false h9)) rfl ?_
    refine s_off (b' := false) 10 rfl (congrArg Value.bool (decide_eq_false h9)) rfl ?_
    refine s_off (b' := false) 10 rfl (congrArg Value.bool (decide_eq_false h9)) rfl ?_
    refine s_op (o_pick_f (u := (.bool false)) ((rfl : _ = _).trans (congrArg Value.bool (decide_eq_false h9))) rfl ?_)
    refine s_op (o_move (v := (.bool false)) rfl ?_)
    refine s_off (b' := false) 17 rfl rfl rfl ?_
    refine s_off (b' := false) 17 rfl rfl rfl ?_
    refine s_off (b' := false) 17 rfl rfl rfl ?_
    refine s_off (b' := false) 17 rfl rfl rfl ?_
    refine s_off (b' := false) 17 rfl rfl rfl ?_
    refine s_op (o_pick_f (u := (.bool false)) rfl rfl ?_)
    refine s_op (o_assign (v := (.bool false)) rfl ?_)
    refine s_nil ?_
    refine t_norm (hK8 _ _ ?_)
    refine wp_ret ?_
    refine c_ret1 Tryd.results12  (v := (.bool false)) rfl ?_
    have q18 : (decide (noa = nob ∧ gsna = gsnb ∧ la = lb)) = false := by rw [Bool.eq_iff_iff]; simp [h9]
    have hH19 : Has E w6 [R] := (hH7.front 2 rfl).first 1 rfl
    exact ⟨by rw [q18], hH19⟩
set_option maxHeartbeats 4000000 in
theorem rkey_c {E w : World} {R : List Hp} {k : Bs}  (hH : Has E w [R]) :
    Calls Tryd.prog 36 #[(S k)] w fun e w' => e = .returned (.bool (keyR k)) ∧ Has E w' [R] := by
  refine c_enter (args := [(S k)]) Tryd.func36 rfl Tryd.ntmps36 (by simp) ?_
  refine wp_seq_k fun K1 hK1 => ?_
  refine c_region ?_
  refine s_op (o_assign (v := (.bool false)) rfl ?_)
  refine s_nil ?_
  refine t_norm (hK1 _ _ ?_)
  refine wp_seq_k fun K2 hK2 => ?_
  refine c_region ?_
  refine s_op (o_move (v := (S k)) rfl ?_)
  refine s_op (o_slen Tryd.underlying9 rfl ?_)
  refine s_op (o_geq (a := (k.length : Int)) (b := 1) rfl rfl ?_)
  refine s_op (o_move (v := (.bool (decide (1 ≤ (k.length : Int))))) rfl ?_)
  by_cases h3 : 1 ≤ (k.length : Int)
  · -- 1 ≤ (k.length : Int)
    refine s_on 6 rfl (congrArg Value.bool (decide_eq_true h3)) (o_move (v := (S k)) rfl ?_)
    refine s_on 6 rfl (congrArg Value.bool (decide_eq_true h3)) (o_slen Tryd.underlying9 rfl ?_)
    refine s_on 6 rfl (congrArg Value.bool (decide_eq_true h3)) (o_leq (a := (k.length : Int)) (b := 8) rfl rfl ?_)
    refine s_op (o_pick_t (u := (.bool (decide ((k.length : Int) ≤ 8)))) ((rfl : _ = _).trans (congrArg Value.bool (decide_eq_true h3))) rfl ?_)
    refine s_op (o_assign (v := (.bool (decide ((k.length : Int) ≤ 8)))) rfl ?_)
    refine s_nil ?_
    refine t_norm (hK2 _ _ ?_)
    refine wp_ret ?_
    refine c_ret1 Tryd.results36  (v := (.bool (decide ((k.length : Int) ≤ 8)))) rfl ?_
    have q4 : (keyR k) = decide ((k.length : Int) ≤ 8) := by exact key_eq2 (by omega)
    exact ⟨by rw [q4], hH⟩
  · -- not: 1 ≤ (k.length : Int)
    refine s_off (b' := false) 6 rfl (congrArg Value.bool (decide_eq_false h3)) rfl ?_
    refine s_off (b' := false) 6 rfl (congrArg Value.bool (decide_eq_false h3)) rfl ?_
    refine s_off (b' := false) 6 rfl (congrArg Value.bool (decide_eq_false h3)) rfl ?_
    refine s_op (o_pick_f (u := (.bool false)) ((rfl : _ = _).trans (congrArg Value.bool (decide_eq_false h3))) rfl ?_)
    refine s_op (o_assign (v := (.bool false)) rfl ?_)
    refine s_nil ?_
    refine t_norm (hK2 _ _ ?_)
    refine wp_ret ?_
    refine c_ret1 Tryd.results36  (v := (.bool false)) rfl ?_
    have q5 : (keyR k) = false := by exact key_eq0 (by omega)
    exact ⟨by rw [q5], hH⟩
set_option maxHeartbeats 4000000 in
theorem rvalue_c {E w : World} {R : List Hp} {v : Bool × Bs}  (hH : Has E w [R]) :
    Calls Tryd.prog 45 #[(.agg #[(.bool v.1), (S v.2)])] w fun e w' => e = .returned (.bool (valR v)) ∧ Has E w' [R] := by
  refine c_enter (args := [(.agg #[(.bool v.1), (S v.2)])]) Tryd.func45 rfl Tryd.ntmps45 (by simp) ?_
  refine wp_seq_k fun K1 hK1 => ?_
  refine c_region ?_
  refine s_op (o_box (cs := #[(.bool v.1), (S v.2)]) rfl rfl hH fun b2 w3 hH4 => ?_)
  refine s_op (o_assign (v := (.bool false)) rfl ?_)
  refine s_nil ?_
  refine t_norm (hK1 _ _ ?_)
  refine wp_seq_k fun K5 hK5 => ?_
  refine c_region ?_
  refine s_op (o_fieldAddr (k := 1) (fun _ => by kernel_rfl) rfl ?_)
  refine s_op (o_load1 (v := (S v.2)) Tryd.underlying9 rfl rfl hH4 (seg_sub 0 rfl) (CellsAt.one rfl) ?_)
  refine s_op (o_slen Tryd.underlying9 rfl ?_)
  refine s_op (o_leq (a := (v.2.length : Int)) (b := 16) rfl rfl ?_)
  refine s_op (o_move (v := (.bool (decide ((v.2.length : Int) ≤ 16)))) rfl ?_)
  by_cases h6 : (v.2.length : Int) ≤ 16
  · -- (v.2.length : Int) ≤ 16
    refine s_on 7 rfl (congrArg Value.bool (decide_eq_true h6)) (o_fieldAddr (k := 0) (fun _ => by kernel_rfl) rfl ?_)
    refine s_on 7 rfl (congrArg Value.bool (decide_eq_true h6)) (o_load1 (v := (.bool v.1)) Tryd.underlying4 rfl rfl hH4 (seg_sub 0 rfl) (CellsAt.one rfl) ?_)
    refine s_on 7 rfl (congrArg Value.bool (decide_eq_true h6)) (o_move (v := (.bool v.1)) rfl ?_)
    rcases Bool.eq_false_or_eq_true v.1 with h7 | h7
    · -- v.1
      refine s_off (b' := true) 10 rfl (congrArg Value.bool h7) rfl ?_
      refine s_off (b' := true) 10 rfl (congrArg Value.bool h7) rfl ?_
      refine s_off (b' := true) 10 rfl (congrArg Value.bool h7) rfl ?_
      refine s_on 7 rfl (congrArg Value.bool (decide_eq_true h6)) (o_pick_t (u := (.bool true)) ((rfl : _ = _).trans (congrArg Value.bool h7)) rfl ?_)
      refine s_op (o_pick_t (u := (.bool true)) ((rfl : _ = _).trans (congrArg Value.bool (decide_eq_true h6))) rfl ?_)
      refine s_op (o_assign (v := (.bool true)) rfl ?_)
      refine s_nil ?_
      refine t_norm (hK5 _ _ ?_)
      refine wp_ret ?_
      refine c_ret1 Tryd.results45  (v := (.bool true)) rfl ?_
      have q8 : (valR v) = true := by unfold valR; simp [h6, h7]
      have hH9 : Has E w3 [R] := (hH4.front 1 rfl).first 1 rfl
      exact ⟨by rw [q8], hH9⟩
    · -- not: v.1
      refine s_on 10 rfl (congrArg Value.bool h7) (o_fieldAddr (k := 1) (fun _ => by kernel_rfl) rfl ?_)
      refine s_on 10 rfl (congrArg Value.bool h7) (o_load1 (v := (S v.2)) Tryd.underlying9 rfl rfl hH4 (seg_sub 0 rfl) (CellsAt.one rfl) ?_)
      refine s_on 10 rfl (congrArg Value.bool h7) (o_seql (a := v.2) (b := ([] : List UInt8)) rfl rfl ?_)
      refine s_on 7 rfl (congrArg Value.bool (decide_eq_true h6)) (o_pick_f (u := (.bool (decide (v.2 = ([] : List UInt8))))) ((rfl : _ = _).trans (congrArg Value.bool h7)) rfl ?_)
      refine s_op (o_pick_t (u := (.bool (decide (v.2 = ([] : List UInt8))))) ((rfl : _ = _).trans (congrArg Value.bool (decide_eq_true h6))) rfl ?_)
      refine s_op (o_assign (v := (.bool (decide (v.2 = ([] : List UInt8))))) rfl ?_)
      refine s_nil ?_
      refine t_norm (hK5 _ _ ?_)
      refine wp_ret ?_
      refine c_ret1 Tryd.results45  (v := (.bool (decide (v.2 = ([] : List UInt8))))) rfl ?_
      have q10 : (valR v) = decide (v.2 = ([] : List UInt8)) := by unfold valR; simp [h6, h7]
      have hH11 : Has E w3 [R] := (hH4.front 1 rfl).first 1 rfl
      exact ⟨by rw [q10], hH11⟩
  · -- not: (v.2.length : Int) ≤ 16
    refine s_off (b' := false) 7 rfl (congrArg Value.bool (decide_eq_false h6)) rfl ?_
    refine s_off (b' := false) 7 rfl (congrArg Value.bool (decide_eq_false h6)) rfl ?_
    refine s_off (b' := false) 7 rfl (congrArg Value.bool (decide_eq_false h6)) rfl ?_
    refine s_offu 10 rfl rfl ?_
    refine s_offu 10 rfl rfl ?_
    refine s_offu 10 rfl rfl ?_
    refine s_off (b' := false) 7 rfl (congrArg Value.bool (decide_eq_false h6)) rfl ?_
    refine s_op (o_pick_f (u := (.bool false)) ((rfl : _ = _).trans (congrArg Value.bool (decide_eq_false h6))) rfl ?_)
    refine s_op (o_assign (v := (.bool false)) rfl ?_)
    refine s_nil ?_
    refine t_norm (hK5 _ _ ?_)
    refine wp_ret ?_
    refine c_ret1 Tryd.results45  (v := (.bool false)) rfl ?_
    have q12 : (valR v) = false := by unfold valR; simp [h6]
    have hH13 : Has E w3 [R] := (hH4.front 1 rfl).first 1 rfl
    exact ⟨by rw [q12], hH13⟩
set_option maxHeartbeats 4000000 in
theorem r11right_c {E w : World} {R : List Hp} {no : Int} {gsn : Int} {v_l : Value} {l : List Cel}  (hH : Has E w [R]) (h_l : Sl R 2 v_l l.length (l.flatMap ceC)) :
    Calls Tryd.prog 11 #[(.agg #[(.int .i64 no), (.int .i64 gsn), v_l])] w fun e w' => e = .returned (.bool (pageR no gsn l)) ∧ Has E w' [R] := by
  have hn_ := h_l.le
  refine c_enter (args := [(.agg #[(.int .i64 no), (.int .i64 gsn), v_l])]) Tryd.func11 rfl Tryd.ntmps11 (by simp) ?_
  refine wp_seq_k fun K1 hK1 => ?_
  refine c_region ?_
  refine s_op (o_box (cs := #[(.int .i64 no), (.int .i64 gsn), v_l]) rfl rfl hH fun b2 w3 hH4 => ?_)
  refine s_op (o_assign (v := (.bool false)) rfl ?_)
  refine s_nil ?_
  refine t_norm (hK1 _ _ ?_)
  refine wp_seq_k fun K5 hK5 => ?_
  refine wp_seq_k fun K6 hK6 => ?_
  refine c_region ?_
  refine s_op (o_fieldAddr (k := 0) (fun _ => by kernel_rfl) rfl ?_)
  refine s_op (o_load1 (v := (.int .i64 no)) Tryd.underlying3 rfl rfl hH4 (seg_sub 0 rfl) (CellsAt.one rfl) ?_)
  refine s_op (o_lss (a := no) (b := 0) rfl rfl ?_)
  refine s_op (o_move (v := (.bool (decide (no < 0)))) rfl ?_)
  by_cases h7 : no < 0
  · -- no < 0
    refine s_off (b' := true) 7 rfl (congrArg Value.bool (decide_eq_true h7)) rfl ?_
    refine s_off (b' := true) 7 rfl (congrArg Value.bool (decide_eq_true h7)) rfl ?_
    refine s_off (b' := true) 7 rfl (congrArg Value.bool (decide_eq_true h7)) rfl ?_
    refine s_op (o_pick_t (u := (.bool true)) ((rfl : _ = _).trans (congrArg Value.bool (decide_eq_true h7))) rfl ?_)
    refine s_op (o_move (v := (.bool true)) rfl ?_)
    refine s_off (b' := true) 12 rfl rfl rfl ?_
    refine s_off (b' := true) 12 rfl rfl rfl ?_
    refine s_off (b' := true) 12 rfl rfl rfl ?_
    refine s_op (o_pick_t (u := (.bool true)) rfl rfl ?_)
    refine s_op (o_move (v := (.bool true)) rfl ?_)
    refine s_off (b' := true) 17 rfl rfl rfl ?_
    refine s_off (b' := true) 17 rfl rfl rfl ?_
    refine s_off (b' := true) 17 rfl rfl rfl ?_
    refine s_op (o_pick_t (u := (.bool true)) rfl rfl ?_)
    refine s_op (o_move (v := (.bool true)) rfl ?_)
    refine s_off (b' := true) 22 rfl rfl rfl ?_
    refine s_off (b' := true) 22 rfl rfl rfl ?_
    refine s_off (b' := true) 22 rfl rfl rfl ?_
    refine s_off (b' := true) 22 rfl rfl rfl ?_
    refine s_op (o_pick_t (u := (.bool true)) rfl rfl ?_)
    refine s_nil ?_
    refine t_norm (hK6 _ _ ?_)
    refine c_true rfl rfl ?_
    refine wp_seq_k fun K8 hK8 => ?_
    refine c_region ?_
    refine s_op (o_assign (v := (.bool false)) rfl ?_)
    refine s_nil ?_
    refine t_norm (hK8 _ _ ?_)
    refine wp_ret ?_
    refine t_ret (c_ret1 Tryd.results11  (v := (.bool false)) rfl ?_)
    have q9 : (pageR no gsn l) = false := by exact pageR_no (by first | exact .inl (by omega) | exact .inr (by omega))
    have hH10 : Has E w3 [R] := (hH4.front 1 rfl).first 1 rfl
    exact ⟨by rw [q9], hH10⟩
  · -- not: no < 0
    refine s_on 7 rfl (congrArg Value.bool (decide_eq_false h7)) (o_fieldAddr (k := 0) (fun _ => by kernel_rfl) rfl ?_)
    refine s_on 7 rfl (congrArg Value.bool (decide_eq_false h7)) (o_load1 (v := (.int .i64 no)) Tryd.underlying3 rfl rfl hH4 (seg_sub 0 rfl) (CellsAt.one rfl) ?_)
    refine s_on 7 rfl (congrArg Value.bool (decide_eq_false h7)) (o_gtr (a := no) (b := 63) rfl rfl ?_)
    refine s_op (o_pick_f (u := (.bool (decide (63 < no)))) ((rfl : _ = _).trans (congrArg Value.bool (decide_eq_false h7))) rfl ?_)
    refine s_op (o_move (v := (.bool (decide (63 < no)))) rfl ?_)
    by_cases h11 : 63 < no
    · -- 63 < no
      refine s_off (b' := true) 12 rfl (congrArg Value.bool (decide_eq_true h11)) rfl ?_
      refine s_off (b' := true) 12 rfl (congrArg Value.bool (decide_eq_true h11)) rfl ?_
      refine s_off (b' := true) 12 rfl (congrArg Value.bool (decide_eq_true h11)) rfl ?_
      refine s_op (o_pick_t (u := (.bool true)) ((rfl : _ = _).trans (congrArg Value.bool (decide_eq_true h11))) rfl ?_)
      refine s_op (o_move (v := (.bool true)) rfl ?_)
      refine s_off (b' := true) 17 rfl rfl rfl ?_
      refine s_off (b' := true) 17 rfl rfl rfl ?_
      refine s_off (b' := true) 17 rfl rfl rfl ?_
      refine s_op (o_pick_t (u := (.bool true)) rfl rfl ?_)
      refine s_op (o_move (v := (.bool true)) rfl ?_)
      refine s_off (b' := true) 22 rfl rfl rfl ?_
      refine s_off (b' := true) 22 rfl rfl rfl ?_
      refine s_off (b' := true) 22 rfl rfl rfl ?_
      refine s_off (b' := true) 22 rfl rfl rfl ?_
      refine s_op (o_pick_t (u := (.bool true)) rfl rfl ?_)
      refine s_nil ?_
      refine t_norm (hK6 _ _ ?_)
      refine c_true rfl rfl ?_
      refine wp_seq_k fun K12 hK12 => ?_
      refine c_region ?_
      refine s_op (o_assign (v := (.bool false)) rfl ?_)
      refine s_nil ?_
      refine t_norm (hK12 _ _ ?_)
      refine wp_ret ?_
      refine t_ret (c_ret1 Tryd.results11  (v := (.bool false)) rfl ?_)
      have q13 : (pageR no gsn l) = false := by exact pageR_no (by first | exact .inl (by omega) | exact .inr (by omega))
      have hH14 : Has E w3 [R] := (hH4.front 1 rfl).first 1 rfl
      exact ⟨by rw [q13], hH14⟩
    · -- not: 63 < no
      refine s_on 12 rfl (congrArg Value.bool (decide_eq_false h11)) (o_fieldAddr (k := 1) (fun _ => by kernel_rfl) rfl ?_)
      refine s_on 12 rfl (congrArg Value.bool (decide_eq_false h11)) (o_load1 (v := (.int .i64 gsn)) Tryd.underlying3 rfl rfl hH4 (seg_sub 0 rfl) (CellsAt.one rfl) ?_)
      refine s_on 12 rfl (congrArg Value.bool (decide_eq_false h11)) (o_lss (a := gsn) (b := 0) rfl rfl ?_)
      refine s_op (o_pick_f (u := (.bool (decide (gsn < 0)))) ((rfl : _ = _).trans (congrArg Value.bool (decide_eq_false h11))) rfl ?_)
      refine s_op (o_move (v := (.bool (decide (gsn < 0)))) rfl ?_)
      by_cases h15 : gsn < 0
      · -- gsn < 0
        refine s_off (b' := true) 17 rfl (congrArg Value.bool (decide_eq_true h15)) rfl ?_
        refine s_off (b' := true) 17 rfl (congrArg Value.bool (decide_eq_true h15)) rfl ?_
        refine s_off (b' := true) 17 rfl (congrArg Value.bool (decide_eq_true h15)) rfl ?_
        refine s_op (o_pick_t (u := (.bool true)) ((rfl : _ = _).trans (congrArg Value.bool (decide_eq_true h15))) rfl ?_)
        refine s_op (o_move (v := (.bool true)) rfl ?_)
        refine s_off (b' := true) 22 rfl rfl rfl ?_
        refine s_off (b' := true) 22 rfl rfl rfl ?_
        refine s_off (b' := true) 22 rfl rfl rfl ?_
        refine s_off (b' := true) 22 rfl rfl rfl ?_
        refine s_op (o_pick_t (u := (.bool true)) rfl rfl ?_)
        refine s_nil ?_
        refine t_norm (hK6 _ _ ?_)
        refine c_true rfl rfl ?_
        refine wp_seq_k fun K16 hK16 => ?_
        refine c_region ?_
        refine s_op (o_assign (v := (.bool false)) rfl ?_)
        refine s_nil ?_
        refine t_norm (hK16 _ _ ?_)
        refine wp_ret ?_
        refine t_ret (c_ret1 Tryd.results11  (v := (.bool false)) rfl ?_)
        have q17 : (pageR no gsn l) = false := by exact pageR_no (by first | exact .inl (by omega) | exact .inr (by omega))
        have hH18 : Has E w3 [R] := (hH4.front 1 rfl).first 1 rfl
        exact ⟨by rw [q17], hH18⟩
      · -- not: gsn < 0
        refine s_on 17 rfl (congrArg Value.bool (decide_eq_false h15)) (o_fieldAddr (k := 1) (fun _ => by kernel_rfl) rfl ?_)
        refine s_on 17 rfl (congrArg Value.bool (decide_eq_false h15)) (o_load1 (v := (.int .i64 gsn)) Tryd.underlying3 rfl rfl hH4 (seg_sub 0 rfl) (CellsAt.one rfl) ?_)
        refine s_on 17 rfl (congrArg Value.bool (decide_eq_false h15)) (o_geq (a := gsn) (b := 4611686018427387904) rfl rfl ?_)
        refine s_op (o_pick_f (u := (.bool (decide (4611686018427387904 ≤ gsn)))) ((rfl : _ = _).trans (congrArg Value.bool (decide_eq_false h15))) rfl ?_)
        refine s_op (o_move (v := (.bool (decide (4611686018427387904 ≤ gsn)))) rfl ?_)
        by_cases h19 : 4611686018427387904 ≤ gsn
        · -- 4611686018427387904 ≤ gsn
          refine s_off (b' := true) 22 rfl (congrArg Value.bool (decide_eq_true h19)) rfl ?_
          refine s_off (b' := true) 22 rfl (congrArg Value.bool (decide_eq_true h19)) rfl ?_
          refine s_off (b' := true) 22 rfl (congrArg Value.bool (decide_eq_true h19)) rfl ?_
          refine s_off (b' := true) 22 rfl (congrArg Value.bool (decide_eq_true h19)) rfl ?_
          refine s_op (o_pick_t (u := (.bool true)) ((rfl : _ = _).trans (congrArg Value.bool (decide_eq_true h19))) rfl ?_)
          refine s_nil ?_
          refine t_norm (hK6 _ _ ?_)
          refine c_true rfl rfl ?_
          refine wp_seq_k fun K20 hK20 => ?_
          refine c_region ?_
          refine s_op (o_assign (v := (.bool false)) rfl ?_)
          refine s_nil ?_
          refine t_norm (hK20 _ _ ?_)
          refine wp_ret ?_
          refine t_ret (c_ret1 Tryd.results11  (v := (.bool false)) rfl ?_)
          have q21 : (pageR no gsn l) = false := by exact pageR_no (by first | exact .inl (by omega) | exact .inr (by omega))
          have hH22 : Has E w3 [R] := (hH4.front 1 rfl).first 1 rfl
          exact ⟨by rw [q21], hH22⟩
        · -- not: 4611686018427387904 ≤ gsn
          refine s_on 22 rfl (congrArg Value.bool (decide_eq_false h19)) (o_fieldAddr (k := 2) (fun _ => by kernel_rfl) rfl ?_)
          refine s_on 22 rfl (congrArg Value.bool (decide_eq_false h19)) (o_load1 (v := v_l) Tryd.underlying22 rfl rfl hH4 (seg_sub 0 rfl) (CellsAt.one rfl) ?_)
          refine s_on 22 rfl (congrArg Value.bool (decide_eq_false h19)) (o_lenS Tryd.underlying22 rfl h_l ?_)
          refine s_on 22 rfl (congrArg Value.bool (decide_eq_false h19)) (o_gtr (a := ((l.length : Nat) : Int)) (b := 8) rfl rfl ?_)
          refine s_op (o_pick_f (u := (.bool (decide (8 < ((l.length : Nat) : Int))))) ((rfl : _ = _).trans (congrArg Value.bool (decide_eq_false h19))) rfl ?_)
          refine s_nil ?_
          refine t_norm (hK6 _ _ ?_)
          refine c_cond rfl (fun h23 => ?_) (fun h23 => ?_)
          · -- 8 < ((l.length : Nat) : Int)
            refine wp_seq_k fun K24 hK24 => ?_
            refine c_region ?_
            refine s_op (o_assign (v := (.bool false)) rfl ?_)
            refine s_nil ?_
            refine t_norm (hK24 _ _ ?_)
            refine wp_ret ?_
            refine t_ret (c_ret1 Tryd.results11  (v := (.bool false)) rfl ?_)
            have q25 : (pageR no gsn l) = false := by exact pageR_no (by first | exact .inl (by omega) | exact .inr (by omega))
            have hH26 : Has E w3 [R] := (hH4.front 1 rfl).first 1 rfl
            exact ⟨by rw [q25], hH26⟩
          · -- not: 8 < ((l.length : Nat) : Int)
            refine wp_skip ?_
            refine t_norm (hK5 _ _ ?_)
            refine wp_seq_k fun K27 hK27 => ?_
            refine wp_seq_k fun K28 hK28 => ?_
            refine c_region ?_
            refine s_op (o_assign (v := (.int .i64 0)) rfl ?_)
            refine s_nil ?_
            refine t_norm (hK28 _ _ ?_)
            refine wp_block ?_
            let I30 : Nat → (Nat → Value) → World → Prop := fun n__ r__ w__ => ∃ (k : Nat), n__ = l.length - k ∧ Has E w__ [[Hp.one b2 (.cells #[(.int .i64 no), (.int .i64 gsn), v_l] 24 (0, 0))], R] ∧ (k ≤ l.length) ∧ ((l.take k).all celOk = true) ∧ (Rises (l.take k)) ∧ r__ 0 = (.agg #[(.int .i64 no), (.int .i64 gsn), v_l]) ∧ r__ 1 = (.pointer (some ⟨b2, 0, none⟩)) ∧ r__ 3 = (.int .i64 (k : Int)) ∧ r__ 27 = (.bool (decide (8 < ((l.length : Nat) : Int))))
            refine c_loop I30 _ ⟨0, rfl, hH4, Nat.zero_le _, rfl, List.Pairwise.nil, rfl, rfl, rfl, rfl⟩ ?_
            rintro n_ r33 w31 ⟨k, rfl, hH32, hk, ha, hr, e29_0, e29_1, e29_3, e29_27⟩
            refine wp_seq_k fun K34 hK34 => ?_
            refine wp_seq_k fun K35 hK35 => ?_
            refine c_region ?_
            refine s_op (o_move (v := (.int .i64 (k : Int))) e29_3 ?_)
            refine s_op (o_fieldAddr (k := 2) (fun _ => by kernel_rfl) e29_1 ?_)
            refine s_op (o_load1 (v := v_l) Tryd.underlying22 rfl rfl hH32 (seg_sub 0 rfl) (CellsAt.one rfl) ?_)
            refine s_op (o_lenS Tryd.underlying22 rfl h_l ?_)
            refine s_op (o_lss (a := (k : Int)) (b := ((l.length : Nat) : Int)) rfl rfl ?_)
            refine s_nil ?_
            refine t_norm (hK35 _ _ ?_)
            refine c_cond rfl (fun h36 => ?_) (fun h36 => ?_)
            · -- (k : Int) < ((l.length : Nat) : Int)
              refine wp_skip ?_
              refine t_norm (hK34 _ _ ?_)
              refine wp_seq_k fun K37 hK37 => ?_
              refine wp_block ?_
              refine wp_seq_k fun K38 hK38 => ?_
              refine Rest.region mixed (by kernel_rfl) ?_
              have hH39 : Has E { w31 with drawn := w31.drawn + 1 } [[Hp.one b2 (.cells #[(.int .i64 no), (.int .i64 gsn), v_l] 24 (0, 0))], R] := Has0.drew hH32 _
              refine Rest.phaseA (fun w_ => Has E w_ [[Hp.one b2 (.cells #[(.int .i64 no), (.int .i64 gsn), v_l] 24 (0, 0))]]) 0 3 3 rfl (by decide) (by kernel_rfl) ?_
              refine a_op 0 rfl (by kernel_rfl) (fun w_ h_ => o_fieldAddr (k := 2) (fun _ => by kernel_rfl) e29_1 ⟨rfl, rfl⟩) ?_
              refine a_op 1 rfl (by kernel_rfl) (fun w_ h_ => o_load1 (v := v_l) Tryd.underlying22 rfl rfl h_ (seg_sub 0 rfl) (CellsAt.one rfl) ⟨rfl, rfl⟩) ?_
              refine a_op 2 rfl (by kernel_rfl) (fun w_ h_ => o_move (v := (.int .i64 (k : Int))) e29_3 ⟨rfl, rfl⟩) ?_
              have hH40 : Has E { w31 with drawn := w31.drawn + 1 } [[Hp.one b2 (.cells #[(.int .i64 no), (.int .i64 gsn), v_l] 24 (0, 0))]] := hH39.first 1 rfl
              refine a_done (by kernel_rfl) hH40 ?_
              obtain ⟨x44, hx45⟩ : ∃ x_, l[((k : Int)).toNat]? = some x_ := get_some (by omega)
              refine r_op 3 rfl (by kernel_rfl) (o_indexF ceC_len Tryd.underlying22 ti45 rfl h_l rfl rfl (by omega) hx45 fun b41 o42 hc43 => ?_)
              refine r_op 4 rfl (by kernel_rfl) (o_fieldAddr (k := o42) (fun _ => by kernel_rfl) rfl ?_)
              refine r_op 5 rfl (by kernel_rfl) (o_load1 (v := (S x44.1)) Tryd.underlying9 rfl rfl hH39 (seg_sub 1 rfl) (CellsAt.field (k := 0) (ds := [(S x44.1)]) hc43 rfl) ?_)
              refine r_op 6 rfl (by kernel_rfl) (o_callf (vs := #[(S x44.1)]) ca36 rfl (args1 rfl) (rkey_c (k := x44.1) hH39.all ) ?_)
              rintro _ w48 ⟨rfl, hX46⟩
              refine ⟨_, rfl, ?_⟩
              have hH47 := hX46.of_all
              refine r_op 7 rfl (by kernel_rfl) (o_not rfl ?_)
              refine r_op 8 rfl (by kernel_rfl) (o_move (v := (.bool (!(keyR x44.1)))) rfl ?_)
              refine Rest.phaseA (fun w_ => Has E w_ [[Hp.one b2 (.cells #[(.int .i64 no), (.int .i64 gsn), v_l] 24 (0, 0))]]) 9 12 3 rfl (by decide) (by kernel_rfl) ?_
              rcases Bool.eq_false_or_eq_true (!(keyR x44.1)) with h49 | h49
              · -- !(keyR x44.1)
                refine a_off (b' := true) 9 rfl (by kernel_rfl) 43 rfl (congrArg Value.bool h49) rfl ?_
                refine a_off (b' := true) 10 rfl (by kernel_rfl) 43 rfl (congrArg Value.bool h49) rfl ?_
                refine a_off (b' := true) 11 rfl (by kernel_rfl) 43 rfl (congrArg Value.bool h49) rfl ?_
                have hH50 : Has E w48 [[Hp.one b2 (.cells #[(.int .i64 no), (.int .i64 gsn), v_l] 24 (0, 0))]] := hH47.first 1 rfl
                refine a_done (by kernel_rfl) hH50 ?_
                refine r_off (b' := true) 12 rfl (by kernel_rfl) 43 rfl (congrArg Value.bool h49) rfl ?_
                refine r_off (b' := true) 13 rfl (by kernel_rfl) 43 rfl (congrArg Value.bool h49) rfl ?_
                refine r_off (b' := true) 14 rfl (by kernel_rfl) 43 rfl (congrArg Value.bool h49) rfl ?_
                refine r_off (b' := true) 15 rfl (by kernel_rfl) 43 rfl (congrArg Value.bool h49) rfl ?_
                refine r_off (b' := true) 16 rfl (by kernel_rfl) 43 rfl (congrArg Value.bool h49) rfl ?_
                refine r_op 17 rfl (by kernel_rfl) (o_pick_t (u := (.bool true)) ((rfl : _ = _).trans (congrArg Value.bool h49)) rfl ?_)
                refine r_op 18 rfl (by kernel_rfl) (o_move (v := (.bool true)) rfl ?_)
                refine r_off (b' := true) 19 rfl (by kernel_rfl) 53 rfl rfl rfl ?_
                refine r_off (b' := true) 20 rfl (by kernel_rfl) 53 rfl rfl rfl ?_
                refine r_off (b' := true) 21 rfl (by kernel_rfl) 53 rfl rfl rfl ?_
                refine Rest.phaseA (fun w_ => Has E w_ []) 22 35 13 rfl (by decide) (by kernel_rfl) ?_
                refine a_offu 22 rfl (by kernel_rfl) 56 rfl rfl ?_
                refine a_offu 23 rfl (by kernel_rfl) 56 rfl rfl ?_
                refine a_offu 24 rfl (by kernel_rfl) 56 rfl rfl ?_
                refine a_offu 25 rfl (by kernel_rfl) 56 rfl rfl ?_
                refine a_offu 26 rfl (by kernel_rfl) 56 rfl rfl ?_
                refine a_offu 27 rfl (by kernel_rfl) 56 rfl rfl ?_
                refine a_offu 28 rfl (by kernel_rfl) 56 rfl rfl ?_
                refine a_offu 29 rfl (by kernel_rfl) 56 rfl rfl ?_
                refine a_offu 30 rfl (by kernel_rfl) 56 rfl rfl ?_
                refine a_offu 31 rfl (by kernel_rfl) 56 rfl rfl ?_
                refine a_offu 32 rfl (by kernel_rfl) 56 rfl rfl ?_
                refine a_offu 33 rfl (by kernel_rfl) 56 rfl rfl ?_
                refine a_offu 34 rfl (by kernel_rfl) 56 rfl rfl ?_
                have hH51 : Has E w48 [] := hH47.first 0 rfl
                refine a_done (by kernel_rfl) hH51 ?_
                refine r_offu 35 rfl (by kernel_rfl) 56 rfl rfl ?_
                refine r_off (b' := true) 36 rfl (by kernel_rfl) 53 rfl rfl rfl ?_
                refine r_op 37 rfl (by kernel_rfl) (o_pick_t (u := (.bool true)) rfl rfl ?_)
                refine Rest.done (by kernel_rfl) ?_
                refine t_norm (hK38 _ _ ?_)
                refine c_true rfl rfl ?_
                refine wp_seq_k fun K52 hK52 => ?_
                refine c_region ?_
                refine s_op (o_assign (v := (.bool false)) rfl ?_)
                refine s_nil ?_
                refine t_norm (hK52 _ _ ?_)
                refine wp_ret ?_
                refine b_ret (t_ret (t_ret (b_ret (t_ret (c_ret1 Tryd.results11  (v := (.bool false)) rfl ?_)))))
                have q53 : (pageR no gsn l) = false := by exact pageR_nc (cells_no1 hx45 (by simp only [celOk]; rw [show keyR x44.1 = false by simpa using h49]; rfl))
                have hH54 : Has E w48 [R] := (hH47.front 1 rfl).first 1 rfl
                exact ⟨by rw [q53], hH54⟩
              · -- not: !(keyR x44.1)
                refine a_on 9 rfl (by kernel_rfl) 43 rfl (congrArg Value.bool h49) (fun w_ h_ => o_fieldAddr (k := 2) (fun _ => by kernel_rfl) e29_1 ⟨rfl, rfl⟩) ?_
                refine a_on 10 rfl (by kernel_rfl) 43 rfl (congrArg Value.bool h49) (fun w_ h_ => o_load1 (v := v_l) Tryd.underlying22 rfl rfl h_ (seg_sub 0 rfl) (CellsAt.one rfl) ⟨rfl, rfl⟩) ?_
                refine a_on 11 rfl (by kernel_rfl) 43 rfl (congrArg Value.bool h49) (fun w_ h_ => o_move (v := (.int .i64 (k : Int))) e29_3 ⟨rfl, rfl⟩) ?_
                have hH55 : Has E w48 [[Hp.one b2 (.cells #[(.int .i64 no), (.int .i64 gsn), v_l] 24 (0, 0))]] := hH47.first 1 rfl
                refine a_done (by kernel_rfl) hH55 ?_
                refine r_on 12 rfl (by kernel_rfl) 43 rfl (congrArg Value.bool h49) (o_indexF ceC_len Tryd.underlying22 ti45 rfl h_l rfl rfl (by omega) hx45 fun b56 o57 hc58 => ?_)
                refine r_on 13 rfl (by kernel_rfl) 43 rfl (congrArg Value.bool h49) (o_fieldAddr (k := o57 + 1) (fun _ => by kernel_rfl) rfl ?_)
                refine r_on 14 rfl (by kernel_rfl) 43 rfl (congrArg Value.bool h49) (o_load1 (v := (S x44.2)) Tryd.underlying9 rfl rfl hH47 (seg_sub 1 rfl) (CellsAt.field (k := 1) (ds := [(S x44.2)]) hc58 rfl) ?_)
                refine r_on 15 rfl (by kernel_rfl) 43 rfl (congrArg Value.bool h49) (o_slen Tryd.underlying9 rfl ?_)
                refine r_on 16 rfl (by kernel_rfl) 43 rfl (congrArg Value.bool h49) (o_gtr (a := (x44.2.length : Int)) (b := 16) rfl rfl ?_)
                refine r_op 17 rfl (by kernel_rfl) (o_pick_f (u := (.bool (decide (16 < (x44.2.length : Int))))) ((rfl : _ = _).trans (congrArg Value.bool h49)) rfl ?_)
                refine r_op 18 rfl (by kernel_rfl) (o_move (v := (.bool (decide (16 < (x44.2.length : Int))))) rfl ?_)
                by_cases h59 : 16 < (x44.2.length : Int)
                · -- 16 < (x44.2.length : Int)
                  refine r_off (b' := true) 19 rfl (by kernel_rfl) 53 rfl (congrArg Value.bool (decide_eq_true h59)) rfl ?_
                  refine r_off (b' := true) 20 rfl (by kernel_rfl) 53 rfl (congrArg Value.bool (decide_eq_true h59)) rfl ?_
                  refine r_off (b' := true) 21 rfl (by kernel_rfl) 53 rfl (congrArg Value.bool (decide_eq_true h59)) rfl ?_
                  refine Rest.phaseA (fun w_ => Has E w_ []) 22 35 13 rfl (by decide) (by kernel_rfl) ?_
                  refine a_offu 22 rfl (by kernel_rfl) 56 rfl rfl ?_
                  refine a_offu 23 rfl (by kernel_rfl) 56 rfl rfl ?_
                  refine a_offu 24 rfl (by kernel_rfl) 56 rfl rfl ?_
                  refine a_offu 25 rfl (by kernel_rfl) 56 rfl rfl ?_
                  refine a_offu 26 rfl (by kernel_rfl) 56 rfl rfl ?_
                  refine a_offu 27 rfl (by kernel_rfl) 56 rfl rfl ?_
                  refine a_offu 28 rfl (by kernel_rfl) 56 rfl rfl ?_
                  refine a_offu 29 rfl (by kernel_rfl) 56 rfl rfl ?_
                  refine a_offu 30 rfl (by kernel_rfl) 56 rfl rfl ?_
                  refine a_offu 31 rfl (by kernel_rfl) 56 rfl rfl ?_
                  refine a_offu 32 rfl (by kernel_rfl) 56 rfl rfl ?_
                  refine a_offu 33 rfl (by kernel_rfl) 56 rfl rfl ?_
                  refine a_offu 34 rfl (by kernel_rfl) 56 rfl rfl ?_
                  have hH60 : Has E w48 [] := hH47.first 0 rfl
                  refine a_done (by kernel_rfl) hH60 ?_
                  refine r_offu 35 rfl (by kernel_rfl) 56 rfl rfl ?_
                  refine r_off (b' := true) 36 rfl (by kernel_rfl) 53 rfl (congrArg Value.bool (decide_eq_true h59)) rfl ?_
                  refine r_op 37 rfl (by kernel_rfl) (o_pick_t (u := (.bool true)) ((rfl : _ = _).trans (congrArg Value.bool (decide_eq_true h59))) rfl ?_)
                  refine Rest.done (by kernel_rfl) ?_
                  refine t_norm (hK38 _ _ ?_)
                  refine c_true rfl rfl ?_
                  refine wp_seq_k fun K61 hK61 => ?_
                  refine c_region ?_
                  refine s_op (o_assign (v := (.bool false)) rfl ?_)
                  refine s_nil ?_
                  refine t_norm (hK61 _ _ ?_)
                  refine wp_ret ?_
                  refine b_ret (t_ret (t_ret (b_ret (t_ret (c_ret1 Tryd.results11  (v := (.bool false)) rfl ?_)))))
                  have q62 : (pageR no gsn l) = false := by exact pageR_nc (cells_no1 hx45 (by simp only [celOk]; rw [show valR (true, x44.2) = false by unfold valR; simp; omega]; simp))
                  have hH63 : Has E w48 [R] := (hH47.front 1 rfl).first 1 rfl
                  exact ⟨by rw [q62], hH63⟩
                · -- not: 16 < (x44.2.length : Int)
                  refine r_on 19 rfl (by kernel_rfl) 53 rfl (congrArg Value.bool (decide_eq_false h59)) (o_move (v := (.int .i64 (k : Int))) e29_3 ?_)
                  refine r_on 20 rfl (by kernel_rfl) 53 rfl (congrArg Value.bool (decide_eq_false h59)) (o_gtr (a := (k : Int)) (b := 0) rfl rfl ?_)
                  refine r_on 21 rfl (by kernel_rfl) 53 rfl (congrArg Value.bool (decide_eq_false h59)) (o_move (v := (.bool (decide (0 < (k : Int))))) rfl ?_)
                  refine Rest.phaseA (fun w_ => Has E w_ [[Hp.one b2 (.cells #[(.int .i64 no), (.int .i64 gsn), v_l] 24 (0, 0))], R]) 22 35 13 rfl (by decide) (by kernel_rfl) ?_
                  by_cases h64 : 0 < (k : Int)
                  · -- 0 < (k : Int)
                    refine a_on 22 rfl (by kernel_rfl) 56 rfl (congrArg Value.bool (decide_eq_true h64)) (fun w_ h_ => o_fieldAddr (k := 2) (fun _ => by kernel_rfl) e29_1 ⟨rfl, rfl⟩) ?_
                    refine a_on 23 rfl (by kernel_rfl) 56 rfl (congrArg Value.bool (decide_eq_true h64)) (fun w_ h_ => o_load1 (v := v_l) Tryd.underlying22 rfl rfl h_ (seg_sub 0 rfl) (CellsAt.one rfl) ⟨rfl, rfl⟩) ?_
                    refine a_on 24 rfl (by kernel_rfl) 56 rfl (congrArg Value.bool (decide_eq_true h64)) (fun w_ h_ => o_move (v := (.int .i64 (k : Int))) e29_3 ⟨rfl, rfl⟩) ?_
                    refine a_on 25 rfl (by kernel_rfl) 56 rfl (congrArg Value.bool (decide_eq_true h64)) (fun w_ h_ => o_sub (a := (k : Int)) (b := 1) rfl rfl (w64 (by omega) (by omega)) ⟨rfl, rfl⟩) ?_
                    obtain ⟨x68, hx69⟩ : ∃ x_, l[((k : Int) - 1).toNat]? = some x_ := get_some (by omega)
                    obtain ⟨b65, o66, hc67, ho70⟩ := ix_exF ceC_len Tryd.underlying22 ti45 h_l (by omega) hx69
                    refine a_on 26 rfl (by kernel_rfl) 56 rfl (congrArg Value.bool (decide_eq_true h64)) (fun w_ h_ => ho70 rfl rfl ⟨rfl, rfl⟩) ?_
                    refine a_on 27 rfl (by kernel_rfl) 56 rfl (congrArg Value.bool (decide_eq_true h64)) (fun w_ h_ => o_fieldAddr (k := o66) (fun _ => by kernel_rfl) rfl ⟨rfl, rfl⟩) ?_
                    refine a_on 28 rfl (by kernel_rfl) 56 rfl (congrArg Value.bool (decide_eq_true h64)) (fun w_ h_ => o_load1 (v := (S x68.1)) Tryd.underlying9 rfl rfl h_ (seg_sub 1 rfl) (CellsAt.field (k := 0) (ds := [(S x68.1)]) hc67 rfl) ⟨rfl, rfl⟩) ?_
                    refine a_on 29 rfl (by kernel_rfl) 56 rfl (congrArg Value.bool (decide_eq_true h64)) (fun w_ h_ => o_fieldAddr (k := 2) (fun _ => by kernel_rfl) e29_1 ⟨rfl, rfl⟩) ?_
                    refine a_on 30 rfl (by kernel_rfl) 56 rfl (congrArg Value.bool (decide_eq_true h64)) (fun w_ h_ => o_load1 (v := v_l) Tryd.underlying22 rfl rfl h_ (seg_sub 0 rfl) (CellsAt.one rfl) ⟨rfl, rfl⟩) ?_
                    refine a_on 31 rfl (by kernel_rfl) 56 rfl (congrArg Value.bool (decide_eq_true h64)) (fun w_ h_ => o_move (v := (.int .i64 (k : Int))) e29_3 ⟨rfl, rfl⟩) ?_
                    obtain ⟨b71, o72, hc73, ho74⟩ := ix_exF ceC_len Tryd.underlying22 ti45 h_l (by omega) hx45
                    refine a_on 32 rfl (by kernel_rfl) 56 rfl (congrArg Value.bool (decide_eq_true h64)) (fun w_ h_ => ho74 rfl rfl ⟨rfl, rfl⟩) ?_
                    refine a_on 33 rfl (by kernel_rfl) 56 rfl (congrArg Value.bool (decide_eq_true h64)) (fun w_ h_ => o_fieldAddr (k := o72) (fun _ => by kernel_rfl) rfl ⟨rfl, rfl⟩) ?_
                    refine a_on 34 rfl (by kernel_rfl) 56 rfl (congrArg Value.bool (decide_eq_true h64)) (fun w_ h_ => o_load1 (v := (S x44.1)) Tryd.underlying9 rfl rfl h_ (seg_sub 1 rfl) (CellsAt.field (k := 0) (ds := [(S x44.1)]) hc73 rfl) ⟨rfl, rfl⟩) ?_
                    refine a_done (by kernel_rfl) hH47 ?_
                    refine r_on 35 rfl (by kernel_rfl) 56 rfl (congrArg Value.bool (decide_eq_true h64)) (o_sgeP (a := x68.1) (b := x44.1) rfl rfl ?_)
                    refine r_on 36 rfl (by kernel_rfl) 53 rfl (congrArg Value.bool (decide_eq_false h59)) (o_pick_t (u := (.bool (decide (¬ (x68.1 < x44.1))))) ((rfl : _ = _).trans (congrArg Value.bool (decide_eq_true h64))) rfl ?_)
                    refine r_op 37 rfl (by kernel_rfl) (o_pick_f (u := (.bool (decide (¬ (x68.1 < x44.1))))) ((rfl : _ = _).trans (congrArg Value.bool (decide_eq_false h59))) rfl ?_)
                    refine Rest.done (by kernel_rfl) ?_
                    refine t_norm (hK38 _ _ ?_)
                    refine c_cond rfl (fun h75 => ?_) (fun h75 => ?_)
                    · -- ¬ (x68.1 < x44.1)
                      refine wp_seq_k fun K76 hK76 => ?_
                      refine c_region ?_
                      refine s_op (o_assign (v := (.bool false)) rfl ?_)
                      refine s_nil ?_
                      refine t_norm (hK76 _ _ ?_)
                      refine wp_ret ?_
                      refine b_ret (t_ret (t_ret (b_ret (t_ret (c_ret1 Tryd.results11  (v := (.bool false)) rfl ?_)))))
                      have q77 : (pageR no gsn l) = false := by exact pageR_nc (cells_no2 (k := k) (by omega) hx45 (by rw [show k - 1 = ((k : Int) - 1).toNat by omega]; exact hx69) h75)
                      have hH78 : Has E w48 [R] := (hH47.front 1 rfl).first 1 rfl
                      exact ⟨by rw [q77], hH78⟩
                    · -- not: ¬ (x68.1 < x44.1)
                      refine wp_skip ?_
                      refine b_norm ?_
                      refine t_norm (hK37 _ _ ?_)
                      refine c_region ?_
                      refine s_op (o_move (v := (.int .i64 (k : Int))) e29_3 ?_)
                      refine s_op (o_add (a := (k : Int)) (b := 1) rfl rfl (w64 (by omega) (by omega)) ?_)
                      refine s_op (o_assign (v := (.int .i64 ((k : Int) + 1))) rfl ?_)
                      refine s_nil ?_
                      refine t_norm ⟨l.length - (k + 1), _, rfl, ?_, ?_⟩
                      · omega
                      · exact ⟨(k + 1), rfl, hH47, (by omega), (all_next (show l[k]? = some _ from hx45) ha (by simp only [celOk, Bool.and_eq_true]; exact ⟨by simpa using h49, by unfold valR; simp; omega⟩)), (cells_next (show l[k]? = some _ from hx45) hr (fun p h0 hp => by (have e_ := hp.symm.trans (show l[k - 1]? = some _ from by rw [show k - 1 = ((k : Int) - 1).toNat by omega]; exact hx69); cases e_; exact Classical.not_not.1 h75))), e29_0, e29_1, rfl, e29_27⟩
                  · -- not: 0 < (k : Int)
                    refine a_off (b' := false) 22 rfl (by kernel_rfl) 56 rfl (congrArg Value.bool (decide_eq_false h64)) rfl ?_
                    refine a_off (b' := false) 23 rfl (by kernel_rfl) 56 rfl (congrArg Value.bool (decide_eq_false h64)) rfl ?_
                    refine a_off (b' := false) 24 rfl (by kernel_rfl) 56 rfl (congrArg Value.bool (decide_eq_false h64)) rfl ?_
                    refine a_off (b' := false) 25 rfl (by kernel_rfl) 56 rfl (congrArg Value.bool (decide_eq_false h64)) rfl ?_
                    refine a_off (b' := false) 26 rfl (by kernel_rfl) 56 rfl (congrArg Value.bool (decide_eq_false h64)) rfl ?_
                    refine a_off (b' := false) 27 rfl (by kernel_rfl) 56 rfl (congrArg Value.bool (decide_eq_false h64)) rfl ?_
                    refine a_off (b' := false) 28 rfl (by kernel_rfl) 56 rfl (congrArg Value.bool (decide_eq_false h64)) rfl ?_
                    refine a_off (b' := false) 29 rfl (by kernel_rfl) 56 rfl (congrArg Value.bool (decide_eq_false h64)) rfl ?_
                    refine a_off (b' := false) 30 rfl (by kernel_rfl) 56 rfl (congrArg Value.bool (decide_eq_false h64)) rfl ?_
                    refine a_off (b' := false) 31 rfl (by kernel_rfl) 56 rfl (congrArg Value.bool (decide_eq_false h64)) rfl ?_
                    refine a_off (b' := false) 32 rfl (by kernel_rfl) 56 rfl (congrArg Value.bool (decide_eq_false h64)) rfl ?_
                    refine a_off (b' := false) 33 rfl (by kernel_rfl) 56 rfl (congrArg Value.bool (decide_eq_false h64)) rfl ?_
                    refine a_off (b' := false) 34 rfl (by kernel_rfl) 56 rfl (congrArg Value.bool (decide_eq_false h64)) rfl ?_
                    refine a_done (by kernel_rfl) hH47 ?_
                    refine r_off (b' := false) 35 rfl (by kernel_rfl) 56 rfl (congrArg Value.bool (decide_eq_false h64)) rfl ?_
                    refine r_on 36 rfl (by kernel_rfl) 53 rfl (congrArg Value.bool (decide_eq_false h59)) (o_pick_f (u := (.bool false)) ((rfl : _ = _).trans (congrArg Value.bool (decide_eq_false h64))) rfl ?_)
                    refine r_op 37 rfl (by kernel_rfl) (o_pick_f (u := (.bool false)) ((rfl : _ = _).trans (congrArg Value.bool (decide_eq_false h59))) rfl ?_)
                    refine Rest.done (by kernel_rfl) ?_
                    refine t_norm (hK38 _ _ ?_)
                    refine c_false rfl rfl ?_
                    refine wp_skip ?_
                    refine b_norm ?_
                    refine t_norm (hK37 _ _ ?_)
                    refine c_region ?_
                    refine s_op (o_move (v := (.int .i64 (k : Int))) e29_3 ?_)
                    refine s_op (o_add (a := (k : Int)) (b := 1) rfl rfl (w64 (by omega) (by omega)) ?_)
                    refine s_op (o_assign (v := (.int .i64 ((k : Int) + 1))) rfl ?_)
                    refine s_nil ?_
                    refine t_norm ⟨l.length - (k + 1), _, rfl, ?_, ?_⟩
                    · omega
                    · exact ⟨(k + 1), rfl, hH47, (by omega), (all_next (show l[k]? = some _ from hx45) ha (by simp only [celOk, Bool.and_eq_true]; exact ⟨by simpa using h49, by unfold valR; simp; omega⟩)), (cells_next (show l[k]? = some _ from hx45) hr (fun p h0 _ => absurd h0 (by omega))), e29_0, e29_1, rfl, e29_27⟩
            · -- not: (k : Int) < ((l.length : Nat) : Int)
              refine wp_exit ?_
              refine t_exit (t_exit (x_in (?_)))
              refine t_norm (hK27 _ _ ?_)
              refine wp_seq_k fun K79 hK79 => ?_
              refine c_region ?_
              refine s_op (o_assign (v := (.bool true)) rfl ?_)
              refine s_nil ?_
              refine t_norm (hK79 _ _ ?_)
              refine wp_ret ?_
              refine c_ret1 Tryd.results11  (v := (.bool true)) rfl ?_
              have q80 : (pageR no gsn l) = true := by (have e_ : k = l.length := by omega); rw [e_, List.take_length] at ha hr; exact (pageR_iff.2 ⟨by omega, by rw [cells_end ha hr]; exact decide_eq_true (by omega)⟩)
              have hH81 : Has E w31 [R] := (hH32.front 1 rfl).first 1 rfl
              exact ⟨by rw [q80], hH81⟩
set_option maxHeartbeats 4000000 in
theorem r11get_c {E w : World} {R : List Hp} {no : Int} {gsn : Int} {v_l : Value} {l : List Cel} {key : Bs}  (hH : Has E w [R]) (h_l : Sl R 2 v_l l.length (l.flatMap ceC)) :
    Calls Tryd.prog 15 #[(.agg #[(.int .i64 no), (.int .i64 gsn), v_l]), (S key)] w fun e w' => e = .returned (.agg #[(.bool ((getC l key).1)), (S ((getC l key).2))]) ∧ Has E w' [R] := by
  have hn_ := h_l.le
  refine c_enter (args := [(.agg #[(.int .i64 no), (.int .i64 gsn), v_l]), (S key)]) Tryd.func15 rfl Tryd.ntmps15 (by simp) ?_
  refine wp_seq_k fun K1 hK1 => ?_
  refine c_region ?_
  refine s_op (o_box (cs := #[(.int .i64 no), (.int .i64 gsn), v_l]) rfl rfl hH fun b2 w3 hH4 => ?_)
  refine s_op (o_alloc (cs := #[(.bool false), (S ([] : List UInt8))]) ti29 rfl hH4 fun b5 w6 hH7 => ?_)
  refine s_nil ?_
  refine t_norm (hK1 _ _ ?_)
  refine wp_seq_k fun K8 hK8 => ?_
  refine wp_seq_k fun K9 hK9 => ?_
  refine c_region ?_
  refine s_op (o_assign (v := (.int .i64 0)) rfl ?_)
  refine s_nil ?_
  refine t_norm (hK9 _ _ ?_)
  refine wp_block ?_
  let I11 : Nat → (Nat → Value) → World → Prop := fun n__ r__ w__ => ∃ (k : Nat), n__ = l.length - k ∧ Has E w__ [[Hp.one b5 (.cells #[(.bool false), (S ([] : List UInt8))] 29 (0, 0))], [Hp.one b2 (.cells #[(.int .i64 no), (.int .i64 gsn), v_l] 24 (0, 0))], R] ∧ (k ≤ l.length) ∧ (getC l key = getC (l.drop k) key) ∧ r__ 0 = (.agg #[(.int .i64 no), (.int .i64 gsn), v_l]) ∧ r__ 1 = (S key) ∧ r__ 2 = (.pointer (some ⟨b2, 0, none⟩)) ∧ r__ 4 = (.pointer (some ⟨b5, 0, none⟩)) ∧ r__ 5 = (.int .i64 (k : Int))
  refine c_loop I11 _ ⟨0, rfl, hH7, Nat.zero_le _, rfl, rfl, rfl, rfl, rfl, rfl⟩ ?_
  rintro n_ r14 w12 ⟨k, rfl, hH13, hk, hg, e10_0, e10_1, e10_2, e10_4, e10_5⟩
  refine wp_seq_k fun K15 hK15 => ?_
  refine wp_seq_k fun K16 hK16 => ?_
  refine c_region ?_
  refine s_op (o_move (v := (.int .i64 (k : Int))) e10_5 ?_)
  refine s_op (o_fieldAddr (k := 2) (fun _ => by kernel_rfl) e10_2 ?_)
  refine s_op (o_load1 (v := v_l) Tryd.underlying22 rfl rfl hH13 (seg_sub 1 rfl) (CellsAt.one rfl) ?_)
  refine s_op (o_lenS Tryd.underlying22 rfl h_l ?_)
  refine s_op (o_lss (a := (k : Int)) (b := ((l.length : Nat) : Int)) rfl rfl ?_)
  refine s_nil ?_
  refine t_norm (hK16 _ _ ?_)
  refine c_cond rfl (fun h17 => ?_) (fun h17 => ?_)
  · -- (k : Int) < ((l.length : Nat) : Int)
    refine wp_skip ?_
    refine t_norm (hK15 _ _ ?_)
    refine wp_seq_k fun K18 hK18 => ?_
    refine wp_block ?_
    refine wp_seq_k fun K19 hK19 => ?_
    refine c_region ?_
    refine s_op (o_fieldAddr (k := 2) (fun _ => by kernel_rfl) e10_2 ?_)
    refine s_op (o_load1 (v := v_l) Tryd.underlying22 rfl rfl hH13 (seg_sub 1 rfl) (CellsAt.one rfl) ?_)
    refine s_op (o_move (v := (.int .i64 (k : Int))) e10_5 ?_)
    obtain ⟨x23, hx24⟩ : ∃ x_, l[((k : Int)).toNat]? = some x_ := get_some (by omega)
    refine s_op (o_indexF ceC_len Tryd.underlying22 ti45 rfl h_l rfl rfl (by omega) hx24 fun b20 o21 hc22 => ?_)
    refine s_op (o_fieldAddr (k := o21) (fun _ => by kernel_rfl) rfl ?_)
    refine s_op (o_load1 (v := (S x23.1)) Tryd.underlying9 rfl rfl hH13 (seg_sub 2 rfl) (CellsAt.field (k := 0) (ds := [(S x23.1)]) hc22 rfl) ?_)
    refine s_op (o_move (v := (S key)) e10_1 ?_)
    refine s_op (o_seql (a := x23.1) (b := key) rfl rfl ?_)
    refine s_nil ?_
    refine t_norm (hK19 _ _ ?_)
    refine c_cond rfl (fun h25 => ?_) (fun h25 => ?_)
    · -- x23.1 = key
      refine wp_seq_k fun K26 hK26 => ?_
      refine c_region ?_
      refine s_op (o_fieldAddr (k := 2) (fun _ => by kernel_rfl) e10_2 ?_)
      refine s_op (o_load1 (v := v_l) Tryd.underlying22 rfl rfl hH13 (seg_sub 1 rfl) (CellsAt.one rfl) ?_)
      refine s_op (o_move (v := (.int .i64 (k : Int))) e10_5 ?_)
      refine s_op (o_indexF ceC_len Tryd.underlying22 ti45 rfl h_l rfl rfl (by omega) hx24 fun b27 o28 hc29 => ?_)
      refine s_op (o_fieldAddr (k := o28 + 1) (fun _ => by kernel_rfl) rfl ?_)
      refine s_op (o_load1 (v := (S x23.2)) Tryd.underlying9 rfl rfl hH13 (seg_sub 2 rfl) (CellsAt.field (k := 1) (ds := [(S x23.2)]) hc29 rfl) ?_)
      refine s_op (o_sight (v := (.agg #[(.bool true), (S x23.2)])) (fun _ => by kernel_rfl) ?_)
      refine s_eff (o_storeN (vs := [(.bool true), (S x23.2)]) (c' := #[(.bool true), (S x23.2)]) ti29 e10_4 rfl rfl rfl (by intro u hu; simp only [List.mem_cons, List.not_mem_nil, or_false] at hu; rcases hu with rfl | rfl <;> first | rfl) (by simp) (by kernel_rfl) (hH13.front 0 rfl) fun w30 hH31 => ?_)
      refine s_nil ?_
      refine t_norm (hK26 _ _ ?_)
      refine wp_ret ?_
      refine b_ret (t_ret (t_ret (b_ret (t_ret (c_retC1 Tryd.results15 e10_4 (run_loadVarN (cs := [(.bool true), (S x23.2)]) Tryd.underlying29 rfl ti29 hH31 (seg_sub 0 rfl) (CellsAt.one rfl)) ?_)))))
      have q32 : (getC l key) = (true, x23.2) := by rw [getC_hit hg (show l[k]? = some _ from hx24) h25]
      have hH33 : Has E w30 [R] := (hH31.front 2 rfl).first 1 rfl
      exact ⟨by rw [q32], hH33⟩
    · -- not: x23.1 = key
      refine wp_skip ?_
      refine b_norm ?_
      refine t_norm (hK18 _ _ ?_)
      refine c_region ?_
      refine s_op (o_move (v := (.int .i64 (k : Int))) e10_5 ?_)
      refine s_op (o_add (a := (k : Int)) (b := 1) rfl rfl (w64 (by omega) (by omega)) ?_)
      refine s_op (o_assign (v := (.int .i64 ((k : Int) + 1))) rfl ?_)
      refine s_nil ?_
      refine t_norm ⟨l.length - (k + 1), _, rfl, ?_, ?_⟩
      · omega
      · exact ⟨(k + 1), rfl, hH13, (by omega), (getC_skip hg (show l[k]? = some _ from hx24) h25), e10_0, e10_1, e10_2, e10_4, rfl⟩
  · -- not: (k : Int) < ((l.length : Nat) : Int)
    refine wp_exit ?_
    refine t_exit (t_exit (x_in (?_)))
    refine t_norm (hK8 _ _ ?_)
    refine wp_seq_k fun K34 hK34 => ?_
    refine c_region ?_
    refine s_op (o_sight (v := (.agg #[(.bool false), (S ([] : List UInt8))])) (fun _ => by kernel_rfl) ?_)
    refine s_eff (o_storeN (vs := [(.bool false), (S ([] : List UInt8))]) (c' := #[(.bool false), (S ([] : List UInt8))]) ti29 e10_4 rfl rfl rfl (by intro u hu; simp only [List.mem_cons, List.not_mem_nil, or_false] at hu; rcases hu with rfl | rfl <;> first | rfl) (by simp) (by kernel_rfl) (hH13.front 0 rfl) fun w35 hH36 => ?_)
    refine s_nil ?_
    refine t_norm (hK34 _ _ ?_)
    refine wp_ret ?_
    refine c_retC1 Tryd.results15 e10_4 (run_loadVarN (cs := [(.bool false), (S ([] : List UInt8))]) Tryd.underlying29 rfl ti29 hH36 (seg_sub 0 rfl) (CellsAt.one rfl)) ?_
    have q37 : (getC l key) = (false, ([] : List UInt8)) := by rw [getC_end hg (by omega)]
    have hH38 : Has E w35 [R] := (hH36.front 2 rfl).first 1 rfl
    exact ⟨by rw [q37], hH38⟩
end Go.Q
namespace Go.Q
open Go.Proofs
set_option linter.unusedVariables false
set_option maxRecDepth 100000
attribute [local irreducible] wpList OK Code.wp
set_option maxHeartbeats 4000000 in
theorem pread_c {E w : World} {R : List Hp} {s : Bs}  (hH : Has E w [R]) (hg : CellsAt R 0 0 nibV) :
    Calls Tryd.prog 19 #[(S s)] w fun e w' => ∃ (v1' : Value) (s2' : List Hp), e = .returned (.tuple #[(.agg #[(.int .i64 ((readP s).2.1)), (.int .i64 ((readP s).2.2.1)), v1']), (.bool ((readP s).1))]) ∧ (Own 45 2 v1' ((readP s).2.2.2).length (((readP s).2.2.2).flatMap ceC) s2') ∧ Has E w' [s2', R] := by
  have hr1_ := take_rest_le s 1
  have hr2_ := take_rest_le (takeS s 1).2.1 8
  have hr3_ := take_rest_le (takeS (takeS s 1).2.1 8).2.1 1
  have hto_ := take_one (takeS (takeS s 1).2.1 8).2.1
  have hto1_ := take_one s
  refine c_enter (args := [(S s)]) Tryd.func19 rfl Tryd.ntmps19 (by simp) ?_
  refine wp_seq_k fun K1 hK1 => ?_
  refine c_region ?_
  refine s_op (o_alloc (cs := #[(.int .i64 0), (.int .i64 0), (.slice none 0 0)]) ti24 rfl hH fun b2 w3 hH4 => ?_)
  refine s_op (o_assign (v := (.bool false)) rfl ?_)
  refine s_nil ?_
  refine t_norm (hK1 _ _ ?_)
  refine wp_seq_k fun K5 hK5 => ?_
  refine wp_seq_k fun K6 hK6 => ?_
  refine c_region ?_
  refine s_op (o_move (v := (S s)) rfl ?_)
  refine s_op (o_slen Tryd.underlying9 rfl ?_)
  refine s_op (o_neq (a := (s.length : Int)) (b := 256) rfl rfl ?_)
  refine s_nil ?_
  refine t_norm (hK6 _ _ ?_)
  refine c_cond rfl (fun h7 => ?_) (fun h7 => ?_)
  · -- (s.length : Int) ≠ 256
    refine wp_seq_k fun K8 hK8 => ?_
    refine c_region ?_
    refine s_op (o_sight (v := (.agg #[(.int .i64 0), (.int .i64 0), (.slice none 0 0)])) (fun _ => by kernel_rfl) ?_)
    refine s_eff (o_storeN (vs := [(.int .i64 0), (.int .i64 0), (.slice none 0 0)]) (c' := #[(.int .i64 0), (.int .i64 0), (.slice none 0 0)]) ti24 rfl rfl rfl rfl (by intro u hu; simp only [List.mem_cons, List.not_mem_nil, or_false] at hu; rcases hu with rfl | rfl | rfl <;> first | rfl) (by simp) (by kernel_rfl) (hH4.front 0 rfl) fun w9 hH10 => ?_)
    refine s_op (o_assign (v := (.bool false)) rfl ?_)
    refine s_nil ?_
    refine t_norm (hK8 _ _ ?_)
    refine wp_ret ?_
    refine t_ret (c_retC2 Tryd.results19 rfl (run_loadVarN (cs := [(.int .i64 0), (.int .i64 0), (.slice none 0 0)]) Tryd.underlying24 rfl ti24 hH10 (seg_sub 0 rfl) (CellsAt.one rfl)) (x := (.bool false)) rfl ?_)
    have hE_ := readP_no (s := s) (.inl (by omega))
    have q11 : (readP s).2.1 = 0 := by rw [hE_]
    have q12 : (readP s).2.2.1 = 0 := by rw [hE_]
    have q13 : (readP s).2.2.2 = ([] : List Cel) := by rw [hE_]
    have q14 : (readP s).1 = false := by rw [hE_]
    have hH15 : Has E w9 [[], R] := (Has.nil (hH10.front 1 rfl)).first 2 rfl
    exact ⟨_, _, by rw [q11, q12]; rw [q14], (by rw [q13]; exact (Own.nil 45 2)), hH15⟩
  · -- not: (s.length : Int) ≠ 256
    refine wp_skip ?_
    refine t_norm (hK5 _ _ ?_)
    refine wp_seq_k fun K16 hK16 => ?_
    refine c_region ?_
    refine s_op (o_alloc (cs := #[(.int .i64 0), (.int .i64 0), (.slice none 0 0)]) ti24 rfl hH4 fun b17 w18 hH19 => ?_)
    refine s_nil ?_
    refine t_norm (hK16 _ _ ?_)
    refine wp_seq_k fun K20 hK20 => ?_
    refine c_region ?_
    refine s_op (o_move (v := (S s)) rfl ?_)
    refine s_op (o_callf (vs := #[(S s), (.int .i64 1)]) ca49 rfl (args2 rfl rfl) (take_c hH19.all 1 s (by omega)) ?_)
    rintro _ w23 ⟨rfl, hX21⟩
    refine ⟨_, rfl, ?_⟩
    have hH22 := hX21.of_all
    refine s_op (o_move (v := (.tuple #[(.int .i64 ((takeS s 1).1)), (S ((takeS s 1).2.1)), (.bool ((takeS s 1).2.2))])) rfl ?_)
    refine s_op (o_extract (v := (.int .i64 ((takeS s 1).1))) rfl rfl ?_)
    refine s_op (o_extract (v := (S ((takeS s 1).2.1))) rfl rfl ?_)
    refine s_op (o_extract (v := (.bool ((takeS s 1).2.2))) rfl rfl ?_)
    refine s_op (o_assign (v := (.int .i64 ((takeS s 1).1))) rfl ?_)
    refine s_op (o_assign (v := (S ((takeS s 1).2.1))) rfl ?_)
    refine s_op (o_assign (v := (.bool ((takeS s 1).2.2))) rfl ?_)
    refine s_nil ?_
    refine t_norm (hK20 _ _ ?_)
    refine wp_seq_k fun K24 hK24 => ?_
    refine c_region ?_
    refine s_op (o_move (v := (S ((takeS s 1).2.1))) rfl ?_)
    refine s_op (o_callf (vs := #[(S ((takeS s 1).2.1)), (.int .i64 8)]) ca49 rfl (args2 rfl rfl) (take_c hH22.all 8 ((takeS s 1).2.1) (by omega)) ?_)
    rintro _ w27 ⟨rfl, hX25⟩
    refine ⟨_, rfl, ?_⟩
    have hH26 := hX25.of_all
    refine s_op (o_move (v := (.tuple #[(.int .i64 ((takeS ((takeS s 1).2.1) 8).1)), (S ((takeS ((takeS s 1).2.1) 8).2.1)), (.bool ((takeS ((takeS s 1).2.1) 8).2.2))])) rfl ?_)
    refine s_op (o_extract (v := (.int .i64 ((takeS ((takeS s 1).2.1) 8).1))) rfl rfl ?_)
    refine s_op (o_extract (v := (S ((takeS ((takeS s 1).2.1) 8).2.1))) rfl rfl ?_)
    refine s_op (o_extract (v := (.bool ((takeS ((takeS s 1).2.1) 8).2.2))) rfl rfl ?_)
    refine s_op (o_assign (v := (.int .i64 ((takeS ((takeS s 1).2.1) 8).1))) rfl ?_)
    refine s_op (o_assign (v := (S ((takeS ((takeS s 1).2.1) 8).2.1))) rfl ?_)
    refine s_op (o_assign (v := (.bool ((takeS ((takeS s 1).2.1) 8).2.2))) rfl ?_)
    refine s_nil ?_
    refine t_norm (hK24 _ _ ?_)
    refine wp_seq_k fun K28 hK28 => ?_
    refine c_region ?_
    refine s_op (o_move (v := (S ((takeS ((takeS s 1).2.1) 8).2.1))) rfl ?_)
    refine s_op (o_callf (vs := #[(S ((takeS ((takeS s 1).2.1) 8).2.1)), (.int .i64 1)]) ca49 rfl (args2 rfl rfl) (take_c hH26.all 1 ((takeS ((takeS s 1).2.1) 8).2.1) (by omega)) ?_)
    rintro _ w31 ⟨rfl, hX29⟩
    refine ⟨_, rfl, ?_⟩
    have hH30 := hX29.of_all
    refine s_op (o_move (v := (.tuple #[(.int .i64 ((takeS ((takeS ((takeS s 1).2.1) 8).2.1) 1).1)), (S ((takeS ((takeS ((takeS s 1).2.1) 8).2.1) 1).2.1)), (.bool ((takeS ((takeS ((takeS s 1).2.1) 8).2.1) 1).2.2))])) rfl ?_)
    refine s_op (o_extract (v := (.int .i64 ((takeS ((takeS ((takeS s 1).2.1) 8).2.1) 1).1))) rfl rfl ?_)
    refine s_op (o_extract (v := (S ((takeS ((takeS ((takeS s 1).2.1) 8).2.1) 1).2.1))) rfl rfl ?_)
    refine s_op (o_extract (v := (.bool ((takeS ((takeS ((takeS s 1).2.1) 8).2.1) 1).2.2))) rfl rfl ?_)
    refine s_op (o_assign (v := (.int .i64 ((takeS ((takeS ((takeS s 1).2.1) 8).2.1) 1).1))) rfl ?_)
    refine s_op (o_assign (v := (S ((takeS ((takeS ((takeS s 1).2.1) 8).2.1) 1).2.1))) rfl ?_)
    refine s_op (o_assign (v := (.bool ((takeS ((takeS ((takeS s 1).2.1) 8).2.1) 1).2.2))) rfl ?_)
    refine s_nil ?_
    refine t_norm (hK28 _ _ ?_)
    refine wp_seq_k fun K32 hK32 => ?_
    refine c_region ?_
    refine s_op (o_move (v := (.int .i64 ((takeS s 1).1))) rfl ?_)
    refine s_op (o_move (v := (.int .i64 ((takeS ((takeS s 1).2.1) 8).1))) rfl ?_)
    refine s_op (o_fieldAddr (k := 0) (fun _ => by kernel_rfl) rfl ?_)
    refine s_eff (o_store1 (c' := #[(.int .i64 ((takeS s 1).1)), (.int .i64 0), (.slice none 0 0)]) ti3 rfl rfl rfl (by simp) rfl (hH30.front 0 rfl) fun w33 hH34 => ?_)
    refine s_op (o_fieldAddr (k := 1) (fun _ => by kernel_rfl) rfl ?_)
    refine s_eff (o_store1 (c' := #[(.int .i64 ((takeS s 1).1)), (.int .i64 ((takeS ((takeS s 1).2.1) 8).1)), (.slice none 0 0)]) ti3 rfl rfl rfl (by simp) rfl (hH34.front 0 rfl) fun w35 hH36 => ?_)
    refine s_nil ?_
    refine t_norm (hK32 _ _ ?_)
    refine wp_seq_k fun K37 hK37 => ?_
    refine wp_block ?_
    let I39 : Nat → (Nat → Value) → World → Prop := fun n__ r__ w__ => ∃ (ok : Bool) (n : Int) (rest : Bs) (vo : Value) (so : List Hp) (acc : List Cel), n__ = n.toNat ∧ Has E w__ [so, [Hp.one b17 (.cells #[(.int .i64 ((takeS s 1).1)), (.int .i64 ((takeS ((takeS s 1).2.1) 8).1)), vo] 24 (0, 0))], [Hp.one b2 (.cells #[(.int .i64 0), (.int .i64 0), (.slice none 0 0)] 24 (0, 0))], R] ∧ (Own 45 2 vo acc.length (acc.flatMap ceC) so) ∧ (acc.length ≤ 8) ∧ (rest.length ≤ 256) ∧ (n ≤ 255) ∧ (goP0 s = goS ok n rest acc) ∧ r__ 0 = (S s) ∧ r__ 2 = (.pointer (some ⟨b2, 0, none⟩)) ∧ r__ 3 = (.bool false) ∧ r__ 4 = (.pointer (some ⟨b17, 0, none⟩)) ∧ r__ 5 = (.int .i64 ((takeS s 1).1)) ∧ r__ 6 = (S rest) ∧ r__ 8 = (.int .i64 ((takeS ((takeS s 1).2.1) 8).1)) ∧ r__ 9 = (.bool ok) ∧ r__ 10 = (.int .i64 n) ∧ r__ 15 = (.bool (decide ((s.length : Int) ≠ 256)))
    have hH40 : Has E w35 [[], [Hp.one b17 (.cells #[(.int .i64 ((takeS s 1).1)), (.int .i64 ((takeS ((takeS s 1).2.1) 8).1)), (.slice none 0 0)] 24 (0, 0))], [Hp.one b2 (.cells #[(.int .i64 0), (.int .i64 0), (.slice none 0 0)] 24 (0, 0))], R] := (Has.nil (((hH36.front 2 rfl).front 2 rfl).front 2 rfl)).first 4 rfl
    refine c_loop I39 _ ⟨((takeS ((takeS s 1).2.1) 8).2.2), ((takeS ((takeS ((takeS s 1).2.1) 8).2.1) 1).1), ((takeS ((takeS ((takeS s 1).2.1) 8).2.1) 1).2.1), (.slice none 0 0), [], [], rfl, hH40, Own.nil 45 2, (by simp), (by omega), (by omega), goS_start s, rfl, rfl, rfl, rfl, rfl, rfl, rfl, rfl, rfl, rfl⟩ ?_
    rintro n_ r43 w41 ⟨ok, n, rest, vo, so, acc, rfl, hH42, hoo, hal, hrl, hn, hgo, e38_0, e38_2, e38_3, e38_4, e38_5, e38_6, e38_8, e38_9, e38_10, e38_15⟩
    refine wp_seq_k fun K44 hK44 => ?_
    refine wp_seq_k fun K45 hK45 => ?_
    refine c_region ?_
    refine s_op (o_move (v := (.bool ok)) e38_9 ?_)
    refine s_op (o_move (v := (.bool ok)) rfl ?_)
    rcases Bool.eq_false_or_eq_true ok with h46 | h46
    · -- ok
      refine s_on 40 rfl (congrArg Value.bool h46) (o_move (v := (.int .i64 n)) e38_10 ?_)
      refine s_on 40 rfl (congrArg Value.bool h46) (o_gtr (a := n) (b := 0) rfl rfl ?_)
      refine s_op (o_pick_t (u := (.bool (decide (0 < n)))) ((rfl : _ = _).trans (congrArg Value.bool h46)) rfl ?_)
      refine s_op (o_move (v := (.bool (decide (0 < n)))) rfl ?_)
      by_cases h47 : 0 < n
      · -- 0 < n
        refine s_on 44 rfl (congrArg Value.bool (decide_eq_true h47)) (o_fieldAddr (k := 2) (fun _ => by kernel_rfl) e38_4 ?_)
        refine s_on 44 rfl (congrArg Value.bool (decide_eq_true h47)) (o_load1 (v := vo) Tryd.underlying22 rfl rfl hH42 (seg_sub 1 rfl) (CellsAt.one rfl) ?_)
        refine s_on 44 rfl (congrArg Value.bool (decide_eq_true h47)) (o_lenS Tryd.underlying22 rfl hoo.sl ?_)
        refine s_on 44 rfl (congrArg Value.bool (decide_eq_true h47)) (o_lss (a := ((acc.length : Nat) : Int)) (b := 8) rfl rfl ?_)
        refine s_op (o_pick_t (u := (.bool (decide (((acc.length : Nat) : Int) < 8)))) ((rfl : _ = _).trans (congrArg Value.bool (decide_eq_true h47))) rfl ?_)
        refine s_nil ?_
        refine t_norm (hK45 _ _ ?_)
        refine c_cond rfl (fun h48 => ?_) (fun h48 => ?_)
        · -- ((acc.length : Nat) : Int) < 8
          refine wp_skip ?_
          refine t_norm (hK44 _ _ ?_)
          refine wp_seq_k fun K49 hK49 => ?_
          refine wp_block ?_
          refine wp_seq_k fun K50 hK50 => ?_
          refine c_region ?_
          refine s_op (o_alloc (cs := #[(S ([] : List UInt8)), (S ([] : List UInt8))]) ti45 rfl hH42 fun b51 w52 hH53 => ?_)
          refine s_nil ?_
          refine t_norm (hK50 _ _ ?_)
          refine wp_seq_k fun K54 hK54 => ?_
          refine c_region ?_
          refine s_op (o_move (v := (S rest)) e38_6 ?_)
          refine s_op (o_callf (vs := #[(S rest)]) ca50 rfl (args1 rfl) (text_c (s := rest) hH53.all (by first | omega | (simp only []; omega) | (simp; done) | (simp; omega))) ?_)
          rintro _ w57 ⟨rfl, hX55⟩
          refine ⟨_, rfl, ?_⟩
          have hH56 := hX55.of_all
          have htl_ := textS_le rest
          refine s_op (o_move (v := (.tuple #[(S ((textS rest).1)), (S ((textS rest).2.1)), (.bool ((textS rest).2.2))])) rfl ?_)
          refine s_op (o_extract (v := (S ((textS rest).1))) rfl rfl ?_)
          refine s_op (o_extract (v := (S ((textS rest).2.1))) rfl rfl ?_)
          refine s_op (o_extract (v := (.bool ((textS rest).2.2))) rfl rfl ?_)
          refine s_op (o_fieldAddr (k := 0) (fun _ => by kernel_rfl) rfl ?_)
          refine s_eff (o_store1 (c' := #[(S ((textS rest).1)), (S ([] : List UInt8))]) ti9 rfl rfl rfl (by simp) rfl (hH56.front 0 rfl) fun w58 hH59 => ?_)
          refine s_op (o_assign (v := (S ((textS rest).2.1))) rfl ?_)
          refine s_op (o_assign (v := (.bool ((textS rest).2.2))) rfl ?_)
          refine s_nil ?_
          refine t_norm (hK54 _ _ ?_)
          refine wp_seq_k fun K60 hK60 => ?_
          refine wp_seq_k fun K61 hK61 => ?_
          refine c_region ?_
          refine s_op (o_move (v := (.bool ((textS rest).2.2))) rfl ?_)
          refine s_nil ?_
          refine t_norm (hK61 _ _ ?_)
          refine c_condb rfl (fun h62 => ?_) (fun h62 => ?_)
          · -- (textS rest).2.2
            refine c_region ?_
            refine s_op (o_move (v := (S ((textS rest).2.1))) rfl ?_)
            refine s_op (o_callf (vs := #[(S ((textS rest).2.1))]) ca50 rfl (args1 rfl) (text_c (s := (textS rest).2.1) hH59.all (by first | omega | (simp only []; omega) | (simp; done) | (simp; omega))) ?_)
            rintro _ w65 ⟨rfl, hX63⟩
            refine ⟨_, rfl, ?_⟩
            have hH64 := hX63.of_all
            have htl_ := textS_le ((textS rest).2.1)
            refine s_op (o_move (v := (.tuple #[(S ((textS ((textS rest).2.1)).1)), (S ((textS ((textS rest).2.1)).2.1)), (.bool ((textS ((textS rest).2.1)).2.2))])) rfl ?_)
            refine s_op (o_extract (v := (S ((textS ((textS rest).2.1)).1))) rfl rfl ?_)
            refine s_op (o_extract (v := (S ((textS ((textS rest).2.1)).2.1))) rfl rfl ?_)
            refine s_op (o_extract (v := (.bool ((textS ((textS rest).2.1)).2.2))) rfl rfl ?_)
            refine s_op (o_fieldAddr (k := 1) (fun _ => by kernel_rfl) rfl ?_)
            refine s_eff (o_store1 (c' := #[(S ((textS rest).1)), (S ((textS ((textS rest).2.1)).1))]) ti9 rfl rfl rfl (by simp) rfl (hH64.front 0 rfl) fun w66 hH67 => ?_)
            refine s_op (o_assign (v := (S ((textS ((textS rest).2.1)).2.1))) rfl ?_)
            refine s_op (o_assign (v := (.bool ((textS ((textS rest).2.1)).2.2))) rfl ?_)
            refine s_nil ?_
            refine t_norm (hK60 _ _ ?_)
            refine c_region ?_
            refine s_op (o_fieldAddr (k := 2) (fun _ => by kernel_rfl) e38_4 ?_)
            refine s_op (o_load1 (v := vo) Tryd.underlying22 rfl rfl hH67 (seg_sub 2 rfl) (CellsAt.one rfl) ?_)
            refine s_op (o_loadN (cs := [(S ((textS rest).1)), (S ((textS ((textS rest).2.1)).1))]) Tryd.underlying45 rfl ti45 rfl hH67 (seg_sub 0 rfl) (CellsAt.one rfl) ?_)
            refine s_op (o_buildSlice (ps := #[(0, (.agg #[(S ((textS rest).1)), (S ((textS ((textS rest).2.1)).1))]))]) (cells := #[(S ((textS rest).1)), (S ((textS ((textS rest).2.1)).1))]) Tryd.underlying22 ti45 (by decide) (parts1 rfl) (by kernel_rfl) hH67 fun b68 w69 hH70 => ?_)
            refine s_op (o_append Tryd.underlying22 ti45 rfl (by decide) rfl hoo rfl (sl_litF (f := ceC) (l := [(((textS rest).1, (textS ((textS rest).2.1)).1) : Cel)]) ceC_len rfl rfl (by simp)) (hH70.front 2 rfl) (seg_sub 0 rfl) (one_ceC _) (by simp; omega) (by simp; omega) fun v71 s72 w74 ho73 hH75 => ?_)
            have ho73 : Own 45 2 v71 (acc ++ [(((textS rest).1, (textS ((textS rest).2.1)).1) : Cel)]).length ((acc ++ [(((textS rest).1, (textS ((textS rest).2.1)).1) : Cel)]).flatMap ceC) s72 := ho73.appF
            refine s_op (o_fieldAddr (k := 2) (fun _ => by kernel_rfl) e38_4 ?_)
            refine s_eff (o_store1 (c' := #[(.int .i64 ((takeS s 1).1)), (.int .i64 ((takeS ((takeS s 1).2.1) 8).1)), v71]) ti22 rfl rfl ho73.one (by simp) rfl (hH75.front 3 rfl) fun w76 hH77 => ?_)
            refine s_nil ?_
            refine b_norm ?_
            refine t_norm (hK49 _ _ ?_)
            refine c_region ?_
            refine s_op (o_move (v := (.int .i64 n)) e38_10 ?_)
            refine s_op (o_sub (a := n) (b := 1) rfl rfl (w64 (by omega) (by omega)) ?_)
            refine s_op (o_assign (v := (.int .i64 (n - 1))) rfl ?_)
            refine s_nil ?_
            have hH78 : Has E w76 [s72, [Hp.one b17 (.cells #[(.int .i64 ((takeS s 1).1)), (.int .i64 ((takeS ((takeS s 1).2.1) 8).1)), v71] 24 (0, 0))], [Hp.one b2 (.cells #[(.int .i64 0), (.int .i64 0), (.slice none 0 0)] 24 (0, 0))], R] := ((((hH77.front 5 rfl).front 5 rfl).front 2 rfl).front 3 rfl).first 4 rfl
            refine t_norm ⟨(n - 1).toNat, _, rfl, ?_, ?_⟩
            · omega
            · exact ⟨((textS ((textS rest).2.1)).2.2), (n - 1), ((textS ((textS rest).2.1)).2.1), v71, s72, (acc ++ [(((textS rest).1, (textS ((textS rest).2.1)).1) : Cel)]), rfl, hH78, (ho73), (by simp only [List.length_append, List.length_cons, List.length_nil]; omega), (by omega), (by omega), (by ((have h_ := goS_step (r3 := ((textS ((textS rest).2.1)).2.1)) hgo h46 (by omega) (by omega)); rw [if_pos (by simpa using h62)] at h_; exact h_)), e38_0, e38_2, e38_3, e38_4, e38_5, rfl, e38_8, rfl, rfl, e38_15⟩
          · -- not: (textS rest).2.2
            refine wp_skip ?_
            refine t_norm (hK60 _ _ ?_)
            refine c_region ?_
            refine s_op (o_fieldAddr (k := 2) (fun _ => by kernel_rfl) e38_4 ?_)
            refine s_op (o_load1 (v := vo) Tryd.underlying22 rfl rfl hH59 (seg_sub 2 rfl) (CellsAt.one rfl) ?_)
            refine s_op (o_loadN (cs := [(S ((textS rest).1)), (S ([] : List UInt8))]) Tryd.underlying45 rfl ti45 rfl hH59 (seg_sub 0 rfl) (CellsAt.one rfl) ?_)
            refine s_op (o_buildSlice (ps := #[(0, (.agg #[(S ((textS rest).1)), (S ([] : List UInt8))]))]) (cells := #[(S ((textS rest).1)), (S ([] : List UInt8))]) Tryd.underlying22 ti45 (by decide) (parts1 rfl) (by kernel_rfl) hH59 fun b79 w80 hH81 => ?_)
            refine s_op (o_append Tryd.underlying22 ti45 rfl (by decide) rfl hoo rfl (sl_litF (f := ceC) (l := [(((textS rest).1, ([] : List UInt8)) : Cel)]) ceC_len rfl rfl (by simp)) (hH81.front 2 rfl) (seg_sub 0 rfl) (one_ceC _) (by simp; omega) (by simp; omega) fun v82 s83 w85 ho84 hH86 => ?_)
            have ho84 : Own 45 2 v82 (acc ++ [(((textS rest).1, ([] : List UInt8)) : Cel)]).length ((acc ++ [(((textS rest).1, ([] : List UInt8)) : Cel)]).flatMap ceC) s83 := ho84.appF
            refine s_op (o_fieldAddr (k := 2) (fun _ => by kernel_rfl) e38_4 ?_)
            refine s_eff (o_store1 (c' := #[(.int .i64 ((takeS s 1).1)), (.int .i64 ((takeS ((takeS s 1).2.1) 8).1)), v82]) ti22 rfl rfl ho84.one (by simp) rfl (hH86.front 3 rfl) fun w87 hH88 => ?_)
            refine s_nil ?_
            refine b_norm ?_
            refine t_norm (hK49 _ _ ?_)
            refine c_region ?_
            refine s_op (o_move (v := (.int .i64 n)) e38_10 ?_)
            refine s_op (o_sub (a := n) (b := 1) rfl rfl (w64 (by omega) (by omega)) ?_)
            refine s_op (o_assign (v := (.int .i64 (n - 1))) rfl ?_)
            refine s_nil ?_
            have hH89 : Has E w87 [s83, [Hp.one b17 (.cells #[(.int .i64 ((takeS s 1).1)), (.int .i64 ((takeS ((takeS s 1).2.1) 8).1)), v82] 24 (0, 0))], [Hp.one b2 (.cells #[(.int .i64 0), (.int .i64 0), (.slice none 0 0)] 24 (0, 0))], R] := ((((hH88.front 5 rfl).front 5 rfl).front 2 rfl).front 3 rfl).first 4 rfl
            refine t_norm ⟨(n - 1).toNat, _, rfl, ?_, ?_⟩
            · omega
            · exact ⟨((textS rest).2.2), (n - 1), ((textS rest).2.1), v82, s83, (acc ++ [(((textS rest).1, ([] : List UInt8)) : Cel)]), rfl, hH89, (ho84), (by simp only [List.length_append, List.length_cons, List.length_nil]; omega), (by omega), (by omega), (by ((have h_ := goS_step (r3 := ((textS rest).2.1)) hgo h46 (by omega) (by omega)); rw [if_neg (by simpa using h62)] at h_; rw [show (textS rest).2.2 = false by simpa using h62]; exact h_)), e38_0, e38_2, e38_3, e38_4, e38_5, rfl, e38_8, rfl, rfl, e38_15⟩
        · -- not: ((acc.length : Nat) : Int) < 8
          refine wp_exit ?_
          refine t_exit (t_exit (x_in (?_)))
          refine t_norm (hK37 _ _ ?_)
          refine wp_seq_k fun K90 hK90 => ?_
          refine wp_seq_k fun K91 hK91 => ?_
          refine c_region ?_
          refine s_op (o_move (v := (.bool ok)) e38_9 ?_)
          refine s_op (o_not (b := true) ((rfl : _ = _).trans (congrArg Value.bool h46)) ?_)
          refine s_op (o_move (v := (.bool false)) rfl ?_)
          refine s_on 75 rfl rfl (o_loadN (cs := [(.int .i64 ((takeS s 1).1)), (.int .i64 ((takeS ((takeS s 1).2.1) 8).1)), vo]) Tryd.underlying24 rfl ti24 e38_4 hH42 (seg_sub 1 rfl) (CellsAt.one rfl) ?_)
          refine s_on 75 rfl rfl (o_callf (vs := #[(.agg #[(.int .i64 ((takeS s 1).1)), (.int .i64 ((takeS ((takeS s 1).2.1) 8).1)), vo])]) ca21 rfl (args1 rfl) (plaid_c (no := (takeS s 1).1) (gsn := (takeS ((takeS s 1).2.1) 8).1) (l := acc) hH42.all (hoo.sl.mono (seg_sub 0 rfl)) (hg.mono (seg_sub 3 rfl))) ?_)
          rintro _ w94 ⟨rfl, hX92⟩
          refine ⟨_, rfl, ?_⟩
          have hH93 := hX92.of_all
          have hll_ := laidP_le ((takeS s 1).1) ((takeS ((takeS s 1).2.1) 8).1) acc
          refine s_on 75 rfl rfl (o_move (v := (S s)) e38_0 ?_)
          refine s_on 75 rfl rfl (o_sneq (a := (laidP ((takeS s 1).1) ((takeS ((takeS s 1).2.1) 8).1) acc)) (b := s) rfl rfl ?_)
          refine s_op (o_pick_f (u := (.bool (decide ((laidP ((takeS s 1).1) ((takeS ((takeS s 1).2.1) 8).1) acc) ≠ s)))) rfl rfl ?_)
          refine s_nil ?_
          refine t_norm (hK91 _ _ ?_)
          refine c_cond rfl (fun h95 => ?_) (fun h95 => ?_)
          · -- (laidP ((takeS s 1).1) ((takeS ((takeS s 1).2.1) 8).1) acc) ≠ s
            refine wp_seq_k fun K96 hK96 => ?_
            refine c_region ?_
            refine s_op (o_sight (v := (.agg #[(.int .i64 0), (.int .i64 0), (.slice none 0 0)])) (fun _ => by kernel_rfl) ?_)
            refine s_eff (o_storeN (vs := [(.int .i64 0), (.int .i64 0), (.slice none 0 0)]) (c' := #[(.int .i64 0), (.int .i64 0), (.slice none 0 0)]) ti24 e38_2 rfl rfl rfl (by intro u hu; simp only [List.mem_cons, List.not_mem_nil, or_false] at hu; rcases hu with rfl | rfl | rfl <;> first | rfl) (by simp) (by kernel_rfl) (hH93.front 2 rfl) fun w97 hH98 => ?_)
            refine s_op (o_assign (v := (.bool false)) rfl ?_)
            refine s_nil ?_
            refine t_norm (hK96 _ _ ?_)
            refine wp_ret ?_
            refine t_ret (c_retC2 Tryd.results19 e38_2 (run_loadVarN (cs := [(.int .i64 0), (.int .i64 0), (.slice none 0 0)]) Tryd.underlying24 rfl ti24 hH98 (seg_sub 0 rfl) (CellsAt.one rfl)) (x := (.bool false)) rfl ?_)
            have hge_ := goS_end hgo (by first | exact .inr (.inl (by omega)) | exact .inr (.inr (by omega)) | exact .inl (by simpa using h46))
            have hE_ := readP_no (s := s) (by rw [hge_]; first | exact .inr (.inl (by simpa using h7)) | exact .inr (.inr h7) | exact .inr (.inl (by simpa using h46)) | exact .inr (.inr h46) | exact .inr (.inl (by simpa using h47)) | exact .inr (.inr h47) | exact .inr (.inl (by simpa using h48)) | exact .inr (.inr h48) | exact .inr (.inl (by simpa using h95)) | exact .inr (.inr h95))
            have q99 : (readP s).2.1 = 0 := by rw [hE_]
            have q100 : (readP s).2.2.1 = 0 := by rw [hE_]
            have q101 : (readP s).2.2.2 = ([] : List Cel) := by rw [hE_]
            have q102 : (readP s).1 = false := by rw [hE_]
            have hH103 : Has E w97 [[], R] := (Has.nil (hH98.front 3 rfl)).first 2 rfl
            exact ⟨_, _, by rw [q99, q100]; rw [q102], (by rw [q101]; exact (Own.nil 45 2)), hH103⟩
          · -- not: (laidP ((takeS s 1).1) ((takeS ((takeS s 1).2.1) 8).1) acc) ≠ s
            refine wp_skip ?_
            refine t_norm (hK90 _ _ ?_)
            refine wp_seq_k fun K104 hK104 => ?_
            refine c_region ?_
            refine s_op (o_loadN (cs := [(.int .i64 ((takeS s 1).1)), (.int .i64 ((takeS ((takeS s 1).2.1) 8).1)), vo]) Tryd.underlying24 rfl ti24 e38_4 hH93 (seg_sub 1 rfl) (CellsAt.one rfl) ?_)
            refine s_eff (o_storeN (vs := [(.int .i64 ((takeS s 1).1)), (.int .i64 ((takeS ((takeS s 1).2.1) 8).1)), vo]) (c' := #[(.int .i64 ((takeS s 1).1)), (.int .i64 ((takeS ((takeS s 1).2.1) 8).1)), vo]) ti24 e38_2 rfl rfl rfl (by intro u hu; simp only [List.mem_cons, List.not_mem_nil, or_false] at hu; rcases hu with rfl | rfl | rfl <;> first | rfl | exact hoo.one) (by simp) (by kernel_rfl) (hH93.front 2 rfl) fun w105 hH106 => ?_)
            refine s_op (o_assign (v := (.bool true)) rfl ?_)
            refine s_nil ?_
            refine t_norm (hK104 _ _ ?_)
            refine wp_ret ?_
            refine c_retC2 Tryd.results19 e38_2 (run_loadVarN (cs := [(.int .i64 ((takeS s 1).1)), (.int .i64 ((takeS ((takeS s 1).2.1) 8).1)), vo]) Tryd.underlying24 rfl ti24 hH106 (seg_sub 0 rfl) (CellsAt.one rfl)) (x := (.bool true)) rfl ?_
            have hge_ := goS_end hgo (by first | exact .inr (.inl (by omega)) | exact .inr (.inr (by omega)))
            rw [h46] at hge_
            have hE_ := readP_yes (s := s) (by omega) hge_ (Classical.not_not.1 h95)
            have q107 : (readP s).2.1 = (takeS s 1).1 := by rw [hE_]
            have q108 : (readP s).2.2.1 = (takeS ((takeS s 1).2.1) 8).1 := by rw [hE_]
            have q109 : (readP s).2.2.2 = acc := by rw [hE_]
            have q110 : (readP s).1 = true := by rw [hE_]
            have hH111 : Has E w105 [so, R] := ((hH106.front 3 rfl).front 2 rfl).first 2 rfl
            exact ⟨_, _, by rw [q107, q108]; rw [q110], (by rw [q109]; exact hoo), hH111⟩
      · -- not: 0 < n
        refine s_off (b' := false) 44 rfl (congrArg Value.bool (decide_eq_false h47)) rfl ?_
        refine s_off (b' := false) 44 rfl (congrArg Value.bool (decide_eq_false h47)) rfl ?_
        refine s_off (b' := false) 44 rfl (congrArg Value.bool (decide_eq_false h47)) rfl ?_
        refine s_off (b' := false) 44 rfl (congrArg Value.bool (decide_eq_false h47)) rfl ?_
        refine s_op (o_pick_f (u := (.bool false)) ((rfl : _ = _).trans (congrArg Value.bool (decide_eq_false h47))) rfl ?_)
        refine s_nil ?_
        refine t_norm (hK45 _ _ ?_)
        refine c_false rfl rfl ?_
        refine wp_exit ?_
        refine t_exit (t_exit (x_in (?_)))
        refine t_norm (hK37 _ _ ?_)
        refine wp_seq_k fun K112 hK112 => ?_
        refine wp_seq_k fun K113 hK113 => ?_
        refine c_region ?_
        refine s_op (o_move (v := (.bool ok)) e38_9 ?_)
        refine s_op (o_not (b := true) ((rfl : _ = _).trans (congrArg Value.bool h46)) ?_)
        refine s_op (o_move (v := (.bool false)) rfl ?_)
        refine s_on 75 rfl rfl (o_loadN (cs := [(.int .i64 ((takeS s 1).1)), (.int .i64 ((takeS ((takeS s 1).2.1) 8).1)), vo]) Tryd.underlying24 rfl ti24 e38_4 hH42 (seg_sub 1 rfl) (CellsAt.one rfl) ?_)
        refine s_on 75 rfl rfl (o_callf (vs := #[(.agg #[(.int .i64 ((takeS s 1).1)), (.int .i64 ((takeS ((takeS s 1).2.1) 8).1)), vo])]) ca21 rfl (args1 rfl) (plaid_c (no := (takeS s 1).1) (gsn := (takeS ((takeS s 1).2.1) 8).1) (l := acc) hH42.all (hoo.sl.mono (seg_sub 0 rfl)) (hg.mono (seg_sub 3 rfl))) ?_)
        rintro _ w116 ⟨rfl, hX114⟩
        refine ⟨_, rfl, ?_⟩
        have hH115 := hX114.of_all
        have hll_ := laidP_le ((takeS s 1).1) ((takeS ((takeS s 1).2.1) 8).1) acc
        refine s_on 75 rfl rfl (o_move (v := (S s)) e38_0 ?_)
        refine s_on 75 rfl rfl (o_sneq (a := (laidP ((takeS s 1).1) ((takeS ((takeS s 1).2.1) 8).1) acc)) (b := s) rfl rfl ?_)
        refine s_op (o_pick_f (u := (.bool (decide ((laidP ((takeS s 1).1) ((takeS ((takeS s 1).2.1) 8).1) acc) ≠ s)))) rfl rfl ?_)
        refine s_nil ?_
        refine t_norm (hK113 _ _ ?_)
        refine c_cond rfl (fun h117 => ?_) (fun h117 => ?_)
        · -- (laidP ((takeS s 1).1) ((takeS ((takeS s 1).2.1) 8).1) acc) ≠ s
          refine wp_seq_k fun K118 hK118 => ?_
          refine c_region ?_
          refine s_op (o_sight (v := (.agg #[(.int .i64 0), (.int .i64 0), (.slice none 0 0)])) (fun _ => by kernel_rfl) ?_)
          refine s_eff (o_storeN (vs := [(.int .i64 0), (.int .i64 0), (.slice none 0 0)]) (c' := #[(.int .i64 0), (.int .i64 0), (.slice none 0 0)]) ti24 e38_2 rfl rfl rfl (by intro u hu; simp only [List.mem_cons, List.not_mem_nil, or_false] at hu; rcases hu with rfl | rfl | rfl <;> first | rfl) (by simp) (by kernel_rfl) (hH115.front 2 rfl) fun w119 hH120 => ?_)
          refine s_op (o_assign (v := (.bool false)) rfl ?_)
          refine s_nil ?_
          refine t_norm (hK118 _ _ ?_)
          refine wp_ret ?_
          refine t_ret (c_retC2 Tryd.results19 e38_2 (run_loadVarN (cs := [(.int .i64 0), (.int .i64 0), (.slice none 0 0)]) Tryd.underlying24 rfl ti24 hH120 (seg_sub 0 rfl) (CellsAt.one rfl)) (x := (.bool false)) rfl ?_)
          have hge_ := goS_end hgo (by first | exact .inr (.inl (by omega)) | exact .inr (.inr (by omega)) | exact .inl (by simpa using h46))
          have hE_ := readP_no (s := s) (by rw [hge_]; first | exact .inr (.inl (by simpa using h7)) | exact .inr (.inr h7) | exact .inr (.inl (by simpa using h46)) | exact .inr (.inr h46) | exact .inr (.inl (by simpa using h47)) | exact .inr (.inr h47) | exact .inr (.inl (by simpa using h117)) | exact .inr (.inr h117))
          have q121 : (readP s).2.1 = 0 := by rw [hE_]
          have q122 : (readP s).2.2.1 = 0 := by rw [hE_]
          have q123 : (readP s).2.2.2 = ([] : List Cel) := by rw [hE_]
          have q124 : (readP s).1 = false := by rw [hE_]
          have hH125 : Has E w119 [[], R] := (Has.nil (hH120.front 3 rfl)).first 2 rfl
          exact ⟨_, _, by rw [q121, q122]; rw [q124], (by rw [q123]; exact (Own.nil 45 2)), hH125⟩
        · -- not: (laidP ((takeS s 1).1) ((takeS ((takeS s 1).2.1) 8).1) acc) ≠ s
          refine wp_skip ?_
          refine t_norm (hK112 _ _ ?_)
          refine wp_seq_k fun K126 hK126 => ?_
          refine c_region ?_
          refine s_op (o_loadN (cs := [(.int .i64 ((takeS s 1).1)), (.int .i64 ((takeS ((takeS s 1).2.1) 8).1)), vo]) Tryd.underlying24 rfl ti24 e38_4 hH115 (seg_sub 1 rfl) (CellsAt.one rfl) ?_)
          refine s_eff (o_storeN (vs := [(.int .i64 ((takeS s 1).1)), (.int .i64 ((takeS ((takeS s 1).2.1) 8).1)), vo]) (c' := #[(.int .i64 ((takeS s 1).1)), (.int .i64 ((takeS ((takeS s 1).2.1) 8).1)), vo]) ti24 e38_2 rfl rfl rfl (by intro u hu; simp only [List.mem_cons, List.not_mem_nil, or_false] at hu; rcases hu with rfl | rfl | rfl <;> first | rfl | exact hoo.one) (by simp) (by kernel_rfl) (hH115.front 2 rfl) fun w127 hH128 => ?_)
          refine s_op (o_assign (v := (.bool true)) rfl ?_)
          refine s_nil ?_
          refine t_norm (hK126 _ _ ?_)
          refine wp_ret ?_
          refine c_retC2 Tryd.results19 e38_2 (run_loadVarN (cs := [(.int .i64 ((takeS s 1).1)), (.int .i64 ((takeS ((takeS s 1).2.1) 8).1)), vo]) Tryd.underlying24 rfl ti24 hH128 (seg_sub 0 rfl) (CellsAt.one rfl)) (x := (.bool true)) rfl ?_
          have hge_ := goS_end hgo (by first | exact .inr (.inl (by omega)) | exact .inr (.inr (by omega)))
          rw [h46] at hge_
          have hE_ := readP_yes (s := s) (by omega) hge_ (Classical.not_not.1 h117)
          have q129 : (readP s).2.1 = (takeS s 1).1 := by rw [hE_]
          have q130 : (readP s).2.2.1 = (takeS ((takeS s 1).2.1) 8).1 := by rw [hE_]
          have q131 : (readP s).2.2.2 = acc := by rw [hE_]
          have q132 : (readP s).1 = true := by rw [hE_]
          have hH133 : Has E w127 [so, R] := ((hH128.front 3 rfl).front 2 rfl).first 2 rfl
          exact ⟨_, _, by rw [q129, q130]; rw [q132], (by rw [q131]; exact hoo), hH133⟩
    · -- not: ok
      refine s_off (b' := false) 40 rfl (congrArg Value.bool h46) rfl ?_
      refine s_off (b' := false) 40 rfl (congrArg Value.bool h46) rfl ?_
      refine s_op (o_pick_f (u := (.bool false)) ((rfl : _ = _).trans (congrArg Value.bool h46)) rfl ?_)
      refine s_op (o_move (v := (.bool false)) rfl ?_)
      refine s_off (b' := false) 44 rfl rfl rfl ?_
      refine s_off (b' := false) 44 rfl rfl rfl ?_
      refine s_off (b' := false) 44 rfl rfl rfl ?_
      refine s_off (b' := false) 44 rfl rfl rfl ?_
      refine s_op (o_pick_f (u := (.bool false)) rfl rfl ?_)
      refine s_nil ?_
      refine t_norm (hK45 _ _ ?_)
      refine c_false rfl rfl ?_
      refine wp_exit ?_
      refine t_exit (t_exit (x_in (?_)))
      refine t_norm (hK37 _ _ ?_)
      refine wp_seq_k fun K134 hK134 => ?_
      refine wp_seq_k fun K135 hK135 => ?_
      refine c_region ?_
      refine s_op (o_move (v := (.bool ok)) e38_9 ?_)
      refine s_op (o_not (b := false) ((rfl : _ = _).trans (congrArg Value.bool h46)) ?_)
      refine s_op (o_move (v := (.bool true)) rfl ?_)
      refine s_off (b' := true) 75 rfl rfl rfl ?_
      refine s_off (b' := true) 75 rfl rfl rfl ?_
      refine s_off (b' := true) 75 rfl rfl rfl ?_
      refine s_off (b' := true) 75 rfl rfl rfl ?_
      refine s_op (o_pick_t (u := (.bool true)) rfl rfl ?_)
      refine s_nil ?_
      refine t_norm (hK135 _ _ ?_)
      refine c_true rfl rfl ?_
      refine wp_seq_k fun K136 hK136 => ?_
      refine c_region ?_
      refine s_op (o_sight (v := (.agg #[(.int .i64 0), (.int .i64 0), (.slice none 0 0)])) (fun _ => by kernel_rfl) ?_)
      refine s_eff (o_storeN (vs := [(.int .i64 0), (.int .i64 0), (.slice none 0 0)]) (c' := #[(.int .i64 0), (.int .i64 0), (.slice none 0 0)]) ti24 e38_2 rfl rfl rfl (by intro u hu; simp only [List.mem_cons, List.not_mem_nil, or_false] at hu; rcases hu with rfl | rfl | rfl <;> first | rfl) (by simp) (by kernel_rfl) (hH42.front 2 rfl) fun w137 hH138 => ?_)
      refine s_op (o_assign (v := (.bool false)) rfl ?_)
      refine s_nil ?_
      refine t_norm (hK136 _ _ ?_)
      refine wp_ret ?_
      refine t_ret (c_retC2 Tryd.results19 e38_2 (run_loadVarN (cs := [(.int .i64 0), (.int .i64 0), (.slice none 0 0)]) Tryd.underlying24 rfl ti24 hH138 (seg_sub 0 rfl) (CellsAt.one rfl)) (x := (.bool false)) rfl ?_)
      have hge_ := goS_end hgo (by first | exact .inr (.inl (by omega)) | exact .inr (.inr (by omega)) | exact .inl (by simpa using h46))
      have hE_ := readP_no (s := s) (by rw [hge_]; first | exact .inr (.inl (by simpa using h7)) | exact .inr (.inr h7) | exact .inr (.inl (by simpa using h46)) | exact .inr (.inr h46))
      have q139 : (readP s).2.1 = 0 := by rw [hE_]
      have q140 : (readP s).2.2.1 = 0 := by rw [hE_]
      have q141 : (readP s).2.2.2 = ([] : List Cel) := by rw [hE_]
      have q142 : (readP s).1 = false := by rw [hE_]
      have hH143 : Has E w137 [[], R] := (Has.nil (hH138.front 3 rfl)).first 2 rfl
      exact ⟨_, _, by rw [q139, q140]; rw [q142], (by rw [q141]; exact (Own.nil 45 2)), hH143⟩
end Go.Q
namespace Go.Q
open Go.Proofs
set_option linter.unusedVariables false
set_option maxRecDepth 100000
attribute [local irreducible] wpList OK Code.wp
set_option maxHeartbeats 4000000 in
theorem r11put_c {E w : World} {R : List Hp} {no : Int} {gsn : Int} {v_l : Value} {l : List Cel} {key : Bs} {v : Bool × Bs} {g : Int}  (hH : Has E w [R]) (h_l : Sl R 2 v_l l.length (l.flatMap ceC)) (hn : l.length ≤ 1000) :
    Calls Tryd.prog 46 #[(.agg #[(.int .i64 no), (.int .i64 gsn), v_l]), (S key), (.agg #[(.bool v.1), (S v.2)]), (.int .i64 g)] w fun e w' => ∃ (v1' : Value) (s2' : List Hp), e = .returned (.agg #[(.int .i64 no), (.int .i64 g), v1']) ∧ (Own 45 2 v1' (putL key v.2 (!v.1) l).length ((putL key v.2 (!v.1) l).flatMap ceC) s2') ∧ Has E w' [s2', R] := by
  refine c_enter (args := [(.agg #[(.int .i64 no), (.int .i64 gsn), v_l]), (S key), (.agg #[(.bool v.1), (S v.2)]), (.int .i64 g)]) Tryd.func46 rfl Tryd.ntmps46 (by simp) ?_
  refine wp_seq_k fun K1 hK1 => ?_
  refine c_region ?_
  refine s_op (o_box (cs := #[(.int .i64 no), (.int .i64 gsn), v_l]) rfl rfl hH fun b2 w3 hH4 => ?_)
  refine s_op (o_box (cs := #[(.bool v.1), (S v.2)]) rfl rfl hH4 fun b5 w6 hH7 => ?_)
  refine s_op (o_alloc (cs := #[(.int .i64 0), (.int .i64 0), (.slice none 0 0)]) ti24 rfl hH7 fun b8 w9 hH10 => ?_)
  refine s_nil ?_
  refine t_norm (hK1 _ _ ?_)
  refine wp_seq_k fun K11 hK11 => ?_
  refine c_region ?_
  refine s_op (o_fieldAddr (k := 0) (fun _ => by kernel_rfl) rfl ?_)
  refine s_op (o_load1 (v := (.int .i64 no)) Tryd.underlying3 rfl rfl hH10 (seg_sub 2 rfl) (CellsAt.one rfl) ?_)
  refine s_op (o_move (v := (.int .i64 g)) rfl ?_)
  refine s_op (o_sight (v := (.agg #[(.int .i64 no), (.int .i64 g), (.slice none 0 0)])) (fun _ => by kernel_rfl) ?_)
  refine s_op (o_alloc (cs := #[(.int .i64 0), (.int .i64 0), (.slice none 0 0)]) ti24 rfl hH10 fun b12 w13 hH14 => ?_)
  refine s_eff (o_storeN (vs := [(.int .i64 no), (.int .i64 g), (.slice none 0 0)]) (c' := #[(.int .i64 no), (.int .i64 g), (.slice none 0 0)]) ti24 rfl rfl rfl rfl (by intro u hu; simp only [List.mem_cons, List.not_mem_nil, or_false] at hu; rcases hu with rfl | rfl | rfl <;> first | rfl) (by simp) (by kernel_rfl) (hH14.front 0 rfl) fun w15 hH16 => ?_)
  refine s_nil ?_
  refine t_norm (hK11 _ _ ?_)
  refine wp_seq_k fun K17 hK17 => ?_
  refine c_region ?_
  refine s_op (o_fieldAddr (k := 0) (fun _ => by kernel_rfl) rfl ?_)
  refine s_op (o_load1 (v := (.bool v.1)) Tryd.underlying4 rfl rfl hH16 (seg_sub 2 rfl) (CellsAt.one rfl) ?_)
  refine s_op (o_not rfl ?_)
  refine s_op (o_assign (v := (.bool (!v.1))) rfl ?_)
  refine s_nil ?_
  refine t_norm (hK17 _ _ ?_)
  refine wp_seq_k fun K18 hK18 => ?_
  refine wp_seq_k fun K19 hK19 => ?_
  refine c_region ?_
  refine s_op (o_assign (v := (.int .i64 0)) rfl ?_)
  refine s_nil ?_
  refine t_norm (hK19 _ _ ?_)
  refine wp_block ?_
  let I21 : Nat → (Nat → Value) → World → Prop := fun n__ r__ w__ => ∃ (k : Nat) (d : Bool) (vo : Value) (so : List Hp) (out : List Cel), n__ = l.length - k ∧ Has E w__ [so, [Hp.one b12 (.cells #[(.int .i64 no), (.int .i64 g), vo] 24 (0, 0))], [Hp.one b8 (.cells #[(.int .i64 0), (.int .i64 0), (.slice none 0 0)] 24 (0, 0))], [Hp.one b5 (.cells #[(.bool v.1), (S v.2)] 29 (0, 0))], [Hp.one b2 (.cells #[(.int .i64 no), (.int .i64 gsn), v_l] 24 (0, 0))], R] ∧ (k ≤ l.length) ∧ (Own 45 2 vo out.length (out.flatMap ceC) so) ∧ (out.length ≤ 2 * k) ∧ ((putL key v.2 (!v.1) l) = out ++ putL key v.2 d (l.drop k)) ∧ r__ 0 = (.agg #[(.int .i64 no), (.int .i64 gsn), v_l]) ∧ r__ 1 = (S key) ∧ r__ 2 = (.agg #[(.bool v.1), (S v.2)]) ∧ r__ 3 = (.int .i64 g) ∧ r__ 4 = (.pointer (some ⟨b2, 0, none⟩)) ∧ r__ 6 = (.pointer (some ⟨b5, 0, none⟩)) ∧ r__ 8 = (.pointer (some ⟨b8, 0, none⟩)) ∧ r__ 9 = (.pointer (some ⟨b12, 0, none⟩)) ∧ r__ 10 = (.bool d) ∧ r__ 11 = (.int .i64 (k : Int))
  have hH22 : Has E w15 [[], [Hp.one b12 (.cells #[(.int .i64 no), (.int .i64 g), (.slice none 0 0)] 24 (0, 0))], [Hp.one b8 (.cells #[(.int .i64 0), (.int .i64 0), (.slice none 0 0)] 24 (0, 0))], [Hp.one b5 (.cells #[(.bool v.1), (S v.2)] 29 (0, 0))], [Hp.one b2 (.cells #[(.int .i64 no), (.int .i64 gsn), v_l] 24 (0, 0))], R] := Has.pick (Has.nil hH16) [0, 0, 0, 0, 0, 0] (by kernel_rfl)
  refine c_loop I21 _ ⟨0, (!v.1), (.slice none 0 0), [], [], rfl, hH22, Nat.zero_le _, Own.nil 45 2, Nat.le_refl _, rfl, rfl, rfl, rfl, rfl, rfl, rfl, rfl, rfl, rfl, rfl⟩ ?_
  rintro n_ r25 w23 ⟨k, d, vo, so, out, rfl, hH24, hk, hoo, hol, hf, e20_0, e20_1, e20_2, e20_3, e20_4, e20_6, e20_8, e20_9, e20_10, e20_11⟩
  refine wp_seq_k fun K26 hK26 => ?_
  refine wp_seq_k fun K27 hK27 => ?_
  refine c_region ?_
  refine s_op (o_move (v := (.int .i64 (k : Int))) e20_11 ?_)
  refine s_op (o_fieldAddr (k := 2) (fun _ => by kernel_rfl) e20_4 ?_)
  refine s_op (o_load1 (v := v_l) Tryd.underlying22 rfl rfl hH24 (seg_sub 4 rfl) (CellsAt.one rfl) ?_)
  refine s_op (o_lenS Tryd.underlying22 rfl h_l ?_)
  refine s_op (o_lss (a := (k : Int)) (b := ((l.length : Nat) : Int)) rfl rfl ?_)
  refine s_nil ?_
  refine t_norm (hK27 _ _ ?_)
  refine c_cond rfl (fun h28 => ?_) (fun h28 => ?_)
  · -- (k : Int) < ((l.length : Nat) : Int)
    refine wp_skip ?_
    refine t_norm (hK26 _ _ ?_)
    refine wp_seq_k fun K29 hK29 => ?_
    refine wp_block ?_
    refine wp_seq_k fun K30 hK30 => ?_
    refine wp_seq_k fun K31 hK31 => ?_
    refine c_region ?_
    refine s_op (o_move (v := (.bool d)) e20_10 ?_)
    refine s_op (o_not rfl ?_)
    refine s_op (o_move (v := (.bool (!d))) rfl ?_)
    rcases Bool.eq_false_or_eq_true (!d) with h32 | h32
    · -- !d
      refine s_on 28 rfl (congrArg Value.bool h32) (o_fieldAddr (k := 2) (fun _ => by kernel_rfl) e20_4 ?_)
      refine s_on 28 rfl (congrArg Value.bool h32) (o_load1 (v := v_l) Tryd.underlying22 rfl rfl hH24 (seg_sub 4 rfl) (CellsAt.one rfl) ?_)
      refine s_on 28 rfl (congrArg Value.bool h32) (o_move (v := (.int .i64 (k : Int))) e20_11 ?_)
      obtain ⟨x36, hx37⟩ : ∃ x_, l[((k : Int)).toNat]? = some x_ := get_some (by omega)
      refine s_on 28 rfl (congrArg Value.bool h32) (o_indexF ceC_len Tryd.underlying22 ti45 rfl h_l rfl rfl (by omega) hx37 fun b33 o34 hc35 => ?_)
      refine s_on 28 rfl (congrArg Value.bool h32) (o_fieldAddr (k := o34) (fun _ => by kernel_rfl) rfl ?_)
      refine s_on 28 rfl (congrArg Value.bool h32) (o_load1 (v := (S x36.1)) Tryd.underlying9 rfl rfl hH24 (seg_sub 5 rfl) (CellsAt.field (k := 0) (ds := [(S x36.1)]) hc35 rfl) ?_)
      refine s_on 28 rfl (congrArg Value.bool h32) (o_move (v := (S key)) e20_1 ?_)
      refine s_on 28 rfl (congrArg Value.bool h32) (o_sgeP (a := x36.1) (b := key) rfl rfl ?_)
      refine s_op (o_pick_t (u := (.bool (decide (¬ (x36.1 < key))))) ((rfl : _ = _).trans (congrArg Value.bool h32)) rfl ?_)
      refine s_nil ?_
      refine t_norm (hK31 _ _ ?_)
      refine c_cond rfl (fun h38 => ?_) (fun h38 => ?_)
      · -- ¬ (x36.1 < key)
        refine wp_seq_k fun K39 hK39 => ?_
        refine c_region ?_
        refine s_op (o_fieldAddr (k := 2) (fun _ => by kernel_rfl) e20_9 ?_)
        refine s_op (o_load1 (v := vo) Tryd.underlying22 rfl rfl hH24 (seg_sub 1 rfl) (CellsAt.one rfl) ?_)
        refine s_op (o_move (v := (S key)) e20_1 ?_)
        refine s_op (o_fieldAddr (k := 1) (fun _ => by kernel_rfl) e20_6 ?_)
        refine s_op (o_load1 (v := (S v.2)) Tryd.underlying9 rfl rfl hH24 (seg_sub 3 rfl) (CellsAt.one rfl) ?_)
        refine s_op (o_sight (v := (.agg #[(S key), (S v.2)])) (fun _ => by kernel_rfl) ?_)
        refine s_op (o_buildSlice (ps := #[(0, (.agg #[(S key), (S v.2)]))]) (cells := #[(S key), (S v.2)]) Tryd.underlying22 ti45 (by decide) (parts1 rfl) (by kernel_rfl) hH24 fun b40 w41 hH42 => ?_)
        refine s_op (o_append Tryd.underlying22 ti45 rfl (by decide) rfl hoo rfl (sl_litF (f := ceC) (l := [((key, v.2) : Cel)]) ceC_len rfl rfl (by simp)) (hH42.front 1 rfl) (seg_sub 0 rfl) (one_ceC _) (by simp; omega) (by simp; omega) fun v43 s44 w46 ho45 hH47 => ?_)
        have ho45 : Own 45 2 v43 (out ++ [((key, v.2) : Cel)]).length ((out ++ [((key, v.2) : Cel)]).flatMap ceC) s44 := ho45.appF
        refine s_op (o_fieldAddr (k := 2) (fun _ => by kernel_rfl) e20_9 ?_)
        refine s_eff (o_store1 (c' := #[(.int .i64 no), (.int .i64 g), v43]) ti22 rfl rfl ho45.one (by simp) rfl (hH47.front 2 rfl) fun w48 hH49 => ?_)
        refine s_nil ?_
        refine t_norm (hK39 _ _ ?_)
        refine c_region ?_
        refine s_op (o_assign (v := (.bool true)) rfl ?_)
        refine s_nil ?_
        refine t_norm (hK30 _ _ ?_)
        refine wp_seq_k fun K50 hK50 => ?_
        refine c_region ?_
        refine s_op (o_fieldAddr (k := 2) (fun _ => by kernel_rfl) e20_4 ?_)
        refine s_op (o_load1 (v := v_l) Tryd.underlying22 rfl rfl hH49 (seg_sub 5 rfl) (CellsAt.one rfl) ?_)
        refine s_op (o_move (v := (.int .i64 (k : Int))) e20_11 ?_)
        refine s_op (o_indexF ceC_len Tryd.underlying22 ti45 rfl h_l rfl rfl (by omega) hx37 fun b51 o52 hc53 => ?_)
        refine s_op (o_fieldAddr (k := o52) (fun _ => by kernel_rfl) rfl ?_)
        refine s_op (o_load1 (v := (S x36.1)) Tryd.underlying9 rfl rfl hH49 (seg_sub 6 rfl) (CellsAt.field (k := 0) (ds := [(S x36.1)]) hc53 rfl) ?_)
        refine s_op (o_move (v := (S key)) e20_1 ?_)
        refine s_op (o_sneq (a := x36.1) (b := key) rfl rfl ?_)
        refine s_nil ?_
        refine t_norm (hK50 _ _ ?_)
        refine c_cond rfl (fun h54 => ?_) (fun h54 => ?_)
        · -- x36.1 ≠ key
          refine Rest.region mixed (by kernel_rfl) ?_
          have hH55 : Has E { w48 with drawn := w48.drawn + 1 } [[Hp.one b12 (.cells #[(.int .i64 no), (.int .i64 g), v43] 24 (0, 0))], s44, [Hp.one b40 (.cells #[(S key), (S v.2)] 45 (0, 0))], [Hp.one b8 (.cells #[(.int .i64 0), (.int .i64 0), (.slice none 0 0)] 24 (0, 0))], [Hp.one b5 (.cells #[(.bool v.1), (S v.2)] 29 (0, 0))], [Hp.one b2 (.cells #[(.int .i64 no), (.int .i64 gsn), v_l] 24 (0, 0))], R] := Has0.drew hH49 _
          refine Rest.phaseA (fun w_ => Has E w_ [[Hp.one b12 (.cells #[(.int .i64 no), (.int .i64 g), v43] 24 (0, 0))], [Hp.one b2 (.cells #[(.int .i64 no), (.int .i64 gsn), v_l] 24 (0, 0))], R]) 0 8 8 rfl (by decide) (by kernel_rfl) ?_
          refine a_op 0 rfl (by kernel_rfl) (fun w_ h_ => o_fieldAddr (k := 2) (fun _ => by kernel_rfl) e20_9 ⟨rfl, rfl⟩) ?_
          refine a_op 1 rfl (by kernel_rfl) (fun w_ h_ => o_load1 (v := v43) Tryd.underlying22 rfl rfl h_ (seg_sub 0 rfl) (CellsAt.one rfl) ⟨rfl, rfl⟩) ?_
          refine a_op 2 rfl (by kernel_rfl) (fun w_ h_ => o_fieldAddr (k := 2) (fun _ => by kernel_rfl) e20_4 ⟨rfl, rfl⟩) ?_
          refine a_op 3 rfl (by kernel_rfl) (fun w_ h_ => o_load1 (v := v_l) Tryd.underlying22 rfl rfl h_ (seg_sub 1 rfl) (CellsAt.one rfl) ⟨rfl, rfl⟩) ?_
          refine a_op 4 rfl (by kernel_rfl) (fun w_ h_ => o_move (v := (.int .i64 (k : Int))) e20_11 ⟨rfl, rfl⟩) ?_
          obtain ⟨b56, o57, hc58, ho59⟩ := ix_exF ceC_len Tryd.underlying22 ti45 h_l (by omega) hx37
          refine a_op 5 rfl (by kernel_rfl) (fun w_ h_ => ho59 rfl rfl ⟨rfl, rfl⟩) ?_
          refine a_op 6 rfl (by kernel_rfl) (fun w_ h_ => o_loadN (cs := [(S x36.1), (S x36.2)]) Tryd.underlying45 rfl ti45 rfl h_ (seg_sub 2 rfl) hc58 ⟨rfl, rfl⟩) ?_
          have hH60 : Has E { w48 with drawn := w48.drawn + 1 } [[Hp.one b12 (.cells #[(.int .i64 no), (.int .i64 g), v43] 24 (0, 0))], [Hp.one b2 (.cells #[(.int .i64 no), (.int .i64 gsn), v_l] 24 (0, 0))], R] := (((hH55.front 6 rfl).front 6 rfl).front 2 rfl).first 3 rfl
          refine a_w 7 rfl (by kernel_rfl) hH60 (o_buildSlice (ps := #[(0, (.agg #[(S x36.1), (S x36.2)]))]) (cells := #[(S x36.1), (S x36.2)]) Tryd.underlying22 ti45 (by decide) (parts1 rfl) (by kernel_rfl) hH55 fun b61 w62 hH63 => ?_)
          have hH64 : Has E w62 [[Hp.one b12 (.cells #[(.int .i64 no), (.int .i64 g), v43] 24 (0, 0))], [Hp.one b2 (.cells #[(.int .i64 no), (.int .i64 gsn), v_l] 24 (0, 0))], R] := (((hH63.front 7 rfl).front 7 rfl).front 3 rfl).first 3 rfl
          refine a_done (by kernel_rfl) hH64 ?_
          refine r_op 8 rfl (by kernel_rfl) (o_append Tryd.underlying22 ti45 rfl (by decide) rfl ho45 rfl (sl_litF (f := ceC) (l := [x36]) ceC_len rfl rfl (by simp)) (hH63.front 2 rfl) (seg_sub 0 rfl) (one_ceC _) (by simp; omega) (by simp; omega) fun v65 s66 w68 ho67 hH69 => ?_)
          have ho67 : Own 45 2 v65 ((out ++ [((key, v.2) : Cel)]) ++ [x36]).length (((out ++ [((key, v.2) : Cel)]) ++ [x36]).flatMap ceC) s66 := ho67.appF
          refine r_op 9 rfl (by kernel_rfl) (o_fieldAddr (k := 2) (fun _ => by kernel_rfl) e20_9 ?_)
          refine r_eff 10 rfl (by kernel_rfl) (o_store1 (c' := #[(.int .i64 no), (.int .i64 g), v65]) ti22 rfl rfl ho67.one (by simp) rfl (hH69.front 2 rfl) fun w70 hH71 => ?_)
          refine Rest.done (by kernel_rfl) ?_
          refine b_norm ?_
          refine t_norm (hK29 _ _ ?_)
          refine c_region ?_
          refine s_op (o_move (v := (.int .i64 (k : Int))) e20_11 ?_)
          refine s_op (o_add (a := (k : Int)) (b := 1) rfl rfl (w64 (by omega) (by omega)) ?_)
          refine s_op (o_assign (v := (.int .i64 ((k : Int) + 1))) rfl ?_)
          refine s_nil ?_
          have hH72 : Has E w70 [s66, [Hp.one b12 (.cells #[(.int .i64 no), (.int .i64 g), v65] 24 (0, 0))], [Hp.one b8 (.cells #[(.int .i64 0), (.int .i64 0), (.slice none 0 0)] 24 (0, 0))], [Hp.one b5 (.cells #[(.bool v.1), (S v.2)] 29 (0, 0))], [Hp.one b2 (.cells #[(.int .i64 no), (.int .i64 gsn), v_l] 24 (0, 0))], R] := Has.pick hH71 [1, 0, 2, 2, 2, 2] (by kernel_rfl)
          refine t_norm ⟨l.length - (k + 1), _, rfl, ?_, ?_⟩
          · omega
          · exact ⟨(k + 1), true, v65, s66, ((out ++ [((key, v.2) : Cel)]) ++ [x36]), rfl, hH72, (by omega), (ho67), (by first | omega | (simp only [List.length_append, List.length_cons, List.length_nil]; omega)), (by ((have h_ := putL_step hf (show l[k]? = some _ from hx37)); (have hd_ : d = false := by simpa using h32); (try subst hd_); (have hl_ : ¬ x36.1 < key := by simpa using h38); simpa [hl_, h54] using h_)), e20_0, e20_1, e20_2, e20_3, e20_4, e20_6, e20_8, e20_9, rfl, rfl⟩
        · -- not: x36.1 ≠ key
          refine wp_skip ?_
          refine b_norm ?_
          refine t_norm (hK29 _ _ ?_)
          refine c_region ?_
          refine s_op (o_move (v := (.int .i64 (k : Int))) e20_11 ?_)
          refine s_op (o_add (a := (k : Int)) (b := 1) rfl rfl (w64 (by omega) (by omega)) ?_)
          refine s_op (o_assign (v := (.int .i64 ((k : Int) + 1))) rfl ?_)
          refine s_nil ?_
          have hH73 : Has E w48 [s44, [Hp.one b12 (.cells #[(.int .i64 no), (.int .i64 g), v43] 24 (0, 0))], [Hp.one b8 (.cells #[(.int .i64 0), (.int .i64 0), (.slice none 0 0)] 24 (0, 0))], [Hp.one b5 (.cells #[(.bool v.1), (S v.2)] 29 (0, 0))], [Hp.one b2 (.cells #[(.int .i64 no), (.int .i64 gsn), v_l] 24 (0, 0))], R] := Has.pick hH49 [1, 0, 1, 1, 1, 1] (by kernel_rfl)
          refine t_norm ⟨l.length - (k + 1), _, rfl, ?_, ?_⟩
          · omega
          · exact ⟨(k + 1), true, v43, s44, (out ++ [((key, v.2) : Cel)]), rfl, hH73, (by omega), (ho45), (by first | omega | (simp only [List.length_append, List.length_cons, List.length_nil]; omega)), (by ((have h_ := putL_step hf (show l[k]? = some _ from hx37)); (have hd_ : d = false := by simpa using h32); (try subst hd_); (have hl_ : ¬ x36.1 < key := by simpa using h38); simpa [hl_, h54] using h_)), e20_0, e20_1, e20_2, e20_3, e20_4, e20_6, e20_8, e20_9, rfl, rfl⟩
      · -- not: ¬ (x36.1 < key)
        refine wp_skip ?_
        refine t_norm (hK30 _ _ ?_)
        refine wp_seq_k fun K74 hK74 => ?_
        refine c_region ?_
        refine s_op (o_fieldAddr (k := 2) (fun _ => by kernel_rfl) e20_4 ?_)
        refine s_op (o_load1 (v := v_l) Tryd.underlying22 rfl rfl hH24 (seg_sub 4 rfl) (CellsAt.one rfl) ?_)
        refine s_op (o_move (v := (.int .i64 (k : Int))) e20_11 ?_)
        refine s_op (o_indexF ceC_len Tryd.underlying22 ti45 rfl h_l rfl rfl (by omega) hx37 fun b75 o76 hc77 => ?_)
        refine s_op (o_fieldAddr (k := o76) (fun _ => by kernel_rfl) rfl ?_)
        refine s_op (o_load1 (v := (S x36.1)) Tryd.underlying9 rfl rfl hH24 (seg_sub 5 rfl) (CellsAt.field (k := 0) (ds := [(S x36.1)]) hc77 rfl) ?_)
        refine s_op (o_move (v := (S key)) e20_1 ?_)
        refine s_op (o_sneq (a := x36.1) (b := key) rfl rfl ?_)
        refine s_nil ?_
        refine t_norm (hK74 _ _ ?_)
        refine c_cond rfl (fun h78 => ?_) (fun h78 => ?_)
        · -- x36.1 ≠ key
          refine Rest.region mixed (by kernel_rfl) ?_
          have hH79 : Has E { w23 with drawn := w23.drawn + 1 } [so, [Hp.one b12 (.cells #[(.int .i64 no), (.int .i64 g), vo] 24 (0, 0))], [Hp.one b8 (.cells #[(.int .i64 0), (.int .i64 0), (.slice none 0 0)] 24 (0, 0))], [Hp.one b5 (.cells #[(.bool v.1), (S v.2)] 29 (0, 0))], [Hp.one b2 (.cells #[(.int .i64 no), (.int .i64 gsn), v_l] 24 (0, 0))], R] := Has0.drew hH24 _
          refine Rest.phaseA (fun w_ => Has E w_ [[Hp.one b12 (.cells #[(.int .i64 no), (.int .i64 g), vo] 24 (0, 0))], [Hp.one b2 (.cells #[(.int .i64 no), (.int .i64 gsn), v_l] 24 (0, 0))], R]) 0 8 8 rfl (by decide) (by kernel_rfl) ?_
          refine a_op 0 rfl (by kernel_rfl) (fun w_ h_ => o_fieldAddr (k := 2) (fun _ => by kernel_rfl) e20_9 ⟨rfl, rfl⟩) ?_
          refine a_op 1 rfl (by kernel_rfl) (fun w_ h_ => o_load1 (v := vo) Tryd.underlying22 rfl rfl h_ (seg_sub 0 rfl) (CellsAt.one rfl) ⟨rfl, rfl⟩) ?_
          refine a_op 2 rfl (by kernel_rfl) (fun w_ h_ => o_fieldAddr (k := 2) (fun _ => by kernel_rfl) e20_4 ⟨rfl, rfl⟩) ?_
          refine a_op 3 rfl (by kernel_rfl) (fun w_ h_ => o_load1 (v := v_l) Tryd.underlying22 rfl rfl h_ (seg_sub 1 rfl) (CellsAt.one rfl) ⟨rfl, rfl⟩) ?_
          refine a_op 4 rfl (by kernel_rfl) (fun w_ h_ => o_move (v := (.int .i64 (k : Int))) e20_11 ⟨rfl, rfl⟩) ?_
          obtain ⟨b80, o81, hc82, ho83⟩ := ix_exF ceC_len Tryd.underlying22 ti45 h_l (by omega) hx37
          refine a_op 5 rfl (by kernel_rfl) (fun w_ h_ => ho83 rfl rfl ⟨rfl, rfl⟩) ?_
          refine a_op 6 rfl (by kernel_rfl) (fun w_ h_ => o_loadN (cs := [(S x36.1), (S x36.2)]) Tryd.underlying45 rfl ti45 rfl h_ (seg_sub 2 rfl) hc82 ⟨rfl, rfl⟩) ?_
          have hH84 : Has E { w23 with drawn := w23.drawn + 1 } [[Hp.one b12 (.cells #[(.int .i64 no), (.int .i64 g), vo] 24 (0, 0))], [Hp.one b2 (.cells #[(.int .i64 no), (.int .i64 gsn), v_l] 24 (0, 0))], R] := (((hH79.front 5 rfl).front 5 rfl).front 3 rfl).first 3 rfl
          refine a_w 7 rfl (by kernel_rfl) hH84 (o_buildSlice (ps := #[(0, (.agg #[(S x36.1), (S x36.2)]))]) (cells := #[(S x36.1), (S x36.2)]) Tryd.underlying22 ti45 (by decide) (parts1 rfl) (by kernel_rfl) hH79 fun b85 w86 hH87 => ?_)
          have hH88 : Has E w86 [[Hp.one b12 (.cells #[(.int .i64 no), (.int .i64 g), vo] 24 (0, 0))], [Hp.one b2 (.cells #[(.int .i64 no), (.int .i64 gsn), v_l] 24 (0, 0))], R] := (((hH87.front 6 rfl).front 6 rfl).front 4 rfl).first 3 rfl
          refine a_done (by kernel_rfl) hH88 ?_
          refine r_op 8 rfl (by kernel_rfl) (o_append Tryd.underlying22 ti45 rfl (by decide) rfl hoo rfl (sl_litF (f := ceC) (l := [x36]) ceC_len rfl rfl (by simp)) (hH87.front 1 rfl) (seg_sub 0 rfl) (one_ceC _) (by simp; omega) (by simp; omega) fun v89 s90 w92 ho91 hH93 => ?_)
          have ho91 : Own 45 2 v89 (out ++ [x36]).length ((out ++ [x36]).flatMap ceC) s90 := ho91.appF
          refine r_op 9 rfl (by kernel_rfl) (o_fieldAddr (k := 2) (fun _ => by kernel_rfl) e20_9 ?_)
          refine r_eff 10 rfl (by kernel_rfl) (o_store1 (c' := #[(.int .i64 no), (.int .i64 g), v89]) ti22 rfl rfl ho91.one (by simp) rfl (hH93.front 2 rfl) fun w94 hH95 => ?_)
          refine Rest.done (by kernel_rfl) ?_
          refine b_norm ?_
          refine t_norm (hK29 _ _ ?_)
          refine c_region ?_
          refine s_op (o_move (v := (.int .i64 (k : Int))) e20_11 ?_)
          refine s_op (o_add (a := (k : Int)) (b := 1) rfl rfl (w64 (by omega) (by omega)) ?_)
          refine s_op (o_assign (v := (.int .i64 ((k : Int) + 1))) rfl ?_)
          refine s_nil ?_
          have hH96 : Has E w94 [s90, [Hp.one b12 (.cells #[(.int .i64 no), (.int .i64 g), v89] 24 (0, 0))], [Hp.one b8 (.cells #[(.int .i64 0), (.int .i64 0), (.slice none 0 0)] 24 (0, 0))], [Hp.one b5 (.cells #[(.bool v.1), (S v.2)] 29 (0, 0))], [Hp.one b2 (.cells #[(.int .i64 no), (.int .i64 gsn), v_l] 24 (0, 0))], R] := Has.pick hH95 [1, 0, 1, 1, 1, 1] (by kernel_rfl)
          refine t_norm ⟨l.length - (k + 1), _, rfl, ?_, ?_⟩
          · omega
          · exact ⟨(k + 1), d, v89, s90, (out ++ [x36]), rfl, hH96, (by omega), (ho91), (by first | omega | (simp only [List.length_append, List.length_cons, List.length_nil]; omega)), (by ((have h_ := putL_step hf (show l[k]? = some _ from hx37)); (have hd_ : d = false := by simpa using h32); (try subst hd_); (have hl_ : x36.1 < key := by simpa using h38); simpa [hl_, h78] using h_)), e20_0, e20_1, e20_2, e20_3, e20_4, e20_6, e20_8, e20_9, e20_10, rfl⟩
        · -- not: x36.1 ≠ key
          refine wp_skip ?_
          refine b_norm ?_
          refine t_norm (hK29 _ _ ?_)
          refine c_region ?_
          refine s_op (o_move (v := (.int .i64 (k : Int))) e20_11 ?_)
          refine s_op (o_add (a := (k : Int)) (b := 1) rfl rfl (w64 (by omega) (by omega)) ?_)
          refine s_op (o_assign (v := (.int .i64 ((k : Int) + 1))) rfl ?_)
          refine s_nil ?_
          refine t_norm ⟨l.length - (k + 1), _, rfl, ?_, ?_⟩
          · omega
          · exact ⟨(k + 1), d, vo, so, out, rfl, hH24, (by omega), (hoo), (by first | omega | (simp only [List.length_append, List.length_cons, List.length_nil]; omega)), (by ((have h_ := putL_step hf (show l[k]? = some _ from hx37)); (have hd_ : d = false := by simpa using h32); (try subst hd_); (have hl_ : x36.1 < key := by simpa using h38); simpa [hl_, h78] using h_)), e20_0, e20_1, e20_2, e20_3, e20_4, e20_6, e20_8, e20_9, e20_10, rfl⟩
    · -- not: !d
      refine s_off (b' := false) 28 rfl (congrArg Value.bool h32) rfl ?_
      refine s_off (b' := false) 28 rfl (congrArg Value.bool h32) rfl ?_
      refine s_off (b' := false) 28 rfl (congrArg Value.bool h32) rfl ?_
      refine s_off (b' := false) 28 rfl (congrArg Value.bool h32) rfl ?_
      refine s_off (b' := false) 28 rfl (congrArg Value.bool h32) rfl ?_
      refine s_off (b' := false) 28 rfl (congrArg Value.bool h32) rfl ?_
      refine s_off (b' := false) 28 rfl (congrArg Value.bool h32) rfl ?_
      refine s_off (b' := false) 28 rfl (congrArg Value.bool h32) rfl ?_
      refine s_op (o_pick_f (u := (.bool false)) ((rfl : _ = _).trans (congrArg Value.bool h32)) rfl ?_)
      refine s_nil ?_
      refine t_norm (hK31 _ _ ?_)
      refine c_false rfl rfl ?_
      refine wp_skip ?_
      refine t_norm (hK30 _ _ ?_)
      refine wp_seq_k fun K97 hK97 => ?_
      refine c_region ?_
      refine s_op (o_fieldAddr (k := 2) (fun _ => by kernel_rfl) e20_4 ?_)
      refine s_op (o_load1 (v := v_l) Tryd.underlying22 rfl rfl hH24 (seg_sub 4 rfl) (CellsAt.one rfl) ?_)
      refine s_op (o_move (v := (.int .i64 (k : Int))) e20_11 ?_)
      obtain ⟨x101, hx102⟩ : ∃ x_, l[((k : Int)).toNat]? = some x_ := get_some (by omega)
      refine s_op (o_indexF ceC_len Tryd.underlying22 ti45 rfl h_l rfl rfl (by omega) hx102 fun b98 o99 hc100 => ?_)
      refine s_op (o_fieldAddr (k := o99) (fun _ => by kernel_rfl) rfl ?_)
      refine s_op (o_load1 (v := (S x101.1)) Tryd.underlying9 rfl rfl hH24 (seg_sub 5 rfl) (CellsAt.field (k := 0) (ds := [(S x101.1)]) hc100 rfl) ?_)
      refine s_op (o_move (v := (S key)) e20_1 ?_)
      refine s_op (o_sneq (a := x101.1) (b := key) rfl rfl ?_)
      refine s_nil ?_
      refine t_norm (hK97 _ _ ?_)
      refine c_cond rfl (fun h103 => ?_) (fun h103 => ?_)
      · -- x101.1 ≠ key
        refine Rest.region mixed (by kernel_rfl) ?_
        have hH104 : Has E { w23 with drawn := w23.drawn + 1 } [so, [Hp.one b12 (.cells #[(.int .i64 no), (.int .i64 g), vo] 24 (0, 0))], [Hp.one b8 (.cells #[(.int .i64 0), (.int .i64 0), (.slice none 0 0)] 24 (0, 0))], [Hp.one b5 (.cells #[(.bool v.1), (S v.2)] 29 (0, 0))], [Hp.one b2 (.cells #[(.int .i64 no), (.int .i64 gsn), v_l] 24 (0, 0))], R] := Has0.drew hH24 _
        refine Rest.phaseA (fun w_ => Has E w_ [[Hp.one b12 (.cells #[(.int .i64 no), (.int .i64 g), vo] 24 (0, 0))], [Hp.one b2 (.cells #[(.int .i64 no), (.int .i64 gsn), v_l] 24 (0, 0))], R]) 0 8 8 rfl (by decide) (by kernel_rfl) ?_
        refine a_op 0 rfl (by kernel_rfl) (fun w_ h_ => o_fieldAddr (k := 2) (fun _ => by kernel_rfl) e20_9 ⟨rfl, rfl⟩) ?_
        refine a_op 1 rfl (by kernel_rfl) (fun w_ h_ => o_load1 (v := vo) Tryd.underlying22 rfl rfl h_ (seg_sub 0 rfl) (CellsAt.one rfl) ⟨rfl, rfl⟩) ?_
        refine a_op 2 rfl (by kernel_rfl) (fun w_ h_ => o_fieldAddr (k := 2) (fun _ => by kernel_rfl) e20_4 ⟨rfl, rfl⟩) ?_
        refine a_op 3 rfl (by kernel_rfl) (fun w_ h_ => o_load1 (v := v_l) Tryd.underlying22 rfl rfl h_ (seg_sub 1 rfl) (CellsAt.one rfl) ⟨rfl, rfl⟩) ?_
        refine a_op 4 rfl (by kernel_rfl) (fun w_ h_ => o_move (v := (.int .i64 (k : Int))) e20_11 ⟨rfl, rfl⟩) ?_
        obtain ⟨b105, o106, hc107, ho108⟩ := ix_exF ceC_len Tryd.underlying22 ti45 h_l (by omega) hx102
        refine a_op 5 rfl (by kernel_rfl) (fun w_ h_ => ho108 rfl rfl ⟨rfl, rfl⟩) ?_
        refine a_op 6 rfl (by kernel_rfl) (fun w_ h_ => o_loadN (cs := [(S x101.1), (S x101.2)]) Tryd.underlying45 rfl ti45 rfl h_ (seg_sub 2 rfl) hc107 ⟨rfl, rfl⟩) ?_
        have hH109 : Has E { w23 with drawn := w23.drawn + 1 } [[Hp.one b12 (.cells #[(.int .i64 no), (.int .i64 g), vo] 24 (0, 0))], [Hp.one b2 (.cells #[(.int .i64 no), (.int .i64 gsn), v_l] 24 (0, 0))], R] := (((hH104.front 5 rfl).front 5 rfl).front 3 rfl).first 3 rfl
        refine a_w 7 rfl (by kernel_rfl) hH109 (o_buildSlice (ps := #[(0, (.agg #[(S x101.1), (S x101.2)]))]) (cells := #[(S x101.1), (S x101.2)]) Tryd.underlying22 ti45 (by decide) (parts1 rfl) (by kernel_rfl) hH104 fun b110 w111 hH112 => ?_)
        have hH113 : Has E w111 [[Hp.one b12 (.cells #[(.int .i64 no), (.int .i64 g), vo] 24 (0, 0))], [Hp.one b2 (.cells #[(.int .i64 no), (.int .i64 gsn), v_l] 24 (0, 0))], R] := (((hH112.front 6 rfl).front 6 rfl).front 4 rfl).first 3 rfl
        refine a_done (by kernel_rfl) hH113 ?_
        refine r_op 8 rfl (by kernel_rfl) (o_append Tryd.underlying22 ti45 rfl (by decide) rfl hoo rfl (sl_litF (f := ceC) (l := [x101]) ceC_len rfl rfl (by simp)) (hH112.front 1 rfl) (seg_sub 0 rfl) (one_ceC _) (by simp; omega) (by simp; omega) fun v114 s115 w117 ho116 hH118 => ?_)
        have ho116 : Own 45 2 v114 (out ++ [x101]).length ((out ++ [x101]).flatMap ceC) s115 := ho116.appF
        refine r_op 9 rfl (by kernel_rfl) (o_fieldAddr (k := 2) (fun _ => by kernel_rfl) e20_9 ?_)
        refine r_eff 10 rfl (by kernel_rfl) (o_store1 (c' := #[(.int .i64 no), (.int .i64 g), v114]) ti22 rfl rfl ho116.one (by simp) rfl (hH118.front 2 rfl) fun w119 hH120 => ?_)
        refine Rest.done (by kernel_rfl) ?_
        refine b_norm ?_
        refine t_norm (hK29 _ _ ?_)
        refine c_region ?_
        refine s_op (o_move (v := (.int .i64 (k : Int))) e20_11 ?_)
        refine s_op (o_add (a := (k : Int)) (b := 1) rfl rfl (w64 (by omega) (by omega)) ?_)
        refine s_op (o_assign (v := (.int .i64 ((k : Int) + 1))) rfl ?_)
        refine s_nil ?_
        have hH121 : Has E w119 [s115, [Hp.one b12 (.cells #[(.int .i64 no), (.int .i64 g), v114] 24 (0, 0))], [Hp.one b8 (.cells #[(.int .i64 0), (.int .i64 0), (.slice none 0 0)] 24 (0, 0))], [Hp.one b5 (.cells #[(.bool v.1), (S v.2)] 29 (0, 0))], [Hp.one b2 (.cells #[(.int .i64 no), (.int .i64 gsn), v_l] 24 (0, 0))], R] := Has.pick hH120 [1, 0, 1, 1, 1, 1] (by kernel_rfl)
        refine t_norm ⟨l.length - (k + 1), _, rfl, ?_, ?_⟩
        · omega
        · exact ⟨(k + 1), d, v114, s115, (out ++ [x101]), rfl, hH121, (by omega), (ho116), (by first | omega | (simp only [List.length_append, List.length_cons, List.length_nil]; omega)), (by ((have h_ := putL_step hf (show l[k]? = some _ from hx102)); (have hd_ : d = true := by simpa using h32); (try subst hd_); simpa [h103] using h_)), e20_0, e20_1, e20_2, e20_3, e20_4, e20_6, e20_8, e20_9, e20_10, rfl⟩
      · -- not: x101.1 ≠ key
        refine wp_skip ?_
        refine b_norm ?_
        refine t_norm (hK29 _ _ ?_)
        refine c_region ?_
        refine s_op (o_move (v := (.int .i64 (k : Int))) e20_11 ?_)
        refine s_op (o_add (a := (k : Int)) (b := 1) rfl rfl (w64 (by omega) (by omega)) ?_)
        refine s_op (o_assign (v := (.int .i64 ((k : Int) + 1))) rfl ?_)
        refine s_nil ?_
        refine t_norm ⟨l.length - (k + 1), _, rfl, ?_, ?_⟩
        · omega
        · exact ⟨(k + 1), d, vo, so, out, rfl, hH24, (by omega), (hoo), (by first | omega | (simp only [List.length_append, List.length_cons, List.length_nil]; omega)), (by ((have h_ := putL_step hf (show l[k]? = some _ from hx102)); (have hd_ : d = true := by simpa using h32); (try subst hd_); simpa [h103] using h_)), e20_0, e20_1, e20_2, e20_3, e20_4, e20_6, e20_8, e20_9, e20_10, rfl⟩
  · -- not: (k : Int) < ((l.length : Nat) : Int)
    refine wp_exit ?_
    refine t_exit (t_exit (x_in (?_)))
    refine t_norm (hK18 _ _ ?_)
    refine wp_seq_k fun K122 hK122 => ?_
    refine wp_seq_k fun K123 hK123 => ?_
    refine c_region ?_
    refine s_op (o_move (v := (.bool d)) e20_10 ?_)
    refine s_op (o_not rfl ?_)
    refine s_nil ?_
    refine t_norm (hK123 _ _ ?_)
    refine c_condb rfl (fun h124 => ?_) (fun h124 => ?_)
    · -- !d
      have h124_n : d = false := by simpa using h124
      refine c_region ?_
      refine s_op (o_fieldAddr (k := 2) (fun _ => by kernel_rfl) e20_9 ?_)
      refine s_op (o_load1 (v := vo) Tryd.underlying22 rfl rfl hH24 (seg_sub 1 rfl) (CellsAt.one rfl) ?_)
      refine s_op (o_move (v := (S key)) e20_1 ?_)
      refine s_op (o_fieldAddr (k := 1) (fun _ => by kernel_rfl) e20_6 ?_)
      refine s_op (o_load1 (v := (S v.2)) Tryd.underlying9 rfl rfl hH24 (seg_sub 3 rfl) (CellsAt.one rfl) ?_)
      refine s_op (o_sight (v := (.agg #[(S key), (S v.2)])) (fun _ => by kernel_rfl) ?_)
      refine s_op (o_buildSlice (ps := #[(0, (.agg #[(S key), (S v.2)]))]) (cells := #[(S key), (S v.2)]) Tryd.underlying22 ti45 (by decide) (parts1 rfl) (by kernel_rfl) hH24 fun b125 w126 hH127 => ?_)
      refine s_op (o_append Tryd.underlying22 ti45 rfl (by decide) rfl hoo rfl (sl_litF (f := ceC) (l := [((key, v.2) : Cel)]) ceC_len rfl rfl (by simp)) (hH127.front 1 rfl) (seg_sub 0 rfl) (one_ceC _) (by simp; omega) (by simp; omega) fun v128 s129 w131 ho130 hH132 => ?_)
      have ho130 : Own 45 2 v128 (out ++ [((key, v.2) : Cel)]).length ((out ++ [((key, v.2) : Cel)]).flatMap ceC) s129 := ho130.appF
      refine s_op (o_fieldAddr (k := 2) (fun _ => by kernel_rfl) e20_9 ?_)
      refine s_eff (o_store1 (c' := #[(.int .i64 no), (.int .i64 g), v128]) ti22 rfl rfl ho130.one (by simp) rfl (hH132.front 2 rfl) fun w133 hH134 => ?_)
      refine s_nil ?_
      refine t_norm (hK122 _ _ ?_)
      refine wp_seq_k fun K135 hK135 => ?_
      refine c_region ?_
      refine s_op (o_loadN (cs := [(.int .i64 no), (.int .i64 g), v128]) Tryd.underlying24 rfl ti24 e20_9 hH134 (seg_sub 0 rfl) (CellsAt.one rfl) ?_)
      refine s_eff (o_storeN (vs := [(.int .i64 no), (.int .i64 g), v128]) (c' := #[(.int .i64 no), (.int .i64 g), v128]) ti24 e20_8 rfl rfl rfl (by intro u hu; simp only [List.mem_cons, List.not_mem_nil, or_false] at hu; rcases hu with rfl | rfl | rfl <;> first | rfl | exact ho130.one) (by simp) (by kernel_rfl) (hH134.front 3 rfl) fun w136 hH137 => ?_)
      refine s_nil ?_
      refine t_norm (hK135 _ _ ?_)
      refine wp_ret ?_
      refine c_retC1 Tryd.results46 e20_8 (run_loadVarN (cs := [(.int .i64 no), (.int .i64 g), v128]) Tryd.underlying24 rfl ti24 hH137 (seg_sub 0 rfl) (CellsAt.one rfl)) ?_
      have hE_ := putL_end hf (by omega)
      have hd_ : d = false := by simpa using h124
      simp [hd_] at hE_
      have q138 : (putL key v.2 (!v.1) l) = out ++ [((key, v.2) : Cel)] := by rw [hE_]
      have hH139 : Has E w136 [s129, R] := ((hH137.front 6 rfl).front 3 rfl).first 2 rfl
      exact ⟨_, _, rfl, (by rw [q138]; exact ho130), hH139⟩
    · -- not: !d
      have h124_n : d = true := by simpa using h124
      refine wp_skip ?_
      refine t_norm (hK122 _ _ ?_)
      refine wp_seq_k fun K140 hK140 => ?_
      refine c_region ?_
      refine s_op (o_loadN (cs := [(.int .i64 no), (.int .i64 g), vo]) Tryd.underlying24 rfl ti24 e20_9 hH24 (seg_sub 1 rfl) (CellsAt.one rfl) ?_)
      refine s_eff (o_storeN (vs := [(.int .i64 no), (.int .i64 g), vo]) (c' := #[(.int .i64 no), (.int .i64 g), vo]) ti24 e20_8 rfl rfl rfl (by intro u hu; simp only [List.mem_cons, List.not_mem_nil, or_false] at hu; rcases hu with rfl | rfl | rfl <;> first | rfl | exact hoo.one) (by simp) (by kernel_rfl) (hH24.front 2 rfl) fun w141 hH142 => ?_)
      refine s_nil ?_
      refine t_norm (hK140 _ _ ?_)
      refine wp_ret ?_
      refine c_retC1 Tryd.results46 e20_8 (run_loadVarN (cs := [(.int .i64 no), (.int .i64 g), vo]) Tryd.underlying24 rfl ti24 hH142 (seg_sub 0 rfl) (CellsAt.one rfl)) ?_
      have hE_ := putL_end hf (by omega)
      have hd_ : d = true := by simpa using h124
      simp [hd_] at hE_
      have q143 : (putL key v.2 (!v.1) l) = out := by rw [hE_]
      have hH144 : Has E w141 [so, R] := ((hH142.front 5 rfl).front 2 rfl).first 2 rfl
      exact ⟨_, _, rfl, (by rw [q143]; exact hoo), hH144⟩
end Go.Q
namespace Go.Q
open Go.Proofs
set_option linter.unusedVariables false
set_option maxRecDepth 100000
attribute [local irreducible] wpList OK Code.wp
set_option maxHeartbeats 4000000 in
theorem r11set_c {E w : World} {R : List Hp} {no : Int} {gsn : Int} {v_l : Value} {l : List Cel} {key : Bs} {v : Bool × Bs} {g : Int}  (hH : Has E w [R]) (h_l : Sl R 2 v_l l.length (l.flatMap ceC)) (hn : l.length ≤ 1000) :
    Calls Tryd.prog 17 #[(.agg #[(.int .i64 no), (.int .i64 gsn), v_l]), (S key), (.agg #[(.bool v.1), (S v.2)]), (.int .i64 g)] w fun e w' => ∃ (v1' : Value) (s2' : List Hp), e = .returned (.tuple #[(.agg #[(.int .i64 (setNo no gsn l key v g)), (.int .i64 (setG no gsn l key v g)), v1']), (.int .i64 (setE no gsn l key v g))]) ∧ (Own 45 2 v1' (setL no gsn l key v g).length ((setL no gsn l key v g).flatMap ceC) s2') ∧ Has E w' [s2', R] := by
  refine c_enter (args := [(.agg #[(.int .i64 no), (.int .i64 gsn), v_l]), (S key), (.agg #[(.bool v.1), (S v.2)]), (.int .i64 g)]) Tryd.func17 rfl Tryd.ntmps17 (by simp) ?_
  refine wp_seq_k fun K1 hK1 => ?_
  refine c_region ?_
  refine s_op (o_box (cs := #[(.int .i64 no), (.int .i64 gsn), v_l]) rfl rfl hH fun b2 w3 hH4 => ?_)
  refine s_op (o_box (cs := #[(.bool v.1), (S v.2)]) rfl rfl hH4 fun b5 w6 hH7 => ?_)
  refine s_op (o_alloc (cs := #[(.int .i64 0), (.int .i64 0), (.slice none 0 0)]) ti24 rfl hH7 fun b8 w9 hH10 => ?_)
  refine s_op (o_assign (v := (.int .i64 0)) rfl ?_)
  refine s_nil ?_
  refine t_norm (hK1 _ _ ?_)
  refine wp_seq_k fun K11 hK11 => ?_
  refine c_region ?_
  refine s_op (o_loadN (cs := [(.int .i64 no), (.int .i64 gsn), v_l]) Tryd.underlying24 rfl ti24 rfl hH10 (seg_sub 2 rfl) (CellsAt.one rfl) ?_)
  refine s_op (o_move (v := (S key)) rfl ?_)
  refine s_op (o_callf (vs := #[(.agg #[(.int .i64 no), (.int .i64 gsn), v_l]), (S key)]) ca15 rfl (args2 rfl rfl) (r11get_c (no := no) (gsn := gsn) (l := l) (key := key) hH10.all (h_l.mono (seg_sub 3 rfl))) ?_)
  rintro _ w14 ⟨rfl, hX12⟩
  refine ⟨_, rfl, ?_⟩
  have hH13 := hX12.of_all
  refine s_op (o_sight (v := (.bool ((getC l key).1))) (fun _ => by kernel_rfl) ?_)
  refine s_op (o_assign (v := (.bool ((getC l key).1))) rfl ?_)
  refine s_nil ?_
  refine t_norm (hK11 _ _ ?_)
  refine wp_seq_k fun K15 hK15 => ?_
  refine wp_block ?_
  refine wp_seq_k fun K16 hK16 => ?_
  refine c_region ?_
  refine s_op (o_loadN (cs := [(.int .i64 no), (.int .i64 gsn), v_l]) Tryd.underlying24 rfl ti24 rfl hH13 (seg_sub 2 rfl) (CellsAt.one rfl) ?_)
  refine s_op (o_callf (vs := #[(.agg #[(.int .i64 no), (.int .i64 gsn), v_l])]) ca11 rfl (args1 rfl) (r11right_c (no := no) (gsn := gsn) (l := l) hH13.all (h_l.mono (seg_sub 3 rfl))) ?_)
  rintro _ w19 ⟨rfl, hX17⟩
  refine ⟨_, rfl, ?_⟩
  have hH18 := hX17.of_all
  refine s_op (o_not rfl ?_)
  refine s_op (o_move (v := (.bool (!(pageR no gsn l)))) rfl ?_)
  rcases Bool.eq_false_or_eq_true (!(pageR no gsn l)) with h20 | h20
  · -- !(pageR no gsn l)
    have h20_n : (pageR no gsn l) = false := by simpa using h20
    refine s_off (b' := true) 19 rfl (congrArg Value.bool h20) rfl ?_
    refine s_off (b' := true) 19 rfl (congrArg Value.bool h20) rfl ?_
    refine s_off (b' := true) 19 rfl (congrArg Value.bool h20) rfl ?_
    refine s_op (o_pick_t (u := (.bool true)) ((rfl : _ = _).trans (congrArg Value.bool h20)) rfl ?_)
    refine s_op (o_move (v := (.bool true)) rfl ?_)
    refine s_off (b' := true) 24 rfl rfl rfl ?_
    refine s_off (b' := true) 24 rfl rfl rfl ?_
    refine s_off (b' := true) 24 rfl rfl rfl ?_
    refine s_op (o_pick_t (u := (.bool true)) rfl rfl ?_)
    refine s_op (o_move (v := (.bool true)) rfl ?_)
    refine s_off (b' := true) 29 rfl rfl rfl ?_
    refine s_off (b' := true) 29 rfl rfl rfl ?_
    refine s_off (b' := true) 29 rfl rfl rfl ?_
    refine s_off (b' := true) 29 rfl rfl rfl ?_
    refine s_op (o_pick_t (u := (.bool true)) rfl rfl ?_)
    refine s_op (o_move (v := (.bool true)) rfl ?_)
    refine s_off (b' := true) 35 rfl rfl rfl ?_
    refine s_off (b' := true) 35 rfl rfl rfl ?_
    refine s_op (o_pick_t (u := (.bool true)) rfl rfl ?_)
    refine s_op (o_assign (v := (.bool true)) rfl ?_)
    refine s_nil ?_
    refine t_norm (hK16 _ _ ?_)
    refine c_true rfl rfl ?_
    refine wp_seq_k fun K21 hK21 => ?_
    refine c_region ?_
    refine s_op (o_sight (v := (.agg #[(.int .i64 0), (.int .i64 0), (.slice none 0 0)])) (fun _ => by kernel_rfl) ?_)
    refine s_eff (o_storeN (vs := [(.int .i64 0), (.int .i64 0), (.slice none 0 0)]) (c' := #[(.int .i64 0), (.int .i64 0), (.slice none 0 0)]) ti24 rfl rfl rfl rfl (by intro u hu; simp only [List.mem_cons, List.not_mem_nil, or_false] at hu; rcases hu with rfl | rfl | rfl <;> first | rfl) (by simp) (by kernel_rfl) (hH18.front 0 rfl) fun w22 hH23 => ?_)
    refine s_op (o_assign (v := (.int .i64 1)) rfl ?_)
    refine s_nil ?_
    refine t_norm (hK21 _ _ ?_)
    refine wp_ret ?_
    refine b_ret (t_ret (c_retC2 Tryd.results17 rfl (run_loadVarN (cs := [(.int .i64 0), (.int .i64 0), (.slice none 0 0)]) Tryd.underlying24 rfl ti24 hH23 (seg_sub 0 rfl) (CellsAt.one rfl)) (x := (.int .i64 1)) rfl ?_))
    have hE_ : setE no gsn l key v g = 1 := setE_bad (by first | exact .inl (by simpa using h20) | exact .inr (.inl (by simpa using h20)) | exact .inr (.inr (.inl (by simpa using h20))) | exact .inl (by simpa using h20_n) | exact .inr (.inl (by simpa using h20_n)) | exact .inr (.inr (.inl (by simpa using h20_n))) | exact .inr (.inr (.inr (.inl (by omega)))) | exact .inr (.inr (.inr (.inr (by omega)))))
    have q24 : (setNo no gsn l key v g) = 0 := by unfold setNo; rw [if_neg (by rw [hE_]; decide)]
    have q25 : (setG no gsn l key v g) = 0 := by unfold setG; rw [if_neg (by rw [hE_]; decide)]
    have q26 : (setL no gsn l key v g) = ([] : List Cel) := by unfold setL; rw [if_neg (by rw [hE_]; decide)]
    have q27 : (setE no gsn l key v g) = 1 := by exact hE_
    have hH28 : Has E w22 [[], R] := (Has.nil (hH23.front 3 rfl)).first 2 rfl
    exact ⟨_, _, by rw [q24, q25]; rw [q27], (by rw [q26]; exact (Own.nil 45 2)), hH28⟩
  · -- not: !(pageR no gsn l)
    have h20_n : (pageR no gsn l) = true := by simpa using h20
    refine s_on 19 rfl (congrArg Value.bool h20) (o_move (v := (S key)) rfl ?_)
    refine s_on 19 rfl (congrArg Value.bool h20) (o_callf (vs := #[(S key)]) ca36 rfl (args1 rfl) (rkey_c (k := key) hH18.all ) ?_)
    rintro _ w31 ⟨rfl, hX29⟩
    refine ⟨_, rfl, ?_⟩
    have hH30 := hX29.of_all
    refine s_on 19 rfl (congrArg Value.bool h20) (o_not rfl ?_)
    refine s_op (o_pick_f (u := (.bool (!(keyR key)))) ((rfl : _ = _).trans (congrArg Value.bool h20)) rfl ?_)
    refine s_op (o_move (v := (.bool (!(keyR key)))) rfl ?_)
    rcases Bool.eq_false_or_eq_true (!(keyR key)) with h32 | h32
    · -- !(keyR key)
      have h32_n : (keyR key) = false := by simpa using h32
      refine s_off (b' := true) 24 rfl (congrArg Value.bool h32) rfl ?_
      refine s_off (b' := true) 24 rfl (congrArg Value.bool h32) rfl ?_
      refine s_off (b' := true) 24 rfl (congrArg Value.bool h32) rfl ?_
      refine s_op (o_pick_t (u := (.bool true)) ((rfl : _ = _).trans (congrArg Value.bool h32)) rfl ?_)
      refine s_op (o_move (v := (.bool true)) rfl ?_)
      refine s_off (b' := true) 29 rfl rfl rfl ?_
      refine s_off (b' := true) 29 rfl rfl rfl ?_
      refine s_off (b' := true) 29 rfl rfl rfl ?_
      refine s_off (b' := true) 29 rfl rfl rfl ?_
      refine s_op (o_pick_t (u := (.bool true)) rfl rfl ?_)
      refine s_op (o_move (v := (.bool true)) rfl ?_)
      refine s_off (b' := true) 35 rfl rfl rfl ?_
      refine s_off (b' := true) 35 rfl rfl rfl ?_
      refine s_op (o_pick_t (u := (.bool true)) rfl rfl ?_)
      refine s_op (o_assign (v := (.bool true)) rfl ?_)
      refine s_nil ?_
      refine t_norm (hK16 _ _ ?_)
      refine c_true rfl rfl ?_
      refine wp_seq_k fun K33 hK33 => ?_
      refine c_region ?_
      refine s_op (o_sight (v := (.agg #[(.int .i64 0), (.int .i64 0), (.slice none 0 0)])) (fun _ => by kernel_rfl) ?_)
      refine s_eff (o_storeN (vs := [(.int .i64 0), (.int .i64 0), (.slice none 0 0)]) (c' := #[(.int .i64 0), (.int .i64 0), (.slice none 0 0)]) ti24 rfl rfl rfl rfl (by intro u hu; simp only [List.mem_cons, List.not_mem_nil, or_false] at hu; rcases hu with rfl | rfl | rfl <;> first | rfl) (by simp) (by kernel_rfl) (hH30.front 0 rfl) fun w34 hH35 => ?_)
      refine s_op (o_assign (v := (.int .i64 1)) rfl ?_)
      refine s_nil ?_
      refine t_norm (hK33 _ _ ?_)
      refine wp_ret ?_
      refine b_ret (t_ret (c_retC2 Tryd.results17 rfl (run_loadVarN (cs := [(.int .i64 0), (.int .i64 0), (.slice none 0 0)]) Tryd.underlying24 rfl ti24 hH35 (seg_sub 0 rfl) (CellsAt.one rfl)) (x := (.int .i64 1)) rfl ?_))
      have hE_ : setE no gsn l key v g = 1 := setE_bad (by first | exact .inl (by simpa using h20) | exact .inr (.inl (by simpa using h20)) | exact .inr (.inr (.inl (by simpa using h20))) | exact .inl (by simpa using h20_n) | exact .inr (.inl (by simpa using h20_n)) | exact .inr (.inr (.inl (by simpa using h20_n))) | exact .inl (by simpa using h32) | exact .inr (.inl (by simpa using h32)) | exact .inr (.inr (.inl (by simpa using h32))) | exact .inl (by simpa using h32_n) | exact .inr (.inl (by simpa using h32_n)) | exact .inr (.inr (.inl (by simpa using h32_n))) | exact .inr (.inr (.inr (.inl (by omega)))) | exact .inr (.inr (.inr (.inr (by omega)))))
      have q36 : (setNo no gsn l key v g) = 0 := by unfold setNo; rw [if_neg (by rw [hE_]; decide)]
      have q37 : (setG no gsn l key v g) = 0 := by unfold setG; rw [if_neg (by rw [hE_]; decide)]
      have q38 : (setL no gsn l key v g) = ([] : List Cel) := by unfold setL; rw [if_neg (by rw [hE_]; decide)]
      have q39 : (setE no gsn l key v g) = 1 := by exact hE_
      have hH40 : Has E w34 [[], R] := (Has.nil (hH35.front 3 rfl)).first 2 rfl
      exact ⟨_, _, by rw [q36, q37]; rw [q39], (by rw [q38]; exact (Own.nil 45 2)), hH40⟩
    · -- not: !(keyR key)
      have h32_n : (keyR key) = true := by simpa using h32
      refine s_on 24 rfl (congrArg Value.bool h32) (o_loadN (cs := [(.bool v.1), (S v.2)]) Tryd.underlying29 rfl ti29 rfl hH30 (seg_sub 1 rfl) (CellsAt.one rfl) ?_)
      refine s_on 24 rfl (congrArg Value.bool h32) (o_callf (vs := #[(.agg #[(.bool v.1), (S v.2)])]) ca45 rfl (args1 rfl) (rvalue_c (v := (v.1, v.2)) hH30.all ) ?_)
      rintro _ w43 ⟨rfl, hX41⟩
      refine ⟨_, rfl, ?_⟩
      have hH42 := hX41.of_all
      refine s_on 24 rfl (congrArg Value.bool h32) (o_not rfl ?_)
      refine s_op (o_pick_f (u := (.bool (!(valR (v.1, v.2))))) ((rfl : _ = _).trans (congrArg Value.bool h32)) rfl ?_)
      refine s_op (o_move (v := (.bool (!(valR (v.1, v.2))))) rfl ?_)
      rcases Bool.eq_false_or_eq_true (!(valR (v.1, v.2))) with h44 | h44
      · -- !(valR (v.1, v.2))
        have h44_n : (valR (v.1, v.2)) = false := by simpa using h44
        refine s_off (b' := true) 29 rfl (congrArg Value.bool h44) rfl ?_
        refine s_off (b' := true) 29 rfl (congrArg Value.bool h44) rfl ?_
        refine s_off (b' := true) 29 rfl (congrArg Value.bool h44) rfl ?_
        refine s_off (b' := true) 29 rfl (congrArg Value.bool h44) rfl ?_
        refine s_op (o_pick_t (u := (.bool true)) ((rfl : _ = _).trans (congrArg Value.bool h44)) rfl ?_)
        refine s_op (o_move (v := (.bool true)) rfl ?_)
        refine s_off (b' := true) 35 rfl rfl rfl ?_
        refine s_off (b' := true) 35 rfl rfl rfl ?_
        refine s_op (o_pick_t (u := (.bool true)) rfl rfl ?_)
        refine s_op (o_assign (v := (.bool true)) rfl ?_)
        refine s_nil ?_
        refine t_norm (hK16 _ _ ?_)
        refine c_true rfl rfl ?_
        refine wp_seq_k fun K45 hK45 => ?_
        refine c_region ?_
        refine s_op (o_sight (v := (.agg #[(.int .i64 0), (.int .i64 0), (.slice none 0 0)])) (fun _ => by kernel_rfl) ?_)
        refine s_eff (o_storeN (vs := [(.int .i64 0), (.int .i64 0), (.slice none 0 0)]) (c' := #[(.int .i64 0), (.int .i64 0), (.slice none 0 0)]) ti24 rfl rfl rfl rfl (by intro u hu; simp only [List.mem_cons, List.not_mem_nil, or_false] at hu; rcases hu with rfl | rfl | rfl <;> first | rfl) (by simp) (by kernel_rfl) (hH42.front 0 rfl) fun w46 hH47 => ?_)
        refine s_op (o_assign (v := (.int .i64 1)) rfl ?_)
        refine s_nil ?_
        refine t_norm (hK45 _ _ ?_)
        refine wp_ret ?_
        refine b_ret (t_ret (c_retC2 Tryd.results17 rfl (run_loadVarN (cs := [(.int .i64 0), (.int .i64 0), (.slice none 0 0)]) Tryd.underlying24 rfl ti24 hH47 (seg_sub 0 rfl) (CellsAt.one rfl)) (x := (.int .i64 1)) rfl ?_))
        have hE_ : setE no gsn l key v g = 1 := setE_bad (by first | exact .inl (by simpa using h20) | exact .inr (.inl (by simpa using h20)) | exact .inr (.inr (.inl (by simpa using h20))) | exact .inl (by simpa using h20_n) | exact .inr (.inl (by simpa using h20_n)) | exact .inr (.inr (.inl (by simpa using h20_n))) | exact .inl (by simpa using h32) | exact .inr (.inl (by simpa using h32)) | exact .inr (.inr (.inl (by simpa using h32))) | exact .inl (by simpa using h32_n) | exact .inr (.inl (by simpa using h32_n)) | exact .inr (.inr (.inl (by simpa using h32_n))) | exact .inl (by simpa using h44) | exact .inr (.inl (by simpa using h44)) | exact .inr (.inr (.inl (by simpa using h44))) | exact .inl (by simpa using h44_n) | exact .inr (.inl (by simpa using h44_n)) | exact .inr (.inr (.inl (by simpa using h44_n))) | exact .inr (.inr (.inr (.inl (by omega)))) | exact .inr (.inr (.inr (.inr (by omega)))))
        have q48 : (setNo no gsn l key v g) = 0 := by unfold setNo; rw [if_neg (by rw [hE_]; decide)]
        have q49 : (setG no gsn l key v g) = 0 := by unfold setG; rw [if_neg (by rw [hE_]; decide)]
        have q50 : (setL no gsn l key v g) = ([] : List Cel) := by unfold setL; rw [if_neg (by rw [hE_]; decide)]
        have q51 : (setE no gsn l key v g) = 1 := by exact hE_
        have hH52 : Has E w46 [[], R] := (Has.nil (hH47.front 3 rfl)).first 2 rfl
        exact ⟨_, _, by rw [q48, q49]; rw [q51], (by rw [q50]; exact (Own.nil 45 2)), hH52⟩
      · -- not: !(valR (v.1, v.2))
        have h44_n : (valR (v.1, v.2)) = true := by simpa using h44
        refine s_on 29 rfl (congrArg Value.bool h44) (o_move (v := (.int .i64 g)) rfl ?_)
        refine s_on 29 rfl (congrArg Value.bool h44) (o_fieldAddr (k := 1) (fun _ => by kernel_rfl) rfl ?_)
        refine s_on 29 rfl (congrArg Value.bool h44) (o_load1 (v := (.int .i64 gsn)) Tryd.underlying3 rfl rfl hH42 (seg_sub 2 rfl) (CellsAt.one rfl) ?_)
        refine s_on 29 rfl (congrArg Value.bool h44) (o_leq (a := g) (b := gsn) rfl rfl ?_)
        refine s_op (o_pick_f (u := (.bool (decide (g ≤ gsn)))) ((rfl : _ = _).trans (congrArg Value.bool h44)) rfl ?_)
        refine s_op (o_move (v := (.bool (decide (g ≤ gsn)))) rfl ?_)
        by_cases h53 : g ≤ gsn
        · -- g ≤ gsn
          refine s_off (b' := true) 35 rfl (congrArg Value.bool (decide_eq_true h53)) rfl ?_
          refine s_off (b' := true) 35 rfl (congrArg Value.bool (decide_eq_true h53)) rfl ?_
          refine s_op (o_pick_t (u := (.bool true)) ((rfl : _ = _).trans (congrArg Value.bool (decide_eq_true h53))) rfl ?_)
          refine s_op (o_assign (v := (.bool true)) rfl ?_)
          refine s_nil ?_
          refine t_norm (hK16 _ _ ?_)
          refine c_true rfl rfl ?_
          refine wp_seq_k fun K54 hK54 => ?_
          refine c_region ?_
          refine s_op (o_sight (v := (.agg #[(.int .i64 0), (.int .i64 0), (.slice none 0 0)])) (fun _ => by kernel_rfl) ?_)
          refine s_eff (o_storeN (vs := [(.int .i64 0), (.int .i64 0), (.slice none 0 0)]) (c' := #[(.int .i64 0), (.int .i64 0), (.slice none 0 0)]) ti24 rfl rfl rfl rfl (by intro u hu; simp only [List.mem_cons, List.not_mem_nil, or_false] at hu; rcases hu with rfl | rfl | rfl <;> first | rfl) (by simp) (by kernel_rfl) (hH42.front 0 rfl) fun w55 hH56 => ?_)
          refine s_op (o_assign (v := (.int .i64 1)) rfl ?_)
          refine s_nil ?_
          refine t_norm (hK54 _ _ ?_)
          refine wp_ret ?_
          refine b_ret (t_ret (c_retC2 Tryd.results17 rfl (run_loadVarN (cs := [(.int .i64 0), (.int .i64 0), (.slice none 0 0)]) Tryd.underlying24 rfl ti24 hH56 (seg_sub 0 rfl) (CellsAt.one rfl)) (x := (.int .i64 1)) rfl ?_))
          have hE_ : setE no gsn l key v g = 1 := setE_bad (by first | exact .inl (by simpa using h20) | exact .inr (.inl (by simpa using h20)) | exact .inr (.inr (.inl (by simpa using h20))) | exact .inl (by simpa using h20_n) | exact .inr (.inl (by simpa using h20_n)) | exact .inr (.inr (.inl (by simpa using h20_n))) | exact .inl (by simpa using h32) | exact .inr (.inl (by simpa using h32)) | exact .inr (.inr (.inl (by simpa using h32))) | exact .inl (by simpa using h32_n) | exact .inr (.inl (by simpa using h32_n)) | exact .inr (.inr (.inl (by simpa using h32_n))) | exact .inl (by simpa using h44) | exact .inr (.inl (by simpa using h44)) | exact .inr (.inr (.inl (by simpa using h44))) | exact .inl (by simpa using h44_n) | exact .inr (.inl (by simpa using h44_n)) | exact .inr (.inr (.inl (by simpa using h44_n))) | exact .inl (by simpa using h53) | exact .inr (.inl (by simpa using h53)) | exact .inr (.inr (.inl (by simpa using h53))) | exact .inr (.inr (.inr (.inl (by omega)))) | exact .inr (.inr (.inr (.inr (by omega)))))
          have q57 : (setNo no gsn l key v g) = 0 := by unfold setNo; rw [if_neg (by rw [hE_]; decide)]
          have q58 : (setG no gsn l key v g) = 0 := by unfold setG; rw [if_neg (by rw [hE_]; decide)]
          have q59 : (setL no gsn l key v g) = ([] : List Cel) := by unfold setL; rw [if_neg (by rw [hE_]; decide)]
          have q60 : (setE no gsn l key v g) = 1 := by exact hE_
          have hH61 : Has E w55 [[], R] := (Has.nil (hH56.front 3 rfl)).first 2 rfl
          exact ⟨_, _, by rw [q57, q58]; rw [q60], (by rw [q59]; exact (Own.nil 45 2)), hH61⟩
        · -- not: g ≤ gsn
          refine s_on 35 rfl (congrArg Value.bool (decide_eq_false h53)) (o_move (v := (.int .i64 g)) rfl ?_)
          refine s_on 35 rfl (congrArg Value.bool (decide_eq_false h53)) (o_geq (a := g) (b := 4611686018427387904) rfl rfl ?_)
          refine s_op (o_pick_f (u := (.bool (decide (4611686018427387904 ≤ g)))) ((rfl : _ = _).trans (congrArg Value.bool (decide_eq_false h53))) rfl ?_)
          refine s_op (o_assign (v := (.bool (decide (4611686018427387904 ≤ g)))) rfl ?_)
          refine s_nil ?_
          refine t_norm (hK16 _ _ ?_)
          refine c_cond rfl (fun h62 => ?_) (fun h62 => ?_)
          · -- 4611686018427387904 ≤ g
            refine wp_seq_k fun K63 hK63 => ?_
            refine c_region ?_
            refine s_op (o_sight (v := (.agg #[(.int .i64 0), (.int .i64 0), (.slice none 0 0)])) (fun _ => by kernel_rfl) ?_)
            refine s_eff (o_storeN (vs := [(.int .i64 0), (.int .i64 0), (.slice none 0 0)]) (c' := #[(.int .i64 0), (.int .i64 0), (.slice none 0 0)]) ti24 rfl rfl rfl rfl (by intro u hu; simp only [List.mem_cons, List.not_mem_nil, or_false] at hu; rcases hu with rfl | rfl | rfl <;> first | rfl) (by simp) (by kernel_rfl) (hH42.front 0 rfl) fun w65 hH66 => ?_)
            refine s_op (o_assign (v := (.int .i64 1)) rfl ?_)
            refine s_nil ?_
            refine t_norm (hK63 _ _ ?_)
            refine wp_ret ?_
            refine b_ret (t_ret (c_retC2 Tryd.results17 rfl (run_loadVarN (cs := [(.int .i64 0), (.int .i64 0), (.slice none 0 0)]) Tryd.underlying24 rfl ti24 hH66 (seg_sub 0 rfl) (CellsAt.one rfl)) (x := (.int .i64 1)) rfl ?_))
            have hE_ : setE no gsn l key v g = 1 := setE_bad (by first | exact .inl (by simpa using h20) | exact .inr (.inl (by simpa using h20)) | exact .inr (.inr (.inl (by simpa using h20))) | exact .inl (by simpa using h20_n) | exact .inr (.inl (by simpa using h20_n)) | exact .inr (.inr (.inl (by simpa using h20_n))) | exact .inl (by simpa using h32) | exact .inr (.inl (by simpa using h32)) | exact .inr (.inr (.inl (by simpa using h32))) | exact .inl (by simpa using h32_n) | exact .inr (.inl (by simpa using h32_n)) | exact .inr (.inr (.inl (by simpa using h32_n))) | exact .inl (by simpa using h44) | exact .inr (.inl (by simpa using h44)) | exact .inr (.inr (.inl (by simpa using h44))) | exact .inl (by simpa using h44_n) | exact .inr (.inl (by simpa using h44_n)) | exact .inr (.inr (.inl (by simpa using h44_n))) | exact .inl (by simpa using h53) | exact .inr (.inl (by simpa using h53)) | exact .inr (.inr (.inl (by simpa using h53))) | exact .inl (by simpa using h62) | exact .inr (.inl (by simpa using h62)) | exact .inr (.inr (.inl (by simpa using h62))) | exact .inr (.inr (.inr (.inl (by omega)))) | exact .inr (.inr (.inr (.inr (by omega)))))
            have q67 : (setNo no gsn l key v g) = 0 := by unfold setNo; rw [if_neg (by rw [hE_]; decide)]
            have q68 : (setG no gsn l key v g) = 0 := by unfold setG; rw [if_neg (by rw [hE_]; decide)]
            have q69 : (setL no gsn l key v g) = ([] : List Cel) := by unfold setL; rw [if_neg (by rw [hE_]; decide)]
            have q70 : (setE no gsn l key v g) = 1 := by exact hE_
            have hH71 : Has E w65 [[], R] := (Has.nil (hH66.front 3 rfl)).first 2 rfl
            exact ⟨_, _, by rw [q67, q68]; rw [q70], (by rw [q69]; exact (Own.nil 45 2)), hH71⟩
          · -- not: 4611686018427387904 ≤ g
            have hP_ := pageR_iff.1 (by first | (simpa using h20) | (simpa using h20_n))
            have hC_ := cellsR_iff.1 hP_.2
            have hs := hC_.2.1
            have hl := hC_.2.2
            have hok_ := setE_ok (g := g) (v := v) (key := key) (by first | (simpa using h20) | (simpa using h20_n)) (by first | (simpa using h32) | (simpa using h32_n)) (by first | (simpa using h44) | (simpa using h44_n)) (by omega) (by omega)
            refine wp_seq_k fun K72 hK72 => ?_
            refine c_region ?_
            refine s_op (o_fieldAddr (k := 0) (fun _ => by kernel_rfl) rfl ?_)
            refine s_op (o_load1 (v := (.bool v.1)) Tryd.underlying4 rfl rfl hH42 (seg_sub 1 rfl) (CellsAt.one rfl) ?_)
            refine s_op (o_not rfl ?_)
            refine s_op (o_move (v := (.bool (!v.1))) rfl ?_)
            rcases Bool.eq_false_or_eq_true (!v.1) with h73 | h73
            · -- !v.1
              have h73_n : v.1 = false := by simpa using h73
              refine s_on 44 rfl (congrArg Value.bool h73) (o_move (v := (.bool ((getC l key).1))) rfl ?_)
              refine s_on 44 rfl (congrArg Value.bool h73) (o_not rfl ?_)
              refine s_op (o_pick_t (u := (.bool (!((getC l key).1)))) ((rfl : _ = _).trans (congrArg Value.bool h73)) rfl ?_)
              refine s_op (o_assign (v := (.bool (!((getC l key).1)))) rfl ?_)
              refine s_nil ?_
              refine t_norm (hK72 _ _ ?_)
              refine c_condb rfl (fun h74 => ?_) (fun h74 => ?_)
              · -- !((getC l key).1)
                have h74_n : ((getC l key).1) = false := by simpa using h74
                refine wp_seq_k fun K75 hK75 => ?_
                refine c_region ?_
                refine s_op (o_sight (v := (.agg #[(.int .i64 0), (.int .i64 0), (.slice none 0 0)])) (fun _ => by kernel_rfl) ?_)
                refine s_eff (o_storeN (vs := [(.int .i64 0), (.int .i64 0), (.slice none 0 0)]) (c' := #[(.int .i64 0), (.int .i64 0), (.slice none 0 0)]) ti24 rfl rfl rfl rfl (by intro u hu; simp only [List.mem_cons, List.not_mem_nil, or_false] at hu; rcases hu with rfl | rfl | rfl <;> first | rfl) (by simp) (by kernel_rfl) (hH42.front 0 rfl) fun w76 hH77 => ?_)
                refine s_op (o_assign (v := (.int .i64 7)) rfl ?_)
                refine s_nil ?_
                refine t_norm (hK75 _ _ ?_)
                refine wp_ret ?_
                refine b_ret (t_ret (c_retC2 Tryd.results17 rfl (run_loadVarN (cs := [(.int .i64 0), (.int .i64 0), (.slice none 0 0)]) Tryd.underlying24 rfl ti24 hH77 (seg_sub 0 rfl) (CellsAt.one rfl)) (x := (.int .i64 7)) rfl ?_))
                have hv1_ : v.1 = false := by simpa using h73
                have hgc_ : (getC l key).1 = false := by simpa using h74
                rw [getC_has] at hgc_
                have hE_ : setE no gsn l key v g = 7 := by rw [hok_]; simp [hv1_, hgc_]; try omega
                have q78 : (setNo no gsn l key v g) = 0 := by unfold setNo; rw [if_neg (by rw [hE_]; decide)]
                have q79 : (setG no gsn l key v g) = 0 := by unfold setG; rw [if_neg (by rw [hE_]; decide)]
                have q80 : (setL no gsn l key v g) = ([] : List Cel) := by unfold setL; rw [if_neg (by rw [hE_]; decide)]
                have q81 : (setE no gsn l key v g) = 7 := by exact hE_
                have hH82 : Has E w76 [[], R] := (Has.nil (hH77.front 3 rfl)).first 2 rfl
                exact ⟨_, _, by rw [q78, q79]; rw [q81], (by rw [q80]; exact (Own.nil 45 2)), hH82⟩
              · -- not: !((getC l key).1)
                have h74_n : ((getC l key).1) = true := by simpa using h74
                refine wp_seq_k fun K83 hK83 => ?_
                refine c_region ?_
                refine s_op (o_fieldAddr (k := 0) (fun _ => by kernel_rfl) rfl ?_)
                refine s_op (o_load1 (v := (.bool v.1)) Tryd.underlying4 rfl rfl hH42 (seg_sub 1 rfl) (CellsAt.one rfl) ?_)
                refine s_op (o_move (v := (.bool v.1)) rfl ?_)
                refine s_off (b' := false) 52 rfl (congrArg Value.bool h73_n) rfl ?_
                refine s_off (b' := false) 52 rfl (congrArg Value.bool h73_n) rfl ?_
                refine s_op (o_pick_f (u := (.bool false)) ((rfl : _ = _).trans (congrArg Value.bool h73_n)) rfl ?_)
                refine s_op (o_move (v := (.bool false)) rfl ?_)
                refine s_off (b' := false) 56 rfl rfl rfl ?_
                refine s_off (b' := false) 56 rfl rfl rfl ?_
                refine s_off (b' := false) 56 rfl rfl rfl ?_
                refine s_off (b' := false) 56 rfl rfl rfl ?_
                refine s_op (o_pick_f (u := (.bool false)) rfl rfl ?_)
                refine s_op (o_assign (v := (.bool false)) rfl ?_)
                refine s_nil ?_
                refine t_norm (hK83 _ _ ?_)
                refine c_false rfl rfl ?_
                refine wp_skip ?_
                refine b_norm ?_
                refine t_norm (hK15 _ _ ?_)
                refine wp_seq_k fun K84 hK84 => ?_
                refine c_region ?_
                refine s_op (o_loadN (cs := [(.int .i64 no), (.int .i64 gsn), v_l]) Tryd.underlying24 rfl ti24 rfl hH42 (seg_sub 2 rfl) (CellsAt.one rfl) ?_)
                refine s_op (o_move (v := (S key)) rfl ?_)
                refine s_op (o_loadN (cs := [(.bool v.1), (S v.2)]) Tryd.underlying29 rfl ti29 rfl hH42 (seg_sub 1 rfl) (CellsAt.one rfl) ?_)
                refine s_op (o_move (v := (.int .i64 g)) rfl ?_)
                refine s_op (o_callf (vs := #[(.agg #[(.int .i64 no), (.int .i64 gsn), v_l]), (S key), (.agg #[(.bool v.1), (S v.2)]), (.int .i64 g)]) ca46 rfl (args4 rfl rfl rfl rfl) (r11put_c (no := no) (gsn := gsn) (l := l) (key := key) (v := (v.1, v.2)) (g := g) hH42.all (h_l.mono (seg_sub 3 rfl)) (by first | omega | (simp only []; omega) | (simp; done) | (simp; omega))) ?_)
                rintro _ w90 ⟨v85, s86, rfl, ho87, hX88⟩
                refine ⟨_, rfl, ?_⟩
                have hH89 : Has E w90 [s86, [Hp.one b8 (.cells #[(.int .i64 0), (.int .i64 0), (.slice none 0 0)] 24 (0, 0))], [Hp.one b5 (.cells #[(.bool v.1), (S v.2)] 29 (0, 0))], [Hp.one b2 (.cells #[(.int .i64 no), (.int .i64 gsn), v_l] 24 (0, 0))], R] := hX88.of_all1
                refine s_eff (o_storeN (vs := [(.int .i64 no), (.int .i64 g), v85]) (c' := #[(.int .i64 no), (.int .i64 g), v85]) ti24 rfl rfl rfl rfl (by intro u hu; simp only [List.mem_cons, List.not_mem_nil, or_false] at hu; rcases hu with rfl | rfl | rfl <;> first | rfl | exact ho87.one) (by simp) (by kernel_rfl) (hH89.front 1 rfl) fun w91 hH92 => ?_)
                refine s_op (o_assign (v := (.int .i64 0)) rfl ?_)
                refine s_nil ?_
                refine t_norm (hK84 _ _ ?_)
                refine wp_ret ?_
                refine c_retC2 Tryd.results17 rfl (run_loadVarN (cs := [(.int .i64 no), (.int .i64 g), v85]) Tryd.underlying24 rfl ti24 hH92 (seg_sub 0 rfl) (CellsAt.one rfl)) (x := (.int .i64 0)) rfl ?_
                have hv1_ : v.1 = false := by simpa using h73
                have hgc_ : (getC l key).1 = true := by simpa using h74
                rw [getC_has] at hgc_
                have hE_ : setE no gsn l key v g = 0 := by rw [hok_]; simp [hv1_, hgc_]; try omega
                have q93 : (setNo no gsn l key v g) = no := by unfold setNo; rw [if_pos hE_]
                have q94 : (setG no gsn l key v g) = g := by unfold setG; rw [if_pos hE_]
                have q95 : (setL no gsn l key v g) = (putL key (v.1, v.2).2 (!(v.1, v.2).1) l) := by unfold setL; rw [if_pos hE_]; exact (put_eq hs (by first | exact .inl hv1_ | exact .inr hgc_)).symm
                have q96 : (setE no gsn l key v g) = 0 := by exact hE_
                have hH97 : Has E w91 [s86, R] := ((hH92.front 4 rfl).front 2 rfl).first 2 rfl
                exact ⟨_, _, by rw [q93, q94]; rw [q96], (by rw [q95]; exact ho87), hH97⟩
            · -- not: !v.1
              have h73_n : v.1 = true := by simpa using h73
              refine s_off (b' := false) 44 rfl (congrArg Value.bool h73) rfl ?_
              refine s_off (b' := false) 44 rfl (congrArg Value.bool h73) rfl ?_
              refine s_op (o_pick_f (u := (.bool false)) ((rfl : _ = _).trans (congrArg Value.bool h73)) rfl ?_)
              refine s_op (o_assign (v := (.bool false)) rfl ?_)
              refine s_nil ?_
              refine t_norm (hK72 _ _ ?_)
              refine c_false rfl rfl ?_
              refine wp_seq_k fun K98 hK98 => ?_
              refine c_region ?_
              refine s_op (o_fieldAddr (k := 0) (fun _ => by kernel_rfl) rfl ?_)
              refine s_op (o_load1 (v := (.bool v.1)) Tryd.underlying4 rfl rfl hH42 (seg_sub 1 rfl) (CellsAt.one rfl) ?_)
              refine s_op (o_move (v := (.bool v.1)) rfl ?_)
              refine s_on 52 rfl (congrArg Value.bool h73_n) (o_move (v := (.bool ((getC l key).1))) rfl ?_)
              refine s_on 52 rfl (congrArg Value.bool h73_n) (o_not rfl ?_)
              refine s_op (o_pick_t (u := (.bool (!((getC l key).1)))) ((rfl : _ = _).trans (congrArg Value.bool h73_n)) rfl ?_)
              refine s_op (o_move (v := (.bool (!((getC l key).1)))) rfl ?_)
              rcases Bool.eq_false_or_eq_true (!((getC l key).1)) with h99 | h99
              · -- !((getC l key).1)
                have h99_n : ((getC l key).1) = false := by simpa using h99
                refine s_on 56 rfl (congrArg Value.bool h99) (o_fieldAddr (k := 2) (fun _ => by kernel_rfl) rfl ?_)
                refine s_on 56 rfl (congrArg Value.bool h99) (o_load1 (v := v_l) Tryd.underlying22 rfl rfl hH42 (seg_sub 2 rfl) (CellsAt.one rfl) ?_)
                refine s_on 56 rfl (congrArg Value.bool h99) (o_lenS Tryd.underlying22 rfl h_l ?_)
                refine s_on 56 rfl (congrArg Value.bool h99) (o_eql (a := ((l.length : Nat) : Int)) (b := 8) rfl rfl ?_)
                refine s_op (o_pick_t (u := (.bool (decide (((l.length : Nat) : Int) = 8)))) ((rfl : _ = _).trans (congrArg Value.bool h99)) rfl ?_)
                refine s_op (o_assign (v := (.bool (decide (((l.length : Nat) : Int) = 8)))) rfl ?_)
                refine s_nil ?_
                refine t_norm (hK98 _ _ ?_)
                refine c_cond rfl (fun h100 => ?_) (fun h100 => ?_)
                · -- ((l.length : Nat) : Int) = 8
                  refine wp_seq_k fun K101 hK101 => ?_
                  refine c_region ?_
                  refine s_op (o_sight (v := (.agg #[(.int .i64 0), (.int .i64 0), (.slice none 0 0)])) (fun _ => by kernel_rfl) ?_)
                  refine s_eff (o_storeN (vs := [(.int .i64 0), (.int .i64 0), (.slice none 0 0)]) (c' := #[(.int .i64 0), (.int .i64 0), (.slice none 0 0)]) ti24 rfl rfl rfl rfl (by intro u hu; simp only [List.mem_cons, List.not_mem_nil, or_false] at hu; rcases hu with rfl | rfl | rfl <;> first | rfl) (by simp) (by kernel_rfl) (hH42.front 0 rfl) fun w102 hH103 => ?_)
                  refine s_op (o_assign (v := (.int .i64 4)) rfl ?_)
                  refine s_nil ?_
                  refine t_norm (hK101 _ _ ?_)
                  refine wp_ret ?_
                  refine b_ret (t_ret (c_retC2 Tryd.results17 rfl (run_loadVarN (cs := [(.int .i64 0), (.int .i64 0), (.slice none 0 0)]) Tryd.underlying24 rfl ti24 hH103 (seg_sub 0 rfl) (CellsAt.one rfl)) (x := (.int .i64 4)) rfl ?_))
                  have hv1_ : v.1 = true := by simpa using h73
                  have hgc_ : (getC l key).1 = false := by simpa using h99
                  rw [getC_has] at hgc_
                  have hE_ : setE no gsn l key v g = 4 := by rw [hok_]; simp [hv1_, hgc_, h100]; try omega
                  have q104 : (setNo no gsn l key v g) = 0 := by unfold setNo; rw [if_neg (by rw [hE_]; decide)]
                  have q105 : (setG no gsn l key v g) = 0 := by unfold setG; rw [if_neg (by rw [hE_]; decide)]
                  have q106 : (setL no gsn l key v g) = ([] : List Cel) := by unfold setL; rw [if_neg (by rw [hE_]; decide)]
                  have q107 : (setE no gsn l key v g) = 4 := by exact hE_
                  have hH108 : Has E w102 [[], R] := (Has.nil (hH103.front 3 rfl)).first 2 rfl
                  exact ⟨_, _, by rw [q104, q105]; rw [q107], (by rw [q106]; exact (Own.nil 45 2)), hH108⟩
                · -- not: ((l.length : Nat) : Int) = 8
                  refine wp_skip ?_
                  refine b_norm ?_
                  refine t_norm (hK15 _ _ ?_)
                  refine wp_seq_k fun K109 hK109 => ?_
                  refine c_region ?_
                  refine s_op (o_loadN (cs := [(.int .i64 no), (.int .i64 gsn), v_l]) Tryd.underlying24 rfl ti24 rfl hH42 (seg_sub 2 rfl) (CellsAt.one rfl) ?_)
                  refine s_op (o_move (v := (S key)) rfl ?_)
                  refine s_op (o_loadN (cs := [(.bool v.1), (S v.2)]) Tryd.underlying29 rfl ti29 rfl hH42 (seg_sub 1 rfl) (CellsAt.one rfl) ?_)
                  refine s_op (o_move (v := (.int .i64 g)) rfl ?_)
                  refine s_op (o_callf (vs := #[(.agg #[(.int .i64 no), (.int .i64 gsn), v_l]), (S key), (.agg #[(.bool v.1), (S v.2)]), (.int .i64 g)]) ca46 rfl (args4 rfl rfl rfl rfl) (r11put_c (no := no) (gsn := gsn) (l := l) (key := key) (v := (v.1, v.2)) (g := g) hH42.all (h_l.mono (seg_sub 3 rfl)) (by first | omega | (simp only []; omega) | (simp; done) | (simp; omega))) ?_)
                  rintro _ w115 ⟨v110, s111, rfl, ho112, hX113⟩
                  refine ⟨_, rfl, ?_⟩
                  have hH114 : Has E w115 [s111, [Hp.one b8 (.cells #[(.int .i64 0), (.int .i64 0), (.slice none 0 0)] 24 (0, 0))], [Hp.one b5 (.cells #[(.bool v.1), (S v.2)] 29 (0, 0))], [Hp.one b2 (.cells #[(.int .i64 no), (.int .i64 gsn), v_l] 24 (0, 0))], R] := hX113.of_all1
                  refine s_eff (o_storeN (vs := [(.int .i64 no), (.int .i64 g), v110]) (c' := #[(.int .i64 no), (.int .i64 g), v110]) ti24 rfl rfl rfl rfl (by intro u hu; simp only [List.mem_cons, List.not_mem_nil, or_false] at hu; rcases hu with rfl | rfl | rfl <;> first | rfl | exact ho112.one) (by simp) (by kernel_rfl) (hH114.front 1 rfl) fun w116 hH117 => ?_)
                  refine s_op (o_assign (v := (.int .i64 0)) rfl ?_)
                  refine s_nil ?_
                  refine t_norm (hK109 _ _ ?_)
                  refine wp_ret ?_
                  refine c_retC2 Tryd.results17 rfl (run_loadVarN (cs := [(.int .i64 no), (.int .i64 g), v110]) Tryd.underlying24 rfl ti24 hH117 (seg_sub 0 rfl) (CellsAt.one rfl)) (x := (.int .i64 0)) rfl ?_
                  have hv1_ : v.1 = true := by simpa using h73
                  have hgc_ : (getC l key).1 = false := by simpa using h99
                  rw [getC_has] at hgc_
                  have hE_ : setE no gsn l key v g = 0 := by rw [hok_]; simp [hv1_, hgc_, h100]; try omega
                  have q118 : (setNo no gsn l key v g) = no := by unfold setNo; rw [if_pos hE_]
                  have q119 : (setG no gsn l key v g) = g := by unfold setG; rw [if_pos hE_]
                  have q120 : (setL no gsn l key v g) = (putL key (v.1, v.2).2 (!(v.1, v.2).1) l) := by unfold setL; rw [if_pos hE_]; exact (put_eq hs (by first | exact .inl hv1_ | exact .inr hgc_)).symm
                  have q121 : (setE no gsn l key v g) = 0 := by exact hE_
                  have hH122 : Has E w116 [s111, R] := ((hH117.front 4 rfl).front 2 rfl).first 2 rfl
                  exact ⟨_, _, by rw [q118, q119]; rw [q121], (by rw [q120]; exact ho112), hH122⟩
              · -- not: !((getC l key).1)
                have h99_n : ((getC l key).1) = true := by simpa using h99
                refine s_off (b' := false) 56 rfl (congrArg Value.bool h99) rfl ?_
                refine s_off (b' := false) 56 rfl (congrArg Value.bool h99) rfl ?_
                refine s_off (b' := false) 56 rfl (congrArg Value.bool h99) rfl ?_
                refine s_off (b' := false) 56 rfl (congrArg Value.bool h99) rfl ?_
                refine s_op (o_pick_f (u := (.bool false)) ((rfl : _ = _).trans (congrArg Value.bool h99)) rfl ?_)
                refine s_op (o_assign (v := (.bool false)) rfl ?_)
                refine s_nil ?_
                refine t_norm (hK98 _ _ ?_)
                refine c_false rfl rfl ?_
                refine wp_skip ?_
                refine b_norm ?_
                refine t_norm (hK15 _ _ ?_)
                refine wp_seq_k fun K123 hK123 => ?_
                refine c_region ?_
                refine s_op (o_loadN (cs := [(.int .i64 no), (.int .i64 gsn), v_l]) Tryd.underlying24 rfl ti24 rfl hH42 (seg_sub 2 rfl) (CellsAt.one rfl) ?_)
                refine s_op (o_move (v := (S key)) rfl ?_)
                refine s_op (o_loadN (cs := [(.bool v.1), (S v.2)]) Tryd.underlying29 rfl ti29 rfl hH42 (seg_sub 1 rfl) (CellsAt.one rfl) ?_)
                refine s_op (o_move (v := (.int .i64 g)) rfl ?_)
                refine s_op (o_callf (vs := #[(.agg #[(.int .i64 no), (.int .i64 gsn), v_l]), (S key), (.agg #[(.bool v.1), (S v.2)]), (.int .i64 g)]) ca46 rfl (args4 rfl rfl rfl rfl) (r11put_c (no := no) (gsn := gsn) (l := l) (key := key) (v := (v.1, v.2)) (g := g) hH42.all (h_l.mono (seg_sub 3 rfl)) (by first | omega | (simp only []; omega) | (simp; done) | (simp; omega))) ?_)
                rintro _ w129 ⟨v124, s125, rfl, ho126, hX127⟩
                refine ⟨_, rfl, ?_⟩
                have hH128 : Has E w129 [s125, [Hp.one b8 (.cells #[(.int .i64 0), (.int .i64 0), (.slice none 0 0)] 24 (0, 0))], [Hp.one b5 (.cells #[(.bool v.1), (S v.2)] 29 (0, 0))], [Hp.one b2 (.cells #[(.int .i64 no), (.int .i64 gsn), v_l] 24 (0, 0))], R] := hX127.of_all1
                refine s_eff (o_storeN (vs := [(.int .i64 no), (.int .i64 g), v124]) (c' := #[(.int .i64 no), (.int .i64 g), v124]) ti24 rfl rfl rfl rfl (by intro u hu; simp only [List.mem_cons, List.not_mem_nil, or_false] at hu; rcases hu with rfl | rfl | rfl <;> first | rfl | exact ho126.one) (by simp) (by kernel_rfl) (hH128.front 1 rfl) fun w130 hH131 => ?_)
                refine s_op (o_assign (v := (.int .i64 0)) rfl ?_)
                refine s_nil ?_
                refine t_norm (hK123 _ _ ?_)
                refine wp_ret ?_
                refine c_retC2 Tryd.results17 rfl (run_loadVarN (cs := [(.int .i64 no), (.int .i64 g), v124]) Tryd.underlying24 rfl ti24 hH131 (seg_sub 0 rfl) (CellsAt.one rfl)) (x := (.int .i64 0)) rfl ?_
                have hv1_ : v.1 = true := by simpa using h73
                have hgc_ : (getC l key).1 = true := by simpa using h99
                rw [getC_has] at hgc_
                have hE_ : setE no gsn l key v g = 0 := by rw [hok_]; simp [hv1_, hgc_]; try omega
                have q132 : (setNo no gsn l key v g) = no := by unfold setNo; rw [if_pos hE_]
                have q133 : (setG no gsn l key v g) = g := by unfold setG; rw [if_pos hE_]
                have q134 : (setL no gsn l key v g) = (putL key (v.1, v.2).2 (!(v.1, v.2).1) l) := by unfold setL; rw [if_pos hE_]; exact (put_eq hs (by first | exact .inl hv1_ | exact .inr hgc_)).symm
                have q135 : (setE no gsn l key v g) = 0 := by exact hE_
                have hH136 : Has E w130 [s125, R] := ((hH131.front 4 rfl).front 2 rfl).first 2 rfl
                exact ⟨_, _, by rw [q132, q133]; rw [q135], (by rw [q134]; exact ho126), hH136⟩
set_option maxHeartbeats 4000000 in
theorem r11same_c {E w : World} {R : List Hp} {noa : Int} {gsna : Int} {v_la : Value} {la : List Cel} {nob : Int} {gsnb : Int} {v_lb : Value} {lb : List Cel}  (hH : Has E w [R]) (h_la : Sl R 2 v_la la.length (la.flatMap ceC)) (h_lb : Sl R 2 v_lb lb.length (lb.flatMap ceC)) :
    Calls Tryd.prog 13 #[(.agg #[(.int .i64 noa), (.int .i64 gsna), v_la]), (.agg #[(.int .i64 nob), (.int .i64 gsnb), v_lb])] w fun e w' => e = .returned (.bool (decide (noa = nob ∧ gsna = gsnb ∧ la = lb))) ∧ Has E w' [R] := by
  have hna_ := h_la.le
  have hnb_ := h_lb.le
  refine c_enter (args := [(.agg #[(.int .i64 noa), (.int .i64 gsna), v_la]), (.agg #[(.int .i64 nob), (.int .i64 gsnb), v_lb])]) Tryd.func13 rfl Tryd.ntmps13 (by simp) ?_
  refine wp_seq_k fun K1 hK1 => ?_
  refine c_region ?_
  refine s_op (o_box (cs := #[(.int .i64 noa), (.int .i64 gsna), v_la]) rfl rfl hH fun b2 w3 hH4 => ?_)
  refine s_op (o_box (cs := #[(.int .i64 nob), (.int .i64 gsnb), v_lb]) rfl rfl hH4 fun b5 w6 hH7 => ?_)
  refine s_op (o_assign (v := (.bool false)) rfl ?_)
  refine s_nil ?_
  refine t_norm (hK1 _ _ ?_)
  refine wp_seq_k fun K8 hK8 => ?_
  refine wp_seq_k fun K9 hK9 => ?_
  refine c_region ?_
  refine s_op (o_fieldAddr (k := 0) (fun _ => by kernel_rfl) rfl ?_)
  refine s_op (o_load1 (v := (.int .i64 noa)) Tryd.underlying3 rfl rfl hH7 (seg_sub 1 rfl) (CellsAt.one rfl) ?_)
  refine s_op (o_fieldAddr (k := 0) (fun _ => by kernel_rfl) rfl ?_)
  refine s_op (o_load1 (v := (.int .i64 nob)) Tryd.underlying3 rfl rfl hH7 (seg_sub 0 rfl) (CellsAt.one rfl) ?_)
  refine s_op (o_neq (a := noa) (b := nob) rfl rfl ?_)
  refine s_op (o_move (v := (.bool (decide (noa ≠ nob)))) rfl ?_)
  by_cases h10 : noa ≠ nob
  · -- noa ≠ nob
    refine s_off (b' := true) 11 rfl (congrArg Value.bool (decide_eq_true h10)) rfl ?_
    refine s_off (b' := true) 11 rfl (congrArg Value.bool (decide_eq_true h10)) rfl ?_
    refine s_off (b' := true) 11 rfl (congrArg Value.bool (decide_eq_true h10)) rfl ?_
    refine s_off (b' := true) 11 rfl (congrArg Value.bool (decide_eq_true h10)) rfl ?_
    refine s_off (b' := true) 11 rfl (congrArg Value.bool (decide_eq_true h10)) rfl ?_
    refine s_op (o_pick_t (u := (.bool true)) ((rfl : _ = _).trans (congrArg Value.bool (decide_eq_true h10))) rfl ?_)
    refine s_op (o_move (v := (.bool true)) rfl ?_)
    refine s_off (b' := true) 18 rfl rfl rfl ?_
    refine s_off (b' := true) 18 rfl rfl rfl ?_
    refine s_off (b' := true) 18 rfl rfl rfl ?_
    refine s_off (b' := true) 18 rfl rfl rfl ?_
    refine s_off (b' := true) 18 rfl rfl rfl ?_
    refine s_off (b' := true) 18 rfl rfl rfl ?_
    refine s_off (b' := true) 18 rfl rfl rfl ?_
    refine s_op (o_pick_t (u := (.bool true)) rfl rfl ?_)
    refine s_nil ?_
    refine t_norm (hK9 _ _ ?_)
    refine c_true rfl rfl ?_
    refine wp_seq_k fun K11 hK11 => ?_
    refine c_region ?_
    refine s_op (o_assign (v := (.bool false)) rfl ?_)
    refine s_nil ?_
    refine t_norm (hK11 _ _ ?_)
    refine wp_ret ?_
    refine t_ret (c_ret1 Tryd.results13  (v := (.bool false)) rfl ?_)
    have q12 : (decide (noa = nob ∧ gsna = gsnb ∧ la = lb)) = false := by exact (decide_eq_false (fun g_ => by first | omega | (have := congrArg List.length g_.2.2; omega)))
    have hH13 : Has E w6 [R] := (hH7.front 2 rfl).first 1 rfl
    exact ⟨by rw [q12], hH13⟩
  · -- not: noa ≠ nob
    refine s_on 11 rfl (congrArg Value.bool (decide_eq_false h10)) (o_fieldAddr (k := 1) (fun _ => by kernel_rfl) rfl ?_)
    refine s_on 11 rfl (congrArg Value.bool (decide_eq_false h10)) (o_load1 (v := (.int .i64 gsna)) Tryd.underlying3 rfl rfl hH7 (seg_sub 1 rfl) (CellsAt.one rfl) ?_)
    refine s_on 11 rfl (congrArg Value.bool (decide_eq_false h10)) (o_fieldAddr (k := 1) (fun _ => by kernel_rfl) rfl ?_)
    refine s_on 11 rfl (congrArg Value.bool (decide_eq_false h10)) (o_load1 (v := (.int .i64 gsnb)) Tryd.underlying3 rfl rfl hH7 (seg_sub 0 rfl) (CellsAt.one rfl) ?_)
    refine s_on 11 rfl (congrArg Value.bool (decide_eq_false h10)) (o_neq (a := gsna) (b := gsnb) rfl rfl ?_)
    refine s_op (o_pick_f (u := (.bool (decide (gsna ≠ gsnb)))) ((rfl : _ = _).trans (congrArg Value.bool (decide_eq_false h10))) rfl ?_)
    refine s_op (o_move (v := (.bool (decide (gsna ≠ gsnb)))) rfl ?_)
    by_cases h14 : gsna ≠ gsnb
    · -- gsna ≠ gsnb
      refine s_off (b' := true) 18 rfl (congrArg Value.bool (decide_eq_true h14)) rfl ?_
      refine s_off (b' := true) 18 rfl (congrArg Value.bool (decide_eq_true h14)) rfl ?_
      refine s_off (b' := true) 18 rfl (congrArg Value.bool (decide_eq_true h14)) rfl ?_
      refine s_off (b' := true) 18 rfl (congrArg Value.bool (decide_eq_true h14)) rfl ?_
      refine s_off (b' := true) 18 rfl (congrArg Value.bool (decide_eq_true h14)) rfl ?_
      refine s_off (b' := true) 18 rfl (congrArg Value.bool (decide_eq_true h14)) rfl ?_
      refine s_off (b' := true) 18 rfl (congrArg Value.bool (decide_eq_true h14)) rfl ?_
      refine s_op (o_pick_t (u := (.bool true)) ((rfl : _ = _).trans (congrArg Value.bool (decide_eq_true h14))) rfl ?_)
      refine s_nil ?_
      refine t_norm (hK9 _ _ ?_)
      refine c_true rfl rfl ?_
      refine wp_seq_k fun K15 hK15 => ?_
      refine c_region ?_
      refine s_op (o_assign (v := (.bool false)) rfl ?_)
      refine s_nil ?_
      refine t_norm (hK15 _ _ ?_)
      refine wp_ret ?_
      refine t_ret (c_ret1 Tryd.results13  (v := (.bool false)) rfl ?_)
      have q16 : (decide (noa = nob ∧ gsna = gsnb ∧ la = lb)) = false := by exact (decide_eq_false (fun g_ => by first | omega | (have := congrArg List.length g_.2.2; omega)))
      have hH17 : Has E w6 [R] := (hH7.front 2 rfl).first 1 rfl
      exact ⟨by rw [q16], hH17⟩
    · -- not: gsna ≠ gsnb
      refine s_on 18 rfl (congrArg Value.bool (decide_eq_false h14)) (o_fieldAddr (k := 2) (fun _ => by kernel_rfl) rfl ?_)
      refine s_on 18 rfl (congrArg Value.bool (decide_eq_false h14)) (o_load1 (v := v_la) Tryd.underlying22 rfl rfl hH7 (seg_sub 1 rfl) (CellsAt.one rfl) ?_)
      refine s_on 18 rfl (congrArg Value.bool (decide_eq_false h14)) (o_lenS Tryd.underlying22 rfl h_la ?_)
      refine s_on 18 rfl (congrArg Value.bool (decide_eq_false h14)) (o_fieldAddr (k := 2) (fun _ => by kernel_rfl) rfl ?_)
      refine s_on 18 rfl (congrArg Value.bool (decide_eq_false h14)) (o_load1 (v := v_lb) Tryd.underlying22 rfl rfl hH7 (seg_sub 0 rfl) (CellsAt.one rfl) ?_)
      refine s_on 18 rfl (congrArg Value.bool (decide_eq_false h14)) (o_lenS Tryd.underlying22 rfl h_lb ?_)
      refine s_on 18 rfl (congrArg Value.bool (decide_eq_false h14)) (o_neq (a := ((la.length : Nat) : Int)) (b := ((lb.length : Nat) : Int)) rfl rfl ?_)
      refine s_op (o_pick_f (u := (.bool (decide (((la.length : Nat) : Int) ≠ ((lb.length : Nat) : Int))))) ((rfl : _ = _).trans (congrArg Value.bool (decide_eq_false h14))) rfl ?_)
      refine s_nil ?_
      refine t_norm (hK9 _ _ ?_)
      refine c_cond rfl (fun h18 => ?_) (fun h18 => ?_)
      · -- ((la.length : Nat) : Int) ≠ ((lb.length : Nat) : Int)
        refine wp_seq_k fun K19 hK19 => ?_
        refine c_region ?_
        refine s_op (o_assign (v := (.bool false)) rfl ?_)
        refine s_nil ?_
        refine t_norm (hK19 _ _ ?_)
        refine wp_ret ?_
        refine t_ret (c_ret1 Tryd.results13  (v := (.bool false)) rfl ?_)
        have q20 : (decide (noa = nob ∧ gsna = gsnb ∧ la = lb)) = false := by exact (decide_eq_false (fun g_ => by first | omega | (have := congrArg List.length g_.2.2; omega)))
        have hH21 : Has E w6 [R] := (hH7.front 2 rfl).first 1 rfl
        exact ⟨by rw [q20], hH21⟩
      · -- not: ((la.length : Nat) : Int) ≠ ((lb.length : Nat) : Int)
        refine wp_skip ?_
        refine t_norm (hK8 _ _ ?_)
        refine wp_seq_k fun K22 hK22 => ?_
        refine wp_seq_k fun K23 hK23 => ?_
        refine c_region ?_
        refine s_op (o_assign (v := (.int .i64 0)) rfl ?_)
        refine s_nil ?_
        refine t_norm (hK23 _ _ ?_)
        refine wp_block ?_
        let I25 : Nat → (Nat → Value) → World → Prop := fun n__ r__ w__ => ∃ (k : Nat), n__ = la.length - k ∧ Has E w__ [[Hp.one b5 (.cells #[(.int .i64 nob), (.int .i64 gsnb), v_lb] 24 (0, 0))], [Hp.one b2 (.cells #[(.int .i64 noa), (.int .i64 gsna), v_la] 24 (0, 0))], R] ∧ (k ≤ la.length) ∧ (∀ j, j < k → la[j]? = lb[j]?) ∧ r__ 0 = (.agg #[(.int .i64 noa), (.int .i64 gsna), v_la]) ∧ r__ 1 = (.agg #[(.int .i64 nob), (.int .i64 gsnb), v_lb]) ∧ r__ 2 = (.pointer (some ⟨b2, 0, none⟩)) ∧ r__ 3 = (.pointer (some ⟨b5, 0, none⟩)) ∧ r__ 5 = (.int .i64 (k : Int)) ∧ r__ 26 = (.bool (decide (((la.length : Nat) : Int) ≠ ((lb.length : Nat) : Int))))
        refine c_loop I25 _ ⟨0, rfl, hH7, Nat.zero_le _, fun j hj => absurd hj (Nat.not_lt_zero j), rfl, rfl, rfl, rfl, rfl, rfl⟩ ?_
        rintro n_ r28 w26 ⟨k, rfl, hH27, hk, he, e24_0, e24_1, e24_2, e24_3, e24_5, e24_26⟩
        refine wp_seq_k fun K29 hK29 => ?_
        refine wp_seq_k fun K30 hK30 => ?_
        refine c_region ?_
        refine s_op (o_move (v := (.int .i64 (k : Int))) e24_5 ?_)
        refine s_op (o_fieldAddr (k := 2) (fun _ => by kernel_rfl) e24_2 ?_)
        refine s_op (o_load1 (v := v_la) Tryd.underlying22 rfl rfl hH27 (seg_sub 1 rfl) (CellsAt.one rfl) ?_)
        refine s_op (o_lenS Tryd.underlying22 rfl h_la ?_)
        refine s_op (o_lss (a := (k : Int)) (b := ((la.length : Nat) : Int)) rfl rfl ?_)
        refine s_nil ?_
        refine t_norm (hK30 _ _ ?_)
        refine c_cond rfl (fun h31 => ?_) (fun h31 => ?_)
        · -- (k : Int) < ((la.length : Nat) : Int)
          refine wp_skip ?_
          refine t_norm (hK29 _ _ ?_)
          refine wp_seq_k fun K32 hK32 => ?_
          refine wp_block ?_
          refine wp_seq_k fun K33 hK33 => ?_
          refine Rest.region mixed (by kernel_rfl) ?_
          have hH34 : Has E { w26 with drawn := w26.drawn + 1 } [[Hp.one b5 (.cells #[(.int .i64 nob), (.int .i64 gsnb), v_lb] 24 (0, 0))], [Hp.one b2 (.cells #[(.int .i64 noa), (.int .i64 gsna), v_la] 24 (0, 0))], R] := Has0.drew hH27 _
          refine Rest.phaseA (fun w_ => Has E w_ [[Hp.one b5 (.cells #[(.int .i64 nob), (.int .i64 gsnb), v_lb] 24 (0, 0))], [Hp.one b2 (.cells #[(.int .i64 noa), (.int .i64 gsna), v_la] 24 (0, 0))], R]) 0 10 10 rfl (by decide) (by kernel_rfl) ?_
          refine a_op 0 rfl (by kernel_rfl) (fun w_ h_ => o_fieldAddr (k := 2) (fun _ => by kernel_rfl) e24_2 ⟨rfl, rfl⟩) ?_
          refine a_op 1 rfl (by kernel_rfl) (fun w_ h_ => o_load1 (v := v_la) Tryd.underlying22 rfl rfl h_ (seg_sub 1 rfl) (CellsAt.one rfl) ⟨rfl, rfl⟩) ?_
          refine a_op 2 rfl (by kernel_rfl) (fun w_ h_ => o_move (v := (.int .i64 (k : Int))) e24_5 ⟨rfl, rfl⟩) ?_
          obtain ⟨x38, hx39⟩ : ∃ x_, la[((k : Int)).toNat]? = some x_ := get_some (by omega)
          obtain ⟨b35, o36, hc37, ho40⟩ := ix_exF ceC_len Tryd.underlying22 ti45 h_la (by omega) hx39
          refine a_op 3 rfl (by kernel_rfl) (fun w_ h_ => ho40 rfl rfl ⟨rfl, rfl⟩) ?_
          refine a_op 4 rfl (by kernel_rfl) (fun w_ h_ => o_loadN (cs := [(S x38.1), (S x38.2)]) Tryd.underlying45 rfl ti45 rfl h_ (seg_sub 2 rfl) hc37 ⟨rfl, rfl⟩) ?_
          refine a_op 5 rfl (by kernel_rfl) (fun w_ h_ => o_fieldAddr (k := 2) (fun _ => by kernel_rfl) e24_3 ⟨rfl, rfl⟩) ?_
          refine a_op 6 rfl (by kernel_rfl) (fun w_ h_ => o_load1 (v := v_lb) Tryd.underlying22 rfl rfl h_ (seg_sub 0 rfl) (CellsAt.one rfl) ⟨rfl, rfl⟩) ?_
          refine a_op 7 rfl (by kernel_rfl) (fun w_ h_ => o_move (v := (.int .i64 (k : Int))) e24_5 ⟨rfl, rfl⟩) ?_
          obtain ⟨x44, hx45⟩ : ∃ x_, lb[((k : Int)).toNat]? = some x_ := get_some (by omega)
          obtain ⟨b41, o42, hc43, ho46⟩ := ix_exF ceC_len Tryd.underlying22 ti45 h_lb (by omega) hx45
          refine a_op 8 rfl (by kernel_rfl) (fun w_ h_ => ho46 rfl rfl ⟨rfl, rfl⟩) ?_
          refine a_op 9 rfl (by kernel_rfl) (fun w_ h_ => o_loadN (cs := [(S x44.1), (S x44.2)]) Tryd.underlying45 rfl ti45 rfl h_ (seg_sub 2 rfl) hc43 ⟨rfl, rfl⟩) ?_
          refine a_done (by kernel_rfl) hH34 ?_
          refine r_op 10 rfl (by kernel_rfl) (o_neq45 x38.1 x38.2 x44.1 x44.2 rfl rfl ?_)
          refine Rest.done (by kernel_rfl) ?_
          refine t_norm (hK33 _ _ ?_)
          refine c_condb rfl (fun h47 => ?_) (fun h47 => ?_)
          · -- !(eqv45 x38.1 x38.2 x44.1 x44.2)
            have h47_n : (eqv45 x38.1 x38.2 x44.1 x44.2) = false := by simpa using h47
            refine wp_seq_k fun K48 hK48 => ?_
            refine c_region ?_
            refine s_op (o_assign (v := (.bool false)) rfl ?_)
            refine s_nil ?_
            refine t_norm (hK48 _ _ ?_)
            refine wp_ret ?_
            refine b_ret (t_ret (t_ret (b_ret (t_ret (c_ret1 Tryd.results13  (v := (.bool false)) rfl ?_)))))
            have q49 : (decide (noa = nob ∧ gsna = gsnb ∧ la = lb)) = false := by exact (decide_eq_false (fun g_ => same_not hx39 hx45 (fun e_ => by subst e_; exact absurd ((eqv45_iff _ _ _ _).2 ⟨rfl, rfl⟩) (by simpa using h47)) g_.2.2))
            have hH50 : Has E { w26 with drawn := w26.drawn + 1 } [R] := (hH34.front 2 rfl).first 1 rfl
            exact ⟨by rw [q49], hH50⟩
          · -- not: !(eqv45 x38.1 x38.2 x44.1 x44.2)
            have h47_n : (eqv45 x38.1 x38.2 x44.1 x44.2) = true := by simpa using h47
            refine wp_skip ?_
            refine b_norm ?_
            refine t_norm (hK32 _ _ ?_)
            refine c_region ?_
            refine s_op (o_move (v := (.int .i64 (k : Int))) e24_5 ?_)
            refine s_op (o_add (a := (k : Int)) (b := 1) rfl rfl (w64 (by omega) (by omega)) ?_)
            refine s_op (o_assign (v := (.int .i64 ((k : Int) + 1))) rfl ?_)
            refine s_nil ?_
            refine t_norm ⟨la.length - (k + 1), _, rfl, ?_, ?_⟩
            · omega
            · exact ⟨(k + 1), rfl, hH34, (by omega), (same_next he (show la[k]? = some _ from hx39) (show lb[k]? = some _ from hx45) (by have h_ := h47; have e_ := (eqv45_iff _ _ _ _).1 (by simpa using h_); exact Prod.ext e_.1 e_.2)), e24_0, e24_1, e24_2, e24_3, rfl, e24_26⟩
        · -- not: (k : Int) < ((la.length : Nat) : Int)
          refine wp_exit ?_
          refine t_exit (t_exit (x_in (?_)))
          refine t_norm (hK22 _ _ ?_)
          refine wp_seq_k fun K51 hK51 => ?_
          refine c_region ?_
          refine s_op (o_assign (v := (.bool true)) rfl ?_)
          refine s_nil ?_
          refine t_norm (hK51 _ _ ?_)
          refine wp_ret ?_
          refine c_ret1 Tryd.results13  (v := (.bool true)) rfl ?_
          have q52 : (decide (noa = nob ∧ gsna = gsnb ∧ la = lb)) = true := by exact (decide_eq_true ⟨by omega, by omega, same_all he (by omega) (by omega)⟩)
          have hH53 : Has E w26 [R] := (hH27.front 2 rfl).first 1 rfl
          exact ⟨by rw [q52], hH53⟩
set_option maxHeartbeats 4000000 in
theorem r11great_c {E w : World} {R : List Hp} {no : Int} {gsn : Int} {v_l : Value} {l : List Cel}  (hH : Has E w [R]) (h_l : Sl R 2 v_l l.length (l.flatMap ceC)) :
    Calls Tryd.prog 8 #[(.agg #[(.int .i64 no), (.int .i64 gsn), v_l])] w fun e w' => ∃ (gb : Bool), e = .returned (.bool gb) ∧ (gb = false → l.length ≤ 20 ∧ ∀ c ∈ l, c.1.length ≤ 100 ∧ c.2.length ≤ 100) ∧ Has E w' [R] := by
  have hn_ := h_l.le
  refine c_enter (args := [(.agg #[(.int .i64 no), (.int .i64 gsn), v_l])]) Tryd.func8 rfl Tryd.ntmps8 (by simp) ?_
  refine wp_seq_k fun K1 hK1 => ?_
  refine c_region ?_
  refine s_op (o_box (cs := #[(.int .i64 no), (.int .i64 gsn), v_l]) rfl rfl hH fun b2 w3 hH4 => ?_)
  refine s_op (o_assign (v := (.bool false)) rfl ?_)
  refine s_nil ?_
  refine t_norm (hK1 _ _ ?_)
  refine wp_seq_k fun K5 hK5 => ?_
  refine wp_seq_k fun K6 hK6 => ?_
  refine c_region ?_
  refine s_op (o_fieldAddr (k := 2) (fun _ => by kernel_rfl) rfl ?_)
  refine s_op (o_load1 (v := v_l) Tryd.underlying22 rfl rfl hH4 (seg_sub 0 rfl) (CellsAt.one rfl) ?_)
  refine s_op (o_lenS Tryd.underlying22 rfl h_l ?_)
  refine s_op (o_gtr (a := ((l.length : Nat) : Int)) (b := 20) rfl rfl ?_)
  refine s_nil ?_
  refine t_norm (hK6 _ _ ?_)
  refine c_cond rfl (fun h7 => ?_) (fun h7 => ?_)
  · -- 20 < ((l.length : Nat) : Int)
    refine wp_seq_k fun K8 hK8 => ?_
    refine c_region ?_
    refine s_op (o_assign (v := (.bool true)) rfl ?_)
    refine s_nil ?_
    refine t_norm (hK8 _ _ ?_)
    refine wp_ret ?_
    refine t_ret (c_ret1 Tryd.results8  (v := (.bool true)) rfl ?_)
    have hH9 : Has E w3 [R] := (hH4.front 1 rfl).first 1 rfl
    exact ⟨true, rfl, (fun g => by cases g), hH9⟩
  · -- not: 20 < ((l.length : Nat) : Int)
    refine wp_skip ?_
    refine t_norm (hK5 _ _ ?_)
    refine wp_seq_k fun K10 hK10 => ?_
    refine wp_seq_k fun K11 hK11 => ?_
    refine c_region ?_
    refine s_op (o_assign (v := (.int .i64 0)) rfl ?_)
    refine s_nil ?_
    refine t_norm (hK11 _ _ ?_)
    refine wp_block ?_
    let I13 : Nat → (Nat → Value) → World → Prop := fun n__ r__ w__ => ∃ (k : Nat), n__ = l.length - k ∧ Has E w__ [[Hp.one b2 (.cells #[(.int .i64 no), (.int .i64 gsn), v_l] 24 (0, 0))], R] ∧ (k ≤ l.length) ∧ (∀ c ∈ l.take k, c.1.length ≤ 100 ∧ c.2.length ≤ 100) ∧ r__ 0 = (.agg #[(.int .i64 no), (.int .i64 gsn), v_l]) ∧ r__ 1 = (.pointer (some ⟨b2, 0, none⟩)) ∧ r__ 3 = (.int .i64 (k : Int)) ∧ r__ 7 = (.bool (decide (20 < ((l.length : Nat) : Int))))
    refine c_loop I13 _ ⟨0, rfl, hH4, Nat.zero_le _, (by simp), rfl, rfl, rfl, rfl⟩ ?_
    rintro n_ r16 w14 ⟨k, rfl, hH15, hk, hgf, e12_0, e12_1, e12_3, e12_7⟩
    refine wp_seq_k fun K17 hK17 => ?_
    refine wp_seq_k fun K18 hK18 => ?_
    refine c_region ?_
    refine s_op (o_move (v := (.int .i64 (k : Int))) e12_3 ?_)
    refine s_op (o_fieldAddr (k := 2) (fun _ => by kernel_rfl) e12_1 ?_)
    refine s_op (o_load1 (v := v_l) Tryd.underlying22 rfl rfl hH15 (seg_sub 0 rfl) (CellsAt.one rfl) ?_)
    refine s_op (o_lenS Tryd.underlying22 rfl h_l ?_)
    refine s_op (o_lss (a := (k : Int)) (b := ((l.length : Nat) : Int)) rfl rfl ?_)
    refine s_nil ?_
    refine t_norm (hK18 _ _ ?_)
    refine c_cond rfl (fun h19 => ?_) (fun h19 => ?_)
    · -- (k : Int) < ((l.length : Nat) : Int)
      refine wp_skip ?_
      refine t_norm (hK17 _ _ ?_)
      refine wp_seq_k fun K20 hK20 => ?_
      refine wp_block ?_
      refine wp_seq_k fun K21 hK21 => ?_
      refine c_region ?_
      refine s_op (o_fieldAddr (k := 2) (fun _ => by kernel_rfl) e12_1 ?_)
      refine s_op (o_load1 (v := v_l) Tryd.underlying22 rfl rfl hH15 (seg_sub 0 rfl) (CellsAt.one rfl) ?_)
      refine s_op (o_move (v := (.int .i64 (k : Int))) e12_3 ?_)
      obtain ⟨x25, hx26⟩ : ∃ x_, l[((k : Int)).toNat]? = some x_ := get_some (by omega)
      refine s_op (o_indexF ceC_len Tryd.underlying22 ti45 rfl h_l rfl rfl (by omega) hx26 fun b22 o23 hc24 => ?_)
      refine s_op (o_fieldAddr (k := o23) (fun _ => by kernel_rfl) rfl ?_)
      refine s_op (o_load1 (v := (S x25.1)) Tryd.underlying9 rfl rfl hH15 (seg_sub 1 rfl) (CellsAt.field (k := 0) (ds := [(S x25.1)]) hc24 rfl) ?_)
      refine s_op (o_slen Tryd.underlying9 rfl ?_)
      refine s_op (o_gtr (a := (x25.1.length : Int)) (b := 100) rfl rfl ?_)
      refine s_op (o_move (v := (.bool (decide (100 < (x25.1.length : Int))))) rfl ?_)
      by_cases h27 : 100 < (x25.1.length : Int)
      · -- 100 < (x25.1.length : Int)
        refine s_off (b' := true) 23 rfl (congrArg Value.bool (decide_eq_true h27)) rfl ?_
        refine s_off (b' := true) 23 rfl (congrArg Value.bool (decide_eq_true h27)) rfl ?_
        refine s_off (b' := true) 23 rfl (congrArg Value.bool (decide_eq_true h27)) rfl ?_
        refine s_off (b' := true) 23 rfl (congrArg Value.bool (decide_eq_true h27)) rfl ?_
        refine s_off (b' := true) 23 rfl (congrArg Value.bool (decide_eq_true h27)) rfl ?_
        refine s_off (b' := true) 23 rfl (congrArg Value.bool (decide_eq_true h27)) rfl ?_
        refine s_off (b' := true) 23 rfl (congrArg Value.bool (decide_eq_true h27)) rfl ?_
        refine s_off (b' := true) 23 rfl (congrArg Value.bool (decide_eq_true h27)) rfl ?_
        refine s_op (o_pick_t (u := (.bool true)) ((rfl : _ = _).trans (congrArg Value.bool (decide_eq_true h27))) rfl ?_)
        refine s_nil ?_
        refine t_norm (hK21 _ _ ?_)
        refine c_true rfl rfl ?_
        refine wp_seq_k fun K28 hK28 => ?_
        refine c_region ?_
        refine s_op (o_assign (v := (.bool true)) rfl ?_)
        refine s_nil ?_
        refine t_norm (hK28 _ _ ?_)
        refine wp_ret ?_
        refine b_ret (t_ret (t_ret (b_ret (t_ret (c_ret1 Tryd.results8  (v := (.bool true)) rfl ?_)))))
        have hH29 : Has E w14 [R] := (hH15.front 1 rfl).first 1 rfl
        exact ⟨true, rfl, (fun g => by cases g), hH29⟩
      · -- not: 100 < (x25.1.length : Int)
        refine s_on 23 rfl (congrArg Value.bool (decide_eq_false h27)) (o_fieldAddr (k := 2) (fun _ => by kernel_rfl) e12_1 ?_)
        refine s_on 23 rfl (congrArg Value.bool (decide_eq_false h27)) (o_load1 (v := v_l) Tryd.underlying22 rfl rfl hH15 (seg_sub 0 rfl) (CellsAt.one rfl) ?_)
        refine s_on 23 rfl (congrArg Value.bool (decide_eq_false h27)) (o_move (v := (.int .i64 (k : Int))) e12_3 ?_)
        refine s_on 23 rfl (congrArg Value.bool (decide_eq_false h27)) (o_indexF ceC_len Tryd.underlying22 ti45 rfl h_l rfl rfl (by omega) hx26 fun b30 o31 hc32 => ?_)
        refine s_on 23 rfl (congrArg Value.bool (decide_eq_false h27)) (o_fieldAddr (k := o31 + 1) (fun _ => by kernel_rfl) rfl ?_)
        refine s_on 23 rfl (congrArg Value.bool (decide_eq_false h27)) (o_load1 (v := (S x25.2)) Tryd.underlying9 rfl rfl hH15 (seg_sub 1 rfl) (CellsAt.field (k := 1) (ds := [(S x25.2)]) hc32 rfl) ?_)
        refine s_on 23 rfl (congrArg Value.bool (decide_eq_false h27)) (o_slen Tryd.underlying9 rfl ?_)
        refine s_on 23 rfl (congrArg Value.bool (decide_eq_false h27)) (o_gtr (a := (x25.2.length : Int)) (b := 100) rfl rfl ?_)
        refine s_op (o_pick_f (u := (.bool (decide (100 < (x25.2.length : Int))))) ((rfl : _ = _).trans (congrArg Value.bool (decide_eq_false h27))) rfl ?_)
        refine s_nil ?_
        refine t_norm (hK21 _ _ ?_)
        refine c_cond rfl (fun h33 => ?_) (fun h33 => ?_)
        · -- 100 < (x25.2.length : Int)
          refine wp_seq_k fun K34 hK34 => ?_
          refine c_region ?_
          refine s_op (o_assign (v := (.bool true)) rfl ?_)
          refine s_nil ?_
          refine t_norm (hK34 _ _ ?_)
          refine wp_ret ?_
          refine b_ret (t_ret (t_ret (b_ret (t_ret (c_ret1 Tryd.results8  (v := (.bool true)) rfl ?_)))))
          have hH35 : Has E w14 [R] := (hH15.front 1 rfl).first 1 rfl
          exact ⟨true, rfl, (fun g => by cases g), hH35⟩
        · -- not: 100 < (x25.2.length : Int)
          refine wp_skip ?_
          refine b_norm ?_
          refine t_norm (hK20 _ _ ?_)
          refine c_region ?_
          refine s_op (o_move (v := (.int .i64 (k : Int))) e12_3 ?_)
          refine s_op (o_add (a := (k : Int)) (b := 1) rfl rfl (w64 (by omega) (by omega)) ?_)
          refine s_op (o_assign (v := (.int .i64 ((k : Int) + 1))) rfl ?_)
          refine s_nil ?_
          refine t_norm ⟨l.length - (k + 1), _, rfl, ?_, ?_⟩
          · omega
          · exact ⟨(k + 1), rfl, hH15, (by omega), (great_next hgf (show l[k]? = some _ from hx26) (by omega)), e12_0, e12_1, rfl, e12_7⟩
    · -- not: (k : Int) < ((l.length : Nat) : Int)
      refine wp_exit ?_
      refine t_exit (t_exit (x_in (?_)))
      refine t_norm (hK10 _ _ ?_)
      refine wp_seq_k fun K36 hK36 => ?_
      refine c_region ?_
      refine s_op (o_assign (v := (.bool false)) rfl ?_)
      refine s_nil ?_
      refine t_norm (hK36 _ _ ?_)
      refine wp_ret ?_
      refine c_ret1 Tryd.results8  (v := (.bool false)) rfl ?_
      have hH37 : Has E w14 [R] := (hH15.front 1 rfl).first 1 rfl
      have e_ : k = l.length := by omega
      rw [e_, List.take_length] at hgf
      exact ⟨false, rfl, (fun _ => ⟨by omega, hgf⟩), hH37⟩
end Go.Q
namespace Go.Q
theorem own_headf {α : Type} {f : α → List Value} {sz : Nat} (hf : ∀ x, (f x).length = sz) {e : TypeId} {v : Value} {l : List α} {hs : List Hp} (h : Own e sz v l.length (l.flatMap f) hs) {j : Nat} (hj : j ≤ l.length) : Own e sz (headV v j sz) (l.take j).length ((l.take j).flatMap f) hs := by
  rw [List.length_take, Nat.min_eq_left hj, ← flatMap_take f sz hf]
  obtain ⟨hl, ⟨rfl, h0, rfl⟩ | ⟨b, cap, cur, rfl, rfl, hnc, hcm, hsz, ht⟩⟩ := h
  · have : j = 0 := by omega
    subst this
    have e0 : l = [] := List.eq_nil_of_length_eq_zero h0
    subst e0
    exact ⟨by simp, .inl ⟨rfl, rfl, rfl⟩⟩
  · refine ⟨?_, .inr ⟨b, cap, cur, ?_, rfl, by omega, hcm, hsz, ?_⟩⟩
    · rw [List.length_take, hl]; exact Nat.min_eq_left (Nat.mul_le_mul_right _ hj)
    · simp [headV, sliced, add_lit]
    · rw [← ht, List.take_take, Nat.min_eq_left (Nat.mul_le_mul_right _ hj)]
/-- the first i and the last i have changed places -/
def turnd {α : Type} (l rw' : List α) (i : Nat) : Prop := rw'.length = l.length ∧ ∀ m, m < l.length → rw'[m]? = if m < i ∨ l.length ≤ m + i then l[l.length - 1 - m]? else l[m]?
theorem turnd_0 {α : Type} (l : List α) : turnd l l 0 := ⟨rfl, fun m hm => by rw [if_neg (by omega)]⟩
theorem turnd_step {α : Type} {l r : List α} {i : Nat} {j : Int} {x y : α} (h : turnd l r i) (hj : j = (l.length : Int) - 1 - i) (hlt : (i : Int) < j) (hx : r[j.toNat]? = some x) (hy : r[i]? = some y) : turnd l ((r.set i x).set j.toNat y) (i + 1) := by
  obtain ⟨n, rfl⟩ : ∃ n : Nat, j = (n : Int) := ⟨j.toNat, by omega⟩
  rw [Int.toNat_natCast] at hx ⊢
  refine ⟨by simp [h.1], fun m hm => ?_⟩
  have hr := h.1
  rw [h.2 n (by omega), if_neg (by omega)] at hx
  rw [h.2 i (by omega), if_neg (by omega)] at hy
  by_cases e1 : m = n
  · subst e1
    rw [List.getElem?_set_self (by rw [List.length_set]; omega), if_pos (.inr (by omega)), show l.length - 1 - m = i from by omega, hy]
  · rw [List.getElem?_set_ne (Ne.symm e1)]
    by_cases e2 : m = i
    · subst e2
      rw [List.getElem?_set_self (by omega), if_pos (.inl (by omega)), show l.length - 1 - m = n from by omega, hx]
    · rw [List.getElem?_set_ne (Ne.symm e2), h.2 m hm]
      by_cases c : m < i ∨ l.length ≤ m + i
      · rw [if_pos c, if_pos (by omega)]
      · rw [if_neg c, if_neg (by omega)]
theorem turnd_end {α : Type} {l r : List α} {i : Nat} {j : Int} (h : turnd l r i) (hj : j = (l.length : Int) - 1 - i) (hlt : ¬ (i : Int) < j) : r = l.reverse := by
  apply List.ext_getElem?
  intro m
  by_cases hm : m < l.length
  · rw [h.2 m hm, List.getElem?_reverse hm]
    by_cases c : m < i ∨ l.length ≤ m + i
    · rw [if_pos c]
    · rw [if_neg c, show l.length - 1 - m = m from by omega]
  · rw [List.getElem?_eq_none (by rw [h.1]; omega), List.getElem?_eq_none (by rw [List.length_reverse]; omega)]
theorem sl_nil0 {L : List Hp} {sz n cap : Nat} {cs : List Value} (h : Sl L sz (.slice none n cap) n cs) : n = 0 := by
  obtain ⟨q, c, e, h1, h2, h3, h4⟩ := h
  cases e
  rcases Nat.eq_zero_or_pos n with h | h
  · exact h
  · obtain ⟨b, o, e, _⟩ := h4 h; cases e
end Go.Q
namespace Go.Q
open Go.Proofs
set_option linter.unusedVariables false
set_option maxRecDepth 100000
attribute [local irreducible] wpList OK Code.wp
set_option maxHeartbeats 4000000 in
theorem cclone_c_p {E w : World} {R : List Hp} (hH : Has E w [R]) {p : Option Addr} {cap : Nat} {l : List Cel} (hv : Sl R 2 (.slice p l.length cap) l.length (l.flatMap ceC)) (hl : l.length ≤ 1000000) :
    Calls Tryd.prog 42 #[(.slice p l.length cap)] w fun e w' => ∃ v' hs', e = .returned v' ∧ Own 45 2 v' l.length (l.flatMap ceC) hs' ∧ Has E w' [hs', R] := by
  refine c_enter (args := [(.slice p l.length cap)]) Tryd.func42 rfl Tryd.ntmps42 (by simp) ?_
  refine wp_seq_k fun K1 hK1 => ?_
  refine c_region ?_
  refine s_op (o_assign (v := (.slice none 0 0)) rfl ?_)
  refine s_nil ?_
  refine t_norm (hK1 _ _ ?_)
  refine wp_seq_k fun K2 hK2 => ?_
  refine wp_seq_k fun K3 hK3 => ?_
  refine c_region ?_
  refine s_op (o_move (v := (.slice p l.length cap)) rfl ?_)
  refine s_op (o_snil Tryd.underlying22 rfl rfl ?_)
  refine s_nil ?_
  refine t_norm (hK3 _ _ ?_)
  refine c_condb rfl (fun h4 => ?_) (fun h4 => ?_)
  · -- p.isNone
    refine wp_seq_k fun K5 hK5 => ?_
    refine c_region ?_
    refine s_op (o_assign (v := (.slice none 0 0)) rfl ?_)
    refine s_nil ?_
    refine t_norm (hK5 _ _ ?_)
    refine wp_ret ?_
    refine t_ret (c_ret1 Tryd.results42  (v := (.slice none 0 0)) rfl ?_)
    have e0 : l = [] := List.eq_nil_of_length_eq_zero (by obtain rfl : p = none := (by simpa using h4); exact sl_nil0 hv)
    subst e0
    exact ⟨_, _, rfl, Own.nil 45 2, Has.nil hH⟩
  · -- not: p.isNone
    refine wp_skip ?_
    refine t_norm (hK2 _ _ ?_)
    refine wp_seq_k fun K6 hK6 => ?_
    refine c_region ?_
    refine s_op (o_buildSlice (ps := #[]) (cells := #[]) Tryd.underlying22 ti45 (by decide) (parts0) (by kernel_rfl) hH fun b7 w8 hH9 => ?_)
    refine s_op (o_move (v := (.slice p l.length cap)) rfl ?_)
    refine s_op (o_append Tryd.underlying22 ti45 rfl (by decide) rfl (Own.lit (e := 45) (sz := 2) (n := 0) (b := b7) (cur := #[]) rfl (by decide)) rfl hv (hH9.front 0 rfl) (seg_sub 0 rfl) (one_ceC _) (by simp; omega) (by simp; omega) fun v10 s11 w13 ho12 hH14 => ?_)
    have ho12 : Own 45 2 v10 l.length (l.flatMap ceC) s11 := Own.appF (a := []) ho12
    refine s_op (o_assign (v := v10) rfl ?_)
    refine s_nil ?_
    refine t_norm (hK6 _ _ ?_)
    refine wp_ret ?_
    refine c_ret1 Tryd.results42  (v := v10) rfl ?_
    exact ⟨_, _, rfl, by simpa using ho12, hH14⟩
theorem cclone_c {E w : World} {R : List Hp} {v_l : Value} {l : List Cel} (hH : Has E w [R]) (h_l : Sl R 2 v_l l.length (l.flatMap ceC)) (hn : l.length ≤ 1000000) :
    Calls Tryd.prog 42 #[v_l] w fun e w' => ∃ v' hs', e = .returned v' ∧ Own 45 2 v' l.length (l.flatMap ceC) hs' ∧ Has E w' [hs', R] := by
  obtain ⟨p, cap, rfl⟩ := Sl.form h_l
  exact cclone_c_p hH h_l hn
set_option maxHeartbeats 4000000 in
theorem cdel_blk {E w : World} {R : List Hp} (g n cap i : Nat) (c : Array Value) (hH : Has E w [[Hp.one g (.cells c 45 (0, 0))], R]) (hi : i < n) (hnc : n ≤ cap) (hcap : cap ≤ 9223372036854775807) (hcs : c.size = cap * 2) (h1 : ∀ u ∈ c.toList.take (n * 2), u.oneCell' = true) :
    Calls Tryd.prog 43 #[(.slice (some ⟨g, 0, none⟩) n cap), (.int .i64 (i : Int)), (.int .i64 ((i : Int) + 1))] w fun e w' => ∃ v' hs', e = .returned v' ∧ Own 45 2 v' (n - 1) (c.toList.take (i * 2) ++ (c.toList.take (n * 2)).drop ((i + 1) * 2)) hs' ∧ Has E w' [hs', R] := by
  refine c_enter (args := [(.slice (some ⟨g, 0, none⟩) n cap), (.int .i64 (i : Int)), (.int .i64 ((i : Int) + 1))]) Tryd.func43 rfl Tryd.ntmps43 (by simp) ?_
  refine wp_seq_k fun K1 hK1 => ?_
  refine c_region ?_
  refine s_op (o_assign (v := (.slice none 0 0)) rfl ?_)
  refine s_nil ?_
  refine t_norm (hK1 _ _ ?_)
  refine wp_seq_k fun K2 hK2 => ?_
  refine c_region ?_
  refine s_op (o_move (v := (.slice (some ⟨g, 0, none⟩) n cap)) rfl ?_)
  refine s_op (o_move (v := (.int .i64 (i : Int))) rfl ?_)
  refine s_op (o_move (v := (.int .i64 ((i : Int) + 1))) rfl ?_)
  refine s_op (o_move (v := (.slice (some ⟨g, 0, none⟩) n cap)) rfl ?_)
  refine s_op (o_len Tryd.underlying22 rfl ?_)
  obtain ⟨o3, n4, c5, ho9, hn6, hc7, hq8⟩ := rsl_ex4 0 2 (i := (i : Int)) (j := (i : Int) + 1) (m := (n : Int)) (by omega) (by omega) (by omega)
  refine s_op (o_rsl2 (i := (i : Int)) (j := (i : Int) + 1) (m := (n : Int)) Tryd.underlying22 ti45 rfl (bounds_lhm (n := n) (cap := cap) (i := (i : Int)) (j := (i : Int) + 1) (m := (n : Int)) (by omega) (by omega) (by omega) (by omega)) (by omega) (by omega) (by omega) ho9 hn6 hc7 ?_)
  refine s_nil ?_
  refine t_norm (hK2 _ _ ?_)
  refine wp_seq_k fun K10 hK10 => ?_
  refine wp_seq_k fun K11 hK11 => ?_
  refine c_region ?_
  refine s_op (o_move (v := (.int .i64 (i : Int))) rfl ?_)
  refine s_op (o_move (v := (.int .i64 ((i : Int) + 1))) rfl ?_)
  refine s_op (o_eql (a := (i : Int)) (b := (i : Int) + 1) rfl rfl ?_)
  refine s_nil ?_
  refine t_norm (hK11 _ _ ?_)
  refine c_cond rfl (fun h12 => ?_) (fun h12 => ?_)
  · -- (i : Int) = (i : Int) + 1
    exfalso; omega
  · -- not: (i : Int) = (i : Int) + 1
    refine wp_skip ?_
    refine t_norm (hK10 _ _ ?_)
    refine wp_seq_k fun K13 hK13 => ?_
    refine c_region ?_
    refine s_op (o_move (v := (.slice (some ⟨g, 0, none⟩) n cap)) rfl ?_)
    refine s_op (o_len Tryd.underlying22 rfl ?_)
    refine s_op (o_assign (v := (.int .i64 (n : Int))) rfl ?_)
    refine s_nil ?_
    refine t_norm (hK13 _ _ ?_)
    refine wp_seq_k fun K14 hK14 => ?_
    refine Rest.region mixed (by kernel_rfl) ?_
    have hH15 : Has E { w with drawn := w.drawn + 1 } [[Hp.one g (.cells c 45 (0, 0))], R] := Has0.drew hH _
    refine Rest.phaseA (fun w_ => Has E w_ []) 0 6 6 rfl (by decide) (by kernel_rfl) ?_
    refine a_op 0 rfl (by kernel_rfl) (fun w_ h_ => o_move (v := (.slice (some ⟨g, 0, none⟩) n cap)) rfl ⟨rfl, rfl⟩) ?_
    refine a_op 1 rfl (by kernel_rfl) (fun w_ h_ => o_move (v := (.int .i64 (i : Int))) rfl ⟨rfl, rfl⟩) ?_
    obtain ⟨o16, n17, c18, ho22, hn19, hc20, hq21⟩ := rsl_ex4 0 2 (i := 0) (j := (i : Int)) (m := ((cap : Nat) : Int)) (by omega) (by omega) (by omega)
    refine a_op 2 rfl (by kernel_rfl) (fun w_ h_ => o_rsl2 (i := 0) (j := (i : Int)) (m := ((cap : Nat) : Int)) Tryd.underlying22 ti45 rfl (bounds_h (n := n) (cap := cap) (j := (i : Int)) (by omega) (by omega)) (by omega) (by omega) (by omega) ho22 hn19 hc20 ⟨rfl, rfl⟩) ?_
    refine a_op 3 rfl (by kernel_rfl) (fun w_ h_ => o_move (v := (.slice (some ⟨g, 0, none⟩) n cap)) rfl ⟨rfl, rfl⟩) ?_
    refine a_op 4 rfl (by kernel_rfl) (fun w_ h_ => o_move (v := (.int .i64 ((i : Int) + 1))) rfl ⟨rfl, rfl⟩) ?_
    obtain ⟨o23, n24, c25, ho29, hn26, hc27, hq28⟩ := rsl_ex4 0 2 (i := (i : Int) + 1) (j := ((n : Nat) : Int)) (m := ((cap : Nat) : Int)) (by omega) (by omega) (by omega)
    refine a_op 5 rfl (by kernel_rfl) (fun w_ h_ => o_rsl2 (i := (i : Int) + 1) (j := ((n : Nat) : Int)) (m := ((cap : Nat) : Int)) Tryd.underlying22 ti45 rfl (bounds_l (n := n) (cap := cap) (i := (i : Int) + 1) (by omega) (by omega)) (by omega) (by omega) (by omega) ho29 hn26 hc27 ⟨rfl, rfl⟩) ?_
    have hH30 : Has E { w with drawn := w.drawn + 1 } [] := hH15.first 0 rfl
    refine a_done (by kernel_rfl) hH30 ?_
    refine r_op 6 rfl (by kernel_rfl) (o_approom (ds := (c.toList.drop o23).take (n24 * 2)) Tryd.underlying22 ti45 rfl rfl (sl_raw (b := g) (o := o23) (sz := 2) (n := n24) (cap := c25) (c := c) (e := 45) (g := (0, 0)) (by omega) (by omega) (by omega)) hH15 sub_l (by omega) (by omega) (fun u hu => by exact h1 u (mem_part1 hu (by omega))) fun c31 w32 hz35 hc33 hH34 => ?_)
    refine r_op 7 rfl (by kernel_rfl) (o_assign (v := (.slice (some ⟨g, o16, none⟩) (n17 + n24) c18)) rfl ?_)
    refine Rest.done (by kernel_rfl) ?_
    refine t_norm (hK14 _ _ ?_)
    refine wp_seq_k fun K36 hK36 => ?_
    refine c_region ?_
    refine s_op (o_move (v := (.slice (some ⟨g, o16, none⟩) (n17 + n24) c18)) rfl ?_)
    refine s_op (o_move (v := (.slice (some ⟨g, o16, none⟩) (n17 + n24) c18)) rfl ?_)
    refine s_op (o_len Tryd.underlying22 rfl ?_)
    refine s_op (o_move (v := (.int .i64 (n : Int))) rfl ?_)
    obtain ⟨o37, n38, c39, ho43, hn40, hc41, hq42⟩ := rsl_ex4 o16 2 (i := ((n17 + n24) : Int)) (j := (n : Int)) (m := ((c18 : Nat) : Int)) (by omega) (by omega) (by omega)
    refine s_op (o_rsl2 (i := ((n17 + n24) : Int)) (j := (n : Int)) (m := ((c18 : Nat) : Int)) Tryd.underlying22 ti45 rfl (bounds_lh (n := (n17 + n24)) (cap := c18) (i := ((n17 + n24) : Int)) (j := (n : Int)) (by omega) (by omega) (by omega)) (by omega) (by omega) (by omega) ho43 hn40 hc41 ?_)
    refine s_eff (o_clear Tryd.underlying22 ti45 rfl rfl hH34 (by omega) (fun u hu => by (have h_ : u ∈ ([(S ([] : List UInt8)), (S ([] : List UInt8))] : List Value) := by simpa [Value.cells, S] using hu); simp only [List.mem_cons, List.not_mem_nil, or_false] at h_; rcases h_ with rfl | rfl <;> rfl) fun c44 w45 v46 hc47 hc48 hH49 => ?_)
    refine s_nil ?_
    refine t_norm (hK36 _ _ ?_)
    refine wp_seq_k fun K50 hK50 => ?_
    refine c_region ?_
    refine s_op (o_move (v := (.slice (some ⟨g, o16, none⟩) (n17 + n24) c18)) rfl ?_)
    refine s_op (o_assign (v := (.slice (some ⟨g, o16, none⟩) (n17 + n24) c18)) rfl ?_)
    refine s_nil ?_
    refine t_norm (hK50 _ _ ?_)
    refine wp_ret ?_
    refine c_ret1 Tryd.results43  (v := (.slice (some ⟨g, o16, none⟩) (n17 + n24) c18)) rfl ?_
    refine ⟨_, _, rfl, ⟨?_, .inr ⟨g, c18, c44, by rw [show (n17 + n24) = n - 1 from by omega, show (o16 : Nat) = 0 from by omega], rfl, by omega, by simp only [maxLen]; omega, by have h_ := hc47; simp only [Array.length_toList] at h_; omega, ?_⟩⟩, hH49⟩
    · simp only [List.length_append, List.length_drop, List.length_take, Array.length_toList]; omega
    · exact del_lawS hc33 hc48 (by omega) (by omega) (by omega) (by omega) hi (by simp only [Array.length_toList]; omega)
theorem cdel_own {E w : World} {R hs : List Hp} {v : Value} {l : List Cel} (i : Nat) (hi : i < l.length) (hH : Has E w [hs, R]) (ho : Own 45 2 v l.length (l.flatMap ceC) hs) (hl : l.length ≤ 1000000) :
    Calls Tryd.prog 43 #[v, (.int .i64 (i : Int)), (.int .i64 ((i : Int) + 1))] w fun e w' => ∃ v' hs', e = .returned v' ∧ Own 45 2 v' (l.take i ++ l.drop (i + 1)).length ((l.take i ++ l.drop (i + 1)).flatMap ceC) hs' ∧ Has E w' [hs', R] := by
  obtain ⟨e1, ⟨rfl, h0, rfl⟩ | ⟨b, cap, cur, rfl, rfl, hnc, hcm, hsz, ht⟩⟩ := ho
  · omega
  · have hcm' : cap ≤ 9223372036854775807 := by simpa [maxLen] using hcm
    refine (cdel_blk b l.length cap i cur hH hi hnc hcm' hsz (by rw [ht]; exact one_ceC l)).mono ?_
    rintro e w' ⟨v', hs', rfl, hO, hX⟩
    refine ⟨v', hs', rfl, ?_, hX⟩
    rw [del_listF ceC_len hi ht] at hO
    have e4 : (l.take i ++ l.drop (i + 1)).length = l.length - 1 := by simp only [List.length_append, List.length_take, List.length_drop]; omega
    rw [e4]; exact hO
end Go.Q
