/-
  Parts of a walk: what functions of the program compute, each told by a theorem (Qzn1, QCrc, QU, Qzs1, Qzs2, QOwnF, QRec, QStr, QLock, QPage, QPage2, QW, QBurst, QM, QRet, QFrame, QFrame2, QPageB, QHeadB, QDevK, QIn).
-/
import Derived.Test.YtcnfkdodgemeeaaGreatDoorB2
import Derived.Sort.Walk0
import Derived.Laws.IdiomStrings
set_option linter.unusedVariables false
set_option linter.unusedSimpArgs false
set_option linter.unnecessarySimpa false
namespace Go.Q
open Go.Proofs
set_option linter.unusedVariables false
set_option maxRecDepth 100000
attribute [local irreducible] wpList OK Code.wp
set_option maxHeartbeats 4000000 in
theorem sum_c {E w : World} {R : List Hp} (hH : Has E w [R]) {v : Value} {l : List Int} (hv : Ints R v l) :
    Calls Tryz.prog 47 #[v] w fun e w' => e = .returned (.int .i64 (sumS 0 l)) ∧ Has E w' [R] := by
  have hn := hv.le
  refine c_enter (args := [v]) Tryz.func47 rfl Tryz.ntmps47 (by simp) ?_
  refine wp_seq_k fun K1 hK1 => ?_
  refine c_region ?_
  refine s_op (o_assign (v := (.int .i64 0)) rfl ?_)
  refine s_nil ?_
  refine t_norm (hK1 _ _ ?_)
  refine wp_seq_k fun K2 hK2 => ?_
  refine c_region ?_
  refine s_op (o_assign (v := (.int .i64 0)) rfl ?_)
  refine s_nil ?_
  refine t_norm (hK2 _ _ ?_)
  refine wp_seq_k fun K3 hK3 => ?_
  refine wp_seq_k fun K4 hK4 => ?_
  refine c_region ?_
  refine s_op (o_move (v := v) rfl ?_)
  refine s_op (o_lenS Tryz.underlying46 rfl hv ?_)
  refine s_op (o_move (v := (.int .i64 0)) rfl ?_)
  refine s_nil ?_
  refine t_norm (hK4 _ _ ?_)
  refine wp_block ?_
  let I6 : Nat → (Nat → Value) → World → Prop := fun n__ r__ w__ => ∃ (k : Nat) (y : Int), n__ = l.length - k ∧ Has E w__ [R] ∧ (k ≤ l.length) ∧ (sumS 0 l = sumS y (l.drop k)) ∧ (0 ≤ y ∧ y ≤ 9223372036854775807) ∧ r__ 0 = v ∧ r__ 3 = (.int .i64 y) ∧ r__ 6 = v ∧ r__ 7 = (.int .i64 ((l.length : Nat) : Int)) ∧ r__ 8 = (.int .i64 (k : Int))
  refine c_loop I6 _ ⟨0, 0, rfl, hH, Nat.zero_le _, rfl, (by omega), rfl, rfl, rfl, rfl, rfl⟩ ?_
  rintro n_ r9 w7 ⟨k, y, rfl, hH8, hk, hy, hb, e5_0, e5_3, e5_6, e5_7, e5_8⟩
  refine wp_seq_k fun K10 hK10 => ?_
  refine c_region ?_
  refine s_op (o_lss (a := (k : Int)) (b := ((l.length : Nat) : Int)) e5_8 e5_7 ?_)
  refine s_nil ?_
  refine t_norm (hK10 _ _ ?_)
  refine wp_seq_k fun K11 hK11 => ?_
  refine c_cond rfl (fun h12 => ?_) (fun h12 => ?_)
  · -- (k : Int) < ((l.length : Nat) : Int)
    refine wp_skip ?_
    refine t_norm (hK11 _ _ ?_)
    refine wp_seq_k fun K13 hK13 => ?_
    refine wp_block ?_
    refine wp_seq_k fun K14 hK14 => ?_
    refine c_region ?_
    obtain ⟨x18, hx19⟩ : ∃ x_, l[((k : Int)).toNat]? = some x_ := get_some (by omega)
    refine s_op (o_index1 Tryz.underlying46 ti3 e5_6 hv e5_8 (by omega) hx19 fun b15 o16 hc17 => ?_)
    refine s_op (o_load1 (v := (.int .i64 x18)) Tryz.underlying3 rfl rfl hH8 (seg_sub 0 rfl) hc17 ?_)
    refine s_op (o_assign (v := (.int .i64 x18)) rfl ?_)
    refine s_nil ?_
    refine t_norm (hK14 _ _ ?_)
    refine wp_seq_k fun K20 hK20 => ?_
    refine wp_seq_k fun K21 hK21 => ?_
    refine c_region ?_
    refine s_op (o_move (v := (.int .i64 x18)) rfl ?_)
    refine s_op (o_move (v := (.int .i64 y)) e5_3 ?_)
    refine s_op (o_sub (a := 9223372036854775807) (b := y) rfl rfl (w64 (by omega) (by omega)) ?_)
    refine s_op (o_gtr (a := x18) (b := 9223372036854775807 - y) rfl rfl ?_)
    refine s_nil ?_
    refine t_norm (hK21 _ _ ?_)
    refine c_cond rfl (fun h22 => ?_) (fun h22 => ?_)
    · -- 9223372036854775807 - y < x18
      refine wp_seq_k fun K23 hK23 => ?_
      refine c_region ?_
      refine s_op (o_assign (v := (.int .i64 9223372036854775807)) rfl ?_)
      refine s_nil ?_
      refine t_norm (hK23 _ _ ?_)
      refine wp_ret ?_
      refine t_ret (b_ret (t_ret (t_ret (b_ret (t_ret (c_ret1 Tryz.results47  (v := (.int .i64 9223372036854775807)) rfl ?_))))))
      exact ⟨by rw [hy, drop_of (by simpa using hx19), sumS, if_pos (by omega)], hH8⟩
    · -- not: 9223372036854775807 - y < x18
      refine wp_skip ?_
      refine t_norm (hK20 _ _ ?_)
      refine c_region ?_
      refine s_op (o_move (v := (.int .i64 y)) e5_3 ?_)
      refine s_op (o_move (v := (.int .i64 x18)) rfl ?_)
      refine s_op (o_max (a := x18) (b := 0) rfl rfl ?_)
      refine s_op (o_add (a := y) (b := max x18 0) rfl rfl (w64 (by omega) (by omega)) ?_)
      refine s_op (o_assign (v := (.int .i64 (y + (max x18 0)))) rfl ?_)
      refine s_nil ?_
      refine b_norm ?_
      refine t_norm (hK13 _ _ ?_)
      refine c_region ?_
      refine s_op (o_add (a := (k : Int)) (b := 1) e5_8 rfl (w64 (by omega) (by omega)) ?_)
      refine s_op (o_move (v := (.int .i64 ((k : Int) + 1))) rfl ?_)
      refine s_nil ?_
      refine t_norm ⟨l.length - (k + 1), _, rfl, ?_, ?_⟩
      · omega
      · exact ⟨(k + 1), (y + (max x18 0)), rfl, hH8, (by omega), (by rw [hy, drop_of (by simpa using hx19), sumS, if_neg (by omega)]), (by omega), e5_0, rfl, e5_6, e5_7, rfl⟩
  · -- not: (k : Int) < ((l.length : Nat) : Int)
    refine wp_exit ?_
    refine t_exit (t_exit (x_in (?_)))
    refine t_norm (hK3 _ _ ?_)
    refine wp_seq_k fun K24 hK24 => ?_
    refine c_region ?_
    refine s_op (o_move (v := (.int .i64 y)) e5_3 ?_)
    refine s_op (o_assign (v := (.int .i64 y)) rfl ?_)
    refine s_nil ?_
    refine t_norm (hK24 _ _ ?_)
    refine wp_ret ?_
    refine c_ret1 Tryz.results47  (v := (.int .i64 y)) rfl ?_
    exact ⟨by rw [hy, List.drop_of_length_le (by omega)]; rfl, hH8⟩
set_option maxHeartbeats 4000000 in
theorem most_c {E w : World} {R : List Hp} (hH : Has E w [R]) (x : Int) {v : Value} {l : List Int} (hv : Ints R v l) :
    Calls Tryz.prog 58 #[(.int .i64 x), v] w fun e w' => e = .returned (.int .i64 (l.foldl max x)) ∧ Has E w' [R] := by
  have hn := hv.le
  refine c_enter (args := [(.int .i64 x), v]) Tryz.func58 rfl Tryz.ntmps58 (by simp) ?_
  refine wp_seq_k fun K1 hK1 => ?_
  refine c_region ?_
  refine s_op (o_assign (v := (.int .i64 0)) rfl ?_)
  refine s_nil ?_
  refine t_norm (hK1 _ _ ?_)
  refine wp_seq_k fun K2 hK2 => ?_
  refine wp_seq_k fun K3 hK3 => ?_
  refine c_region ?_
  refine s_op (o_move (v := v) rfl ?_)
  refine s_op (o_lenS Tryz.underlying46 rfl hv ?_)
  refine s_op (o_move (v := (.int .i64 0)) rfl ?_)
  refine s_nil ?_
  refine t_norm (hK3 _ _ ?_)
  refine wp_block ?_
  let I5 : Nat → (Nat → Value) → World → Prop := fun n__ r__ w__ => ∃ (k : Nat) (y : Int), n__ = l.length - k ∧ Has E w__ [R] ∧ (k ≤ l.length) ∧ (y = (l.take k).foldl max x) ∧ r__ 0 = (.int .i64 y) ∧ r__ 1 = v ∧ r__ 4 = (.int .i64 0) ∧ r__ 7 = v ∧ r__ 8 = (.int .i64 ((l.length : Nat) : Int)) ∧ r__ 9 = (.int .i64 (k : Int))
  refine c_loop I5 _ ⟨0, x, rfl, hH, Nat.zero_le _, rfl, rfl, rfl, rfl, rfl, rfl, rfl⟩ ?_
  rintro n_ r8 w6 ⟨k, y, rfl, hH7, hk, hy, e4_0, e4_1, e4_4, e4_7, e4_8, e4_9⟩
  refine wp_seq_k fun K9 hK9 => ?_
  refine c_region ?_
  refine s_op (o_lss (a := (k : Int)) (b := ((l.length : Nat) : Int)) e4_9 e4_8 ?_)
  refine s_nil ?_
  refine t_norm (hK9 _ _ ?_)
  refine wp_seq_k fun K10 hK10 => ?_
  refine c_cond rfl (fun h11 => ?_) (fun h11 => ?_)
  · -- (k : Int) < ((l.length : Nat) : Int)
    refine wp_skip ?_
    refine t_norm (hK10 _ _ ?_)
    refine wp_seq_k fun K12 hK12 => ?_
    refine wp_block ?_
    refine wp_seq_k fun K13 hK13 => ?_
    refine c_region ?_
    obtain ⟨x17, hx18⟩ : ∃ x_, l[((k : Int)).toNat]? = some x_ := get_some (by omega)
    refine s_op (o_index1 Tryz.underlying46 ti3 e4_7 hv e4_9 (by omega) hx18 fun b14 o15 hc16 => ?_)
    refine s_op (o_load1 (v := (.int .i64 x17)) Tryz.underlying3 rfl rfl hH7 (seg_sub 0 rfl) hc16 ?_)
    refine s_op (o_assign (v := (.int .i64 x17)) rfl ?_)
    refine s_nil ?_
    refine t_norm (hK13 _ _ ?_)
    refine c_region ?_
    refine s_op (o_move (v := (.int .i64 y)) e4_0 ?_)
    refine s_op (o_move (v := (.int .i64 x17)) rfl ?_)
    refine s_op (o_max (a := y) (b := x17) rfl rfl ?_)
    refine s_op (o_assign (v := (.int .i64 (max y x17))) rfl ?_)
    refine s_nil ?_
    refine b_norm ?_
    refine t_norm (hK12 _ _ ?_)
    refine c_region ?_
    refine s_op (o_add (a := (k : Int)) (b := 1) e4_9 rfl (w64 (by omega) (by omega)) ?_)
    refine s_op (o_move (v := (.int .i64 ((k : Int) + 1))) rfl ?_)
    refine s_nil ?_
    refine t_norm ⟨l.length - (k + 1), _, rfl, ?_, ?_⟩
    · omega
    · exact ⟨(k + 1), (max y x17), rfl, hH7, (by omega), (by rw [take_succ_of (by simpa using hx18), List.foldl_append, ← hy]; rfl), rfl, e4_1, e4_4, e4_7, e4_8, rfl⟩
  · -- not: (k : Int) < ((l.length : Nat) : Int)
    refine wp_exit ?_
    refine t_exit (t_exit (x_in (?_)))
    refine t_norm (hK2 _ _ ?_)
    refine wp_seq_k fun K19 hK19 => ?_
    refine c_region ?_
    refine s_op (o_move (v := (.int .i64 y)) e4_0 ?_)
    refine s_op (o_assign (v := (.int .i64 y)) rfl ?_)
    refine s_nil ?_
    refine t_norm (hK19 _ _ ?_)
    refine wp_ret ?_
    refine c_ret1 Tryz.results58  (v := (.int .i64 y)) rfl ?_
    have e : k = l.length := by omega
    subst e
    rw [List.take_of_length_le (Nat.le_refl _)] at hy
    subst hy
    exact ⟨rfl, hH7⟩
set_option maxHeartbeats 4000000 in
theorem least_c {E w : World} {R : List Hp} (hH : Has E w [R]) (x : Int) {v : Value} {l : List Int} (hv : Ints R v l) :
    Calls Tryz.prog 57 #[(.int .i64 x), v] w fun e w' => e = .returned (.int .i64 (l.foldl min x)) ∧ Has E w' [R] := by
  have hn := hv.le
  refine c_enter (args := [(.int .i64 x), v]) Tryz.func57 rfl Tryz.ntmps57 (by simp) ?_
  refine wp_seq_k fun K1 hK1 => ?_
  refine c_region ?_
  refine s_op (o_assign (v := (.int .i64 0)) rfl ?_)
  refine s_nil ?_
  refine t_norm (hK1 _ _ ?_)
  refine wp_seq_k fun K2 hK2 => ?_
  refine wp_seq_k fun K3 hK3 => ?_
  refine c_region ?_
  refine s_op (o_move (v := v) rfl ?_)
  refine s_op (o_lenS Tryz.underlying46 rfl hv ?_)
  refine s_op (o_move (v := (.int .i64 0)) rfl ?_)
  refine s_nil ?_
  refine t_norm (hK3 _ _ ?_)
  refine wp_block ?_
  let I5 : Nat → (Nat → Value) → World → Prop := fun n__ r__ w__ => ∃ (k : Nat) (y : Int), n__ = l.length - k ∧ Has E w__ [R] ∧ (k ≤ l.length) ∧ (y = (l.take k).foldl min x) ∧ r__ 0 = (.int .i64 y) ∧ r__ 1 = v ∧ r__ 4 = (.int .i64 0) ∧ r__ 7 = v ∧ r__ 8 = (.int .i64 ((l.length : Nat) : Int)) ∧ r__ 9 = (.int .i64 (k : Int))
  refine c_loop I5 _ ⟨0, x, rfl, hH, Nat.zero_le _, rfl, rfl, rfl, rfl, rfl, rfl, rfl⟩ ?_
  rintro n_ r8 w6 ⟨k, y, rfl, hH7, hk, hy, e4_0, e4_1, e4_4, e4_7, e4_8, e4_9⟩
  refine wp_seq_k fun K9 hK9 => ?_
  refine c_region ?_
  refine s_op (o_lss (a := (k : Int)) (b := ((l.length : Nat) : Int)) e4_9 e4_8 ?_)
  refine s_nil ?_
  refine t_norm (hK9 _ _ ?_)
  refine wp_seq_k fun K10 hK10 => ?_
  refine c_cond rfl (fun h11 => ?_) (fun h11 => ?_)
  · -- (k : Int) < ((l.length : Nat) : Int)
    refine wp_skip ?_
    refine t_norm (hK10 _ _ ?_)
    refine wp_seq_k fun K12 hK12 => ?_
    refine wp_block ?_
    refine wp_seq_k fun K13 hK13 => ?_
    refine c_region ?_
    obtain ⟨x17, hx18⟩ : ∃ x_, l[((k : Int)).toNat]? = some x_ := get_some (by omega)
    refine s_op (o_index1 Tryz.underlying46 ti3 e4_7 hv e4_9 (by omega) hx18 fun b14 o15 hc16 => ?_)
    refine s_op (o_load1 (v := (.int .i64 x17)) Tryz.underlying3 rfl rfl hH7 (seg_sub 0 rfl) hc16 ?_)
    refine s_op (o_assign (v := (.int .i64 x17)) rfl ?_)
    refine s_nil ?_
    refine t_norm (hK13 _ _ ?_)
    refine c_region ?_
    refine s_op (o_move (v := (.int .i64 y)) e4_0 ?_)
    refine s_op (o_move (v := (.int .i64 x17)) rfl ?_)
    refine s_op (o_min (a := y) (b := x17) rfl rfl ?_)
    refine s_op (o_assign (v := (.int .i64 (min y x17))) rfl ?_)
    refine s_nil ?_
    refine b_norm ?_
    refine t_norm (hK12 _ _ ?_)
    refine c_region ?_
    refine s_op (o_add (a := (k : Int)) (b := 1) e4_9 rfl (w64 (by omega) (by omega)) ?_)
    refine s_op (o_move (v := (.int .i64 ((k : Int) + 1))) rfl ?_)
    refine s_nil ?_
    refine t_norm ⟨l.length - (k + 1), _, rfl, ?_, ?_⟩
    · omega
    · exact ⟨(k + 1), (min y x17), rfl, hH7, (by omega), (by rw [take_succ_of (by simpa using hx18), List.foldl_append, ← hy]; rfl), rfl, e4_1, e4_4, e4_7, e4_8, rfl⟩
  · -- not: (k : Int) < ((l.length : Nat) : Int)
    refine wp_exit ?_
    refine t_exit (t_exit (x_in (?_)))
    refine t_norm (hK2 _ _ ?_)
    refine wp_seq_k fun K19 hK19 => ?_
    refine c_region ?_
    refine s_op (o_move (v := (.int .i64 y)) e4_0 ?_)
    refine s_op (o_assign (v := (.int .i64 y)) rfl ?_)
    refine s_nil ?_
    refine t_norm (hK19 _ _ ?_)
    refine wp_ret ?_
    refine c_ret1 Tryz.results57  (v := (.int .i64 y)) rfl ?_
    have e : k = l.length := by omega
    subst e
    rw [List.take_of_length_le (Nat.le_refl _)] at hy
    subst hy
    exact ⟨rfl, hH7⟩
set_option maxHeartbeats 4000000 in
theorem fits_c {E w : World} {R : List Hp} (hH : Has E w [R]) (n : Int) (m : Nat) (hm : m ≤ 8) :
    Calls Tryz.prog 61 #[(.int .i64 n), (.int .i64 (m : Int))] w fun e w' => e = .returned (.bool (fitsS n m)) ∧ Has E w' [R] := by
  refine c_enter (args := [(.int .i64 n), (.int .i64 (m : Int))]) Tryz.func61 rfl Tryz.ntmps61 (by simp) ?_
  refine wp_seq_k fun K1 hK1 => ?_
  refine c_region ?_
  refine s_op (o_assign (v := (.bool false)) rfl ?_)
  refine s_nil ?_
  refine t_norm (hK1 _ _ ?_)
  refine wp_seq_k fun K2 hK2 => ?_
  refine c_region ?_
  refine s_op (o_move (v := (.int .i64 n)) rfl ?_)
  refine s_op (o_geq (a := n) (b := 0) rfl rfl ?_)
  refine s_op (o_move (v := (.bool (decide (0 ≤ n)))) rfl ?_)
  by_cases h3 : 0 ≤ n
  · -- 0 ≤ n
    refine s_on 7 rfl (congrArg Value.bool (decide_eq_true h3)) (o_move (v := (.int .i64 (m : Int))) rfl ?_)
    refine s_on 7 rfl (congrArg Value.bool (decide_eq_true h3)) (o_eql (a := (m : Int)) (b := 8) rfl rfl ?_)
    refine s_on 7 rfl (congrArg Value.bool (decide_eq_true h3)) (o_move (v := (.bool (decide ((m : Int) = 8)))) rfl ?_)
    by_cases h4 : (m : Int) = 8
    · -- (m : Int) = 8
      refine s_off (b' := true) 10 rfl (congrArg Value.bool (decide_eq_true h4)) rfl ?_
      refine s_off (b' := true) 10 rfl (congrArg Value.bool (decide_eq_true h4)) rfl ?_
      refine s_off (b' := true) 10 rfl (congrArg Value.bool (decide_eq_true h4)) rfl ?_
      refine s_off (b' := true) 10 rfl (congrArg Value.bool (decide_eq_true h4)) rfl ?_
      refine s_off (b' := true) 10 rfl (congrArg Value.bool (decide_eq_true h4)) rfl ?_
      refine s_on 7 rfl (congrArg Value.bool (decide_eq_true h3)) (o_pick_t (u := (.bool true)) ((rfl : _ = _).trans (congrArg Value.bool (decide_eq_true h4))) rfl ?_)
      refine s_op (o_pick_t (u := (.bool true)) ((rfl : _ = _).trans (congrArg Value.bool (decide_eq_true h3))) rfl ?_)
      refine s_op (o_assign (v := (.bool true)) rfl ?_)
      refine s_nil ?_
      refine t_norm (hK2 _ _ ?_)
      refine wp_ret ?_
      refine c_ret1 Tryz.results61  (v := (.bool true)) rfl ?_
      exact ⟨by simp [fitsS, *], hH⟩
    · -- not: (m : Int) = 8
      refine s_on 10 rfl (congrArg Value.bool (decide_eq_false h4)) (o_move (v := (.int .i64 n)) rfl ?_)
      refine s_on 10 rfl (congrArg Value.bool (decide_eq_false h4)) (o_move (v := (.int .i64 (m : Int))) rfl ?_)
      refine s_on 10 rfl (congrArg Value.bool (decide_eq_false h4)) (o_mul (a := 8) (b := (m : Int)) rfl rfl (w64 (by omega) (by omega)) ?_)
      refine s_on 10 rfl (congrArg Value.bool (decide_eq_false h4)) (o_shr (c := Int.fdiv n (2 ^ (min (8 * (m : Int)).toNat 64))) rfl rfl (by omega) rfl ?_)
      refine s_on 10 rfl (congrArg Value.bool (decide_eq_false h4)) (o_eql (a := Int.fdiv n (2 ^ (min (8 * (m : Int)).toNat 64))) (b := 0) rfl rfl ?_)
      refine s_on 7 rfl (congrArg Value.bool (decide_eq_true h3)) (o_pick_f (u := (.bool (decide (Int.fdiv n (2 ^ (min (8 * (m : Int)).toNat 64)) = 0)))) ((rfl : _ = _).trans (congrArg Value.bool (decide_eq_false h4))) rfl ?_)
      refine s_op (o_pick_t (u := (.bool (decide (Int.fdiv n (2 ^ (min (8 * (m : Int)).toNat 64)) = 0)))) ((rfl : _ = _).trans (congrArg Value.bool (decide_eq_true h3))) rfl ?_)
      refine s_op (o_assign (v := (.bool (decide (Int.fdiv n (2 ^ (min (8 * (m : Int)).toNat 64)) = 0)))) rfl ?_)
      refine s_nil ?_
      refine t_norm (hK2 _ _ ?_)
      refine wp_ret ?_
      refine c_ret1 Tryz.results61  (v := (.bool (decide (Int.fdiv n (2 ^ (min (8 * (m : Int)).toNat 64)) = 0)))) rfl ?_
      exact ⟨by simp [fitsS, *], hH⟩
  · -- not: 0 ≤ n
    refine s_off (b' := false) 7 rfl (congrArg Value.bool (decide_eq_false h3)) rfl ?_
    refine s_off (b' := false) 7 rfl (congrArg Value.bool (decide_eq_false h3)) rfl ?_
    refine s_off (b' := false) 7 rfl (congrArg Value.bool (decide_eq_false h3)) rfl ?_
    refine s_offu 10 rfl rfl ?_
    refine s_offu 10 rfl rfl ?_
    refine s_offu 10 rfl rfl ?_
    refine s_offu 10 rfl rfl ?_
    refine s_offu 10 rfl rfl ?_
    refine s_off (b' := false) 7 rfl (congrArg Value.bool (decide_eq_false h3)) rfl ?_
    refine s_op (o_pick_f (u := (.bool false)) ((rfl : _ = _).trans (congrArg Value.bool (decide_eq_false h3))) rfl ?_)
    refine s_op (o_assign (v := (.bool false)) rfl ?_)
    refine s_nil ?_
    refine t_norm (hK2 _ _ ?_)
    refine wp_ret ?_
    refine c_ret1 Tryz.results61  (v := (.bool false)) rfl ?_
    exact ⟨by simp [fitsS, *], hH⟩
set_option maxHeartbeats 4000000 in
theorem put_c {E w : World} {R : List Hp} (hH : Has E w [R]) (m : Nat) {v : Value} {l : List Int} (hv : Ints R v l) (hl : l.length ≤ 1000000) :
    Calls Tryz.prog 38 #[(.int .i64 (m : Int)), v] w fun e w' => e = .returned (S (putS m l)) ∧ Has E w' [R] := by
  have hml0 : 0 ≤ (m : Int) * (l.length : Int) := Int.mul_nonneg (by omega) (by omega)
  have hml : m ≤ 8 → (m : Int) * (l.length : Int) ≤ 8000000 := fun h => by have h2 : m * l.length ≤ 8 * 1000000 := Nat.mul_le_mul h hl; have h3 := Int.ofNat_le.2 h2; rw [Int.natCast_mul] at h3; omega
  refine c_enter (args := [(.int .i64 (m : Int)), v]) Tryz.func38 rfl Tryz.ntmps38 (by simp) ?_
  refine wp_seq_k fun K1 hK1 => ?_
  refine c_region ?_
  refine s_op (o_assign (v := (S ([] : List UInt8))) rfl ?_)
  refine s_nil ?_
  refine t_norm (hK1 _ _ ?_)
  refine wp_seq_k fun K2 hK2 => ?_
  refine wp_seq_k fun K3 hK3 => ?_
  refine c_region ?_
  refine s_op (o_move (v := (.int .i64 (m : Int))) rfl ?_)
  refine s_op (o_lss (a := (m : Int)) (b := 1) rfl rfl ?_)
  refine s_op (o_move (v := (.bool (decide ((m : Int) < 1)))) rfl ?_)
  by_cases h4 : (m : Int) < 1
  · -- (m : Int) < 1
    refine s_off (b' := true) 11 rfl (congrArg Value.bool (decide_eq_true h4)) rfl ?_
    refine s_off (b' := true) 11 rfl (congrArg Value.bool (decide_eq_true h4)) rfl ?_
    refine s_op (o_pick_t (u := (.bool true)) ((rfl : _ = _).trans (congrArg Value.bool (decide_eq_true h4))) rfl ?_)
    refine s_nil ?_
    refine t_norm (hK3 _ _ ?_)
    refine c_true rfl rfl ?_
    refine wp_seq_k fun K5 hK5 => ?_
    refine c_region ?_
    refine s_op (o_assign (v := (S ([] : List UInt8))) rfl ?_)
    refine s_nil ?_
    refine t_norm (hK5 _ _ ?_)
    refine wp_ret ?_
    refine t_ret (c_ret1 Tryz.results38  (v := (S ([] : List UInt8))) rfl ?_)
    exact ⟨by rw [putS, if_neg (by omega)], hH⟩
  · -- not: (m : Int) < 1
    refine s_on 11 rfl (congrArg Value.bool (decide_eq_false h4)) (o_move (v := (.int .i64 (m : Int))) rfl ?_)
    refine s_on 11 rfl (congrArg Value.bool (decide_eq_false h4)) (o_gtr (a := (m : Int)) (b := 8) rfl rfl ?_)
    refine s_op (o_pick_f (u := (.bool (decide (8 < (m : Int))))) ((rfl : _ = _).trans (congrArg Value.bool (decide_eq_false h4))) rfl ?_)
    refine s_nil ?_
    refine t_norm (hK3 _ _ ?_)
    refine c_cond rfl (fun h6 => ?_) (fun h6 => ?_)
    · -- 8 < (m : Int)
      refine wp_seq_k fun K7 hK7 => ?_
      refine c_region ?_
      refine s_op (o_assign (v := (S ([] : List UInt8))) rfl ?_)
      refine s_nil ?_
      refine t_norm (hK7 _ _ ?_)
      refine wp_ret ?_
      refine t_ret (c_ret1 Tryz.results38  (v := (S ([] : List UInt8))) rfl ?_)
      exact ⟨by rw [putS, if_neg (by omega)], hH⟩
    · -- not: 8 < (m : Int)
      refine wp_skip ?_
      refine t_norm (hK2 _ _ ?_)
      refine wp_seq_k fun K8 hK8 => ?_
      refine c_region ?_
      refine s_op (o_move (v := (.int .i64 (m : Int))) rfl ?_)
      refine s_op (o_move (v := v) rfl ?_)
      refine s_op (o_lenS Tryz.underlying46 rfl hv ?_)
      refine s_op (o_mul (a := (m : Int)) (b := ((l.length : Nat) : Int)) rfl rfl (w64 (by omega) (by omega)) ?_)
      refine s_op (o_make Tryz.underlying87 ti5 rfl rfl (by omega) (by omega) (by omega) (by omega) hH fun v9 s10 w12 ho11 hH13 => ?_)
      have ho11 : Own 5 1 v9 0 [] s10 := by simpa using ho11
      refine s_op (o_assign (v := v9) rfl ?_)
      refine s_nil ?_
      refine t_norm (hK8 _ _ ?_)
      refine wp_seq_k fun K14 hK14 => ?_
      refine wp_seq_k fun K15 hK15 => ?_
      refine c_region ?_
      refine s_op (o_move (v := v) rfl ?_)
      refine s_op (o_lenS Tryz.underlying46 rfl hv ?_)
      refine s_op (o_move (v := (.int .i64 0)) rfl ?_)
      refine s_nil ?_
      refine t_norm (hK15 _ _ ?_)
      refine wp_block ?_
      let I17 : Nat → (Nat → Value) → World → Prop := fun n__ r__ w__ => ∃ (k : Nat) (vb : Value) (hs : List Hp) (lb : List UInt8), n__ = l.length - k ∧ Has E w__ [hs, R] ∧ (k ≤ l.length) ∧ (Own 5 1 vb lb.length (lb.map bV) hs) ∧ (lb = (l.take k).flatMap (beFrom · m)) ∧ (∀ x ∈ l.take k, fitsS x m = true) ∧ (lb.length ≤ 8 * k) ∧ r__ 0 = (.int .i64 (m : Int)) ∧ r__ 1 = v ∧ r__ 5 = vb ∧ r__ 14 = (.bool (decide (8 < (m : Int)))) ∧ r__ 20 = v ∧ r__ 21 = (.int .i64 ((l.length : Nat) : Int)) ∧ r__ 22 = (.int .i64 (k : Int))
      refine c_loop I17 _ ⟨0, v9, s10, [], rfl, hH13, Nat.zero_le _, ho11, rfl, (by simp), (by simp), rfl, rfl, rfl, rfl, rfl, rfl, rfl⟩ ?_
      rintro n_ r20 w18 ⟨k, vb, hs, lb, rfl, hH19, hk, hob, hlb, hfit, hlen, e16_0, e16_1, e16_5, e16_14, e16_20, e16_21, e16_22⟩
      refine wp_seq_k fun K21 hK21 => ?_
      refine c_region ?_
      refine s_op (o_lss (a := (k : Int)) (b := ((l.length : Nat) : Int)) e16_22 e16_21 ?_)
      refine s_nil ?_
      refine t_norm (hK21 _ _ ?_)
      refine wp_seq_k fun K22 hK22 => ?_
      refine c_cond rfl (fun h23 => ?_) (fun h23 => ?_)
      · -- (k : Int) < ((l.length : Nat) : Int)
        refine wp_skip ?_
        refine t_norm (hK22 _ _ ?_)
        refine wp_seq_k fun K24 hK24 => ?_
        refine wp_block ?_
        refine wp_seq_k fun K25 hK25 => ?_
        refine c_region ?_
        obtain ⟨x29, hx30⟩ : ∃ x_, l[((k : Int)).toNat]? = some x_ := get_some (by omega)
        refine s_op (o_index1 Tryz.underlying46 ti3 e16_20 hv e16_22 (by omega) hx30 fun b26 o27 hc28 => ?_)
        refine s_op (o_load1 (v := (.int .i64 x29)) Tryz.underlying3 rfl rfl hH19 (seg_sub 1 rfl) hc28 ?_)
        refine s_op (o_assign (v := (.int .i64 x29)) rfl ?_)
        refine s_nil ?_
        refine t_norm (hK25 _ _ ?_)
        refine wp_seq_k fun K31 hK31 => ?_
        refine wp_seq_k fun K32 hK32 => ?_
        refine c_region ?_
        refine s_op (o_move (v := (.int .i64 x29)) rfl ?_)
        refine s_op (o_move (v := (.int .i64 (m : Int))) e16_0 ?_)
        refine s_op (o_callf (vs := #[(.int .i64 x29), (.int .i64 (m : Int))]) ca61 rfl (args2 rfl rfl) (fits_c hH19.all x29 m (by omega)) ?_)
        rintro _ w35 ⟨rfl, hX33⟩
        refine ⟨_, rfl, ?_⟩
        have hH34 := hX33.of_all
        refine s_op (o_not rfl ?_)
        refine s_nil ?_
        refine t_norm (hK32 _ _ ?_)
        refine c_condb rfl (fun h36 => ?_) (fun h36 => ?_)
        · -- !(fitsS x29 m)
          have h36_n : (fitsS x29 m) = false := by simpa using h36
          refine wp_seq_k fun K37 hK37 => ?_
          refine c_region ?_
          refine s_op (o_assign (v := (S ([] : List UInt8))) rfl ?_)
          refine s_nil ?_
          refine t_norm (hK37 _ _ ?_)
          refine wp_ret ?_
          refine t_ret (b_ret (t_ret (t_ret (b_ret (t_ret (c_ret1 Tryz.results38  (v := (S ([] : List UInt8))) rfl ?_))))))
          have hH38 : Has E w35 [R] := (hH34.front 1 rfl).first 1 rfl
          exact ⟨by rw [putS_no (x := x29) (List.mem_of_getElem? hx30) (by simpa using h36)], hH38⟩
        · -- not: !(fitsS x29 m)
          have h36_n : (fitsS x29 m) = true := by simpa using h36
          refine wp_skip ?_
          refine t_norm (hK31 _ _ ?_)
          refine wp_seq_k fun K39 hK39 => ?_
          refine c_region ?_
          refine s_op (o_move (v := (.int .i64 (m : Int))) e16_0 ?_)
          refine s_op (o_sub (a := (m : Int)) (b := 1) rfl rfl (w64 (by omega) (by omega)) ?_)
          refine s_op (o_assign (v := (.int .i64 ((m : Int) - 1))) rfl ?_)
          refine s_nil ?_
          refine t_norm (hK39 _ _ ?_)
          refine wp_block ?_
          let I41 : Nat → (Nat → Value) → World → Prop := fun n__ r__ w__ => ∃ (j : Nat) (i : Int) (vc : Value) (hs2 : List Hp) (lc : List UInt8), n__ = j + 1 ∧ Has E w__ [hs2, R] ∧ (j ≤ m) ∧ (i = (j : Int) - 1) ∧ (Own 5 1 vc lc.length (lc.map bV) hs2) ∧ (lb ++ beFrom x29 m = lc ++ beFrom x29 j) ∧ (lc.length + j ≤ lb.length + m) ∧ r__ 0 = (.int .i64 (m : Int)) ∧ r__ 1 = v ∧ r__ 5 = vc ∧ r__ 7 = (.int .i64 x29) ∧ r__ 8 = (.int .i64 i) ∧ r__ 14 = (.bool (decide (8 < (m : Int)))) ∧ r__ 20 = v ∧ r__ 21 = (.int .i64 ((l.length : Nat) : Int)) ∧ r__ 22 = (.int .i64 (k : Int)) ∧ r__ 23 = (.bool (decide ((k : Int) < ((l.length : Nat) : Int)))) ∧ r__ 29 = (.bool (!(fitsS x29 m)))
          refine c_loop I41 _ ⟨m, ((m : Int) - 1), vb, hs, lb, rfl, hH34, Nat.le_refl _, rfl, hob, rfl, (by omega), e16_0, e16_1, e16_5, rfl, rfl, e16_14, e16_20, e16_21, e16_22, rfl, rfl⟩ ?_
          rintro n_ r44 w42 ⟨j, i, vc, hs2, lc, rfl, hH43, hj, hi, hoc, hpart, hlen2, e40_0, e40_1, e40_5, e40_7, e40_8, e40_14, e40_20, e40_21, e40_22, e40_23, e40_29⟩
          refine wp_seq_k fun K45 hK45 => ?_
          refine wp_seq_k fun K46 hK46 => ?_
          refine c_region ?_
          refine s_op (o_move (v := (.int .i64 i)) e40_8 ?_)
          refine s_op (o_geq (a := i) (b := 0) rfl rfl ?_)
          refine s_nil ?_
          refine t_norm (hK46 _ _ ?_)
          refine c_cond rfl (fun h47 => ?_) (fun h47 => ?_)
          · -- 0 ≤ i
            refine wp_skip ?_
            refine t_norm (hK45 _ _ ?_)
            refine wp_seq_k fun K48 hK48 => ?_
            refine wp_block ?_
            refine c_region ?_
            refine s_op (o_move (v := vc) e40_5 ?_)
            refine s_op (o_move (v := (.int .i64 x29)) e40_7 ?_)
            refine s_op (o_move (v := (.int .i64 i)) e40_8 ?_)
            refine s_op (o_mul (a := 8) (b := i) rfl rfl (w64 (by omega) (by omega)) ?_)
            refine s_op (o_shr (c := Int.fdiv x29 (2 ^ (min (8 * i).toNat 64))) rfl rfl (by omega) rfl ?_)
            refine s_op (o_conv (c := ((by8 (Int.fdiv x29 (2 ^ (min (8 * i).toNat 64)))).toNat : Int)) Tryz.underlying3 Tryz.underlying5 rfl (wrap_by8 _) ?_)
            refine s_op (o_buildSlice (ps := #[(0, (bV (by8 (Int.fdiv x29 (2 ^ (min (8 * i).toNat 64))))))]) (cells := #[(bV (by8 (Int.fdiv x29 (2 ^ (min (8 * i).toNat 64)))))]) Tryz.underlying87 ti5 (by decide) (parts1 rfl) (by kernel_rfl) hH43 fun b49 w50 hH51 => ?_)
            refine s_op (o_append Tryz.underlying87 ti5 rfl (by decide) rfl hoc rfl (sl_lit (f := bV) (l := [(by8 (Int.fdiv x29 (2 ^ (min (8 * i).toNat 64))))]) rfl rfl (by simp)) (hH51.front 1 rfl) (seg_sub 0 rfl) (one_bV _) (by simp; omega) (by simp; omega) fun v52 s53 w55 ho54 hH56 => ?_)
            have ho54 : Own 5 1 v52 (lc ++ [(by8 (Int.fdiv x29 (2 ^ (min (8 * i).toNat 64))))]).length ((lc ++ [(by8 (Int.fdiv x29 (2 ^ (min (8 * i).toNat 64))))]).map bV) s53 := ho54.app
            refine s_op (o_assign (v := v52) rfl ?_)
            refine s_nil ?_
            refine b_norm ?_
            refine t_norm (hK48 _ _ ?_)
            refine c_region ?_
            refine s_op (o_move (v := (.int .i64 i)) e40_8 ?_)
            refine s_op (o_sub (a := i) (b := 1) rfl rfl (w64 (by omega) (by omega)) ?_)
            refine s_op (o_assign (v := (.int .i64 (i - 1))) rfl ?_)
            refine s_nil ?_
            have hH57 : Has E w55 [s53, R] := ((hH56.front 2 rfl).front 1 rfl).first 2 rfl
            refine t_norm ⟨(j - 1) + 1, _, rfl, ?_, ?_⟩
            · omega
            · exact ⟨(j - 1), (i - 1), v52, s53, (lc ++ [(by8 (Int.fdiv x29 (2 ^ (min (8 * i).toNat 64))))]), rfl, hH57, (by omega), (by omega), (ho54), (by rw [hpart, beFrom_pred (by omega), hi, by8_shift _ (by omega) (by omega)]; simp [List.append_assoc]), (by simp; omega), e40_0, e40_1, rfl, e40_7, rfl, e40_14, e40_20, e40_21, e40_22, e40_23, e40_29⟩
          · -- not: 0 ≤ i
            refine wp_exit ?_
            refine t_exit (t_exit (x_in (?_)))
            refine b_norm ?_
            refine t_norm (hK24 _ _ ?_)
            refine c_region ?_
            refine s_op (o_add (a := (k : Int)) (b := 1) e40_22 rfl (w64 (by omega) (by omega)) ?_)
            refine s_op (o_move (v := (.int .i64 ((k : Int) + 1))) rfl ?_)
            refine s_nil ?_
            refine t_norm ⟨l.length - (k + 1), _, rfl, ?_, ?_⟩
            · omega
            · exact ⟨(k + 1), vc, hs2, lc, rfl, hH43, (by omega), (hoc), (by (have e : j = 0 := by omega); rw [e] at hpart; rw [take_succ_of (by simpa using hx30), List.flatMap_append, ← hlb]; simpa [beFrom] using hpart.symm), (by rw [take_succ_of (by simpa using hx30)]; exact fun x hx => (List.mem_append.1 hx).elim (hfit x) (fun h => by simp at h; subst h; simpa using h36)), (by omega), e40_0, e40_1, e40_5, e40_14, e40_20, e40_21, rfl⟩
      · -- not: (k : Int) < ((l.length : Nat) : Int)
        refine wp_exit ?_
        refine t_exit (t_exit (x_in (?_)))
        refine t_norm (hK14 _ _ ?_)
        refine wp_seq_k fun K58 hK58 => ?_
        refine c_region ?_
        refine s_op (o_move (v := vb) e16_5 ?_)
        refine s_op (o_bstr Tryz.underlying87 Tryz.underlying5 Tryz.underlying9 rfl hob.sl hH19 (seg_sub 0 rfl) ?_)
        refine s_op (o_assign (v := (S lb)) rfl ?_)
        refine s_nil ?_
        refine t_norm (hK58 _ _ ?_)
        refine wp_ret ?_
        refine c_ret1 Tryz.results38  (v := (S lb)) rfl ?_
        have hH59 : Has E w18 [R] := (hH19.front 1 rfl).first 1 rfl
        have e : k = l.length := by omega
        subst e
        rw [List.take_of_length_le (Nat.le_refl _)] at hlb hfit
        exact ⟨by rw [putS_yes (by omega) (by omega) hfit, hlb], hH59⟩
set_option maxHeartbeats 4000000 in
theorem take_c {E w : World} {R : List Hp} (hH : Has E w [R]) (m : Nat) (s : List UInt8) (hsl : s.length ≤ 9223372036854775807) :
    Calls Tryz.prog 34 #[(S s), (.int .i64 (m : Int))] w fun e w' => e = .returned (.tuple #[.int .i64 (takeS s m).1, S (takeS s m).2.1, .bool (takeS s m).2.2]) ∧ Has E w' [R] := by
  refine c_enter (args := [(S s), (.int .i64 (m : Int))]) Tryz.func34 rfl Tryz.ntmps34 (by simp) ?_
  refine wp_seq_k fun K1 hK1 => ?_
  refine c_region ?_
  refine s_op (o_assign (v := (.int .i64 0)) rfl ?_)
  refine s_op (o_assign (v := (S ([] : List UInt8))) rfl ?_)
  refine s_op (o_assign (v := (.bool false)) rfl ?_)
  refine s_nil ?_
  refine t_norm (hK1 _ _ ?_)
  refine wp_seq_k fun K2 hK2 => ?_
  refine wp_seq_k fun K3 hK3 => ?_
  refine c_region ?_
  refine s_op (o_move (v := (.int .i64 (m : Int))) rfl ?_)
  refine s_op (o_lss (a := (m : Int)) (b := 1) rfl rfl ?_)
  refine s_op (o_move (v := (.bool (decide ((m : Int) < 1)))) rfl ?_)
  by_cases h4 : (m : Int) < 1
  · -- (m : Int) < 1
    refine s_off (b' := true) 11 rfl (congrArg Value.bool (decide_eq_true h4)) rfl ?_
    refine s_off (b' := true) 11 rfl (congrArg Value.bool (decide_eq_true h4)) rfl ?_
    refine s_op (o_pick_t (u := (.bool true)) ((rfl : _ = _).trans (congrArg Value.bool (decide_eq_true h4))) rfl ?_)
    refine s_op (o_move (v := (.bool true)) rfl ?_)
    refine s_off (b' := true) 15 rfl rfl rfl ?_
    refine s_off (b' := true) 15 rfl rfl rfl ?_
    refine s_off (b' := true) 15 rfl rfl rfl ?_
    refine s_off (b' := true) 15 rfl rfl rfl ?_
    refine s_op (o_pick_t (u := (.bool true)) rfl rfl ?_)
    refine s_op (o_move (v := (.bool true)) rfl ?_)
    refine s_off (b' := true) 21 rfl rfl rfl ?_
    refine s_off (b' := true) 21 rfl rfl rfl ?_
    refine s_off (b' := true) 21 rfl rfl rfl ?_
    refine s_offu 24 rfl rfl ?_
    refine s_offu 24 rfl rfl ?_
    refine s_offu 24 rfl rfl ?_
    refine s_off (b' := true) 21 rfl rfl rfl ?_
    refine s_op (o_pick_t (u := (.bool true)) rfl rfl ?_)
    refine s_nil ?_
    refine t_norm (hK3 _ _ ?_)
    refine c_true rfl rfl ?_
    refine wp_seq_k fun K5 hK5 => ?_
    refine c_region ?_
    refine s_op (o_move (v := (S s)) rfl ?_)
    refine s_op (o_assign (v := (.int .i64 0)) rfl ?_)
    refine s_op (o_assign (v := (S s)) rfl ?_)
    refine s_op (o_assign (v := (.bool false)) rfl ?_)
    refine s_nil ?_
    refine t_norm (hK5 _ _ ?_)
    refine wp_ret ?_
    refine t_ret (c_ret3 Tryz.results34  (v := (.int .i64 0)) rfl (x := (S s)) rfl (y := (.bool false)) rfl ?_)
    exact ⟨by rw [takeS_no (by first | exact .inl (by omega) | exact .inr (.inl (by omega)) | exact .inr (.inr ⟨by omega, 0, by simpa using rfl, by omega⟩))], hH⟩
  · -- not: (m : Int) < 1
    refine s_on 11 rfl (congrArg Value.bool (decide_eq_false h4)) (o_move (v := (.int .i64 (m : Int))) rfl ?_)
    refine s_on 11 rfl (congrArg Value.bool (decide_eq_false h4)) (o_gtr (a := (m : Int)) (b := 8) rfl rfl ?_)
    refine s_op (o_pick_f (u := (.bool (decide (8 < (m : Int))))) ((rfl : _ = _).trans (congrArg Value.bool (decide_eq_false h4))) rfl ?_)
    refine s_op (o_move (v := (.bool (decide (8 < (m : Int))))) rfl ?_)
    by_cases h6 : 8 < (m : Int)
    · -- 8 < (m : Int)
      refine s_off (b' := true) 15 rfl (congrArg Value.bool (decide_eq_true h6)) rfl ?_
      refine s_off (b' := true) 15 rfl (congrArg Value.bool (decide_eq_true h6)) rfl ?_
      refine s_off (b' := true) 15 rfl (congrArg Value.bool (decide_eq_true h6)) rfl ?_
      refine s_off (b' := true) 15 rfl (congrArg Value.bool (decide_eq_true h6)) rfl ?_
      refine s_op (o_pick_t (u := (.bool true)) ((rfl : _ = _).trans (congrArg Value.bool (decide_eq_true h6))) rfl ?_)
      refine s_op (o_move (v := (.bool true)) rfl ?_)
      refine s_off (b' := true) 21 rfl rfl rfl ?_
      refine s_off (b' := true) 21 rfl rfl rfl ?_
      refine s_off (b' := true) 21 rfl rfl rfl ?_
      refine s_offu 24 rfl rfl ?_
      refine s_offu 24 rfl rfl ?_
      refine s_offu 24 rfl rfl ?_
      refine s_off (b' := true) 21 rfl rfl rfl ?_
      refine s_op (o_pick_t (u := (.bool true)) rfl rfl ?_)
      refine s_nil ?_
      refine t_norm (hK3 _ _ ?_)
      refine c_true rfl rfl ?_
      refine wp_seq_k fun K7 hK7 => ?_
      refine c_region ?_
      refine s_op (o_move (v := (S s)) rfl ?_)
      refine s_op (o_assign (v := (.int .i64 0)) rfl ?_)
      refine s_op (o_assign (v := (S s)) rfl ?_)
      refine s_op (o_assign (v := (.bool false)) rfl ?_)
      refine s_nil ?_
      refine t_norm (hK7 _ _ ?_)
      refine wp_ret ?_
      refine t_ret (c_ret3 Tryz.results34  (v := (.int .i64 0)) rfl (x := (S s)) rfl (y := (.bool false)) rfl ?_)
      exact ⟨by rw [takeS_no (by first | exact .inl (by omega) | exact .inr (.inl (by omega)) | exact .inr (.inr ⟨by omega, 0, by simpa using rfl, by omega⟩))], hH⟩
    · -- not: 8 < (m : Int)
      refine s_on 15 rfl (congrArg Value.bool (decide_eq_false h6)) (o_move (v := (S s)) rfl ?_)
      refine s_on 15 rfl (congrArg Value.bool (decide_eq_false h6)) (o_slen Tryz.underlying9 rfl ?_)
      refine s_on 15 rfl (congrArg Value.bool (decide_eq_false h6)) (o_move (v := (.int .i64 (m : Int))) rfl ?_)
      refine s_on 15 rfl (congrArg Value.bool (decide_eq_false h6)) (o_lss (a := (s.length : Int)) (b := (m : Int)) rfl rfl ?_)
      refine s_op (o_pick_f (u := (.bool (decide ((s.length : Int) < (m : Int))))) ((rfl : _ = _).trans (congrArg Value.bool (decide_eq_false h6))) rfl ?_)
      refine s_op (o_move (v := (.bool (decide ((s.length : Int) < (m : Int))))) rfl ?_)
      by_cases h8 : (s.length : Int) < (m : Int)
      · -- (s.length : Int) < (m : Int)
        refine s_off (b' := true) 21 rfl (congrArg Value.bool (decide_eq_true h8)) rfl ?_
        refine s_off (b' := true) 21 rfl (congrArg Value.bool (decide_eq_true h8)) rfl ?_
        refine s_off (b' := true) 21 rfl (congrArg Value.bool (decide_eq_true h8)) rfl ?_
        refine s_offu 24 rfl rfl ?_
        refine s_offu 24 rfl rfl ?_
        refine s_offu 24 rfl rfl ?_
        refine s_off (b' := true) 21 rfl (congrArg Value.bool (decide_eq_true h8)) rfl ?_
        refine s_op (o_pick_t (u := (.bool true)) ((rfl : _ = _).trans (congrArg Value.bool (decide_eq_true h8))) rfl ?_)
        refine s_nil ?_
        refine t_norm (hK3 _ _ ?_)
        refine c_true rfl rfl ?_
        refine wp_seq_k fun K9 hK9 => ?_
        refine c_region ?_
        refine s_op (o_move (v := (S s)) rfl ?_)
        refine s_op (o_assign (v := (.int .i64 0)) rfl ?_)
        refine s_op (o_assign (v := (S s)) rfl ?_)
        refine s_op (o_assign (v := (.bool false)) rfl ?_)
        refine s_nil ?_
        refine t_norm (hK9 _ _ ?_)
        refine wp_ret ?_
        refine t_ret (c_ret3 Tryz.results34  (v := (.int .i64 0)) rfl (x := (S s)) rfl (y := (.bool false)) rfl ?_)
        exact ⟨by rw [takeS_no (by first | exact .inl (by omega) | exact .inr (.inl (by omega)) | exact .inr (.inr ⟨by omega, 0, by simpa using rfl, by omega⟩))], hH⟩
      · -- not: (s.length : Int) < (m : Int)
        refine s_on 21 rfl (congrArg Value.bool (decide_eq_false h8)) (o_move (v := (.int .i64 (m : Int))) rfl ?_)
        refine s_on 21 rfl (congrArg Value.bool (decide_eq_false h8)) (o_eql (a := (m : Int)) (b := 8) rfl rfl ?_)
        refine s_on 21 rfl (congrArg Value.bool (decide_eq_false h8)) (o_move (v := (.bool (decide ((m : Int) = 8)))) rfl ?_)
        by_cases h10 : (m : Int) = 8
        · -- (m : Int) = 8
          refine s_on 24 rfl (congrArg Value.bool (decide_eq_true h10)) (o_move (v := (S s)) rfl ?_)
          obtain ⟨c11, hx12⟩ : ∃ x_, s[((0 : Int)).toNat]? = some x_ := get_some (by omega)
          have c11_lt := c11.toNat_lt
          refine s_on 24 rfl (congrArg Value.bool (decide_eq_true h10)) (o_sidx Tryz.underlying9 rfl rfl (by omega) hx12 ?_)
          refine s_on 24 rfl (congrArg Value.bool (decide_eq_true h10)) (o_gtr (a := (c11.toNat : Int)) (b := 127) rfl rfl ?_)
          refine s_on 21 rfl (congrArg Value.bool (decide_eq_false h8)) (o_pick_t (u := (.bool (decide (127 < (c11.toNat : Int))))) ((rfl : _ = _).trans (congrArg Value.bool (decide_eq_true h10))) rfl ?_)
          refine s_op (o_pick_f (u := (.bool (decide (127 < (c11.toNat : Int))))) ((rfl : _ = _).trans (congrArg Value.bool (decide_eq_false h8))) rfl ?_)
          refine s_nil ?_
          refine t_norm (hK3 _ _ ?_)
          refine c_cond rfl (fun h13 => ?_) (fun h13 => ?_)
          · -- 127 < (c11.toNat : Int)
            refine wp_seq_k fun K14 hK14 => ?_
            refine c_region ?_
            refine s_op (o_move (v := (S s)) rfl ?_)
            refine s_op (o_assign (v := (.int .i64 0)) rfl ?_)
            refine s_op (o_assign (v := (S s)) rfl ?_)
            refine s_op (o_assign (v := (.bool false)) rfl ?_)
            refine s_nil ?_
            refine t_norm (hK14 _ _ ?_)
            refine wp_ret ?_
            refine t_ret (c_ret3 Tryz.results34  (v := (.int .i64 0)) rfl (x := (S s)) rfl (y := (.bool false)) rfl ?_)
            exact ⟨by rw [takeS_no (by first | exact .inl (by omega) | exact .inr (.inl (by omega)) | exact .inr (.inr ⟨by omega, c11, by simpa using hx12, by omega⟩))], hH⟩
          · -- not: 127 < (c11.toNat : Int)
            refine wp_skip ?_
            refine t_norm (hK2 _ _ ?_)
            refine wp_seq_k fun K15 hK15 => ?_
            refine c_region ?_
            refine s_op (o_assign (v := (.int .i64 0)) rfl ?_)
            refine s_nil ?_
            refine t_norm (hK15 _ _ ?_)
            refine wp_seq_k fun K16 hK16 => ?_
            refine wp_seq_k fun K17 hK17 => ?_
            refine c_region ?_
            refine s_op (o_move (v := (.int .i64 (m : Int))) rfl ?_)
            refine s_op (o_move (v := (.int .i64 0)) rfl ?_)
            refine s_nil ?_
            refine t_norm (hK17 _ _ ?_)
            refine wp_block ?_
            let I19 : Nat → (Nat → Value) → World → Prop := fun n__ r__ w__ => ∃ (i : Nat) (y : Int), n__ = m - i ∧ Has E w__ [R] ∧ (i ≤ m) ∧ (y = beVal (s.take i)) ∧ r__ 0 = (S s) ∧ r__ 1 = (.int .i64 (m : Int)) ∧ r__ 4 = (.int .i64 0) ∧ r__ 5 = (S ([] : List UInt8)) ∧ r__ 6 = (.bool false) ∧ r__ 7 = (.int .i64 y) ∧ r__ 29 = (.bool (decide (127 < (c11.toNat : Int)))) ∧ r__ 31 = (.int .i64 (m : Int)) ∧ r__ 32 = (.int .i64 (i : Int))
            refine c_loop I19 _ ⟨0, 0, rfl, hH, Nat.zero_le _, rfl, rfl, rfl, rfl, rfl, rfl, rfl, rfl, rfl, rfl⟩ ?_
            rintro n_ r22 w20 ⟨i, y, rfl, hH21, hi, hy, e18_0, e18_1, e18_4, e18_5, e18_6, e18_7, e18_29, e18_31, e18_32⟩
            have hb0 := beVal_nonneg (s.take i)
            have hb1 : i < m → beVal (s.take i) < 36028797018963968 := fun h => beVal_lt h (by omega) (by omega) (.inr (first_byte (by simpa using hx12) (by omega)))
            refine wp_seq_k fun K23 hK23 => ?_
            refine c_region ?_
            refine s_op (o_lss (a := (i : Int)) (b := (m : Int)) e18_32 e18_31 ?_)
            refine s_nil ?_
            refine t_norm (hK23 _ _ ?_)
            refine wp_seq_k fun K24 hK24 => ?_
            refine c_cond rfl (fun h25 => ?_) (fun h25 => ?_)
            · -- (i : Int) < (m : Int)
              refine wp_skip ?_
              refine t_norm (hK24 _ _ ?_)
              refine wp_seq_k fun K26 hK26 => ?_
              refine wp_block ?_
              refine wp_seq_k fun K27 hK27 => ?_
              refine c_region ?_
              refine s_op (o_move (v := (.int .i64 (i : Int))) e18_32 ?_)
              refine s_op (o_assign (v := (.int .i64 (i : Int))) rfl ?_)
              refine s_nil ?_
              refine t_norm (hK27 _ _ ?_)
              refine c_region ?_
              refine s_op (o_move (v := (.int .i64 y)) e18_7 ?_)
              refine s_op (o_shl (c := y * 256) rfl rfl (by omega) (shl_lit (by omega) (by omega) rfl) ?_)
              refine s_op (o_move (v := (S s)) e18_0 ?_)
              refine s_op (o_move (v := (.int .i64 (i : Int))) rfl ?_)
              obtain ⟨c28, hx29⟩ : ∃ x_, s[((i : Int)).toNat]? = some x_ := get_some (by omega)
              have c28_lt := c28.toNat_lt
              refine s_op (o_sidx Tryz.underlying9 rfl rfl (by omega) hx29 ?_)
              refine s_op (o_conv Tryz.underlying5 Tryz.underlying3 rfl (w_u8 _) ?_)
              refine s_op (o_or (c := y * 256 + (c28.toNat : Int)) rfl rfl (or8 (by omega) (by omega) _) ?_)
              refine s_op (o_assign (v := (.int .i64 (y * 256 + (c28.toNat : Int)))) rfl ?_)
              refine s_nil ?_
              refine b_norm ?_
              refine t_norm (hK26 _ _ ?_)
              refine c_region ?_
              refine s_op (o_add (a := (i : Int)) (b := 1) e18_32 rfl (w64 (by omega) (by omega)) ?_)
              refine s_op (o_move (v := (.int .i64 ((i : Int) + 1))) rfl ?_)
              refine s_nil ?_
              refine t_norm ⟨m - (i + 1), _, rfl, ?_, ?_⟩
              · omega
              · exact ⟨(i + 1), (y * 256 + (c28.toNat : Int)), rfl, hH21, (by omega), (by rw [take_succ_of (by simpa using hx29), beVal_snoc, ← hy]), e18_0, e18_1, e18_4, e18_5, e18_6, rfl, e18_29, e18_31, rfl⟩
            · -- not: (i : Int) < (m : Int)
              refine wp_exit ?_
              refine t_exit (t_exit (x_in (?_)))
              refine t_norm (hK16 _ _ ?_)
              refine wp_seq_k fun K30 hK30 => ?_
              refine Rest.region mixed (by kernel_rfl) ?_
              have hH31 : Has E { w20 with drawn := w20.drawn + 1 } [R] := Has0.drew hH21 _
              refine Rest.phaseA (fun w_ => Has E w_ []) 0 5 5 rfl (by decide) (by kernel_rfl) ?_
              refine a_op 0 rfl (by kernel_rfl) (fun w_ h_ => o_move (v := (.int .i64 y)) e18_7 ⟨rfl, rfl⟩) ?_
              refine a_op 1 rfl (by kernel_rfl) (fun w_ h_ => o_move (v := (S s)) e18_0 ⟨rfl, rfl⟩) ?_
              refine a_op 2 rfl (by kernel_rfl) (fun w_ h_ => o_move (v := (.int .i64 (m : Int))) e18_1 ⟨rfl, rfl⟩) ?_
              refine a_op 3 rfl (by kernel_rfl) (fun w_ h_ => o_ssl_l Tryz.underlying9 rfl rfl (by omega) (by omega) ⟨rfl, rfl⟩) ?_
              refine a_op 4 rfl (by kernel_rfl) (fun w_ h_ => o_assign (v := (.int .i64 y)) rfl ⟨rfl, rfl⟩) ?_
              have hH32 : Has E { w20 with drawn := w20.drawn + 1 } [] := hH31.first 0 rfl
              refine a_done (by kernel_rfl) hH32 ?_
              refine r_op 5 rfl (by kernel_rfl) (o_assign (v := (S (s.drop ((m : Int)).toNat))) rfl ?_)
              refine r_op 6 rfl (by kernel_rfl) (o_assign (v := (.bool true)) rfl ?_)
              refine Rest.done (by kernel_rfl) ?_
              refine t_norm (hK30 _ _ ?_)
              refine wp_ret ?_
              refine c_ret3 Tryz.results34  (v := (.int .i64 y)) rfl (x := (S (s.drop ((m : Int)).toNat))) rfl (y := (.bool true)) rfl ?_
              have e : i = m := by omega
              rw [e] at hy
              exact ⟨by rw [takeS_yes (by omega) (by omega) (by omega) (.inr (first_byte (by simpa using hx12) (by omega))), hy]; rfl, hH31⟩
        · -- not: (m : Int) = 8
          refine s_off (b' := false) 24 rfl (congrArg Value.bool (decide_eq_false h10)) rfl ?_
          refine s_off (b' := false) 24 rfl (congrArg Value.bool (decide_eq_false h10)) rfl ?_
          refine s_off (b' := false) 24 rfl (congrArg Value.bool (decide_eq_false h10)) rfl ?_
          refine s_on 21 rfl (congrArg Value.bool (decide_eq_false h8)) (o_pick_f (u := (.bool false)) ((rfl : _ = _).trans (congrArg Value.bool (decide_eq_false h10))) rfl ?_)
          refine s_op (o_pick_f (u := (.bool false)) ((rfl : _ = _).trans (congrArg Value.bool (decide_eq_false h8))) rfl ?_)
          refine s_nil ?_
          refine t_norm (hK3 _ _ ?_)
          refine c_false rfl rfl ?_
          refine wp_skip ?_
          refine t_norm (hK2 _ _ ?_)
          refine wp_seq_k fun K33 hK33 => ?_
          refine c_region ?_
          refine s_op (o_assign (v := (.int .i64 0)) rfl ?_)
          refine s_nil ?_
          refine t_norm (hK33 _ _ ?_)
          refine wp_seq_k fun K34 hK34 => ?_
          refine wp_seq_k fun K35 hK35 => ?_
          refine c_region ?_
          refine s_op (o_move (v := (.int .i64 (m : Int))) rfl ?_)
          refine s_op (o_move (v := (.int .i64 0)) rfl ?_)
          refine s_nil ?_
          refine t_norm (hK35 _ _ ?_)
          refine wp_block ?_
          let I37 : Nat → (Nat → Value) → World → Prop := fun n__ r__ w__ => ∃ (i : Nat) (y : Int), n__ = m - i ∧ Has E w__ [R] ∧ (i ≤ m) ∧ (y = beVal (s.take i)) ∧ r__ 0 = (S s) ∧ r__ 1 = (.int .i64 (m : Int)) ∧ r__ 4 = (.int .i64 0) ∧ r__ 5 = (S ([] : List UInt8)) ∧ r__ 6 = (.bool false) ∧ r__ 7 = (.int .i64 y) ∧ r__ 29 = (.bool false) ∧ r__ 31 = (.int .i64 (m : Int)) ∧ r__ 32 = (.int .i64 (i : Int))
          refine c_loop I37 _ ⟨0, 0, rfl, hH, Nat.zero_le _, rfl, rfl, rfl, rfl, rfl, rfl, rfl, rfl, rfl, rfl⟩ ?_
          rintro n_ r40 w38 ⟨i, y, rfl, hH39, hi, hy, e36_0, e36_1, e36_4, e36_5, e36_6, e36_7, e36_29, e36_31, e36_32⟩
          have hb0 := beVal_nonneg (s.take i)
          have hb1 : i < m → beVal (s.take i) < 36028797018963968 := fun h => beVal_lt h (by omega) (by omega) (.inl (by omega))
          refine wp_seq_k fun K41 hK41 => ?_
          refine c_region ?_
          refine s_op (o_lss (a := (i : Int)) (b := (m : Int)) e36_32 e36_31 ?_)
          refine s_nil ?_
          refine t_norm (hK41 _ _ ?_)
          refine wp_seq_k fun K42 hK42 => ?_
          refine c_cond rfl (fun h43 => ?_) (fun h43 => ?_)
          · -- (i : Int) < (m : Int)
            refine wp_skip ?_
            refine t_norm (hK42 _ _ ?_)
            refine wp_seq_k fun K44 hK44 => ?_
            refine wp_block ?_
            refine wp_seq_k fun K45 hK45 => ?_
            refine c_region ?_
            refine s_op (o_move (v := (.int .i64 (i : Int))) e36_32 ?_)
            refine s_op (o_assign (v := (.int .i64 (i : Int))) rfl ?_)
            refine s_nil ?_
            refine t_norm (hK45 _ _ ?_)
            refine c_region ?_
            refine s_op (o_move (v := (.int .i64 y)) e36_7 ?_)
            refine s_op (o_shl (c := y * 256) rfl rfl (by omega) (shl_lit (by omega) (by omega) rfl) ?_)
            refine s_op (o_move (v := (S s)) e36_0 ?_)
            refine s_op (o_move (v := (.int .i64 (i : Int))) rfl ?_)
            obtain ⟨c46, hx47⟩ : ∃ x_, s[((i : Int)).toNat]? = some x_ := get_some (by omega)
            have c46_lt := c46.toNat_lt
            refine s_op (o_sidx Tryz.underlying9 rfl rfl (by omega) hx47 ?_)
            refine s_op (o_conv Tryz.underlying5 Tryz.underlying3 rfl (w_u8 _) ?_)
            refine s_op (o_or (c := y * 256 + (c46.toNat : Int)) rfl rfl (or8 (by omega) (by omega) _) ?_)
            refine s_op (o_assign (v := (.int .i64 (y * 256 + (c46.toNat : Int)))) rfl ?_)
            refine s_nil ?_
            refine b_norm ?_
            refine t_norm (hK44 _ _ ?_)
            refine c_region ?_
            refine s_op (o_add (a := (i : Int)) (b := 1) e36_32 rfl (w64 (by omega) (by omega)) ?_)
            refine s_op (o_move (v := (.int .i64 ((i : Int) + 1))) rfl ?_)
            refine s_nil ?_
            refine t_norm ⟨m - (i + 1), _, rfl, ?_, ?_⟩
            · omega
            · exact ⟨(i + 1), (y * 256 + (c46.toNat : Int)), rfl, hH39, (by omega), (by rw [take_succ_of (by simpa using hx47), beVal_snoc, ← hy]), e36_0, e36_1, e36_4, e36_5, e36_6, rfl, e36_29, e36_31, rfl⟩
          · -- not: (i : Int) < (m : Int)
            refine wp_exit ?_
            refine t_exit (t_exit (x_in (?_)))
            refine t_norm (hK34 _ _ ?_)
            refine wp_seq_k fun K48 hK48 => ?_
            refine Rest.region mixed (by kernel_rfl) ?_
            have hH49 : Has E { w38 with drawn := w38.drawn + 1 } [R] := Has0.drew hH39 _
            refine Rest.phaseA (fun w_ => Has E w_ []) 0 5 5 rfl (by decide) (by kernel_rfl) ?_
            refine a_op 0 rfl (by kernel_rfl) (fun w_ h_ => o_move (v := (.int .i64 y)) e36_7 ⟨rfl, rfl⟩) ?_
            refine a_op 1 rfl (by kernel_rfl) (fun w_ h_ => o_move (v := (S s)) e36_0 ⟨rfl, rfl⟩) ?_
            refine a_op 2 rfl (by kernel_rfl) (fun w_ h_ => o_move (v := (.int .i64 (m : Int))) e36_1 ⟨rfl, rfl⟩) ?_
            refine a_op 3 rfl (by kernel_rfl) (fun w_ h_ => o_ssl_l Tryz.underlying9 rfl rfl (by omega) (by omega) ⟨rfl, rfl⟩) ?_
            refine a_op 4 rfl (by kernel_rfl) (fun w_ h_ => o_assign (v := (.int .i64 y)) rfl ⟨rfl, rfl⟩) ?_
            have hH50 : Has E { w38 with drawn := w38.drawn + 1 } [] := hH49.first 0 rfl
            refine a_done (by kernel_rfl) hH50 ?_
            refine r_op 5 rfl (by kernel_rfl) (o_assign (v := (S (s.drop ((m : Int)).toNat))) rfl ?_)
            refine r_op 6 rfl (by kernel_rfl) (o_assign (v := (.bool true)) rfl ?_)
            refine Rest.done (by kernel_rfl) ?_
            refine t_norm (hK48 _ _ ?_)
            refine wp_ret ?_
            refine c_ret3 Tryz.results34  (v := (.int .i64 y)) rfl (x := (S (s.drop ((m : Int)).toNat))) rfl (y := (.bool true)) rfl ?_
            have e : i = m := by omega
            rw [e] at hy
            exact ⟨by rw [takeS_yes (by omega) (by omega) (by omega) (.inl (by omega)), hy]; rfl, hH49⟩
end Go.Q
namespace Go.Q
/-- one bit falls out -/
def cb (r : BitVec 32) : BitVec 32 := if r.getLsbD 0 then (r >>> 1) ^^^ 0xedb88320#32 else r >>> 1
def cbs : Nat → BitVec 32 → BitVec 32
  | 0, r => r
  | n + 1, r => cbs n (cb r)
def b32 (b : UInt8) : BitVec 32 := BitVec.ofNat 32 b.toNat
/-- one byte -/
def cby (r : BitVec 32) (b : UInt8) : BitVec 32 := cbs 8 (r ^^^ b32 b)
def crcF (r : BitVec 32) (l : List UInt8) : BitVec 32 := l.foldl cby r
def crcS (l : List UInt8) : BitVec 32 := ~~~ (crcF (0xffffffff#32) l)
theorem cb_xor (a b : BitVec 32) : cb (a ^^^ b) = cb a ^^^ cb b := by
  unfold cb
  rw [BitVec.getLsbD_xor, BitVec.ushiftRight_xor_distrib]
  generalize a >>> 1 = x
  generalize b >>> 1 = y
  generalize (0xedb88320#32 : BitVec 32) = c
  have e1 : x ^^^ (y ^^^ c) = x ^^^ y ^^^ c := (BitVec.xor_assoc x y c).symm
  have e2 : x ^^^ c ^^^ y = x ^^^ y ^^^ c := by rw [BitVec.xor_assoc, BitVec.xor_comm c y, e1]
  have e3 : x ^^^ c ^^^ (y ^^^ c) = x ^^^ y := by rw [← BitVec.xor_assoc, e2, BitVec.xor_assoc, BitVec.xor_self, BitVec.xor_zero]
  cases a.getLsbD 0 <;> cases b.getLsbD 0 <;> simp [e1, e2, e3]
theorem cb_zero : cb 0#32 = 0#32 := by decide
theorem cb_even {a : BitVec 32} (h : a.getLsbD 0 = false) : cb a = a >>> 1 := by unfold cb; rw [h]; rfl
theorem cb_inj0 {a : BitVec 32} (h : cb a = 0#32) : a = 0#32 := by
  unfold cb at h
  split at h
  · have := congrArg (fun x : BitVec 32 => x.getLsbD 31) h
    simp at this
  · rename_i h0
    apply BitVec.eq_of_getLsbD_eq
    intro i hi
    cases i with
    | zero => simpa using h0
    | succ i =>
      have := congrArg (fun x : BitVec 32 => x.getLsbD i) h
      simp at this
      rw [Nat.add_comm] at this
      simpa using this
theorem cbs_xor : ∀ (n : Nat) (a b : BitVec 32), cbs n (a ^^^ b) = cbs n a ^^^ cbs n b
  | 0, _, _ => rfl
  | n + 1, a, b => by rw [cbs, cb_xor, cbs_xor n]; rfl
theorem cbs_inj0 : ∀ (n : Nat) {a : BitVec 32}, cbs n a = 0#32 → a = 0#32
  | 0, _, h => h
  | n + 1, _, h => cb_inj0 (cbs_inj0 n h)
theorem cbs_zero : ∀ n, cbs n 0#32 = 0#32
  | 0 => rfl
  | n + 1 => by rw [cbs, cb_zero, cbs_zero n]
theorem cbs_add (a b : Nat) : ∀ r, cbs (a + b) r = cbs b (cbs a r) := by
  induction a with
  | zero => intro r; rw [Nat.zero_add]; rfl
  | succ a ih => intro r; rw [Nat.succ_add]; exact ih _
/-- bits above n: they only fall down -/
theorem cbs_high : ∀ (n : Nat) (a : BitVec 32), (∀ i, i < n → a.getLsbD i = false) → cbs n a = a >>> n
  | 0, a, _ => by simp [cbs]
  | n + 1, a, h => by
    rw [cbs, cb_even (h 0 (by omega)), cbs_high n _ (fun i hi => by
      rw [BitVec.getLsbD_ushiftRight, Nat.add_comm]; exact h (i + 1) (by omega))]
    rw [← BitVec.shiftRight_add, Nat.add_comm]
def nib (i : Nat) : BitVec 32 := cbs 4 (BitVec.ofNat 32 i)
theorem split4 (r : BitVec 32) : r = (r &&& ~~~ 15#32) ^^^ (r &&& 15#32) := by
  apply BitVec.eq_of_getLsbD_eq
  intro i hi
  simp only [BitVec.getLsbD_xor, BitVec.getLsbD_and, BitVec.getLsbD_not]
  cases r.getLsbD i <;> simp [hi]
theorem cbs4 (r : BitVec 32) : cbs 4 r = (r >>> 4) ^^^ nib (r &&& 15#32).toNat := by
  have hl : ∀ i, i < 4 → (r &&& ~~~ 15#32).getLsbD i = false := fun i hi => by
    have : (~~~ 15#32).getLsbD i = false := by
      rcases i with _ | _ | _ | _ | i <;> first | decide | omega
    rw [BitVec.getLsbD_and, this, Bool.and_false]
  have e1 : (r &&& ~~~ 15#32) >>> 4 = r >>> 4 := by
    apply BitVec.eq_of_getLsbD_eq
    intro i hi
    rw [BitVec.getLsbD_ushiftRight, BitVec.getLsbD_ushiftRight, BitVec.getLsbD_and]
    by_cases hb : 4 + i < 32
    · have : ∀ j, j < 28 → (~~~ 15#32).getLsbD (4 + j) = true := by decide
      rw [this i (by omega), Bool.and_true]
    · rw [BitVec.getLsbD_of_ge r _ (by omega)]; rfl
  conv => lhs; rw [split4 r]
  rw [cbs_xor, cbs_high 4 _ hl, e1]
  unfold nib
  rw [BitVec.ofNat_toNat, BitVec.setWidth_eq]
/-- a byte, bit by bit: what is left of it is laid over the state -/
theorem step_bit (r x : BitVec 32) : cb (r ^^^ (x &&& 1#32)) ^^^ (x >>> 1) = cb (r ^^^ x) := by
  have e : x = (x &&& 1#32) ^^^ (x &&& ~~~ 1#32) := by
    apply BitVec.eq_of_getLsbD_eq
    intro i hi
    simp only [BitVec.getLsbD_xor, BitVec.getLsbD_and, BitVec.getLsbD_not]
    cases x.getLsbD i <;> simp [hi]
  have h0 : (x &&& ~~~ 1#32).getLsbD 0 = false := by
    rw [BitVec.getLsbD_and]; simp
  have h1 : (x &&& ~~~ 1#32) >>> 1 = x >>> 1 := by
    apply BitVec.eq_of_getLsbD_eq
    intro i hi
    rw [BitVec.getLsbD_ushiftRight, BitVec.getLsbD_ushiftRight, BitVec.getLsbD_and]
    by_cases hb : 1 + i < 32
    · have : ∀ j, j < 31 → (~~~ 1#32).getLsbD (1 + j) = true := by decide
      rw [this i (by omega), Bool.and_true]
    · rw [BitVec.getLsbD_of_ge x _ (by omega)]; rfl
  conv => rhs; rw [e, ← BitVec.xor_assoc, cb_xor, cb_even h0, h1]
theorem crcF_append (r : BitVec 32) (a b : List UInt8) : crcF r (a ++ b) = crcF (crcF r a) b := List.foldl_append
end Go.Q
namespace Go.Q
def uV (x : BitVec 32) : Value := .int .u32 (x.toNat : Int)
theorem ofInt_toNat (x : BitVec 32) : BitVec.ofInt 32 (x.toNat : Int) = x := by
  rw [BitVec.ofInt_natCast, BitVec.ofNat_toNat, BitVec.setWidth_eq]
theorem wrap_u32 {n : Int} (h0 : 0 ≤ n) (h1 : n < 4294967296) : IntKind.wrap .u32 n = n := by
  simp only [IntKind.wrap, IntKind.bits, IntKind.signed]
  simp
  exact Int.emod_eq_of_lt h0 (by simpa using h1)
theorem u32_lt (x : BitVec 32) : (x.toNat : Int) < 4294967296 := by have := x.isLt; omega
theorem xor32 (x y : BitVec 32) : IntKind.wrap .u32 ((BitVec.ofInt 32 (x.toNat : Int) ^^^ BitVec.ofInt 32 (y.toNat : Int)).toNat : Int) = ((x ^^^ y).toNat : Int) := by
  rw [ofInt_toNat, ofInt_toNat, wrap_u32 (by omega) (u32_lt _)]
theorem and32 (x y : BitVec 32) : IntKind.wrap .u32 ((BitVec.ofInt 32 (x.toNat : Int) &&& BitVec.ofInt 32 (y.toNat : Int)).toNat : Int) = ((x &&& y).toNat : Int) := by
  rw [ofInt_toNat, ofInt_toNat, wrap_u32 (by omega) (u32_lt _)]
theorem shr32 (x : BitVec 32) (n : Nat) (h : n ≤ 32) : Int.fdiv (x.toNat : Int) (2 ^ (min ((n : Int)).toNat (IntKind.bits .u32))) = ((x >>> n).toNat : Int) := by
  rw [show min ((n : Int)).toNat (IntKind.bits .u32) = n from by simp [IntKind.bits]; omega, BitVec.toNat_ushiftRight, Nat.shiftRight_eq_div_pow,
    show ((2 : Int) ^ n) = ((2 ^ n : Nat) : Int) from by rw [Int.natCast_pow]; rfl, Int.fdiv_eq_ediv_of_nonneg _ (Int.natCast_nonneg _)]
  exact (Int.natCast_ediv _ _).symm
theorem shr8 (c : UInt8) (n : Nat) (h : n ≤ 8) : Int.fdiv (c.toNat : Int) (2 ^ (min ((n : Int)).toNat (IntKind.bits .u8))) = ((c.toNat >>> n : Nat) : Int) := by
  rw [show min ((n : Int)).toNat (IntKind.bits .u8) = n from by simp [IntKind.bits]; omega, Nat.shiftRight_eq_div_pow,
    show ((2 : Int) ^ n) = ((2 ^ n : Nat) : Int) from by rw [Int.natCast_pow]; rfl, Int.fdiv_eq_ediv_of_nonneg _ (Int.natCast_nonneg _)]
  exact (Int.natCast_ediv _ _).symm
theorem quo32 (x : BitVec 32) (m k : Nat) (hm : m = 2 ^ k) : IntKind.wrap .u32 ((x.toNat : Int).tdiv (m : Int)) = ((x >>> k).toNat : Int) := by
  subst hm
  rw [Int.tdiv_eq_ediv_of_nonneg (by omega), BitVec.toNat_ushiftRight, Nat.shiftRight_eq_div_pow, ← Int.natCast_ediv]
  exact wrap_u32 (Int.natCast_nonneg _) (Int.ofNat_lt.2 (Nat.lt_of_le_of_lt (Nat.div_le_self x.toNat (2 ^ k)) x.isLt))
theorem not32 (x : BitVec 32) : 4294967295 - (x.toNat : Int) = ((~~~ x).toNat : Int) := by
  rw [BitVec.toNat_not]; have := x.isLt; omega
theorem sub32 (x : BitVec 32) : IntKind.wrap .u32 (4294967295 - (x.toNat : Int)) = ((~~~ x).toNat : Int) := by
  rw [not32]; exact wrap_u32 (by omega) (u32_lt _)
theorem b32_nat (b : UInt8) : (b.toNat : Int) = ((b32 b).toNat : Int) := by
  unfold b32
  rw [BitVec.toNat_ofNat, Nat.mod_eq_of_lt (by have := b.toNat_lt; omega)]
theorem conv_b32 (b : UInt8) : IntKind.wrap .u32 (b.toNat : Int) = ((b32 b).toNat : Int) := by
  rw [b32_nat]; exact wrap_u32 (by omega) (u32_lt _)
/-- the low byte -/
def lo8 (x : BitVec 32) : UInt8 := UInt8.ofNat x.toNat
theorem conv_lo8 (x : BitVec 32) : IntKind.wrap .u8 (x.toNat : Int) = ((lo8 x).toNat : Int) := by
  simp only [IntKind.wrap, IntKind.bits, IntKind.signed]
  simp [lo8]
theorem and15_lt (x : BitVec 32) : (x &&& 15#32).toNat < 16 := by
  rw [BitVec.toNat_and]; exact Nat.lt_of_le_of_lt Nat.and_le_right (by decide)
/-- the table -/
def nibV : List Value := [.int .u32 0, .int .u32 498536548, .int .u32 997073096, .int .u32 651767980, .int .u32 1994146192, .int .u32 1802195444, .int .u32 1303535960, .int .u32 1342533948, .int .u32 3988292384, .int .u32 4027552580, .int .u32 3604390888, .int .u32 3412177804, .int .u32 2607071920, .int .u32 2262029012, .int .u32 2685067896, .int .u32 3183342108]
def nibL : List Int := [0, 498536548, 997073096, 651767980, 1994146192, 1802195444, 1303535960, 1342533948, 3988292384, 4027552580, 3604390888, 3412177804, 2607071920, 2262029012, 2685067896, 3183342108]
theorem nibV_L {i : Nat} {v : Value} (h : nibV[i]? = some v) : ∃ z, nibL[i]? = some z ∧ v = .int .u32 z := by
  have e : nibV = nibL.map (fun z => Value.int .u32 z) := rfl
  rw [e, List.getElem?_map, Option.map_eq_some_iff] at h
  obtain ⟨z, h1, h2⟩ := h
  exact ⟨z, h1, h2.symm⟩
theorem nibV_at : ∀ i, i < 16 → nibV[i]? = some (uV (nib i)) := by
  have : ∀ i, i < 16 → (nib i).toNat = [0, 498536548, 997073096, 651767980, 1994146192, 1802195444, 1303535960, 1342533948, 3988292384, 4027552580, 3604390888, 3412177804, 2607071920, 2262029012, 2685067896, 3183342108].getD i 0 := by decide
  intro i hi
  unfold uV
  rw [this i hi]
  rcases i with _ | _ | _ | _ | _ | _ | _ | _ | _ | _ | _ | _ | _ | _ | _ | _ | i <;> first | rfl | omega
theorem nib_at {L : List Hp} {g : Nat} (h : CellsAt L g 0 nibV) (x : BitVec 32) : CellsAt L g (0 + (x &&& 15#32).toNat) [uV (nib (x &&& 15#32).toNat)] :=
  h.sub fun j v hv => by
    cases j with
    | zero => rw [Nat.add_zero, nibV_at _ (and15_lt x)]; simpa using hv
    | succ j => simp at hv
theorem cby_nib (r : BitVec 32) (c : UInt8) : cby r c = (((r ^^^ b32 c) >>> 4 ^^^ nib ((r ^^^ b32 c) &&& 15#32).toNat) >>> 4) ^^^ nib (((r ^^^ b32 c) >>> 4 ^^^ nib ((r ^^^ b32 c) &&& 15#32).toNat) &&& 15#32).toNat := by
  rw [← cbs4, ← cbs4, ← cbs_add]; rfl
theorem cbs_succ' (n : Nat) (r : BitVec 32) : cbs (n + 1) r = cb (cbs n r) := cbs_add n 1 r
theorem bit_and1 (x : BitVec 32) : (x &&& 1#32).toNat = x.toNat % 2 := by
  rw [BitVec.toNat_and]; exact Nat.and_one_is_mod _
theorem bit0 (x : BitVec 32) : x.getLsbD 0 = decide (x.toNat % 2 = 1) := by
  rw [BitVec.getLsbD, Nat.testBit_zero]
theorem bit0_out (r x : BitVec 32) : (r ^^^ (x &&& 1#32)).getLsbD 0 = decide (r.toNat % 2 ≠ x.toNat % 2) := by
  rw [BitVec.getLsbD_xor, bit0, bit0, bit_and1]
  have h1 : r.toNat % 2 = 0 ∨ r.toNat % 2 = 1 := by omega
  have h2 : x.toNat % 2 = 0 ∨ x.toNat % 2 = 1 := by omega
  rcases h1 with h1 | h1 <;> rcases h2 with h2 | h2 <;> simp [h1, h2]
theorem shr_and1 (r x : BitVec 32) : (r ^^^ (x &&& 1#32)) >>> 1 = r >>> 1 := by
  rw [BitVec.ushiftRight_xor_distrib]
  have : (x &&& 1#32) >>> 1 = 0#32 := by
    apply BitVec.eq_of_toNat_eq
    rw [BitVec.toNat_ushiftRight, bit_and1, Nat.shiftRight_eq_div_pow]
    show x.toNat % 2 / 2 ^ 1 = 0
    omega
  rw [this, BitVec.xor_zero]
theorem b32_shr (c : UInt8) (j : Nat) : (b32 c >>> j).toNat = c.toNat >>> j := by
  rw [BitVec.toNat_ushiftRight]; congr 1; have := b32_nat c; omega
theorem bits_yes {r r0 : BitVec 32} {c : UInt8} {j : Nat} (h : r ^^^ (b32 c >>> j) = cbs j (r0 ^^^ b32 c)) (hb : (r.toNat : Int) % 2 ≠ ((c.toNat >>> j : Nat) : Int) % 2) (_h8 : j < 8) :
    ((r >>> 1) ^^^ 3988292384#32) ^^^ (b32 c >>> (j + 1)) = cbs (j + 1) (r0 ^^^ b32 c) := by
  have e : cb (r ^^^ ((b32 c >>> j) &&& 1#32)) = (r >>> 1) ^^^ 3988292384#32 := by
    unfold cb
    rw [if_pos (by rw [bit0_out, b32_shr]; exact decide_eq_true (by omega)), shr_and1]
  rw [← e, BitVec.shiftRight_add, step_bit, h, cbs_succ']
theorem bits_no {r r0 : BitVec 32} {c : UInt8} {j : Nat} (h : r ^^^ (b32 c >>> j) = cbs j (r0 ^^^ b32 c)) (hb : ¬ (r.toNat : Int) % 2 ≠ ((c.toNat >>> j : Nat) : Int) % 2) (_h8 : j < 8) :
    (r >>> 1) ^^^ (b32 c >>> (j + 1)) = cbs (j + 1) (r0 ^^^ b32 c) := by
  have e : cb (r ^^^ ((b32 c >>> j) &&& 1#32)) = r >>> 1 := by
    unfold cb
    rw [if_neg (by rw [bit0_out, b32_shr]; simp; omega), shr_and1]
  rw [← e, BitVec.shiftRight_add, step_bit, h, cbs_succ']
theorem bits_done {r r0 : BitVec 32} {c : UInt8} {j : Nat} (h : r ^^^ (b32 c >>> j) = cbs j (r0 ^^^ b32 c)) (h8 : j = 8) : r = cby r0 c := by
  subst h8
  have e : b32 c >>> 8 = 0#32 := by
    apply BitVec.eq_of_toNat_eq
    rw [b32_shr, Nat.shiftRight_eq_div_pow]
    have := c.toNat_lt
    show c.toNat / 256 = 0
    omega
  rw [e, BitVec.xor_zero] at h
  exact h
theorem crcF_snoc (r : BitVec 32) (l : List UInt8) (c : UInt8) : crcF r (l ++ [c]) = cby (crcF r l) c := by rw [crcF_append]; rfl
/-- a sum, laid -/
def laidS (x : BitVec 32) : List UInt8 := [lo8 x, lo8 (x >>> 8), lo8 (x >>> 16), lo8 (x >>> 24)]
theorem laidS_len (x : BitVec 32) : (laidS x).length = 4 := rfl
theorem by8_lo (x : BitVec 32) : by8 ((x.toNat : Int) % 256) = lo8 x := by
  unfold by8 lo8
  apply UInt8.toNat_inj.1
  rw [UInt8.toNat_ofNat', UInt8.toNat_ofNat']
  omega
theorem laidS_ref (x : BitVec 32) : [by8 ((x.toNat : Int) % 256), by8 (((x >>> 8).toNat : Int) % 256), by8 (((x >>> 16).toNat : Int) % 256), lo8 (x >>> 24)] = laidS x := by
  rw [by8_lo, by8_lo, by8_lo]; rfl
def sealS (t : List UInt8) : List UInt8 := t ++ laidS (crcS t)
def openS (t : List UInt8) : List UInt8 × Bool :=
  if 4 ≤ t.length ∧ laidS (crcS (t.take ((t.length : Int) - 4).toNat)) = t.drop ((t.length : Int) - 4).toNat then (t.take ((t.length : Int) - 4).toNat, true) else ([], false)
theorem openS_yes {t : List UInt8} (h : 4 ≤ t.length) (h2 : laidS (crcS ([t.take ((t.length : Int) - 4).toNat].flatten)) = t.drop ((t.length : Int) - 4).toNat) : openS t = (t.take ((t.length : Int) - 4).toNat, true) := by
  rw [List.flatten_cons, List.flatten_nil, List.append_nil] at h2
  unfold openS; rw [if_pos ⟨h, h2⟩]
theorem openS_no {t : List UInt8} (h : t.length < 4 ∨ laidS (crcS ([t.take ((t.length : Int) - 4).toNat].flatten)) ≠ t.drop ((t.length : Int) - 4).toNat) : openS t = ([], false) := by
  rw [List.flatten_cons, List.flatten_nil, List.append_nil] at h
  unfold openS; rw [if_neg (fun g => h.elim (fun h => by omega) (fun h => h g.2))]
theorem openS_yes2 {t : List UInt8} (h : 4 ≤ t.length) (h2 : laidS (crcS (t.take ((t.length : Int) - 4).toNat)) = t.drop ((t.length : Int) - 4).toNat) : openS t = (t.take ((t.length : Int) - 4).toNat, true) := openS_yes h (by simpa using h2)
theorem openS_no2 {t : List UInt8} (h : t.length < 4 ∨ laidS (crcS (t.take ((t.length : Int) - 4).toNat)) ≠ t.drop ((t.length : Int) - 4).toNat) : openS t = ([], false) := openS_no (by simpa using h)
theorem all_no {l : List (List UInt8)} {x : List UInt8} (hx : x ∈ l) (h : (openS x).2 = false) : l.all (fun x => (openS x).2) = false := by
  rw [List.all_eq_false]; exact ⟨x, hx, by rw [h]; decide⟩
theorem flat_le {l : List (List UInt8)} {x : List UInt8} (hx : x ∈ l) : x.length ≤ l.flatten.length := by
  induction l with
  | nil => cases hx
  | cons a t ih =>
    rw [List.flatten_cons, List.length_append]
    rcases List.mem_cons.1 hx with e | h
    · rw [e]; omega
    · have := ih h; omega
theorem lawjoin_end {l : List (List UInt8)} {t : List UInt8} {k : Nat} (ht : t = (l.take k).flatten) (he : k = l.length) (hk : k ≤ 20) (h : t.length ≤ 2000) : l.length ≤ 20 ∧ t = l.flatten ∧ l.flatten.length ≤ 2000 := by
  subst he
  rw [List.take_length] at ht
  exact ⟨hk, ht, by rw [← ht]; exact h⟩
theorem emod_b (a b : Int) (h : 0 < b) : 0 ≤ a % b ∧ a % b < b := ⟨Int.emod_nonneg _ (by omega), Int.emod_lt_of_pos _ h⟩
theorem flat1 (t : List UInt8) : [t].flatten = t := by simp
theorem take_drop_part {α : Type} (t : List α) {a b : Nat} (h : a ≤ b) : t.take a ++ (t.take b).drop a = t.take b := by
  have e : t.take a = (t.take b).take a := by rw [List.take_take, Nat.min_eq_left h]
  rw [e, List.take_append_drop]
theorem openS_seal (t : List UInt8) : openS (sealS t) = (t, true) := by
  have hl : (sealS t).length = t.length + 4 := by rw [sealS, List.length_append, laidS_len]
  have e : (((sealS t).length : Int) - 4).toNat = t.length := by omega
  have e1 : (sealS t).take t.length = t := by rw [sealS, List.take_left]
  have e2 : (sealS t).drop t.length = laidS (crcS t) := by rw [sealS, List.drop_left]
  unfold openS
  rw [e, e1, e2, if_pos ⟨by omega, rfl⟩]
theorem seal_good (x : List UInt8) : [sealS x].all (fun x => (openS x).2) = true := by
  simp [openS_seal]
section ops
variable {P : Program} {ρ : Operand → Value} {E w : World} {ss : List (List Hp)} {K : Value → World → Prop} {dst : Option Tmp} {T : TypeId} {pos : String} {after : Array Edge} {g : Option (Nat × Bool)}
theorem o_compl {t u : TypeId} {x : Operand} {a : BitVec 32} (ht : P.underlying t = some (.int .u32)) (hx : ρ x = .int .u32 (a.toNat : Int)) (h : K (.int .u32 ((~~~ a).toNat : Int)) w) : OK P ⟨dst, .unOp .xor t x, u, pos, after, g⟩ ρ w K := by
  refine OK.val (run_v (v := .int .u32 ((~~~ a).toNat : Int)) ?_) h
  rw [hx]
  simp only [Op.unary, Op.intBits]
  rw [if_neg (show ¬ (IntKind.signed .u32 = true) by decide)]
  simp only [Sem.run_pure]
  have e : IntKind.max .u32 = ((4294967295#32).toNat : Int) := by decide
  rw [e]
  have := xor32 (4294967295#32) a
  rw [show (4294967295#32 ^^^ a) = ~~~ a from by
    apply BitVec.eq_of_getLsbD_eq
    intro i hi
    have : ∀ j, j < 32 → (4294967295#32).getLsbD j = true := by decide
    rw [BitVec.getLsbD_xor, this i hi, BitVec.getLsbD_not, decide_eq_true hi]; cases a.getLsbD i <;> rfl] at this
  exact congrArg (fun n => Result.ok (Value.int .u32 n) w) this
theorem o_idxArr {x y : Operand} {t e : TypeId} {n b off i by_ : Nat} {k : IntKind} {z : Value} (ht : P.underlying t = some (.array n e)) (hi : TI P e z 1 by_) (hx : ρ x = .pointer (some ⟨b, off, none⟩)) (hy : ρ y = .int k (i : Int)) (h : i < n)
    (hK : K (.pointer (some ⟨b, off + i, none⟩)) w) : OK P ⟨dst, .indexAddr t x y, T, pos, after, g⟩ ρ w K := by
  refine OK.val (run_v (v := .pointer (some ⟨b, off + i, none⟩)) ?_) hK
  rw [hx, hy]
  simp [Instr.indexAt, asIntOf, run_underlying ht, h, hi.size, add_lit, Instr.sureAddr]
end ops
end Go.Q
namespace Go.Q
open Go.Proofs
set_option linter.unusedVariables false
set_option maxRecDepth 100000
attribute [local irreducible] wpList OK Code.wp
set_option maxHeartbeats 4000000 in
theorem of2_c {E w : World} {R : List Hp} (hH : Has E w [R]) (hg : CellsAt R 0 0 nibV) {v : Value} {l : List (List UInt8)} (hv : Sl R 1 v l.length (l.map sV)) (hlb : ∀ x ∈ l, x.length ≤ 9223372036854775807) :
    Calls Tryz.prog 79 #[v] w fun e w' => e = .returned (.int .u32 ((crcS l.flatten).toNat : Int)) ∧ Has E w' [R] := by
  have hn := hv.le
  refine c_enter (args := [v]) Tryz.func79 rfl Tryz.ntmps79 (by simp) ?_
  refine wp_seq_k fun K1 hK1 => ?_
  refine c_region ?_
  refine s_op (o_assign (v := (.int .u32 0)) rfl ?_)
  refine s_nil ?_
  refine t_norm (hK1 _ _ ?_)
  refine wp_seq_k fun K2 hK2 => ?_
  refine c_region ?_
  refine s_op (o_assign (v := (.int .u32 4294967295)) rfl ?_)
  refine s_nil ?_
  refine t_norm (hK2 _ _ ?_)
  refine wp_seq_k fun K3 hK3 => ?_
  refine wp_seq_k fun K4 hK4 => ?_
  refine c_region ?_
  refine s_op (o_move (v := v) rfl ?_)
  refine s_op (o_lenS Tryz.underlying79 rfl hv ?_)
  refine s_op (o_move (v := (.int .i64 0)) rfl ?_)
  refine s_nil ?_
  refine t_norm (hK4 _ _ ?_)
  refine wp_block ?_
  let I6 : Nat → (Nat → Value) → World → Prop := fun n__ r__ w__ => ∃ (k : Nat) (r : BitVec 32), n__ = l.length - k ∧ Has E w__ [R] ∧ (k ≤ l.length) ∧ (r = crcF (4294967295#32) (l.take k).flatten) ∧ r__ 0 = v ∧ r__ 2 = (.int .u32 0) ∧ r__ 3 = (.int .u32 (r.toNat : Int)) ∧ r__ 7 = v ∧ r__ 8 = (.int .i64 ((l.length : Nat) : Int)) ∧ r__ 9 = (.int .i64 (k : Int))
  refine c_loop I6 _ ⟨0, (4294967295#32), rfl, hH, Nat.zero_le _, rfl, rfl, rfl, rfl, rfl, rfl, rfl⟩ ?_
  rintro n_ r9 w7 ⟨k, r, rfl, hH8, hk, hr, e5_0, e5_2, e5_3, e5_7, e5_8, e5_9⟩
  refine wp_seq_k fun K10 hK10 => ?_
  refine c_region ?_
  refine s_op (o_lss (a := (k : Int)) (b := ((l.length : Nat) : Int)) e5_9 e5_8 ?_)
  refine s_nil ?_
  refine t_norm (hK10 _ _ ?_)
  refine wp_seq_k fun K11 hK11 => ?_
  refine c_cond rfl (fun h12 => ?_) (fun h12 => ?_)
  · -- (k : Int) < ((l.length : Nat) : Int)
    refine wp_skip ?_
    refine t_norm (hK11 _ _ ?_)
    refine wp_seq_k fun K13 hK13 => ?_
    refine wp_block ?_
    refine wp_seq_k fun K14 hK14 => ?_
    refine c_region ?_
    obtain ⟨x18, hx19⟩ : ∃ x_, l[((k : Int)).toNat]? = some x_ := get_some (by omega)
    refine s_op (o_index1 Tryz.underlying79 ti9 e5_7 hv e5_9 (by omega) hx19 fun b15 o16 hc17 => ?_)
    refine s_op (o_load1 (v := (S x18)) Tryz.underlying9 rfl rfl hH8 (seg_sub 0 rfl) hc17 ?_)
    refine s_op (o_assign (v := (S x18)) rfl ?_)
    refine s_nil ?_
    refine t_norm (hK14 _ _ ?_)
    refine wp_seq_k fun K20 hK20 => ?_
    refine c_region ?_
    refine s_op (o_move (v := (S x18)) rfl ?_)
    refine s_op (o_slen Tryz.underlying9 rfl ?_)
    refine s_op (o_move (v := (.int .i64 0)) rfl ?_)
    refine s_nil ?_
    refine t_norm (hK20 _ _ ?_)
    refine wp_block ?_
    have hxl := hlb x18 (List.mem_of_getElem? hx19)
    let I22 : Nat → (Nat → Value) → World → Prop := fun n__ r__ w__ => ∃ (j : Nat) (r2 : BitVec 32), n__ = x18.length - j ∧ Has E w__ [R] ∧ (j ≤ x18.length) ∧ (r2 = crcF r (x18.take j)) ∧ r__ 0 = v ∧ r__ 2 = (.int .u32 0) ∧ r__ 3 = (.int .u32 (r2.toNat : Int)) ∧ r__ 5 = (S x18) ∧ r__ 7 = v ∧ r__ 8 = (.int .i64 ((l.length : Nat) : Int)) ∧ r__ 9 = (.int .i64 (k : Int)) ∧ r__ 10 = (.bool (decide ((k : Int) < ((l.length : Nat) : Int)))) ∧ r__ 14 = (.int .i64 (x18.length : Int)) ∧ r__ 15 = (.int .i64 (j : Int))
    refine c_loop I22 _ ⟨0, r, rfl, hH8, Nat.zero_le _, rfl, e5_0, e5_2, e5_3, rfl, e5_7, e5_8, e5_9, rfl, rfl, rfl⟩ ?_
    rintro n_ r25 w23 ⟨j, r2, rfl, hH24, hj, hr2, e21_0, e21_2, e21_3, e21_5, e21_7, e21_8, e21_9, e21_10, e21_14, e21_15⟩
    refine wp_seq_k fun K26 hK26 => ?_
    refine c_region ?_
    refine s_op (o_lss (a := (j : Int)) (b := (x18.length : Int)) e21_15 e21_14 ?_)
    refine s_nil ?_
    refine t_norm (hK26 _ _ ?_)
    refine wp_seq_k fun K27 hK27 => ?_
    refine c_cond rfl (fun h28 => ?_) (fun h28 => ?_)
    · -- (j : Int) < (x18.length : Int)
      refine wp_skip ?_
      refine t_norm (hK27 _ _ ?_)
      refine wp_seq_k fun K29 hK29 => ?_
      refine wp_block ?_
      refine wp_seq_k fun K30 hK30 => ?_
      refine c_region ?_
      refine s_op (o_move (v := (.int .i64 (j : Int))) e21_15 ?_)
      refine s_op (o_assign (v := (.int .i64 (j : Int))) rfl ?_)
      refine s_nil ?_
      refine t_norm (hK30 _ _ ?_)
      refine wp_seq_k fun K31 hK31 => ?_
      refine c_region ?_
      refine s_op (o_move (v := (.int .u32 (r2.toNat : Int))) e21_3 ?_)
      refine s_op (o_move (v := (S x18)) e21_5 ?_)
      refine s_op (o_move (v := (.int .i64 (j : Int))) rfl ?_)
      obtain ⟨c32, hx33⟩ : ∃ x_, x18[((j : Int)).toNat]? = some x_ := get_some (by omega)
      have c32_lt := c32.toNat_lt
      refine s_op (o_sidx Tryz.underlying9 rfl rfl (by omega) hx33 ?_)
      refine s_op (o_conv (c := ((b32 c32).toNat : Int)) Tryz.underlying5 Tryz.underlying100 rfl (conv_b32 _) ?_)
      refine s_op (o_xor (a := ((r2).toNat : Int)) (b := (((b32 c32)).toNat : Int)) (c := ((r2 ^^^ (b32 c32)).toNat : Int)) rfl rfl (xor32 r2 (b32 c32)) ?_)
      refine s_op (o_assign (v := (.int .u32 ((r2 ^^^ (b32 c32)).toNat : Int))) rfl ?_)
      refine s_nil ?_
      refine t_norm (hK31 _ _ ?_)
      refine wp_seq_k fun K34 hK34 => ?_
      refine c_region ?_
      refine s_op (o_move (v := (.int .u32 ((r2 ^^^ (b32 c32)).toNat : Int))) rfl ?_)
      refine s_op (o_shr (a := (((r2 ^^^ (b32 c32))).toNat : Int)) (b := ((4 : Nat) : Int)) (c := (((r2 ^^^ (b32 c32)) >>> 4).toNat : Int)) rfl rfl (by omega) (shr32 (r2 ^^^ (b32 c32)) 4 (by omega)) ?_)
      refine s_op (o_move (v := (.int .u32 ((r2 ^^^ (b32 c32)).toNat : Int))) rfl ?_)
      refine s_op (o_and (a := (((r2 ^^^ (b32 c32))).toNat : Int)) (b := ((15#32).toNat : Int)) (c := (((r2 ^^^ (b32 c32)) &&& 15#32).toNat : Int)) rfl rfl (and32 (r2 ^^^ (b32 c32)) (15#32)) ?_)
      refine s_op (o_idxArr (i := ((r2 ^^^ (b32 c32)) &&& 15#32).toNat) Tryz.underlying137 ti100 rfl rfl (and15_lt _) ?_)
      refine s_op (o_load1 (v := (.int .u32 ((nib ((r2 ^^^ (b32 c32)) &&& 15#32).toNat).toNat : Int))) Tryz.underlying100 rfl rfl hH24 (seg_sub 0 rfl) (nib_at hg (r2 ^^^ (b32 c32))) ?_)
      refine s_op (o_xor (a := ((((r2 ^^^ (b32 c32)) >>> 4)).toNat : Int)) (b := (((nib ((r2 ^^^ (b32 c32)) &&& 15#32).toNat)).toNat : Int)) (c := ((((r2 ^^^ (b32 c32)) >>> 4) ^^^ (nib ((r2 ^^^ (b32 c32)) &&& 15#32).toNat)).toNat : Int)) rfl rfl (xor32 ((r2 ^^^ (b32 c32)) >>> 4) (nib ((r2 ^^^ (b32 c32)) &&& 15#32).toNat)) ?_)
      refine s_op (o_assign (v := (.int .u32 ((((r2 ^^^ (b32 c32)) >>> 4) ^^^ (nib ((r2 ^^^ (b32 c32)) &&& 15#32).toNat)).toNat : Int))) rfl ?_)
      refine s_nil ?_
      refine t_norm (hK34 _ _ ?_)
      refine c_region ?_
      refine s_op (o_move (v := (.int .u32 ((((r2 ^^^ (b32 c32)) >>> 4) ^^^ (nib ((r2 ^^^ (b32 c32)) &&& 15#32).toNat)).toNat : Int))) rfl ?_)
      refine s_op (o_shr (a := (((((r2 ^^^ (b32 c32)) >>> 4) ^^^ (nib ((r2 ^^^ (b32 c32)) &&& 15#32).toNat))).toNat : Int)) (b := ((4 : Nat) : Int)) (c := (((((r2 ^^^ (b32 c32)) >>> 4) ^^^ (nib ((r2 ^^^ (b32 c32)) &&& 15#32).toNat)) >>> 4).toNat : Int)) rfl rfl (by omega) (shr32 (((r2 ^^^ (b32 c32)) >>> 4) ^^^ (nib ((r2 ^^^ (b32 c32)) &&& 15#32).toNat)) 4 (by omega)) ?_)
      refine s_op (o_move (v := (.int .u32 ((((r2 ^^^ (b32 c32)) >>> 4) ^^^ (nib ((r2 ^^^ (b32 c32)) &&& 15#32).toNat)).toNat : Int))) rfl ?_)
      refine s_op (o_and (a := (((((r2 ^^^ (b32 c32)) >>> 4) ^^^ (nib ((r2 ^^^ (b32 c32)) &&& 15#32).toNat))).toNat : Int)) (b := ((15#32).toNat : Int)) (c := (((((r2 ^^^ (b32 c32)) >>> 4) ^^^ (nib ((r2 ^^^ (b32 c32)) &&& 15#32).toNat)) &&& 15#32).toNat : Int)) rfl rfl (and32 (((r2 ^^^ (b32 c32)) >>> 4) ^^^ (nib ((r2 ^^^ (b32 c32)) &&& 15#32).toNat)) (15#32)) ?_)
      refine s_op (o_idxArr (i := ((((r2 ^^^ (b32 c32)) >>> 4) ^^^ (nib ((r2 ^^^ (b32 c32)) &&& 15#32).toNat)) &&& 15#32).toNat) Tryz.underlying137 ti100 rfl rfl (and15_lt _) ?_)
      refine s_op (o_load1 (v := (.int .u32 ((nib ((((r2 ^^^ (b32 c32)) >>> 4) ^^^ (nib ((r2 ^^^ (b32 c32)) &&& 15#32).toNat)) &&& 15#32).toNat).toNat : Int))) Tryz.underlying100 rfl rfl hH24 (seg_sub 0 rfl) (nib_at hg (((r2 ^^^ (b32 c32)) >>> 4) ^^^ (nib ((r2 ^^^ (b32 c32)) &&& 15#32).toNat))) ?_)
      refine s_op (o_xor (a := ((((((r2 ^^^ (b32 c32)) >>> 4) ^^^ (nib ((r2 ^^^ (b32 c32)) &&& 15#32).toNat)) >>> 4)).toNat : Int)) (b := (((nib ((((r2 ^^^ (b32 c32)) >>> 4) ^^^ (nib ((r2 ^^^ (b32 c32)) &&& 15#32).toNat)) &&& 15#32).toNat)).toNat : Int)) (c := ((((((r2 ^^^ (b32 c32)) >>> 4) ^^^ (nib ((r2 ^^^ (b32 c32)) &&& 15#32).toNat)) >>> 4) ^^^ (nib ((((r2 ^^^ (b32 c32)) >>> 4) ^^^ (nib ((r2 ^^^ (b32 c32)) &&& 15#32).toNat)) &&& 15#32).toNat)).toNat : Int)) rfl rfl (xor32 ((((r2 ^^^ (b32 c32)) >>> 4) ^^^ (nib ((r2 ^^^ (b32 c32)) &&& 15#32).toNat)) >>> 4) (nib ((((r2 ^^^ (b32 c32)) >>> 4) ^^^ (nib ((r2 ^^^ (b32 c32)) &&& 15#32).toNat)) &&& 15#32).toNat)) ?_)
      refine s_op (o_assign (v := (.int .u32 ((((((r2 ^^^ (b32 c32)) >>> 4) ^^^ (nib ((r2 ^^^ (b32 c32)) &&& 15#32).toNat)) >>> 4) ^^^ (nib ((((r2 ^^^ (b32 c32)) >>> 4) ^^^ (nib ((r2 ^^^ (b32 c32)) &&& 15#32).toNat)) &&& 15#32).toNat)).toNat : Int))) rfl ?_)
      refine s_nil ?_
      refine b_norm ?_
      refine t_norm (hK29 _ _ ?_)
      refine c_region ?_
      refine s_op (o_add (a := (j : Int)) (b := 1) e21_15 rfl (w64 (by omega) (by omega)) ?_)
      refine s_op (o_move (v := (.int .i64 ((j : Int) + 1))) rfl ?_)
      refine s_nil ?_
      refine t_norm ⟨x18.length - (j + 1), _, rfl, ?_, ?_⟩
      · omega
      · exact ⟨(j + 1), (((((r2 ^^^ (b32 c32)) >>> 4) ^^^ (nib ((r2 ^^^ (b32 c32)) &&& 15#32).toNat)) >>> 4) ^^^ (nib ((((r2 ^^^ (b32 c32)) >>> 4) ^^^ (nib ((r2 ^^^ (b32 c32)) &&& 15#32).toNat)) &&& 15#32).toNat)), rfl, hH24, (by omega), (by rw [take_succ_of (show x18[j]? = some _ from hx33), crcF_snoc, ← hr2, cby_nib]), e21_0, e21_2, rfl, e21_5, e21_7, e21_8, e21_9, e21_10, e21_14, rfl⟩
    · -- not: (j : Int) < (x18.length : Int)
      refine wp_exit ?_
      refine t_exit (t_exit (x_in (?_)))
      refine b_norm ?_
      refine t_norm (hK13 _ _ ?_)
      refine c_region ?_
      refine s_op (o_add (a := (k : Int)) (b := 1) e21_9 rfl (w64 (by omega) (by omega)) ?_)
      refine s_op (o_move (v := (.int .i64 ((k : Int) + 1))) rfl ?_)
      refine s_nil ?_
      refine t_norm ⟨l.length - (k + 1), _, rfl, ?_, ?_⟩
      · omega
      · exact ⟨(k + 1), r2, rfl, hH24, (by omega), (by rw [take_succ_of (show l[k]? = some _ from hx19), List.flatten_append, crcF_append, ← hr, hr2, show j = x18.length from by omega, List.take_length]; simp), e21_0, e21_2, e21_3, e21_7, e21_8, rfl⟩
  · -- not: (k : Int) < ((l.length : Nat) : Int)
    refine wp_exit ?_
    refine t_exit (t_exit (x_in (?_)))
    refine t_norm (hK3 _ _ ?_)
    refine wp_seq_k fun K35 hK35 => ?_
    refine c_region ?_
    refine s_op (o_move (v := (.int .u32 (r.toNat : Int))) e5_3 ?_)
    refine s_op (o_compl (a := r) Tryz.underlying100 rfl ?_)
    refine s_op (o_assign (v := (.int .u32 ((~~~ r).toNat : Int))) rfl ?_)
    refine s_nil ?_
    refine t_norm (hK35 _ _ ?_)
    refine wp_ret ?_
    refine c_ret1 Tryz.results79  (v := (.int .u32 ((~~~ r).toNat : Int))) rfl ?_
    have e : k = l.length := by omega
    rw [e, List.take_length] at hr
    subst hr
    exact ⟨rfl, hH8⟩
set_option maxHeartbeats 4000000 in
theorem refsum_c {E w : World} {R : List Hp} (hH : Has E w [R]) (t : List UInt8) (hl : t.length ≤ 9223372036854775807) :
    Calls Tryz.prog 56 #[(S t)] w fun e w' => e = .returned (.int .u32 ((crcS t).toNat : Int)) ∧ Has E w' [R] := by
  refine c_enter (args := [(S t)]) Tryz.func56 rfl Tryz.ntmps56 (by simp) ?_
  refine wp_seq_k fun K1 hK1 => ?_
  refine c_region ?_
  refine s_op (o_assign (v := (.int .u32 0)) rfl ?_)
  refine s_nil ?_
  refine t_norm (hK1 _ _ ?_)
  refine wp_seq_k fun K2 hK2 => ?_
  refine c_region ?_
  refine s_op (o_assign (v := (.int .u32 4294967295)) rfl ?_)
  refine s_nil ?_
  refine t_norm (hK2 _ _ ?_)
  refine wp_seq_k fun K3 hK3 => ?_
  refine wp_seq_k fun K4 hK4 => ?_
  refine c_region ?_
  refine s_op (o_assign (v := (.int .i64 0)) rfl ?_)
  refine s_nil ?_
  refine t_norm (hK4 _ _ ?_)
  refine wp_block ?_
  let I6 : Nat → (Nat → Value) → World → Prop := fun n__ r__ w__ => ∃ (k : Nat) (r : BitVec 32), n__ = t.length - k ∧ Has E w__ [R] ∧ (k ≤ t.length) ∧ (r = crcF (4294967295#32) (t.take k)) ∧ r__ 0 = (S t) ∧ r__ 2 = (.int .u32 0) ∧ r__ 3 = (.int .u32 (r.toNat : Int)) ∧ r__ 4 = (.int .i64 (k : Int))
  refine c_loop I6 _ ⟨0, (4294967295#32), rfl, hH, Nat.zero_le _, rfl, rfl, rfl, rfl, rfl⟩ ?_
  rintro n_ r9 w7 ⟨k, r, rfl, hH8, hk, hr, e5_0, e5_2, e5_3, e5_4⟩
  refine wp_seq_k fun K10 hK10 => ?_
  refine wp_seq_k fun K11 hK11 => ?_
  refine c_region ?_
  refine s_op (o_move (v := (.int .i64 (k : Int))) e5_4 ?_)
  refine s_op (o_move (v := (S t)) e5_0 ?_)
  refine s_op (o_slen Tryz.underlying9 rfl ?_)
  refine s_op (o_lss (a := (k : Int)) (b := (t.length : Int)) rfl rfl ?_)
  refine s_nil ?_
  refine t_norm (hK11 _ _ ?_)
  refine c_cond rfl (fun h12 => ?_) (fun h12 => ?_)
  · -- (k : Int) < (t.length : Int)
    refine wp_skip ?_
    refine t_norm (hK10 _ _ ?_)
    refine wp_seq_k fun K13 hK13 => ?_
    refine wp_block ?_
    refine wp_seq_k fun K14 hK14 => ?_
    refine c_region ?_
    refine s_op (o_assign (v := (.int .i64 0)) rfl ?_)
    refine s_nil ?_
    refine t_norm (hK14 _ _ ?_)
    refine wp_block ?_
    obtain ⟨ch, hch⟩ : ∃ x_, t[((k : Int)).toNat]? = some x_ := get_some (by omega)
    have hch_lt := ch.toNat_lt
    let I16 : Nat → (Nat → Value) → World → Prop := fun n__ r__ w__ => ∃ (j : Nat) (r2 : BitVec 32), n__ = 8 - j ∧ Has E w__ [R] ∧ (j ≤ 8) ∧ (r2 ^^^ (b32 ch >>> j) = cbs j (r ^^^ b32 ch)) ∧ r__ 0 = (S t) ∧ r__ 2 = (.int .u32 0) ∧ r__ 3 = (.int .u32 (r2.toNat : Int)) ∧ r__ 4 = (.int .i64 (k : Int)) ∧ r__ 5 = (.int .i64 (j : Int)) ∧ r__ 10 = (.bool (decide ((k : Int) < (t.length : Int))))
    refine c_loop I16 _ ⟨0, r, rfl, hH8, (by omega), (by simp [cbs]), e5_0, e5_2, e5_3, e5_4, rfl, rfl⟩ ?_
    rintro n_ r19 w17 ⟨j, r2, rfl, hH18, hj, hr2, e15_0, e15_2, e15_3, e15_4, e15_5, e15_10⟩
    refine wp_seq_k fun K20 hK20 => ?_
    refine wp_seq_k fun K21 hK21 => ?_
    refine c_region ?_
    refine s_op (o_move (v := (.int .i64 (j : Int))) e15_5 ?_)
    refine s_op (o_lss (a := (j : Int)) (b := 8) rfl rfl ?_)
    refine s_nil ?_
    refine t_norm (hK21 _ _ ?_)
    refine c_cond rfl (fun h22 => ?_) (fun h22 => ?_)
    · -- (j : Int) < 8
      refine wp_skip ?_
      refine t_norm (hK20 _ _ ?_)
      refine wp_seq_k fun K23 hK23 => ?_
      refine wp_block ?_
      refine wp_seq_k fun K24 hK24 => ?_
      refine c_region ?_
      refine s_op (o_move (v := (.int .u32 (r2.toNat : Int))) e15_3 ?_)
      refine s_op (o_rem (a := (r2.toNat : Int)) (b := 2) (c := (r2.toNat : Int) % 2) rfl rfl (by omega) ((Int.tmod_eq_emod_of_nonneg (by first | exact Int.natCast_nonneg _ | omega))) ?_)
      refine s_op (o_move (v := (S t)) e15_0 ?_)
      refine s_op (o_move (v := (.int .i64 (k : Int))) e15_4 ?_)
      refine s_op (o_sidx Tryz.underlying9 rfl rfl (by omega) hch ?_)
      refine s_op (o_move (v := (.int .i64 (j : Int))) e15_5 ?_)
      refine s_op (o_shr (a := (ch.toNat : Int)) (b := ((j : Nat) : Int)) (c := ((ch.toNat >>> j : Nat) : Int)) rfl rfl (by omega) (shr8 ch j (by omega)) ?_)
      refine s_op (o_rem (a := ((ch.toNat >>> j : Nat) : Int)) (b := 2) (c := ((ch.toNat >>> j : Nat) : Int) % 2) rfl rfl (by omega) ((Int.tmod_eq_emod_of_nonneg (by first | exact Int.natCast_nonneg _ | omega))) ?_)
      refine s_op (o_conv (c := (((ch.toNat >>> j : Nat) : Int) % 2)) Tryz.underlying5 Tryz.underlying100 rfl (wrap_u32 (by omega) (by omega)) ?_)
      refine s_op (o_neq (a := (r2.toNat : Int) % 2) (b := ((ch.toNat >>> j : Nat) : Int) % 2) rfl rfl ?_)
      refine s_op (o_assign (v := (.bool (decide ((r2.toNat : Int) % 2 ≠ ((ch.toNat >>> j : Nat) : Int) % 2)))) rfl ?_)
      refine s_nil ?_
      refine t_norm (hK24 _ _ ?_)
      refine wp_seq_k fun K25 hK25 => ?_
      refine c_region ?_
      refine s_op (o_move (v := (.int .u32 (r2.toNat : Int))) e15_3 ?_)
      refine s_op (o_quo (a := ((r2).toNat : Int)) (b := ((2 : Nat) : Int)) (c := ((r2 >>> 1).toNat : Int)) rfl rfl (by decide) (quo32 r2 2 1 (by decide)) ?_)
      refine s_op (o_assign (v := (.int .u32 ((r2 >>> 1).toNat : Int))) rfl ?_)
      refine s_nil ?_
      refine t_norm (hK25 _ _ ?_)
      refine wp_seq_k fun K26 hK26 => ?_
      refine c_region ?_
      refine s_op (o_move (v := (.bool (decide ((r2.toNat : Int) % 2 ≠ ((ch.toNat >>> j : Nat) : Int) % 2)))) rfl ?_)
      refine s_nil ?_
      refine t_norm (hK26 _ _ ?_)
      refine c_cond rfl (fun h27 => ?_) (fun h27 => ?_)
      · -- (r2.toNat : Int) % 2 ≠ ((ch.toNat >>> j : Nat) : Int) % 2
        refine c_region ?_
        refine s_op (o_move (v := (.int .u32 ((r2 >>> 1).toNat : Int))) rfl ?_)
        refine s_op (o_xor (a := (((r2 >>> 1)).toNat : Int)) (b := ((3988292384#32).toNat : Int)) (c := (((r2 >>> 1) ^^^ 3988292384#32).toNat : Int)) rfl rfl (xor32 (r2 >>> 1) (3988292384#32)) ?_)
        refine s_op (o_assign (v := (.int .u32 (((r2 >>> 1) ^^^ 3988292384#32).toNat : Int))) rfl ?_)
        refine s_nil ?_
        refine b_norm ?_
        refine t_norm (hK23 _ _ ?_)
        refine c_region ?_
        refine s_op (o_move (v := (.int .i64 (j : Int))) e15_5 ?_)
        refine s_op (o_add (a := (j : Int)) (b := 1) rfl rfl (w64 (by omega) (by omega)) ?_)
        refine s_op (o_assign (v := (.int .i64 ((j : Int) + 1))) rfl ?_)
        refine s_nil ?_
        refine t_norm ⟨8 - (j + 1), _, rfl, ?_, ?_⟩
        · omega
        · exact ⟨(j + 1), ((r2 >>> 1) ^^^ 3988292384#32), rfl, hH18, (by omega), (bits_yes hr2 (by assumption) (by omega)), e15_0, e15_2, rfl, e15_4, rfl, e15_10⟩
      · -- not: (r2.toNat : Int) % 2 ≠ ((ch.toNat >>> j : Nat) : Int) % 2
        refine wp_skip ?_
        refine b_norm ?_
        refine t_norm (hK23 _ _ ?_)
        refine c_region ?_
        refine s_op (o_move (v := (.int .i64 (j : Int))) e15_5 ?_)
        refine s_op (o_add (a := (j : Int)) (b := 1) rfl rfl (w64 (by omega) (by omega)) ?_)
        refine s_op (o_assign (v := (.int .i64 ((j : Int) + 1))) rfl ?_)
        refine s_nil ?_
        refine t_norm ⟨8 - (j + 1), _, rfl, ?_, ?_⟩
        · omega
        · exact ⟨(j + 1), (r2 >>> 1), rfl, hH18, (by omega), (bits_no hr2 (by assumption) (by omega)), e15_0, e15_2, rfl, e15_4, rfl, e15_10⟩
    · -- not: (j : Int) < 8
      refine wp_exit ?_
      refine t_exit (t_exit (x_in (?_)))
      refine b_norm ?_
      refine t_norm (hK13 _ _ ?_)
      refine c_region ?_
      refine s_op (o_move (v := (.int .i64 (k : Int))) e15_4 ?_)
      refine s_op (o_add (a := (k : Int)) (b := 1) rfl rfl (w64 (by omega) (by omega)) ?_)
      refine s_op (o_assign (v := (.int .i64 ((k : Int) + 1))) rfl ?_)
      refine s_nil ?_
      refine t_norm ⟨t.length - (k + 1), _, rfl, ?_, ?_⟩
      · omega
      · exact ⟨(k + 1), r2, rfl, hH18, (by omega), (by rw [take_succ_of (show t[k]? = some _ from hch), crcF_snoc, ← hr]; exact bits_done hr2 (by omega)), e15_0, e15_2, e15_3, rfl⟩
  · -- not: (k : Int) < (t.length : Int)
    refine wp_exit ?_
    refine t_exit (t_exit (x_in (?_)))
    refine t_norm (hK3 _ _ ?_)
    refine wp_seq_k fun K28 hK28 => ?_
    refine c_region ?_
    refine s_op (o_move (v := (.int .u32 (r.toNat : Int))) e5_3 ?_)
    refine s_op (o_sub (c := ((~~~ r).toNat : Int)) rfl rfl (sub32 r) ?_)
    refine s_op (o_assign (v := (.int .u32 ((~~~ r).toNat : Int))) rfl ?_)
    refine s_nil ?_
    refine t_norm (hK28 _ _ ?_)
    refine wp_ret ?_
    refine c_ret1 Tryz.results56  (v := (.int .u32 ((~~~ r).toNat : Int))) rfl ?_
    have e : k = t.length := by omega
    rw [e, List.take_length] at hr
    subst hr
    exact ⟨rfl, hH8⟩
end Go.Q
namespace Go.Q
open Go.Proofs
set_option linter.unusedVariables false
set_option maxRecDepth 100000
attribute [local irreducible] wpList OK Code.wp
set_option maxHeartbeats 4000000 in
theorem laid_c {E w : World} {R : List Hp} (hH : Has E w [R]) (hg : CellsAt R 0 0 nibV) {v : Value} {l : List (List UInt8)} (hv : Sl R 1 v l.length (l.map sV)) (hlb : ∀ x ∈ l, x.length ≤ 9223372036854775807) :
    Calls Tryz.prog 60 #[v] w fun e w' => e = .returned (S (laidS (crcS l.flatten))) ∧ Has E w' [R] := by
  refine c_enter (args := [v]) Tryz.func60 rfl Tryz.ntmps60 (by simp) ?_
  refine wp_seq_k fun K1 hK1 => ?_
  refine c_region ?_
  refine s_op (o_assign (v := (S ([] : List UInt8))) rfl ?_)
  refine s_nil ?_
  refine t_norm (hK1 _ _ ?_)
  refine wp_seq_k fun K2 hK2 => ?_
  refine c_region ?_
  refine s_op (o_move (v := v) rfl ?_)
  refine s_op (o_callf (vs := #[v]) ca79 rfl (args1 rfl) (of2_c hH.all (hg.mono (seg_sub 0 rfl)) (hv.mono (seg_sub 0 rfl)) hlb) ?_)
  rintro _ w5 ⟨rfl, hX3⟩
  refine ⟨_, rfl, ?_⟩
  have hH4 := hX3.of_all
  refine s_op (o_assign (v := (.int .u32 ((crcS l.flatten).toNat : Int))) rfl ?_)
  refine s_nil ?_
  refine t_norm (hK2 _ _ ?_)
  refine wp_seq_k fun K6 hK6 => ?_
  refine c_region ?_
  refine s_op (o_move (v := (.int .u32 ((crcS l.flatten).toNat : Int))) rfl ?_)
  refine s_op (o_conv (c := ((lo8 (crcS l.flatten)).toNat : Int)) Tryz.underlying100 Tryz.underlying5 rfl (conv_lo8 _) ?_)
  refine s_op (o_move (v := (.int .u32 ((crcS l.flatten).toNat : Int))) rfl ?_)
  refine s_op (o_shr (a := (((crcS l.flatten)).toNat : Int)) (b := ((8 : Nat) : Int)) (c := (((crcS l.flatten) >>> 8).toNat : Int)) rfl rfl (by omega) (shr32 (crcS l.flatten) 8 (by omega)) ?_)
  refine s_op (o_conv (c := ((lo8 ((crcS l.flatten) >>> 8)).toNat : Int)) Tryz.underlying100 Tryz.underlying5 rfl (conv_lo8 _) ?_)
  refine s_op (o_move (v := (.int .u32 ((crcS l.flatten).toNat : Int))) rfl ?_)
  refine s_op (o_shr (a := (((crcS l.flatten)).toNat : Int)) (b := ((16 : Nat) : Int)) (c := (((crcS l.flatten) >>> 16).toNat : Int)) rfl rfl (by omega) (shr32 (crcS l.flatten) 16 (by omega)) ?_)
  refine s_op (o_conv (c := ((lo8 ((crcS l.flatten) >>> 16)).toNat : Int)) Tryz.underlying100 Tryz.underlying5 rfl (conv_lo8 _) ?_)
  refine s_op (o_move (v := (.int .u32 ((crcS l.flatten).toNat : Int))) rfl ?_)
  refine s_op (o_shr (a := (((crcS l.flatten)).toNat : Int)) (b := ((24 : Nat) : Int)) (c := (((crcS l.flatten) >>> 24).toNat : Int)) rfl rfl (by omega) (shr32 (crcS l.flatten) 24 (by omega)) ?_)
  refine s_op (o_conv (c := ((lo8 ((crcS l.flatten) >>> 24)).toNat : Int)) Tryz.underlying100 Tryz.underlying5 rfl (conv_lo8 _) ?_)
  refine s_op (o_buildSlice (ps := #[(0, (bV (lo8 (crcS l.flatten)))), (1, (bV (lo8 ((crcS l.flatten) >>> 8)))), (2, (bV (lo8 ((crcS l.flatten) >>> 16)))), (3, (bV (lo8 ((crcS l.flatten) >>> 24))))]) (cells := #[(bV (lo8 (crcS l.flatten))), (bV (lo8 ((crcS l.flatten) >>> 8))), (bV (lo8 ((crcS l.flatten) >>> 16))), (bV (lo8 ((crcS l.flatten) >>> 24)))]) Tryz.underlying87 ti5 (by decide) (parts4 rfl rfl rfl rfl) (by kernel_rfl) hH4 fun b7 w8 hH9 => ?_)
  refine s_op (o_bstr Tryz.underlying87 Tryz.underlying5 Tryz.underlying9 rfl (sl_lit (f := bV) (l := [(lo8 (crcS l.flatten)), (lo8 ((crcS l.flatten) >>> 8)), (lo8 ((crcS l.flatten) >>> 16)), (lo8 ((crcS l.flatten) >>> 24))]) rfl rfl (by simp)) hH9 (seg_sub 0 rfl) ?_)
  refine s_op (o_assign (v := (S [(lo8 (crcS l.flatten)), (lo8 ((crcS l.flatten) >>> 8)), (lo8 ((crcS l.flatten) >>> 16)), (lo8 ((crcS l.flatten) >>> 24))])) rfl ?_)
  refine s_nil ?_
  refine t_norm (hK6 _ _ ?_)
  refine wp_ret ?_
  refine c_ret1 Tryz.results60  (v := (S [(lo8 (crcS l.flatten)), (lo8 ((crcS l.flatten) >>> 8)), (lo8 ((crcS l.flatten) >>> 16)), (lo8 ((crcS l.flatten) >>> 24))])) rfl ?_
  have hH10 : Has E w8 [R] := (hH9.front 1 rfl).first 1 rfl
  exact ⟨rfl, hH10⟩
set_option maxHeartbeats 4000000 in
theorem reflaid_c {E w : World} {R : List Hp} (hH : Has E w [R]) (t : List UInt8) (hl : t.length ≤ 9223372036854775807) :
    Calls Tryz.prog 33 #[(S t)] w fun e w' => e = .returned (S (laidS (crcS t))) ∧ Has E w' [R] := by
  refine c_enter (args := [(S t)]) Tryz.func33 rfl Tryz.ntmps33 (by simp) ?_
  refine wp_seq_k fun K1 hK1 => ?_
  refine c_region ?_
  refine s_op (o_assign (v := (S ([] : List UInt8))) rfl ?_)
  refine s_nil ?_
  refine t_norm (hK1 _ _ ?_)
  refine wp_seq_k fun K2 hK2 => ?_
  refine c_region ?_
  refine s_op (o_move (v := (S t)) rfl ?_)
  refine s_op (o_callf (vs := #[(S t)]) ca56 rfl (args1 rfl) (refsum_c hH.all t hl) ?_)
  rintro _ w5 ⟨rfl, hX3⟩
  refine ⟨_, rfl, ?_⟩
  have hH4 := hX3.of_all
  refine s_op (o_assign (v := (.int .u32 ((crcS t).toNat : Int))) rfl ?_)
  refine s_nil ?_
  refine t_norm (hK2 _ _ ?_)
  refine wp_seq_k fun K6 hK6 => ?_
  refine c_region ?_
  refine s_op (o_move (v := (.int .u32 ((crcS t).toNat : Int))) rfl ?_)
  refine s_op (o_rem (a := ((crcS t).toNat : Int)) (b := 256) (c := ((crcS t).toNat : Int) % 256) rfl rfl (by omega) ((Int.tmod_eq_emod_of_nonneg (by first | exact Int.natCast_nonneg _ | omega))) ?_)
  refine s_op (o_conv (c := ((by8 (((crcS t).toNat : Int) % 256)).toNat : Int)) Tryz.underlying100 Tryz.underlying5 rfl (wrap_by8 _) ?_)
  refine s_op (o_move (v := (.int .u32 ((crcS t).toNat : Int))) rfl ?_)
  refine s_op (o_quo (a := (((crcS t)).toNat : Int)) (b := ((256 : Nat) : Int)) (c := (((crcS t) >>> 8).toNat : Int)) rfl rfl (by decide) (quo32 (crcS t) 256 8 (by decide)) ?_)
  refine s_op (o_rem (a := (((crcS t) >>> 8).toNat : Int)) (b := 256) (c := (((crcS t) >>> 8).toNat : Int) % 256) rfl rfl (by omega) ((Int.tmod_eq_emod_of_nonneg (by first | exact Int.natCast_nonneg _ | omega))) ?_)
  refine s_op (o_conv (c := ((by8 ((((crcS t) >>> 8).toNat : Int) % 256)).toNat : Int)) Tryz.underlying100 Tryz.underlying5 rfl (wrap_by8 _) ?_)
  refine s_op (o_move (v := (.int .u32 ((crcS t).toNat : Int))) rfl ?_)
  refine s_op (o_quo (a := (((crcS t)).toNat : Int)) (b := ((65536 : Nat) : Int)) (c := (((crcS t) >>> 16).toNat : Int)) rfl rfl (by decide) (quo32 (crcS t) 65536 16 (by decide)) ?_)
  refine s_op (o_rem (a := (((crcS t) >>> 16).toNat : Int)) (b := 256) (c := (((crcS t) >>> 16).toNat : Int) % 256) rfl rfl (by omega) ((Int.tmod_eq_emod_of_nonneg (by first | exact Int.natCast_nonneg _ | omega))) ?_)
  refine s_op (o_conv (c := ((by8 ((((crcS t) >>> 16).toNat : Int) % 256)).toNat : Int)) Tryz.underlying100 Tryz.underlying5 rfl (wrap_by8 _) ?_)
  refine s_op (o_move (v := (.int .u32 ((crcS t).toNat : Int))) rfl ?_)
  refine s_op (o_quo (a := (((crcS t)).toNat : Int)) (b := ((16777216 : Nat) : Int)) (c := (((crcS t) >>> 24).toNat : Int)) rfl rfl (by decide) (quo32 (crcS t) 16777216 24 (by decide)) ?_)
  refine s_op (o_conv (c := ((lo8 ((crcS t) >>> 24)).toNat : Int)) Tryz.underlying100 Tryz.underlying5 rfl (conv_lo8 _) ?_)
  refine s_op (o_buildSlice (ps := #[(0, (bV (by8 (((crcS t).toNat : Int) % 256)))), (1, (bV (by8 ((((crcS t) >>> 8).toNat : Int) % 256)))), (2, (bV (by8 ((((crcS t) >>> 16).toNat : Int) % 256)))), (3, (bV (lo8 ((crcS t) >>> 24))))]) (cells := #[(bV (by8 (((crcS t).toNat : Int) % 256))), (bV (by8 ((((crcS t) >>> 8).toNat : Int) % 256))), (bV (by8 ((((crcS t) >>> 16).toNat : Int) % 256))), (bV (lo8 ((crcS t) >>> 24)))]) Tryz.underlying87 ti5 (by decide) (parts4 rfl rfl rfl rfl) (by kernel_rfl) hH4 fun b7 w8 hH9 => ?_)
  refine s_op (o_bstr Tryz.underlying87 Tryz.underlying5 Tryz.underlying9 rfl (sl_lit (f := bV) (l := [(by8 (((crcS t).toNat : Int) % 256)), (by8 ((((crcS t) >>> 8).toNat : Int) % 256)), (by8 ((((crcS t) >>> 16).toNat : Int) % 256)), (lo8 ((crcS t) >>> 24))]) rfl rfl (by simp)) hH9 (seg_sub 0 rfl) ?_)
  refine s_op (o_assign (v := (S [(by8 (((crcS t).toNat : Int) % 256)), (by8 ((((crcS t) >>> 8).toNat : Int) % 256)), (by8 ((((crcS t) >>> 16).toNat : Int) % 256)), (lo8 ((crcS t) >>> 24))])) rfl ?_)
  refine s_nil ?_
  refine t_norm (hK6 _ _ ?_)
  refine wp_ret ?_
  refine c_ret1 Tryz.results33  (v := (S [(by8 (((crcS t).toNat : Int) % 256)), (by8 ((((crcS t) >>> 8).toNat : Int) % 256)), (by8 ((((crcS t) >>> 16).toNat : Int) % 256)), (lo8 ((crcS t) >>> 24))])) rfl ?_
  have hH10 : Has E w8 [R] := (hH9.front 1 rfl).first 1 rfl
  exact ⟨by rw [laidS_ref], hH10⟩
set_option maxHeartbeats 4000000 in
theorem seal_c {E w : World} {R : List Hp} (hH : Has E w [R]) (hg : CellsAt R 0 0 nibV) {v : Value} {l : List (List UInt8)} (hv : Sl R 1 v l.length (l.map sV)) (hn : l.length ≤ 1000000) (hl : l.flatten.length ≤ 1000000000) :
    Calls Tryz.prog 37 #[v] w fun e w' => e = .returned (S (sealS l.flatten)) ∧ Has E w' [R] := by
  refine c_enter (args := [v]) Tryz.func37 rfl Tryz.ntmps37 (by simp) ?_
  refine wp_seq_k fun K1 hK1 => ?_
  refine c_region ?_
  refine s_op (o_assign (v := (S ([] : List UInt8))) rfl ?_)
  refine s_nil ?_
  refine t_norm (hK1 _ _ ?_)
  refine wp_seq_k fun K2 hK2 => ?_
  refine c_region ?_
  refine s_op (o_move (v := v) rfl ?_)
  refine s_op (o_callf (vs := #[v, (S ([] : List UInt8))]) ca59 rfl (args2 rfl rfl) (join_c hH.all (hv.mono (seg_sub 0 rfl)) hn hl) ?_)
  rintro _ w5 ⟨rfl, hX3⟩
  refine ⟨_, rfl, ?_⟩
  have hH4 := hX3.of_all
  refine s_op (o_move (v := v) rfl ?_)
  refine s_op (o_callf (vs := #[v]) ca60 rfl (args1 rfl) (laid_c hH4.all (hg.mono (seg_sub 0 rfl)) (hv.mono (seg_sub 0 rfl)) (fun x hx => by have := flat_le hx; omega)) ?_)
  rintro _ w8 ⟨rfl, hX6⟩
  refine ⟨_, rfl, ?_⟩
  have hH7 := hX6.of_all
  refine s_op (o_sadd rfl rfl (by rw [laidS_len]; omega) ?_)
  refine s_op (o_assign (v := (S (l.flatten ++ (laidS (crcS l.flatten))))) rfl ?_)
  refine s_nil ?_
  refine t_norm (hK2 _ _ ?_)
  refine wp_ret ?_
  refine c_ret1 Tryz.results37  (v := (S (l.flatten ++ (laidS (crcS l.flatten))))) rfl ?_
  exact ⟨rfl, hH7⟩
end Go.Q
namespace Go.Q
theorem setFrom_size : ∀ (vs : List Value) (c : Array Value) (k : Nat), (setFrom c k vs).size = c.size
  | [], _, _ => rfl
  | v :: vs, c, k => by rw [setFrom, setFrom_size vs, Array.size_setIfInBounds]
theorem setFrom_list : ∀ (vs : List Value) (c : Array Value) (k : Nat), k + vs.length ≤ c.size → (setFrom c k vs).toList = c.toList.take k ++ vs ++ c.toList.drop (k + vs.length)
  | [], c, k, _ => by simp [setFrom]
  | v :: vs, c, k, h => by
    rw [List.length_cons] at h
    have hk : k < c.toList.length := by simpa using (show k < c.size by omega)
    rw [setFrom, setFrom_list vs _ _ (by rw [Array.size_setIfInBounds]; omega), Array.toList_setIfInBounds, List.take_set, List.drop_set_of_lt (by omega), List.length_cons]
    rw [show k + 1 + vs.length = k + (vs.length + 1) by omega, List.take_succ_eq_append_getElem hk]
    rw [List.set_append_right _ _ (by rw [List.length_take]; omega), List.length_take, Nat.min_eq_left (by omega), Nat.sub_self]
    simp
theorem flat_set {α : Type} {f : α → List Value} {sz : Nat} (hf : ∀ a, (f a).length = sz) : ∀ (l : List α) (i : Nat) (a : α), i < l.length → (l.set i a).flatMap f = (l.flatMap f).take (i * sz) ++ f a ++ (l.flatMap f).drop ((i + 1) * sz)
  | [], i, a, h => by simp at h
  | x :: l, 0, a, _ => by
    rw [List.set_cons_zero, List.flatMap_cons, List.flatMap_cons, Nat.zero_mul, List.take_zero, List.nil_append, Nat.zero_add, Nat.one_mul, ← hf x, List.drop_left]
  | x :: l, i + 1, a, h => by
    rw [List.set_cons_succ, List.flatMap_cons, List.flatMap_cons, flat_set hf l i a (by simpa using h)]
    have e1 : (f x ++ l.flatMap f).take ((i + 1) * sz) = f x ++ (l.flatMap f).take (i * sz) := by
      rw [Nat.succ_mul, Nat.add_comm, ← hf x, List.take_length_add_append]
    have e2 : (f x ++ l.flatMap f).drop ((i + 1 + 1) * sz) = (l.flatMap f).drop ((i + 1) * sz) := by
      rw [Nat.succ_mul, Nat.add_comm, ← hf x, List.drop_length_add_append]
    rw [e1, e2]; simp [List.append_assoc]
def OwnAtF (e : TypeId) (sz : Nat) (v : Value) (n : Nat) (cs : List Value) (hs : List Hp) (b : Nat) : Prop :=
  ∃ cap cur, v = .slice (some ⟨b, 0, none⟩) n cap ∧ hs = [Hp.one b (.cells cur e (0, 0))] ∧ n ≤ cap ∧ cap ≤ maxLen ∧ cur.size = cap * sz ∧ cur.toList.take (n * sz) = cs ∧ cs.length = n * sz
theorem OwnAtF.cells {e : TypeId} {sz n b : Nat} {v : Value} {hs : List Hp} {α : Type} {f : α → List Value} (hf : ∀ a, (f a).length = sz) {l : List α} (ho : OwnAtF e sz v n (l.flatMap f) hs b) {i : Nat} {a : α} (ha : l[i]? = some a) : CellsAt hs b (i * sz) (f a) := by
  obtain ⟨cap, cur, rfl, rfl, hnc, hcm, hsz, hc, hl⟩ := ho
  refine ⟨_, List.mem_singleton.2 rfl, cur, e, (0, 0), Hp.one_at _ _, fun j v hv => ?_⟩
  have h1 := flat_part hf l i a ha
  rw [← h1, List.getElem?_take] at hv
  split at hv
  · rw [List.getElem?_drop, ← hc, List.getElem?_take] at hv
    split at hv
    · simpa using hv
    · cases hv
  · cases hv
section ops
variable {P : Program} {ρ : Operand → Value} {E w : World} {ss : List (List Hp)} {K : Value → World → Prop} {dst : Option Tmp} {T : TypeId} {pos : String} {after : Array Edge} {g : Option (Nat × Bool)}
theorem o_ownAddrF {x y : Operand} {t e : TypeId} {hs : List Hp} {sz n by_ : Nat} {v z : Value} {cs : List Value} {k : IntKind} {i : Int} (ht : P.underlying t = some (.slice e)) (hi : TI P e z sz by_)
    (hx : ρ x = v) (ho : Own e sz v n cs hs) (hy : ρ y = .int k i) (h0 : 0 ≤ i) (h1 : i < n) (hK : ∀ b, OwnAtF e sz v n cs hs b → K (.pointer (some ⟨b, i.toNat * sz, none⟩)) w) :
    OK P ⟨dst, .indexAddr t x y, T, pos, after, g⟩ ρ w K := by
  obtain ⟨hl, ⟨rfl, h2, rfl⟩ | ⟨b, cap, cur, rfl, rfl, hnc, hcm, hsz, hc⟩⟩ := ho
  · omega
  · refine OK.val (run_v (v := .pointer (some ⟨b, i.toNat * sz, none⟩)) ?_) (hK b ⟨cap, cur, rfl, rfl, hnc, hcm, hsz, hc, hl⟩)
    rw [hx, hy]
    simp [Instr.indexAt, asIntOf, run_underlying ht, h0, h1, hi.size, add_lit]
theorem own_take {c : List Value} {cs vs : List Value} {off m N : Nat} (hc : c.take N = cs) (hv : vs.length = m) (h : off + m ≤ N) (hN : N ≤ c.length) : (c.take off ++ vs ++ c.drop (off + m)).take N = cs.take off ++ vs ++ cs.drop (off + m) := by
  subst hc hv
  have l1 : (c.take off ++ vs).length = off + vs.length := by rw [List.length_append, List.length_take, Nat.min_eq_left (by omega)]
  rw [List.take_append, l1, List.take_of_length_le (by omega), List.take_take, Nat.min_eq_left (by omega), List.drop_take]
theorem o_ownStoreF {α : Type} {f : α → List Value} {l : List α} {a : α} {x y : Operand} {t e : TypeId} {hs : List Hp} {sz n i b by_ : Nat} {v u z : Value} (hf : ∀ a, (f a).length = sz) (hi : TI P t z sz by_) (hx : ρ x = .pointer (some ⟨b, i * sz, none⟩)) (hy : ρ y = u)
    (hu : u.cells = (f a).toArray) (h1 : ∀ u ∈ f a, u.oneCell' = true) (ho : OwnAtF e sz v n (l.flatMap f) hs b) (hn : n = l.length) (hlt : i < n) (H : Has E w (hs :: ss)) (hK : ∀ hs' w', Own e sz v (l.set i a).length ((l.set i a).flatMap f) hs' → Has E w' (hs' :: ss) → K undef w') :
    OK P ⟨dst, .store t x y, T, pos, after, g⟩ ρ w K := by
  subst hn
  obtain ⟨cap, cur, rfl, rfl, hnc, hcm, hsz, hc, hl⟩ := ho
  have hle : i * sz + sz ≤ l.length * sz := by rw [← Nat.succ_mul]; exact Nat.mul_le_mul_right _ hlt
  have hcl : l.length * sz ≤ cur.size := by rw [hsz]; exact Nat.mul_le_mul_right _ hnc
  refine o_storeN (vs := f a) hi hx hy hu (hf a) h1 (by omega) rfl H fun w' H' => hK _ w' ?_ H'
  rw [List.length_set]
  refine ⟨by rw [flat_len hf, List.length_set], .inr ⟨b, cap, _, rfl, rfl, hnc, hcm, by rw [setFrom_size]; exact hsz, ?_⟩⟩
  rw [setFrom_list _ _ _ (by rw [hf]; omega), hf, own_take hc (hf a) hle (by simpa using hcl), flat_set hf l i a hlt, Nat.succ_mul]
/-- one cell of an element -/
theorem o_ownStoreC {α : Type} {f : α → List Value} {l : List α} {a a' : α} {x y : Operand} {t e : TypeId} {hs : List Hp} {sz n i k b by_ : Nat} {v u z : Value} (hf : ∀ a, (f a).length = sz) (hi : TI P t z 1 by_) (hx : ρ x = .pointer (some ⟨b, i * sz + k, none⟩)) (hy : ρ y = u)
    (hu : u.oneCell' = true) (hk : k < sz) (ha : l[i]? = some a) (ha' : (f a).set k u = f a') (ho : OwnAtF e sz v n (l.flatMap f) hs b) (hn : n = l.length) (H : Has E w (hs :: ss)) (hK : ∀ hs' w', Own e sz v (l.set i a').length ((l.set i a').flatMap f) hs' → Has E w' (hs' :: ss) → K undef w') :
    OK P ⟨dst, .store t x y, T, pos, after, g⟩ ρ w K := by
  subst hn
  obtain ⟨cap, cur, rfl, rfl, hnc, hcm, hsz, hc, hl⟩ := ho
  have hlt : i < l.length := (List.getElem?_eq_some_iff.1 ha).1
  have hle : i * sz + sz ≤ l.length * sz := by rw [← Nat.succ_mul]; exact Nat.mul_le_mul_right _ hlt
  have hcl : l.length * sz ≤ cur.size := by rw [hsz]; exact Nat.mul_le_mul_right _ hnc
  refine o_store1 (c' := cur.setIfInBounds (i * sz + k) u) hi hx hy hu (by omega) rfl H fun w' H' => hK _ w' ?_ H'
  rw [List.length_set]
  refine ⟨by rw [flat_len hf, List.length_set], .inr ⟨b, cap, _, rfl, rfl, hnc, hcm, by simpa using hsz, ?_⟩⟩
  rw [Array.toList_setIfInBounds, List.take_set, hc, flat_set hf l i a' hlt, ← ha', ← flat_part hf l i a ha]
  have hfl : (l.flatMap f).length = l.length * sz := flat_len hf l
  have hd : (l.flatMap f) = (l.flatMap f).take (i * sz) ++ (((l.flatMap f).drop (i * sz)).take sz ++ (l.flatMap f).drop ((i + 1) * sz)) := by
    rw [Nat.succ_mul, ← List.drop_drop, List.take_append_drop, List.take_append_drop]
  have l0 : ((l.flatMap f).take (i * sz)).length = i * sz := by rw [List.length_take, Nat.min_eq_left (by omega)]
  have l1 : (((l.flatMap f).drop (i * sz)).take sz).length = sz := by rw [List.length_take, List.length_drop, Nat.min_eq_left (by omega)]
  conv => lhs; rw [hd]
  rw [List.set_append_right _ _ (by omega), l0, Nat.add_sub_cancel_left, List.set_append_left _ _ (by omega), List.append_assoc]
end ops
end Go.Q
namespace Go.Q
theorem flat_take {α : Type} {f : α → List Value} {sz : Nat} (hf : ∀ a, (f a).length = sz) : ∀ (l : List α) (i : Nat), (l.flatMap f).take (i * sz) = (l.take i).flatMap f
  | [], i => by simp
  | x :: l, 0 => by simp
  | x :: l, i + 1 => by
    rw [List.flatMap_cons, Nat.succ_mul, Nat.add_comm, ← hf x, List.take_length_add_append, List.take_succ_cons, List.flatMap_cons, hf x, flat_take hf l i]
theorem flat_drop {α : Type} {f : α → List Value} {sz : Nat} (hf : ∀ a, (f a).length = sz) : ∀ (l : List α) (i : Nat), (l.flatMap f).drop (i * sz) = (l.drop i).flatMap f
  | [], i => by simp
  | x :: l, 0 => by simp
  | x :: l, i + 1 => by
    rw [List.flatMap_cons, Nat.succ_mul, Nat.add_comm, ← hf x, List.drop_length_add_append, List.drop_succ_cons, hf x, flat_drop hf l i]
end Go.Q
namespace Go.Q
theorem sl_dropF {α : Type} {f : α → List Value} {sz : Nat} (hf : ∀ a, (f a).length = sz) {l : List α} {L : List Hp} {v : Value} {k : Nat} (h : Sl L sz v (l.length - k) ((l.flatMap f).drop (k * sz))) : Sl L sz v (l.drop k).length ((l.drop k).flatMap f) := by
  rw [List.length_drop, ← flat_drop hf]; exact h
theorem sl_partF {α : Type} {f : α → List Value} {sz : Nat} (hf : ∀ a, (f a).length = sz) {l : List α} {L : List Hp} {v : Value} {i j : Nat} (h : Sl L sz v (j - i) (((l.flatMap f).take (j * sz)).drop (i * sz))) (hj : j ≤ l.length) : Sl L sz v ((l.take j).drop i).length (((l.take j).drop i).flatMap f) := by
  rw [List.length_drop, List.length_take, Nat.min_eq_left hj, ← flat_drop hf, ← flat_take hf]; exact h
end Go.Q
namespace Go.Q
/-- What a callback does beside other heaplets. -/
theorem Calls.frameF {P : Program} {f : FuncId} {args : Array Value} {E w : World} {R F : List Hp} {A : Ending → Prop} (h : Calls P f args w fun e w' => A e ∧ Has E w' [([R, F] : List (List Hp)).flatten]) : Calls P f args w fun e w' => A e ∧ Has E w' [R, F] :=
  h.mono fun e w' ⟨ha, hh⟩ => ⟨ha, hh.of_all⟩
theorem cb_more {P : Program} {f : FuncId} {α : Type} {va : α → Array Value} {A : α → Ending → Prop} {E : World} {R G : List Hp} (h : ∀ {w : World} (F : List Hp) (x : α), Has E w [R, F] → Calls P f (va x) w fun e w' => A x e ∧ Has E w' [R, F]) :
    ∀ {w : World} (F : List Hp) (x : α), Has E w [R ++ G, F] → Calls P f (va x) w fun e w' => A x e ∧ Has E w' [R ++ G, F] := fun {w} F x H => by
  have H2 := show Has E w [R, G ++ F] by unfold Has at *; simpa using H
  refine (h (G ++ F) x H2).mono fun e w' ⟨ha, hh⟩ => ⟨ha, ?_⟩
  unfold Has at *; simpa using hh
/-- slices.IndexFunc -/
def idxG {α : Type} (c : α → Bool) (l : List α) : Int := match l.findIdx? c with
  | some i => (i : Int)
  | none => -1
theorem idxG_none {α : Type} {c : α → Bool} {l : List α} (h : ∀ (j : Nat) (x : α), l[j]? = some x → c x = false) : idxG c l = -1 := by
  unfold idxG
  rw [List.findIdx?_eq_none_iff.2 fun x hx => by
    obtain ⟨j, hj⟩ := List.getElem?_of_mem hx
    exact h j x hj]
theorem idxG_some {α : Type} {c : α → Bool} {l : List α} {k : Nat} {x : α} (h : ∀ j, j < k → ∀ y, l[j]? = some y → c y = false) (hx : l[k]? = some x) (e : c x = true) : idxG c l = (k : Int) := by
  unfold idxG
  obtain ⟨hlt, hk⟩ := List.getElem?_eq_some_iff.1 hx
  rw [List.findIdx?_eq_some_iff_getElem.2 ⟨hlt, by rw [hk]; exact e, fun j hj => by
    have := h j hj l[j] (List.getElem?_eq_getElem (by omega))
    simpa using this⟩]
theorem idxG_any {α : Type} {c : α → Bool} {l : List α} : decide (0 ≤ idxG c l) = l.any c := by
  unfold idxG
  cases h : l.findIdx? c with
  | none => simp [List.findIdx?_eq_none_iff.1 h]; intro x hx; exact List.findIdx?_eq_none_iff.1 h x hx
  | some i =>
    obtain ⟨hlt, hc, _⟩ := List.findIdx?_eq_some_iff_getElem.1 h
    have : l.any c = true := List.any_eq_true.2 ⟨l[i], List.getElem_mem hlt, hc⟩
    rw [this]; simp
theorem idxG_lt {α : Type} (c : α → Bool) (l : List α) : -1 ≤ idxG c l ∧ idxG c l < l.length := by
  unfold idxG
  cases h : l.findIdx? c with
  | none => simp only; omega
  | some i =>
    obtain ⟨hlt, _, _⟩ := List.findIdx?_eq_some_iff_getElem.1 h
    simp only; omega
theorem argsG1 {ρ : Operand → Value} {x : Operand} {v : Value} {first cap : Array Value} (h : ρ x = v) : first ++ #[x].map ρ ++ cap = first ++ #[v] ++ cap := by simp [h]
/-! slices.DeleteFunc: the plain law -/
section
variable {α : Type} {c : α → Bool} {l lw : List α} {i j : Nat} {x : α}
theorem df_none {l : List α} (h : idxG c l = -1) : (l.filter fun x => !c x) = l := by
  unfold idxG at h
  cases e : l.findIdx? c with
  | some k => rw [e] at h; simp only at h; omega
  | none => exact List.filter_eq_self.2 fun a ha => by simp [List.findIdx?_eq_none_iff.1 e a ha]
theorem df_start (h : 0 ≤ idxG c l) : l.take (idxG c l).toNat = (l.take ((idxG c l).toNat + 1)).filter fun x => !c x := by
  unfold idxG at *
  cases e : l.findIdx? c with
  | none => rw [e] at h; simp only at h; omega
  | some k =>
    obtain ⟨hlt, hc, hn⟩ := List.findIdx?_eq_some_iff_getElem.1 e
    simp only [Int.toNat_natCast]
    rw [List.take_succ_eq_append_getElem hlt, List.filter_append]
    rw [List.filter_eq_self.2 fun a ha => ?_]
    · simp [hc]
    · obtain ⟨m, hm, rfl⟩ := List.mem_take_iff_getElem.1 ha
      have := hn m (by omega)
      simpa using this
theorem df_at (hx : lw[j]? = some x) (hd : lw.drop j = l.drop j) : l[j]? = some x := by
  have h1 := congrArg (fun z => z[0]?) hd
  simp only [List.getElem?_drop, Nat.add_zero] at h1
  rw [← h1]; exact hx
theorem df_skip (ht : lw.take i = (l.take j).filter fun x => !c x) (hx : lw[j]? = some x) (hd : lw.drop j = l.drop j) (hc : c x = true) : lw.take i = (l.take (j + 1)).filter fun x => !c x := by
  rw [take_succ_of (df_at hx hd), List.filter_append, ← ht]; simp [hc]
theorem df_keep (ht : lw.take i = (l.take j).filter fun x => !c x) (hx : lw[j]? = some x) (hd : lw.drop j = l.drop j) (hi : i < lw.length) (hj : i < j) (hc : c x = false) : (lw.set i x).take (i + 1) = (l.take (j + 1)).filter fun x => !c x := by
  rw [take_succ_of (df_at hx hd), List.filter_append, ← ht, take_succ_of (x := x) (by rw [List.getElem?_set_self hi]), List.take_set_of_le (Nat.le_refl _)]; simp [hc]
theorem df_drop (hd : lw.drop j = l.drop j) : lw.drop (j + 1) = l.drop (j + 1) := by rw [← List.drop_drop, hd, List.drop_drop]
theorem df_drops (hd : lw.drop j = l.drop j) (hj : i < j) : (lw.set i x).drop (j + 1) = l.drop (j + 1) := by rw [List.drop_set_of_lt (by omega)]; exact df_drop hd
theorem df_end {f : α → Value} {cur cn : List Value} {o : Nat} (h : cn.take o = cur.take o) (hc : cur.take (lw.length * 1) = lw.map f) (hi : i ≤ lw.length) (ho : o = i) : cn.take (i * 1) = (lw.take i).map f := by
  subst ho
  rw [Nat.mul_one] at *
  rw [h, List.map_take, ← hc, List.take_take, Nat.min_eq_left hi]
theorem df_endF {f : α → List Value} {sz : Nat} (hf : ∀ a, (f a).length = sz) {cur cn : List Value} {o : Nat} (h : cn.take o = cur.take o) (hc : cur.take (lw.length * sz) = lw.flatMap f) (hi : i ≤ lw.length) (ho : o = i * sz) : cn.take (i * sz) = (lw.take i).flatMap f := by
  subst ho
  rw [h, ← flat_take hf, ← hc, List.take_take, Nat.min_eq_left (Nat.mul_le_mul_right _ hi)]
end
end Go.Q
namespace Go.Q
theorem del_lawS {α : Type} {c c1 c2 : List α} {I N A o2 m d o3 sz : Nat} (h1 : c1 = if 0 < m then c.take A ++ (c.drop o2).take (m * sz) ++ c.drop d else c) (h2 : c2.take o3 = c1.take o3)
    (e1 : A = I * sz) (e2 : m = 0 ∨ o2 = (I + 1) * sz) (e3 : m = N - (I + 1)) (e4 : o3 = (N - 1) * sz) (hI : I < N) (hN : N * sz ≤ c.length) : c2.take ((N - 1) * sz) = c.take (I * sz) ++ (c.take (N * sz)).drop ((I + 1) * sz) := by
  have hle : (I + 1) * sz ≤ N * sz := Nat.mul_le_mul_right _ hI
  have e5 : (N - 1) * sz = I * sz + (N * sz - (I + 1) * sz) := by
    rw [← Nat.sub_mul, ← Nat.add_mul]; congr 1; omega
  rw [← e4, h2, h1]
  by_cases hm : 0 < m
  · obtain rfl : o2 = (I + 1) * sz := by omega
    subst e1
    rw [if_pos hm, List.drop_take, e3, Nat.sub_mul]
    have l1 : (c.take (I * sz) ++ (c.drop ((I + 1) * sz)).take (N * sz - (I + 1) * sz)).length = o3 := by
      have h3 : I * sz ≤ (I + 1) * sz := Nat.mul_le_mul_right _ (by omega)
      simp only [List.length_append, List.length_take, List.length_drop]; omega
    rw [List.take_left' l1]
  · have : N - 1 = I := by omega
    rw [if_neg hm, e4, this, List.drop_of_length_le (by rw [List.length_take, show N = I + 1 by omega]; omega), List.append_nil]
theorem del_listF {α : Type} {f : α → List Value} {sz : Nat} (hf : ∀ a, (f a).length = sz) {l : List α} {c : List Value} {i : Nat} (hi : i < l.length) (hc : c.take (l.length * sz) = l.flatMap f) : c.take (i * sz) ++ (c.take (l.length * sz)).drop ((i + 1) * sz) = (l.take i ++ l.drop (i + 1)).flatMap f := by
  rw [hc, flat_drop hf, List.flatMap_append, ← flat_take hf l i, ← hc, List.take_take, Nat.min_eq_left (Nat.mul_le_mul_right _ (by omega))]
theorem cells_one {v : Value} (h : v.oneCell' = true) : v.cells = #[v] := by cases v <;> first | rfl | (simp [Value.oneCell'] at h)
end Go.Q
namespace Go.Q
/-- nil[:0] -/
theorem o_slnil {P : Program} {ρ : Operand → Value} {w : World} {K : Value → World → Prop} {dst : Option Tmp} {T : TypeId} {pos : String} {after : Array Edge} {g : Option (Nat × Bool)} {x hi : Operand} {t e : TypeId} {z : Value} {sz by_ : Nat} {k : IntKind} {j : Int}
    (ht : P.underlying t = some (.slice e)) (hti : TI P e z sz by_) (hx : ρ x = .slice none 0 0) (hj : ρ hi = .int k j) (h0 : j = 0) (hK : K (.slice none 0 0) w) : OK P ⟨dst, .slice t x none (some hi) none, T, pos, after, g⟩ ρ w K := by
  subst h0
  have e1 : P.elem t = e := by simp [Program.elem, ht]
  have hb := bounds_h (P := P) (n := 0) (cap := 0) (k := k) (j := 0) (by decide) (by decide) w
  have hrun : (Instr.sliceAt t (ρ x) (none.map ρ) ((some hi).map ρ) (none.map ρ)).run P w = .ok (sliced none 0 0 0 sz) w := by
    rw [hx, run_sliceAt_slice _ _ _ _ _ _ (by rw [e1]; exact ht), run_slice_any _ _ _ _ _ (by rw [e1]; exact ht), e1]
    simp only [Option.map_none, Option.map_some, hj]
    rw [hb]
    simp only [Result.andThen_ok, hti.size]; rfl
  exact OK.val (run_v hrun) hK
def rwV {α : Type} (x : Value × List α) : Value := x.1
theorem flat_take_len {α β : Type} (g : α → List β) (l : List α) (k : Nat) : ((l.take k).flatMap g).length ≤ (l.flatMap g).length := by
  conv => rhs; rw [← List.take_append_drop k l, List.flatMap_append, List.length_append]
  omega
end Go.Q
namespace Go.Q
theorem cc_room {α β : Type} {ls : List (α × List β)} {out : List β} {k : Nat} {x : α × List β} {N : Nat} (hf : out = (ls.take k).flatMap (fun q => q.2)) (hx : ls[k]? = some x) (hn : (ls.flatMap (fun q => q.2)).length ≤ N) : out.length + x.2.length ≤ N := by
  have h := flat_take_len (fun q : α × List β => q.2) ls (k + 1)
  rw [take_succ_of hx, List.flatMap_append, List.length_append, ← hf] at h
  simp only [List.flatMap_cons, List.flatMap_nil, List.append_nil] at h
  omega
end Go.Q
namespace Go.Q
theorem fill_one1 {x z : Value} (hx : x.oneCell' = true) (hz : z.oneCell' = true) : Instr.fill (fun i => some (i * 1, 1)) ((Array.range (1 * 1)).map (z.cells[· % z.cells.size]!)) #[(0, x)].toList = some #[x] := by
  simp [Instr.fill, cells_one hx, cells_one hz, Array.range_succ, show Array.range 0 = #[] from rfl]
theorem fill_one2 {x y z : Value} (hx : x.oneCell' = true) (hy : y.oneCell' = true) (hz : z.oneCell' = true) : Instr.fill (fun i => some (i * 1, 1)) ((Array.range (2 * 1)).map (z.cells[· % z.cells.size]!)) #[(0, x), (1, y)].toList = some #[x, y] := by
  simp [Instr.fill, cells_one hx, cells_one hy, cells_one hz, Array.range_succ, show Array.range 0 = #[] from rfl]
end Go.Q
namespace Go.Q
structure Rec where
  kind : Int
  gsn : Int
  txn : Int
  prev : Int
  page : Int
  key : Bs
  bh : Bool
  bv : Bs
  ah : Bool
  av : Bs
  undo : Int
deriving DecidableEq
def recC (r : Rec) : List Value := [iV r.kind, iV r.gsn, iV r.txn, iV r.prev, iV r.page, S r.key, .bool r.bh, S r.bv, .bool r.ah, S r.av, iV r.undo]
theorem recC_len (r : Rec) : (recC r).length = 11 := rfl
theorem one_recC (l : List Rec) : ∀ u ∈ l.flatMap recC, u.oneCell' = true := one_flat (fun p u hu => by
  simp only [recC, List.mem_cons, List.not_mem_nil, or_false] at hu
  rcases hu with rfl | rfl | rfl | rfl | rfl | rfl | rfl | rfl | rfl | rfl | rfl <;> rfl) l
def vlC (v : Bool × Bs) : List Value := [.bool v.1, S v.2]
theorem vlC_len (v : Bool × Bs) : (vlC v).length = 2 := rfl
theorem one_vlC (l : List (Bool × Bs)) : ∀ u ∈ l.flatMap vlC, u.oneCell' = true := one_flat (fun p u hu => by
  simp only [vlC, List.mem_cons, List.not_mem_nil, or_false] at hu
  rcases hu with rfl | rfl <;> rfl) l
def rec0 : Rec := ⟨0, 0, 0, 0, 0, [], false, [], false, [], 0⟩
def notP {α : Type} (c : α → Bool) (x : α) : Bool := !c x
theorem any_notP {α : Type} (c : α → Bool) (l : List α) : (!(l.any (notP c))) = l.all c := by
  induction l with
  | nil => rfl
  | cons x t ih => rw [List.any_cons, List.all_cons, ← ih, notP]; cases c x <;> simp
def withinR (n lo hi : Int) : Bool := decide (lo ≤ n) && decide (n ≤ hi)
def chgR (k : Int) : Bool := decide (k = 2) || decide (k = 3)
def keyR (k : Bs) : Bool := decide (k ≠ []) && decide ((k.length : Int) ≤ 8)
def valR (v : Bool × Bs) : Bool := decide ((v.2.length : Int) ≤ 16) && (v.1 || decide (v.2 = []))
def bodyR (r : Rec) : Bool := if chgR r.kind = true then (withinR r.page 0 63 && keyR r.key && (valR (r.bh, r.bv) && valR (r.ah, r.av)) && !(decide (r.bh = r.ah ∧ r.bv = r.av))) else decide (r.page = 0 ∧ r.key = [] ∧ (r.bh = false ∧ r.bv = []) ∧ (r.ah = false ∧ r.av = []))
def undoR (r : Rec) : Bool := if r.kind = 3 then withinR r.undo 1 r.prev else if r.kind = 4 then withinR r.undo 0 255 else decide (r.undo = 0)
def rightR (r : Rec) : Bool := withinR r.kind 1 6 && withinR r.txn 1 2147483647 && withinR r.gsn 1 4611686018427387903 && withinR r.prev 0 (r.gsn - 1) && decide (r.prev = 0 ↔ r.kind = 1) && bodyR r && undoR r
/-- the record that takes another one back -/
def clrR (r : Rec) (gsn prev : Int) : Rec := ⟨3, gsn, r.txn, prev, r.page, r.key, r.ah, r.av, r.bh, r.bv, r.gsn⟩
def backR (r : Rec) (gsn prev : Int) : Rec := if rightR r = true ∧ r.kind = 2 then (if rightR (clrR r gsn prev) = true then clrR r gsn prev else rec0) else rec0
end Go.Q
namespace Go.Q
theorem cb_mid {P : Program} {f : FuncId} {α : Type} {va : α → Array Value} {A : α → Ending → Prop} {E : World} {X R F : List Hp} (h : ∀ {w : World} (F : List Hp) (x : α), Has E w [R, F] → Calls P f (va x) w fun e w' => A x e ∧ Has E w' [R, F]) :
    ∀ {w : World} (F' : List Hp) (x : α), Has E w [[[X, R].flatten, F].flatten, F'] → Calls P f (va x) w fun e w' => A x e ∧ Has E w' [[[X, R].flatten, F].flatten, F'] := fun {w} F' x H => by
  have H2 : Has E w [R, X ++ F ++ F'] := by
    have H3 : Has E w [X, R, F, F'] := by unfold Has at *; simpa using H
    have H4 : Has E w [R, X, F, F'] := H3.front 1 rfl
    unfold Has at *; simpa using H4
  refine (h (X ++ F ++ F') x H2).mono fun e w' ⟨ha, hh⟩ => ⟨ha, ?_⟩
  have H4 : Has E w' [R, X, F, F'] := by unfold Has at *; simpa using hh
  have H3 : Has E w' [X, R, F, F'] := H4.front 1 rfl
  unfold Has at *; simpa using H3
end Go.Q
namespace Go.Q
section
variable {P : Program} {ρ : Operand → Value} {w : World} {K : Value → World → Prop} {dst : Option Tmp} {T : TypeId} {pos : String} {after : Array Edge} {g : Option (Nat × Bool)}
theorem o_sltP {t u : TypeId} {x y : Operand} {a b : Bs} (hx : ρ x = S a) (hy : ρ y = S b) (h : K (.bool (decide (a < b))) w) : OK P ⟨dst, .binOp .lss t x y u, T, pos, after, g⟩ ρ w K :=
  o_slss hx hy (by rw [Go.Proofs.bytesLess_eq]; exact h)
theorem o_sleP {t u : TypeId} {x y : Operand} {a b : Bs} (hx : ρ x = S a) (hy : ρ y = S b) (h : K (.bool (decide (¬ b < a))) w) : OK P ⟨dst, .binOp .leq t x y u, T, pos, after, g⟩ ρ w K :=
  o_sleq hx hy (by
    have e : (Op.bytesLess a b || a == b) = decide (¬ b < a) := by
      rw [Go.Proofs.bytesLess_eq, Bool.eq_iff_iff, Bool.or_eq_true, decide_eq_true_iff, decide_eq_true_iff, beq_iff_eq, List.not_lt, List.le_iff_lt_or_eq]
    rw [e]; exact h)
theorem o_sgtP {t u : TypeId} {x y : Operand} {a b : Bs} (hx : ρ x = S a) (hy : ρ y = S b) (h : K (.bool (decide (b < a))) w) : OK P ⟨dst, .binOp .gtr t x y u, T, pos, after, g⟩ ρ w K :=
  o_scmp (r := decide (b < a)) hx hy (by
    show (Op.stringOp .gtr _ _).run P w = _
    have e : (!(Op.bytesLess a b || a == b)) = decide (b < a) := by
      have : (Op.bytesLess a b || a == b) = decide (¬ b < a) := by
        rw [Go.Proofs.bytesLess_eq, Bool.eq_iff_iff, Bool.or_eq_true, decide_eq_true_iff, decide_eq_true_iff, beq_iff_eq, List.not_lt, List.le_iff_lt_or_eq]
      rw [this]; by_cases h : b < a <;> simp [h]
    simp only [Op.stringOp, bytes_toList]; rw [← e]; rfl) rfl h
theorem o_sgeP {t u : TypeId} {x y : Operand} {a b : Bs} (hx : ρ x = S a) (hy : ρ y = S b) (h : K (.bool (decide (¬ a < b))) w) : OK P ⟨dst, .binOp .geq t x y u, T, pos, after, g⟩ ρ w K :=
  o_scmp (r := decide (¬ a < b)) hx hy (by
    show (Op.stringOp .geq _ _).run P w = _
    have e : (!(Op.bytesLess a b)) = decide (¬ a < b) := by
      rw [Go.Proofs.bytesLess_eq]; by_cases h : a < b <;> simp [h]
    simp only [Op.stringOp, bytes_toList]; rw [← e]; rfl) rfl h
end
theorem bs_irr (x : Bs) : ¬ x < x := List.lt_irrefl x
theorem bs_tr {x y z : Bs} (h1 : x < y) (h2 : y < z) : x < z := List.lt_trans h1 h2
theorem bs_tri {x y : Bs} (h1 : ¬ x < y) (h2 : ¬ y < x) : x = y := by
  rcases List.le_iff_lt_or_eq.1 (List.not_lt.1 h1) with e | e
  · exact absurd e h2
  · exact e.symm
/-- what cmp.Compare answers -/
def cmpS (a b : Bs) : Int := if a < b then -1 else if b < a then 1 else 0
theorem cmpS_neg {a b : Bs} : cmpS a b < 0 ↔ a < b := by
  unfold cmpS; split
  · rename_i h; exact ⟨fun _ => h, fun _ => by decide⟩
  · rename_i h; split <;> exact ⟨fun g => absurd g (by decide), fun g => absurd g h⟩
theorem cmpS_zero {a b : Bs} : cmpS a b = 0 ↔ a = b := by
  unfold cmpS; split
  · rename_i h; exact ⟨fun g => absurd g (by decide), fun g => by subst g; exact absurd h (bs_irr a)⟩
  · rename_i h; split
    · rename_i h2; exact ⟨fun g => absurd g (by decide), fun g => by subst g; exact absurd h2 (bs_irr a)⟩
    · rename_i h2; exact ⟨fun _ => bs_tri h h2, fun _ => rfl⟩
end Go.Q
namespace Go.Q
structure Plc where
  key : Bs
  wr : Bool
  own : Int
def plC (a : Plc) : List Value := [S a.key, .bool a.wr, iV a.own]
theorem plC_len (a : Plc) : (plC a).length = 3 := rfl
theorem one_plC (l : List Plc) : ∀ u ∈ l.flatMap plC, u.oneCell' = true := by
  intro u hu
  obtain ⟨p, _, hp⟩ := List.mem_flatMap.1 hu
  simp only [plC, List.mem_cons, List.not_mem_nil, or_false] at hp
  rcases hp with rfl | rfl | rfl <;> rfl
/-- lock.at -/
def atS (l : List Plc) (o : Int) : Int := match l.findIdx? (fun p => decide (p.own = o)) with
  | some i => (i : Int)
  | none => -1
theorem atS_none {l : List Plc} {o : Int} (h : ∀ (j : Nat) (x : Plc), l[j]? = some x → x.own ≠ o) : atS l o = -1 := by
  unfold atS
  rw [List.findIdx?_eq_none_iff.2 fun x hx => by
    obtain ⟨j, hj⟩ := List.getElem?_of_mem hx
    simpa using h j x hj]
theorem atS_some {l : List Plc} {o : Int} {k : Nat} {x : Plc} (h : ∀ j, j < k → ∀ y, l[j]? = some y → y.own ≠ o) (hx : l[k]? = some x) (e : x.own = o) : atS l o = (k : Int) := by
  unfold atS
  obtain ⟨hlt, hk⟩ := List.getElem?_eq_some_iff.1 hx
  rw [List.findIdx?_eq_some_iff_getElem.2 ⟨hlt, by rw [hk]; simpa using e, fun j hj => by
    have := h j hj l[j] (List.getElem?_eq_getElem (by omega))
    simpa using this⟩]
/-- place.clash -/
def clashS (p q : Plc) : Bool := decide (p.own ≠ q.own) && (p.wr || q.wr)
/-- entry.free, hold, wait, grant -/
def freeS (h : List Plc) (p : Plc) : Bool := !(h.any (clashS p))
def holdS (h : List Plc) (p : Plc) : List Plc := if 0 ≤ atS h p.own then h.set (atS h p.own).toNat p else h ++ [p]
def insAt {α : Type} (l : List α) (i : Nat) (p : α) : List α := l.take i ++ [p] ++ l.drop i
def noAt (h : List Plc) (q : Plc) : Bool := decide (atS h q.own < 0)
def lineS (h l : List Plc) : Int := idxG (noAt h) l
def waitS (h l : List Plc) (p : Plc) : List Plc := if atS h p.own < 0 then l ++ [p] else if lineS h l < 0 then l ++ [p] else insAt l (lineS h l).toNat p
def grantS : List Plc → List Plc → List Int × List Plc × List Plc
  | h, [] => ([], h, [])
  | h, p :: t => if freeS h p = true then ((p.own :: (grantS (holdS h p) t).1), (grantS (holdS h p) t).2) else ([], h, p :: t)
theorem atS_lt (l : List Plc) (o : Int) : -1 ≤ atS l o ∧ atS l o < l.length := by
  unfold atS
  cases h : l.findIdx? (fun p => decide (p.own = o)) with
  | none => simp only; omega
  | some i =>
    obtain ⟨hlt, _, _⟩ := List.findIdx?_eq_some_iff_getElem.1 h
    simp only; omega
/-- The table: each key with its holders and its line, in the order in which they came. -/
structure Ent where
  hold : List Plc
  line : List Plc
abbrev Tab := List (Bs × Ent)
def namesS (t : Tab) : List Bs := (t.map (·.1)).mergeSort (fun x y => decide (x ≤ y))
end Go.Q
namespace Go.Q
def ownIs (o : Int) (p : Plc) : Bool := decide (p.own = o)
def keyIs (k : Bs) (p : Plc) : Bool := decide (p.key = k)
theorem atS_idx {l : List Plc} {o : Int} : atS l o = idxG (ownIs o) l := rfl
end Go.Q
namespace Go.Q
theorem grant_stop {h l : List Plc} (hs : l = [] ∨ ∃ x, l[0]? = some x ∧ freeS h x = false) : grantS h l = ([], h, l) := by
  rcases hs with rfl | ⟨x, hx, hf⟩
  · rfl
  · cases l with
    | nil => simp at hx
    | cons p t =>
      obtain rfl : p = x := by simpa using hx
      rw [grantS, if_neg (by rw [hf]; decide)]
theorem grant_go {h l : List Plc} {x : Plc} (hx : l[0]? = some x) (hf : freeS h x = true) : grantS h l = (x.own :: (grantS (holdS h x) (l.drop 1)).1, (grantS (holdS h x) (l.drop 1)).2) := by
  cases l with
  | nil => simp at hx
  | cons p t =>
    obtain rfl : p = x := by simpa using hx
    rw [grantS, if_pos hf]; rfl
theorem holdS_len (h : List Plc) (p : Plc) : (holdS h p).length ≤ h.length + 1 ∧ h.length ≤ (holdS h p).length := by
  unfold holdS; split
  · rw [List.length_set]; omega
  · rw [List.length_append]; simp
theorem grant_len : ∀ (l h : List Plc), (grantS h l).2.1.length + (grantS h l).2.2.length ≤ h.length + l.length
  | [], h => by simp [grantS]
  | p :: t, h => by
    rw [grantS]
    split
    · have := grant_len t (holdS h p); have := holdS_len h p; simp only [List.length_cons]; omega
    · simp
theorem grant_out : ∀ (l h : List Plc), (grantS h l).1.length ≤ l.length
  | [], h => by simp [grantS]
  | p :: t, h => by
    rw [grantS]
    split
    · have := grant_out t (holdS h p); simp only [List.length_cons]; omega
    · simp
def grE (v : Ent) : Ent := ⟨(grantS v.hold v.line).2.1, (grantS v.hold v.line).2.2⟩
end Go.Q
namespace Go.Q
abbrev Cel := Bs × Bs
def ceC (c : Cel) : List Value := [S c.1, S c.2]
theorem ceC_len (c : Cel) : (ceC c).length = 2 := rfl
theorem one_ceC (l : List Cel) : ∀ u ∈ l.flatMap ceC, u.oneCell' = true := one_flat (fun p u hu => by
  simp only [ceC, List.mem_cons, List.not_mem_nil, or_false] at hu
  rcases hu with rfl | rfl <;> rfl) l
/-- in the order of their keys, each once -/
def Rises (l : List Cel) : Prop := l.Pairwise fun a b => a.1 < b.1
instance (l : List Cel) : Decidable (Rises l) := inferInstanceAs (Decidable (l.Pairwise fun a b => a.1 < b.1))
def celOk (c : Cel) : Bool := keyR c.1 && valR (true, c.2)
def cellsR (l : List Cel) : Bool := l.all celOk && decide (Rises l) && decide (l.length ≤ 8)
def pageR (no gsn : Int) (l : List Cel) : Bool := decide (0 ≤ no ∧ no < 64 ∧ 0 ≤ gsn ∧ gsn ≤ 4611686018427387903) && cellsR l
theorem cellsR_iff {l : List Cel} : cellsR l = true ↔ (∀ c ∈ l, celOk c = true) ∧ Rises l ∧ l.length ≤ 8 := by
  unfold cellsR; rw [Bool.and_eq_true, Bool.and_eq_true, List.all_eq_true, decide_eq_true_iff, decide_eq_true_iff, and_assoc]
theorem rises_snoc {l : List Cel} {c : Cel} (h : Rises l) (hl : ∀ p, l.getLast? = some p → p.1 < c.1) : Rises (l ++ [c]) := by
  refine List.pairwise_append.2 ⟨h, List.pairwise_singleton _ _, fun a ha b hb => ?_⟩
  rw [List.mem_singleton.1 hb]
  cases hz : l.getLast? with
  | none => rw [List.getLast?_eq_none_iff] at hz; subst hz; cases ha
  | some p =>
    have hp := hl p hz
    obtain ⟨q, rfl⟩ : ∃ q, l = q ++ [p] := by
      obtain ⟨q, hq⟩ := List.getLast?_eq_some_iff.1 hz
      exact ⟨q, hq⟩
    rcases List.mem_append.1 ha with e | e
    · exact bs_tr ((List.pairwise_append.1 h).2.2 a e p (List.mem_singleton.2 rfl)) hp
    · rw [List.mem_singleton.1 e]; exact hp
theorem take_last {α : Type} {l : List α} {k : Nat} {p : α} (hk : k ≤ l.length) (h : (l.take k).getLast? = some p) : 0 < k ∧ l[k - 1]? = some p := by
  rcases Nat.eq_zero_or_pos k with e | e
  · subst e; simp at h
  · rw [List.getLast?_eq_getElem?, List.length_take, Nat.min_eq_left hk, List.getElem?_take, if_pos (by omega)] at h
    exact ⟨e, h⟩
theorem cells_next {l : List Cel} {k : Nat} {c : Cel} (hx : l[k]? = some c) (h : Rises (l.take k)) (hp : ∀ p, 0 < k → l[k - 1]? = some p → p.1 < c.1) : Rises (l.take (k + 1)) := by
  have hk : k < l.length := (List.getElem?_eq_some_iff.1 hx).1
  rw [take_succ_of hx]
  exact rises_snoc h fun p hpl => (take_last (by omega) hpl).elim fun h1 h2 => hp p h1 h2
theorem all_next {l : List Cel} {k : Nat} {c : Cel} (hx : l[k]? = some c) (h : (l.take k).all celOk = true) (hc : celOk c = true) : (l.take (k + 1)).all celOk = true := by
  rw [take_succ_of hx, List.all_append, h]; simp [hc]
theorem cells_no1 {l : List Cel} {k : Nat} {c : Cel} (hx : l[k]? = some c) (h : celOk c = false) : cellsR l = false := by
  cases e : cellsR l with
  | false => rfl
  | true => rw [(cellsR_iff.1 e).1 c (List.mem_of_getElem? hx)] at h; cases h
theorem cells_no2 {l : List Cel} {k : Nat} {p c : Cel} (hk : 0 < k) (hx : l[k]? = some c) (hp : l[k - 1]? = some p) (h : ¬ p.1 < c.1) : cellsR l = false := by
  cases e : cellsR l with
  | false => rfl
  | true =>
    have hr := List.pairwise_iff_getElem.1 (cellsR_iff.1 e).2.1
    obtain ⟨h1, h2⟩ := List.getElem?_eq_some_iff.1 hx
    obtain ⟨h3, h4⟩ := List.getElem?_eq_some_iff.1 hp
    have := hr (k - 1) k h3 h1 (by omega)
    rw [h2, h4] at this
    exact absurd this h
theorem cells_end {l : List Cel} (h : l.all celOk = true) (hr : Rises l) : cellsR l = decide (l.length ≤ 8) := by
  unfold cellsR; rw [h, decide_eq_true hr]; simp
/-! ### a key's place -/
def posC (l : List Cel) (key : Bs) : Int := ((l.filter fun c => decide (c.1 < key)).length : Int)
def hasC (l : List Cel) (key : Bs) : Bool := l.any fun c => decide (c.1 = key)
theorem posC_le (l : List Cel) (key : Bs) : 0 ≤ posC l key ∧ posC l key ≤ l.length := by
  unfold posC
  have := List.length_filter_le (fun c : Cel => decide (c.1 < key)) l
  omega
theorem posC_at {l : List Cel} {key : Bs} {i : Nat} (hi : i ≤ l.length) (hlo : ∀ a ∈ l.take i, a.1 < key) (hhi : ∀ a ∈ l.drop i, ¬ a.1 < key) : posC l key = i := by
  unfold posC
  have e : l.filter (fun c => decide (c.1 < key)) = l.take i := by
    have h1 := List.filter_eq_self.2 (fun a ha => decide_eq_true (hlo a ha))
    have h2 := List.filter_eq_nil_iff.2 (fun a ha => by simpa using hhi a ha : ∀ a ∈ l.drop i, ¬ (decide (a.1 < key) = true))
    calc l.filter (fun c => decide (c.1 < key)) = (l.take i ++ l.drop i).filter (fun c => decide (c.1 < key)) := by rw [List.take_append_drop]
      _ = _ := by rw [List.filter_append, h1, h2, List.append_nil]
  rw [e, List.length_take, Nat.min_eq_left hi]
theorem lo_stepC {l : List Cel} {key : Bs} {m : Nat} {a : Cel} (hs : Rises l) (hx : l[m]? = some a) (h : a.1 < key) : ∀ b ∈ l.take (m + 1), b.1 < key := by
  rw [take_succ_of hx]
  intro b hb
  rcases List.mem_append.1 hb with e | e
  · obtain ⟨j, hj⟩ := List.mem_iff_getElem?.1 e
    rw [List.getElem?_take] at hj
    split at hj
    · obtain ⟨h1, h2⟩ := List.getElem?_eq_some_iff.1 hj
      obtain ⟨h3, h4⟩ := List.getElem?_eq_some_iff.1 hx
      have := List.pairwise_iff_getElem.1 hs j m h1 h3 (by assumption)
      rw [h2, h4] at this
      exact bs_tr this h
    · cases hj
  · rw [List.mem_singleton.1 e]; exact h
theorem hi_stepC {l : List Cel} {key : Bs} {m : Nat} {a : Cel} (hs : Rises l) (hx : l[m]? = some a) (h : ¬ a.1 < key) : ∀ b ∈ l.drop m, ¬ b.1 < key := by
  intro b hb hlt
  obtain ⟨j, hj⟩ := List.mem_iff_getElem?.1 hb
  rw [List.getElem?_drop] at hj
  obtain ⟨h1, h2⟩ := List.getElem?_eq_some_iff.1 hj
  obtain ⟨h3, h4⟩ := List.getElem?_eq_some_iff.1 hx
  rcases Nat.eq_zero_or_pos j with e | e
  · subst e
    rw [Nat.add_zero, hx] at hj; cases hj; exact h hlt
  · have := List.pairwise_iff_getElem.1 hs m (m + j) h3 h1 (by omega)
    rw [h2, h4] at this
    exact h (bs_tr this hlt)
theorem hasC_yes {l : List Cel} {key : Bs} {i : Nat} {a : Cel} (hx : l[i]? = some a) (h : a.1 = key) : hasC l key = true := by
  unfold hasC; exact List.any_eq_true.2 ⟨a, List.mem_of_getElem? hx, decide_eq_true h⟩
theorem hasC_no {l : List Cel} {key : Bs} {i : Nat} (hs : Rises l) (hlo : ∀ a ∈ l.take i, a.1 < key) (hhi : ∀ a ∈ l.drop i, ¬ a.1 < key) (h : ∀ a, l[i]? = some a → a.1 ≠ key) : hasC l key = false := by
  unfold hasC
  rw [List.any_eq_false]
  intro b hb
  rw [decide_eq_true_iff]
  intro e
  rw [← List.take_append_drop i l] at hb
  rcases List.mem_append.1 hb with g | g
  · have := hlo b g; rw [e] at this; exact bs_irr _ this
  · obtain ⟨j, hj⟩ := List.mem_iff_getElem?.1 g
    rw [List.getElem?_drop] at hj
    rcases Nat.eq_zero_or_pos j with z | z
    · subst z; rw [Nat.add_zero] at hj; exact h b hj e
    · obtain ⟨h1, h2⟩ := List.getElem?_eq_some_iff.1 hj
      have h3 : i < l.length := by omega
      have h4 := List.pairwise_iff_getElem.1 hs i (i + j) h3 h1 (by omega)
      rw [h2, e] at h4
      exact hhi l[i] (by rw [List.drop_eq_getElem_cons h3]; exact List.mem_cons_self ..) h4
/-- a key that is there stands at its place -/
theorem hasC_at {l : List Cel} {key : Bs} (hs : Rises l) (h : hasC l key = true) : posC l key < l.length ∧ ∃ v, l[(posC l key).toNat]? = some (key, v) := by
  obtain ⟨c, hc, he⟩ := List.any_eq_true.1 h
  have he := of_decide_eq_true he
  obtain ⟨j, hj⟩ := List.mem_iff_getElem?.1 hc
  obtain ⟨h1, h2⟩ := List.getElem?_eq_some_iff.1 hj
  have e : posC l key = j := posC_at (by omega) (fun a ha => by
    obtain ⟨m, hm⟩ := List.mem_iff_getElem?.1 ha
    rw [List.getElem?_take] at hm
    split at hm
    · obtain ⟨h3, h4⟩ := List.getElem?_eq_some_iff.1 hm
      have := List.pairwise_iff_getElem.1 hs m j h3 h1 (by assumption)
      rw [h4, h2, he] at this; exact this
    · cases hm) (fun a ha => by
    obtain ⟨m, hm⟩ := List.mem_iff_getElem?.1 ha
    rw [List.getElem?_drop] at hm
    obtain ⟨h3, h4⟩ := List.getElem?_eq_some_iff.1 hm
    rcases Nat.eq_zero_or_pos m with z | z
    · subst z; rw [Nat.add_zero, hj] at hm; cases hm; rw [he]; exact bs_irr _
    · have := List.pairwise_iff_getElem.1 hs j (j + m) h1 h3 (by omega)
      rw [h2, h4, he] at this
      exact fun g => bs_irr _ (bs_tr this g))
  rw [e]
  refine ⟨by omega, c.2, ?_⟩
  rw [show ((j : Int)).toNat = j by omega, hj, ← he]
/-! ### a key's value, and a page with another one -/
def getC : List Cel → Bs → Bool × Bs
  | [], _ => (false, [])
  | c :: t, key => if c.1 = key then (true, c.2) else getC t key
theorem getC_skip {l : List Cel} {key : Bs} {k : Nat} {c : Cel} {X : Bool × Bs} (h : X = getC (l.drop k) key) (hx : l[k]? = some c) (hc : ¬ c.1 = key) : X = getC (l.drop (k + 1)) key := by
  obtain ⟨h1, h2⟩ := List.getElem?_eq_some_iff.1 hx
  rw [h, List.drop_eq_getElem_cons h1, h2, getC, if_neg hc]
theorem getC_hit {l : List Cel} {key : Bs} {k : Nat} {c : Cel} {X : Bool × Bs} (h : X = getC (l.drop k) key) (hx : l[k]? = some c) (hc : c.1 = key) : X = (true, c.2) := by
  obtain ⟨h1, h2⟩ := List.getElem?_eq_some_iff.1 hx
  rw [h, List.drop_eq_getElem_cons h1, h2, getC, if_pos hc]
theorem getC_end {l : List Cel} {key : Bs} {k : Nat} {X : Bool × Bs} (h : X = getC (l.drop k) key) (hk : k = l.length) : X = (false, []) := by
  rw [h, hk, List.drop_length, getC]
/-- the cells, a key having that value, or none -/
def setC (l : List Cel) (key : Bs) (v : Bool × Bs) : List Cel :=
  if v.1 = true then (if hasC l key = true then l.set (posC l key).toNat (key, v.2) else insAt l (posC l key).toNat (key, v.2))
  else l.take (posC l key).toNat ++ l.drop ((posC l key).toNat + 1)
def setE (no gsn : Int) (l : List Cel) (key : Bs) (v : Bool × Bs) (g : Int) : Int :=
  if (pageR no gsn l && keyR key && valR v && decide (gsn < g ∧ g ≤ 4611686018427387903)) = true then
    (if v.1 = false ∧ hasC l key = false then 7 else if v.1 = true ∧ hasC l key = false ∧ 8 ≤ l.length then 4 else 0)
  else 1
end Go.Q
namespace Go.Q
theorem setE_bad {no gsn g : Int} {l : List Cel} {key : Bs} {v : Bool × Bs} (h : pageR no gsn l = false ∨ keyR key = false ∨ valR v = false ∨ g ≤ gsn ∨ 4611686018427387903 < g) : setE no gsn l key v g = 1 := by
  unfold setE
  rw [if_neg]
  intro e
  simp only [Bool.and_eq_true, decide_eq_true_eq] at e
  rcases h with h | h | h | h | h
  · rw [e.1.1.1] at h; cases h
  · rw [e.1.1.2] at h; cases h
  · rw [e.1.2] at h; cases h
  · omega
  · omega
theorem setE_ok {no gsn g : Int} {l : List Cel} {key : Bs} {v : Bool × Bs} (h1 : pageR no gsn l = true) (h2 : keyR key = true) (h3 : valR v = true) (h4 : ¬ g ≤ gsn) (h5 : ¬ 4611686018427387903 < g) :
    setE no gsn l key v g = if v.1 = false ∧ hasC l key = false then 7 else if v.1 = true ∧ hasC l key = false ∧ 8 ≤ l.length then 4 else 0 := by
  unfold setE
  rw [if_pos]
  simp only [Bool.and_eq_true, decide_eq_true_eq]
  exact ⟨⟨⟨h1, h2⟩, h3⟩, by omega⟩
theorem setE_one {no gsn g : Int} {l : List Cel} {key : Bs} {v : Bool × Bs} (h : setE no gsn l key v g ≠ 1) : pageR no gsn l = true ∧ keyR key = true ∧ valR v = true ∧ gsn < g ∧ g ≤ 4611686018427387903 := by
  unfold setE at h
  split at h
  · rename_i e
    simp only [Bool.and_eq_true, decide_eq_true_eq] at e
    exact ⟨e.1.1.1, e.1.1.2, e.1.2, e.2⟩
  · exact absurd rfl h
/-- the page that is told -/
def setNo (no gsn : Int) (l : List Cel) (key : Bs) (v : Bool × Bs) (g : Int) : Int := if setE no gsn l key v g = 0 then no else 0
def setG (no gsn : Int) (l : List Cel) (key : Bs) (v : Bool × Bs) (g : Int) : Int := if setE no gsn l key v g = 0 then g else 0
def setL (no gsn : Int) (l : List Cel) (key : Bs) (v : Bool × Bs) (g : Int) : List Cel := if setE no gsn l key v g = 0 then setC l key v else []
theorem pageR_iff {no gsn : Int} {l : List Cel} : pageR no gsn l = true ↔ (0 ≤ no ∧ no < 64 ∧ 0 ≤ gsn ∧ gsn ≤ 4611686018427387903) ∧ cellsR l = true := by
  unfold pageR; rw [Bool.and_eq_true, decide_eq_true_iff]
/-! ### as the document makes it -/
def putL (key s : Bs) : Bool → List Cel → List Cel
  | d, [] => if d = true then [] else [(key, s)]
  | d, c :: t => (if d = false ∧ ¬ c.1 < key then [(key, s)] else []) ++ ((if c.1 ≠ key then [c] else []) ++ putL key s (d || !decide (c.1 < key)) t)
theorem putL_step {key s : Bs} {d : Bool} {l out : List Cel} {k : Nat} {c : Cel} {X : List Cel} (h : X = out ++ putL key s d (l.drop k)) (hx : l[k]? = some c) :
    X = out ++ (if d = false ∧ ¬ c.1 < key then [(key, s)] else []) ++ (if c.1 ≠ key then [c] else []) ++ putL key s (d || !decide (c.1 < key)) (l.drop (k + 1)) := by
  obtain ⟨h1, h2⟩ := List.getElem?_eq_some_iff.1 hx
  rw [h, List.drop_eq_getElem_cons h1, h2, putL]
  simp only [List.append_assoc]
theorem putL_end {key s : Bs} {d : Bool} {l out : List Cel} {k : Nat} {X : List Cel} (h : X = out ++ putL key s d (l.drop k)) (hk : k = l.length) : X = out ++ (if d = true then [] else [(key, s)]) := by
  rw [h, hk, List.drop_length, putL]
theorem putL_true {key s : Bs} : ∀ {l : List Cel}, putL key s true l = l.filter fun c => decide (c.1 ≠ key)
  | [] => rfl
  | c :: t => by
    rw [putL, List.filter_cons, Bool.true_or, putL_true]
    by_cases h : c.1 = key <;> simp [h]
theorem rises_cons {c : Cel} {t : List Cel} (h : Rises (c :: t)) : (∀ a ∈ t, c.1 < a.1) ∧ Rises t := List.pairwise_cons.1 h
theorem pos_zero {key : Bs} {l : List Cel} (h : ∀ a ∈ l, ¬ a.1 < key) : posC l key = 0 := by
  unfold posC
  rw [List.filter_eq_nil_iff.2 (fun a ha => by simpa using h a ha)]; rfl
theorem pos_cons {key : Bs} {c : Cel} {t : List Cel} (h : c.1 < key) : (posC (c :: t) key).toNat = (posC t key).toNat + 1 := by
  unfold posC
  rw [List.filter_cons, if_pos (decide_eq_true h)]
  simp only [List.length_cons]; omega
theorem has_cons {key : Bs} {c : Cel} {t : List Cel} (h : c.1 ≠ key) : hasC (c :: t) key = hasC t key := by
  unfold hasC; rw [List.any_cons, decide_eq_false h, Bool.false_or]
theorem filter_same {key : Bs} {l : List Cel} (h : ∀ a ∈ l, key < a.1) : (l.filter fun c => decide (c.1 ≠ key)) = l := List.filter_eq_self.2 fun a ha => decide_eq_true fun e => by
  have := h a ha; rw [e] at this; exact bs_irr _ this
theorem has_none {key : Bs} {l : List Cel} (h : ∀ a ∈ l, key < a.1) : hasC l key = false := by
  unfold hasC; rw [List.any_eq_false]; intro a ha
  rw [decide_eq_true_iff]; intro e
  have := h a ha; rw [e] at this; exact bs_irr _ this
theorem put_true {key s : Bs} : ∀ {l : List Cel}, Rises l → putL key s false l = setC l key (true, s)
  | [], _ => by simp [putL, setC, hasC, posC, insAt]
  | c :: t, h => by
    obtain ⟨h1, h2⟩ := rises_cons h
    by_cases hlt : c.1 < key
    · have hne : c.1 ≠ key := fun e => by rw [e] at hlt; exact bs_irr _ hlt
      have ih := put_true (key := key) (s := s) h2
      rw [putL, if_neg (by simp [hlt]), if_pos hne, decide_eq_true hlt, List.nil_append, Bool.not_true, Bool.or_false, ih]
      unfold setC
      rw [if_pos rfl, if_pos rfl, has_cons hne, pos_cons hlt]
      split
      · rfl
      · simp [insAt]
    · rw [putL, if_pos ⟨rfl, hlt⟩, decide_eq_false hlt, Bool.not_false, Bool.or_true, putL_true]
      unfold setC
      rw [if_pos rfl]
      by_cases he : c.1 = key
      · have ht : ∀ a ∈ t, key < a.1 := fun a ha => by rw [← he]; exact h1 a ha
        rw [if_pos (show hasC (c :: t) key = true by unfold hasC; rw [List.any_cons, decide_eq_true he, Bool.true_or]), pos_zero (fun a ha => ?_), if_neg (by simp [he]), filter_same ht]
        · rfl
        · rcases List.mem_cons.1 ha with e | e
          · rw [e]; exact hlt
          · exact fun g => bs_irr _ (bs_tr g (ht a e))
      · have hgt : key < c.1 := by
          rcases List.le_iff_lt_or_eq.1 (List.not_lt.1 hlt) with e | e
          · exact e
          · exact absurd e.symm he
        have ht : ∀ a ∈ t, key < a.1 := fun a ha => bs_tr hgt (h1 a ha)
        rw [if_neg (show ¬ hasC (c :: t) key = true by rw [has_cons he, has_none ht]; simp), pos_zero (fun a ha => ?_), if_pos he, filter_same ht]
        · simp [insAt]
        · rcases List.mem_cons.1 ha with e | e
          · rw [e]; exact hlt
          · exact fun g => bs_irr _ (bs_tr g (ht a e))
theorem put_false {key s : Bs} : ∀ {l : List Cel}, Rises l → hasC l key = true → putL key s true l = setC l key (false, s)
  | [], _, hh => by simp [hasC] at hh
  | c :: t, h, hh => by
    obtain ⟨h1, h2⟩ := rises_cons h
    rw [putL_true]
    unfold setC
    rw [if_neg (by simp)]
    by_cases he : c.1 = key
    · have ht : ∀ a ∈ t, key < a.1 := fun a ha => by rw [← he]; exact h1 a ha
      rw [pos_zero (fun a ha => ?_), List.filter_cons, if_neg (by simp [he]), filter_same ht]
      · rfl
      · rcases List.mem_cons.1 ha with e | e
        · rw [e, he]; exact bs_irr _
        · exact fun g => bs_irr _ (bs_tr g (ht a e))
    · have hh2 : hasC t key = true := by rw [← has_cons he]; exact hh
      have hlt : c.1 < key := by
        obtain ⟨a, ha, hb⟩ := List.any_eq_true.1 hh2
        have := h1 a ha
        rw [of_decide_eq_true hb] at this; exact this
      have ih := put_false (key := key) (s := s) h2 hh2
      rw [putL_true] at ih
      unfold setC at ih
      rw [if_neg (by simp)] at ih
      rw [List.filter_cons, if_pos (decide_eq_true he), ih, pos_cons hlt]
      rfl
theorem getC_has : ∀ (l : List Cel) (key : Bs), (getC l key).1 = hasC l key
  | [], _ => rfl
  | c :: t, key => by
    rw [getC]
    by_cases h : c.1 = key
    · rw [if_pos h]; unfold hasC; rw [List.any_cons, decide_eq_true h]; rfl
    · rw [if_neg h, has_cons h]; exact getC_has t key
/-- the document's page, where it tells one -/
theorem put_eq {l : List Cel} {key : Bs} {v : Bool × Bs} (h : Rises l) (hh : v.1 = true ∨ hasC l key = true) : putL key v.2 (!v.1) l = setC l key v := by
  obtain ⟨a, s⟩ := v
  cases a with
  | true => exact put_true h
  | false => exact put_false h (hh.elim (fun e => by cases e) id)
end Go.Q
namespace Go.Q
theorem same_next {α : Type} {a b : List α} {k : Nat} {x y : α} (h : ∀ j, j < k → a[j]? = b[j]?) (hx : a[k]? = some x) (hy : b[k]? = some y) (e : x = y) : ∀ j, j < k + 1 → a[j]? = b[j]? := fun j hj => by
  rcases Nat.lt_or_ge j k with g | g
  · exact h j g
  · obtain rfl : j = k := by omega
    rw [hx, hy, e]
theorem same_all {α : Type} {a b : List α} {k : Nat} (h : ∀ j, j < k → a[j]? = b[j]?) (hk : k = a.length) (hl : a.length = b.length) : a = b := List.ext_getElem? fun j => by
  rcases Nat.lt_or_ge j k with g | g
  · exact h j g
  · rw [List.getElem?_eq_none (by omega), List.getElem?_eq_none (by omega)]
theorem same_not {α : Type} {a b : List α} {k : Nat} {x y : α} (hx : a[k]? = some x) (hy : b[k]? = some y) (e : x ≠ y) : a ≠ b := fun g => by
  subst g; rw [hx] at hy; cases hy; exact e rfl
theorem key_eq0 {k : Bs} (h : (k.length : Int) < 1 ∨ 8 < (k.length : Int)) : keyR k = false := by
  unfold keyR
  rw [Bool.and_eq_false_iff, decide_eq_false_iff_not, decide_eq_false_iff_not]
  rcases h with h | h
  · exact .inl (fun g => g (List.eq_nil_of_length_eq_zero (by omega)))
  · exact .inr (by omega)
theorem key_eq1 {k : Bs} (h : 1 ≤ (k.length : Int) ∧ (k.length : Int) ≤ 8) : keyR k = true := by
  unfold keyR
  rw [Bool.and_eq_true, decide_eq_true_iff, decide_eq_true_iff]
  exact ⟨fun g => by rw [g] at h; simp at h, h.2⟩
theorem key_eq2 {k : Bs} (h : 1 ≤ (k.length : Int)) : keyR k = decide ((k.length : Int) ≤ 8) := by
  by_cases g : (k.length : Int) ≤ 8
  · rw [key_eq1 ⟨h, g⟩, decide_eq_true g]
  · rw [key_eq0 (.inr (by omega)), decide_eq_false g]
theorem pageR_no {no gsn : Int} {l : List Cel} (h : ¬ (0 ≤ no ∧ no < 64 ∧ 0 ≤ gsn ∧ gsn ≤ 4611686018427387903) ∨ 8 < l.length) : pageR no gsn l = false := by
  cases e : pageR no gsn l with
  | false => rfl
  | true =>
    obtain ⟨h1, h2⟩ := pageR_iff.1 e
    have h3 := (cellsR_iff.1 h2).2.2
    rcases h with h | h
    · exact absurd h1 h
    · omega
theorem pageR_nc {no gsn : Int} {l : List Cel} (h : cellsR l = false) : pageR no gsn l = false := by unfold pageR; rw [h, Bool.and_false]
end Go.Q
namespace Go.Q
theorem great_next {l : List Cel} {k : Nat} {c : Cel} (h : ∀ c ∈ l.take k, c.1.length ≤ 100 ∧ c.2.length ≤ 100) (hx : l[k]? = some c) (hc : c.1.length ≤ 100 ∧ c.2.length ≤ 100) : ∀ c ∈ l.take (k + 1), c.1.length ≤ 100 ∧ c.2.length ≤ 100 := by
  rw [take_succ_of hx]
  intro a ha
  rcases List.mem_append.1 ha with e | e
  · exact h a e
  · rw [List.mem_singleton.1 e]; exact hc
end Go.Q
namespace Go.Q
/-- A row of one's own whose block bears a mark behind its last cell. -/
def OwnZ (e : TypeId) (v : Value) (n : Nat) (cs : List Value) (hs : List Hp) : Prop :=
  cs.length = n ∧ ∃ b cap cur, v = .slice (some ⟨b, 0, none⟩) n cap ∧ hs = [Hp.one b (.cells cur e (cur.size, cur.size + 1))] ∧ n ≤ cap ∧ cap ≤ 9223372036854775807 ∧ cur.size = cap ∧ cur.toList.take n = cs
def OwnAtZ (e : TypeId) (v : Value) (n : Nat) (cs : List Value) (hs : List Hp) (b : Nat) : Prop :=
  cs.length = n ∧ ∃ cap cur, v = .slice (some ⟨b, 0, none⟩) n cap ∧ hs = [Hp.one b (.cells cur e (cur.size, cur.size + 1))] ∧ n ≤ cap ∧ cap ≤ 9223372036854775807 ∧ cur.size = cap ∧ cur.toList.take n = cs
theorem OwnZ.sl {e : TypeId} {v : Value} {n : Nat} {cs : List Value} {hs : List Hp} (H : OwnZ e v n cs hs) : Sl hs 1 v n cs := by
  obtain ⟨hl, b, cap, cur, rfl, rfl, h1, h2, h3, h4⟩ := H
  refine ⟨_, _, rfl, h1, h2, by omega, fun _ => ⟨b, 0, rfl, CellsAt.one ?_⟩⟩
  rw [List.drop_zero, hl]; exact h4
theorem OwnZ.one {e : TypeId} {v : Value} {n : Nat} {cs : List Value} {hs : List Hp} (h : OwnZ e v n cs hs) : v.oneCell' = true := h.sl.one
/-- one cell of the front block, written; whatever mark the block bears -/
theorem Has.set1f {E w : World} {ss : List (List Hp)} {b off : Nat} {c : Array Value} {U : TypeId} {f : Nat × Nat} {v : Value} (hlt : off < c.size) (H : Has E w ([Hp.one b (.cells c U f)] :: ss)) :
    Has E (w.setCell ⟨b, off, none⟩ v) ([Hp.one b (.cells (c.setIfInBounds off v) U f)] :: ss) := by
  have hwb : w.heap[b]? = some (.cells c U f) := H.at (h := Hp.one b (.cells c U f)) (by simp) (Hp.one_at _ _)
  refine Has0.write (an := [Hp.one b (.cells c U f)]) (an' := [Hp.one b (.cells (c.setIfInBounds off v) U f)]) (hs := ss.flatten) H rfl rfl rfl (by simp) ?_ ?_ ?_
  · intro k hk
    have hk := hk _ (List.mem_singleton.2 rfl)
    refine .inl fun h hh => ?_
    rw [List.mem_singleton.1 hh]
    unfold Hp.one at hk ⊢
    split at hk
    · cases hk
    · rw [if_neg (by assumption)]
  · intro h hh k o hk
    rw [List.mem_singleton.1 hh] at hk
    obtain ⟨rfl, rfl⟩ := Hp.one_some hk
    simp only [World.setCell, Array.getElem?_modify]
    simp [hwb]
  · intro k _ hk
    have hk := hk _ (List.mem_singleton.2 rfl)
    have : k ≠ b := by rintro rfl; rw [Hp.one_at] at hk; cases hk
    simp only [World.setCell, Array.getElem?_modify]
    rw [if_neg (by omega)]
theorem xor8 (c d : UInt8) : IntKind.wrap .u8 ((BitVec.ofInt 8 (c.toNat : Int) ^^^ BitVec.ofInt 8 (d.toNat : Int)).toNat : Int) = ((c ^^^ d).toNat : Int) := by
  have e : ∀ x : UInt8, BitVec.ofInt 8 (x.toNat : Int) = x.toBitVec := fun x => by rw [BitVec.ofInt_natCast]; simp
  rw [e, e, UInt8.toNat_xor, BitVec.toNat_xor]
  simp only [IntKind.wrap, IntKind.bits, IntKind.signed]
  simp
  have h1 := c.toNat_lt; have h2 := d.toNat_lt
  have := Nat.xor_lt_two_pow (n := 8) h1 h2
  omega
theorem shl8 (n : Nat) (h : n < 8) : IntKind.wrap .u8 (1 * 2 ^ (min ((n : Int)).toNat (IntKind.bits .u8))) = ((UInt8.ofNat (2 ^ n)).toNat : Int) := by
  have : ∀ k : Nat, k < 8 → IntKind.wrap .u8 (1 * 2 ^ (min ((k : Nat) : Int).toNat (IntKind.bits .u8))) = ((UInt8.ofNat (2 ^ k)).toNat : Int) := by decide
  exact this n h
section ops
variable {P : Program} {ρ : Operand → Value} {E w : World} {ss : List (List Hp)} {K : Value → World → Prop} {dst : Option Tmp} {T : TypeId} {pos : String} {after : Array Edge} {g : Option (Nat × Bool)}
theorem o_strb {s e t : TypeId} {x : Operand} {l : List UInt8} (hs : P.underlying s = some .string) (hd : P.underlying t = some (.slice e)) (he : P.underlying e = some (.int .u8)) (hx : ρ x = S l) (hl : l.length ≤ 9223372036854775807) (H : Has E w ss)
    (hK : ∀ v' hs' w', OwnZ e v' l.length (l.map bV) hs' → Has E w' (hs' :: ss) → K v' w') : OK P ⟨dst, .convert s t x, T, pos, after, g⟩ ρ w K := by
  have hr := run_bytes_of_string (P := P) w s t e ⟨l.toArray⟩ hs hd he
  have g1 := grownCap_ge w (ByteArray.size ⟨l.toArray⟩) 0 e
  have g2 := grownCap_le_maxLen w (ByteArray.size ⟨l.toArray⟩) 0 e (by rw [bytes_size, show maxLen = 9223372036854775807 from rfl]; exact hl)
  generalize grownCap w (ByteArray.size ⟨l.toArray⟩) 0 e = cap at hr g1 g2
  rw [bytes_size] at hr g1
  rw [show maxLen = 9223372036854775807 from rfl] at g2
  have c1 : (bytesRow ⟨l.toArray⟩ cap).size = cap := by simp [bytesRow, bytes_size]; omega
  have c2 : (bytesRow ⟨l.toArray⟩ cap).toList.take l.length = l.map bV := by simp [bytesRow]; intro a _; rfl
  generalize bytesRow ⟨l.toArray⟩ cap = C at hr c1 c2
  exact OK.val (run_v (by rw [hx]; exact hr)) (hK _ [Hp.one w.heap.size (.cells C e (C.size, C.size + 1))] _ ⟨by simp, w.heap.size, cap, C, rfl, rfl, g1, g2, c1, c2⟩ ((H.drew (w.drawn + 1)).alloc _))
theorem o_ownAddrZ {x y : Operand} {t e : TypeId} {hs : List Hp} {n by_ : Nat} {v z : Value} {cs : List Value} {k : IntKind} {i : Int} (ht : P.underlying t = some (.slice e)) (hi : TI P e z 1 by_)
    (hx : ρ x = v) (ho : OwnZ e v n cs hs) (hy : ρ y = .int k i) (h0 : 0 ≤ i) (h1 : i < n) (hK : ∀ b, OwnAtZ e v n cs hs b → K (.pointer (some ⟨b, i.toNat, none⟩)) w) :
    OK P ⟨dst, .indexAddr t x y, T, pos, after, g⟩ ρ w K := by
  obtain ⟨hl, b, cap, cur, rfl, rfl, h2, h3, h4, h5⟩ := ho
  refine OK.val (run_v (v := .pointer (some ⟨b, i.toNat, none⟩)) ?_) (hK b ⟨hl, cap, cur, rfl, rfl, h2, h3, h4, h5⟩)
  rw [hx, hy]
  simp [Instr.indexAt, asIntOf, run_underlying ht, h0, h1, hi.size, add_lit]
theorem o_ownStoreZ {α : Type} {f : α → Value} {l : List α} {a : α} {x y : Operand} {t e : TypeId} {hs : List Hp} {n i b by_ : Nat} {v z : Value} (hi : TI P t z 1 by_) (hx : ρ x = .pointer (some ⟨b, i, none⟩)) (hy : ρ y = f a)
    (hv : (f a).oneCell' = true) (ho : OwnAtZ e v n (l.map f) hs b) (hlt : i < n) (H : Has E w (hs :: ss)) (hK : ∀ hs' w', OwnZ e v (l.set i a).length ((l.set i a).map f) hs' → Has E w' (hs' :: ss) → K undef w') :
    OK P ⟨dst, .store t x y, T, pos, after, g⟩ ρ w K := by
  obtain ⟨hl, cap, cur, rfl, rfl, h2, h3, h4, h5⟩ := ho
  have hln : (l.set i a).length = n := by simpa using hl
  have hwb : w.heap[b]? = some (.cells cur e (cur.size, cur.size + 1)) := H.at (h := Hp.one b (.cells cur e (cur.size, cur.size + 1))) (by simp) (Hp.one_at _ _)
  have hlt2 : i < cur.size := by omega
  have hcell : w.cell? ⟨b, i, none⟩ = some cur[i] := by rw [cell_of_row w b i cur e _ hwb]; simp [hlt2]
  have hfz : w.frozen? ⟨b, i, none⟩ = false := by simp [World.frozen?, hwb]; omega
  have hcl : (f a).cells = #[f a] := by cases h : f a <;> first | rfl | (rw [h] at hv; simp [Value.oneCell'] at hv)
  refine OK.skip (w' := w.setCell ⟨b, i, none⟩ (f a)) (run_u ?_) (hK [Hp.one b (.cells (cur.setIfInBounds i (f a)) e (cur.size, cur.size + 1))] _ ?_ (H.set1f hlt2))
  · rw [hx, hy]
    simp only [Instr.storeAt, Instr.sureAddr, Sem.run_bind, Sem.run_pure, Result.andThen_ok, storeVar, hi.size, hcl]
    simp [storeCells, add_lit, run_store P w ⟨b, i, none⟩ (f a) .plain hv, hcell, hfz]
  · rw [hln]
    refine ⟨by simpa using hl, b, cap, _, rfl, by rw [Array.size_setIfInBounds], h2, h3, by simpa using h4, ?_⟩
    rw [Array.toList_setIfInBounds, List.take_set, h5, List.map_set]
end ops
end Go.Q
namespace Go.Q
def bit1 (x : Bool) : BitVec 32 := if x then 1#32 else 0#32
def feed (r : BitVec 32) : List Bool → BitVec 32
  | [] => r
  | x :: X => feed (cb (r ^^^ bit1 x)) X
def word : List Bool → BitVec 32
  | [] => 0#32
  | x :: X => bit1 x ^^^ (word X <<< 1)
theorem feed_append : ∀ (A B : List Bool) (r : BitVec 32), feed r (A ++ B) = feed (feed r A) B
  | [], _, _ => rfl
  | x :: A, B, r => by rw [List.cons_append, feed, feed, feed_append A B]
theorem bit1_get (x : Bool) (i : Nat) : (bit1 x).getLsbD i = (decide (i = 0) && x) := by
  cases x
  · simp [bit1]
  · show (1#32).getLsbD i = _
    rw [BitVec.getLsbD_one]; simp
theorem word_get : ∀ (X : List Bool) (i : Nat), i < 32 → (word X).getLsbD i = X.getD i false
  | [], i, _ => by simp [word]
  | x :: X, 0, _ => by rw [word, BitVec.getLsbD_xor, bit1_get, BitVec.getLsbD_shiftLeft]; simp
  | x :: X, i + 1, h => by
    rw [word, BitVec.getLsbD_xor, bit1_get, BitVec.getLsbD_shiftLeft]
    have := word_get X i (by omega)
    simp [this]
    omega
theorem shl_shr {x : BitVec 32} (h : x.getLsbD 31 = false) : (x <<< 1) >>> 1 = x := by
  apply BitVec.eq_of_getLsbD_eq
  intro i hi
  rw [BitVec.getLsbD_ushiftRight, BitVec.getLsbD_shiftLeft]
  by_cases g : i = 31
  · subst g; rw [h]; simp
  · have e : 1 + i - 1 = i := by omega
    rw [e, decide_eq_true (show 1 + i < 32 by omega)]; simp
theorem cb_shl {x : BitVec 32} (h : x.getLsbD 31 = false) : cb (x <<< 1) = x := by
  rw [cb_even (by rw [BitVec.getLsbD_shiftLeft]; simp), shl_shr h]
theorem feed_word : ∀ (X : List Bool) (r : BitVec 32), X.length ≤ 32 → feed r X = cbs X.length (r ^^^ word X)
  | [], r, _ => by show r = r ^^^ 0#32; rw [BitVec.xor_zero]
  | x :: X, r, h => by
    have hl : X.length ≤ 31 := by simpa using h
    have h0 : (word X).getLsbD 31 = false := by
      rw [word_get X 31 (by omega), List.getD_eq_getElem?_getD, List.getElem?_eq_none hl]; rfl
    rw [feed, feed_word X _ (by omega), List.length_cons, cbs, word, ← BitVec.xor_assoc, cb_xor (r ^^^ bit1 x), cb_shl h0]
theorem cbs_inj {n : Nat} {a b : BitVec 32} (h : cbs n a = cbs n b) : a = b := by
  have h1 : cbs n (a ^^^ b) = 0#32 := by rw [cbs_xor, h, BitVec.xor_self]
  have h2 := cbs_inj0 n h1
  have h3 : a ^^^ b ^^^ b = b := by rw [h2, BitVec.zero_xor]
  rw [BitVec.xor_assoc, BitVec.xor_self, BitVec.xor_zero] at h3
  exact h3
theorem xor_can {a b c : BitVec 32} (h : a ^^^ b = a ^^^ c) : b = c := by
  have := congrArg (fun x => a ^^^ x) h
  simpa [← BitVec.xor_assoc, BitVec.xor_self] using this
theorem word_inj {X Y : List Bool} (hl : X.length = Y.length) (h32 : X.length ≤ 32) (h : word X = word Y) : X = Y := by
  refine List.ext_getElem hl fun i h1 h2 => ?_
  have a := word_get X i (by omega)
  have b := word_get Y i (by omega)
  rw [h, b] at a
  simpa [List.getD_eq_getElem?_getD, h1, h2] using a.symm
theorem feed_inj : ∀ (Q : List Bool) {r r' : BitVec 32}, feed r Q = feed r' Q → r = r'
  | [], _, _, h => h
  | x :: Q, r, r', h => by
    have h1 := feed_inj Q h
    have h2 : r ^^^ bit1 x = r' ^^^ bit1 x := cbs_inj (n := 1) h1
    rw [BitVec.xor_comm r, BitVec.xor_comm r'] at h2
    exact xor_can h2
theorem burst {A B : List Bool} {a : Nat} (hl : A.length = B.length) (hw : ∀ p, p < a ∨ a + 32 ≤ p → A[p]? = B[p]?) (r : BitVec 32) (h : feed r A = feed r B) : A = B := by
  have e1 : A.take a = B.take a := List.ext_getElem? fun i => by
    rw [List.getElem?_take, List.getElem?_take]
    split
    · exact hw i (.inl (by assumption))
    · rfl
  have e3 : A.drop (a + 32) = B.drop (a + 32) := List.ext_getElem? fun i => by
    rw [List.getElem?_drop, List.getElem?_drop]; exact hw _ (.inr (by omega))
  have sp : ∀ X : List Bool, X = X.take a ++ ((X.drop a).take 32 ++ X.drop (a + 32)) := fun X => by
    rw [← List.drop_drop, List.take_append_drop, List.take_append_drop]
  rw [sp A, sp B, e1, e3, feed_append, feed_append, feed_append, feed_append] at h
  have h2 := feed_inj _ h
  have lA : ((A.drop a).take 32).length ≤ 32 := by rw [List.length_take]; omega
  have lB : ((B.drop a).take 32).length ≤ 32 := by rw [List.length_take]; omega
  have ll : ((A.drop a).take 32).length = ((B.drop a).take 32).length := by simp [hl]
  rw [feed_word _ _ lA, feed_word _ _ lB, ll] at h2
  have h3 := word_inj ll lA (xor_can (cbs_inj h2))
  rw [sp A, sp B, e1, e3, h3]
/-- the bits of a byte, the lowest first; of bytes -/
def bits8 (b : UInt8) : List Bool := (List.range 8).map b.toNat.testBit
def bitsOf (s : List UInt8) : List Bool := s.flatMap bits8
theorem bits8_len (b : UInt8) : (bits8 b).length = 8 := rfl
theorem bits_len (s : List UInt8) : (bitsOf s).length = s.length * 8 := by
  induction s with
  | nil => rfl
  | cons b s ih => unfold bitsOf at *; rw [List.flatMap_cons, List.length_append, ih, bits8_len, List.length_cons]; omega
theorem bits8_get (b : UInt8) (i : Nat) : (bits8 b)[i]? = if i < 8 then some (b.toNat.testBit i) else none := by
  by_cases h : i < 8
  · rw [if_pos h]; unfold bits8; rw [List.getElem?_map, List.getElem?_range h]; rfl
  · rw [if_neg h]; exact List.getElem?_eq_none (by rw [bits8_len]; omega)
theorem bits_get : ∀ (s : List UInt8) (p : Nat), (bitsOf s)[p]? = (s[p / 8]?).map fun b => b.toNat.testBit (p % 8)
  | [], p => rfl
  | b :: s, p => by
    unfold bitsOf
    rw [List.flatMap_cons]
    by_cases h : p < 8
    · rw [List.getElem?_append_left (by rw [bits8_len]; exact h), bits8_get, if_pos h, Nat.div_eq_of_lt h, Nat.mod_eq_of_lt h]; rfl
    · rw [List.getElem?_append_right (by rw [bits8_len]; omega), bits8_len]
      have := bits_get s (p - 8)
      unfold bitsOf at this
      rw [this, show p / 8 = (p - 8) / 8 + 1 by omega, List.getElem?_cons_succ, show (p - 8) % 8 = p % 8 by omega]
theorem byte_ext {a b : UInt8} (h : ∀ i, i < 8 → a.toNat.testBit i = b.toNat.testBit i) : a = b := by
  apply UInt8.toNat_inj.1
  apply Nat.eq_of_testBit_eq
  intro i
  by_cases hi : i < 8
  · exact h i hi
  · have ha : a.toNat < 2 ^ i := Nat.lt_of_lt_of_le a.toNat_lt (Nat.pow_le_pow_right (by decide) (by omega))
    have hb : b.toNat < 2 ^ i := Nat.lt_of_lt_of_le b.toNat_lt (Nat.pow_le_pow_right (by decide) (by omega))
    rw [Nat.testBit_lt_two_pow ha, Nat.testBit_lt_two_pow hb]
theorem bits_inj {s t : List UInt8} (hl : s.length = t.length) (h : bitsOf s = bitsOf t) : s = t := by
  refine List.ext_getElem hl fun i h1 h2 => byte_ext fun j hj => ?_
  have a := bits_get s (i * 8 + j)
  have b := bits_get t (i * 8 + j)
  rw [h, b] at a
  rw [show (i * 8 + j) / 8 = i by omega, show (i * 8 + j) % 8 = j by omega, List.getElem?_eq_getElem h1, List.getElem?_eq_getElem h2] at a
  simpa using a.symm
theorem word_bits8 (b : UInt8) : word (bits8 b) = b32 b := by
  apply BitVec.eq_of_getLsbD_eq
  intro i hi
  rw [word_get _ i hi, List.getD_eq_getElem?_getD, bits8_get]
  unfold b32
  rw [BitVec.getLsbD_ofNat, decide_eq_true hi, Bool.true_and]
  split
  · rfl
  · have hb : b.toNat < 2 ^ i := Nat.lt_of_lt_of_le b.toNat_lt (Nat.pow_le_pow_right (by decide) (by omega))
    rw [Nat.testBit_lt_two_pow hb]; rfl
theorem crc_feed : ∀ (s : List UInt8) (r : BitVec 32), crcF r s = feed r (bitsOf s)
  | [], _ => rfl
  | b :: s, r => by
    have e : bitsOf (b :: s) = bits8 b ++ bitsOf s := by unfold bitsOf; rw [List.flatMap_cons]
    rw [e, feed_append, feed_word (bits8 b) _ (by rw [bits8_len]; omega), bits8_len, word_bits8, ← crc_feed s]
    rfl
/-- A burst turns the sum where it turns something. -/
theorem crc_burst {s t : List UInt8} {a : Nat} (hl : t.length = s.length) (hw : ∀ p, p < a ∨ a + 32 ≤ p → (bitsOf t)[p]? = (bitsOf s)[p]?) (r : BitVec 32) (h : crcF r t = crcF r s) : t = s := by
  rw [crc_feed, crc_feed] at h
  exact bits_inj hl (burst (by rw [bits_len, bits_len, hl]) hw r h)
theorem not_inj {a b : BitVec 32} (h : ~~~ a = ~~~ b) : a = b := by
  have := congrArg (fun x => ~~~ x) h
  simpa using this
theorem sum_burst {s t : List UInt8} {a : Nat} (hl : t.length = s.length) (hw : ∀ p, p < a ∨ a + 32 ≤ p → (bitsOf t)[p]? = (bitsOf s)[p]?) : decide (t = s) = decide (((crcS t).toNat : Int) = ((crcS s).toNat : Int)) := by
  by_cases h : t = s
  · subst h; simp
  · rw [decide_eq_false h]
    symm
    apply decide_eq_false
    intro g
    have g2 : crcS t = crcS s := BitVec.eq_of_toNat_eq (by omega)
    exact h (crc_burst hl hw _ (not_inj g2))
/-- four bytes that are a sum -/
theorem lo8_get (x : BitVec 32) (i : Nat) (h : i < 8) : (lo8 x).toNat.testBit i = x.getLsbD i := by
  unfold lo8
  rw [UInt8.toNat_ofNat', Nat.testBit_mod_two_pow, decide_eq_true h, Bool.true_and]; rfl
theorem bits_laid (x : BitVec 32) : bitsOf (laidS x) = (List.range 32).map x.getLsbD := by
  refine List.ext_getElem? fun p => ?_
  rw [bits_get]
  by_cases h : p < 32
  · rw [List.getElem?_map, List.getElem?_range h]
    have h4 : p / 8 < 4 := by omega
    have key : ∀ k, k < 4 → (laidS x)[k]? = some (lo8 (x >>> (8 * k))) := by
      intro k hk
      rcases k with _ | _ | _ | _ | k
      · simp [laidS]
      · rfl
      · rfl
      · rfl
      · omega
    rw [key _ h4, Option.map_some, Option.map_some, lo8_get _ _ (by omega), BitVec.getLsbD_ushiftRight, show 8 * (p / 8) + p % 8 = p by omega]
  · rw [List.getElem?_eq_none (by rw [laidS_len]; omega), List.getElem?_eq_none (by simp; omega)]; rfl
theorem word_laid (x : BitVec 32) : word (bitsOf (laidS x)) = x := by
  apply BitVec.eq_of_getLsbD_eq
  intro i hi
  rw [word_get _ i hi, bits_laid, List.getD_eq_getElem?_getD, List.getElem?_map, List.getElem?_range hi]; rfl
theorem crc_four {v : List UInt8} (h : v.length = 4) (r : BitVec 32) : crcF r v = cbs 32 (r ^^^ word (bitsOf v)) := by
  have hl : (bitsOf v).length = 32 := by rw [bits_len, h]
  rw [crc_feed, feed_word _ _ (by omega), hl]
theorem laid_word {v : List UInt8} (h : v.length = 4) (x : BitVec 32) : laidS x = v ↔ word (bitsOf v) = x := by
  constructor
  · intro e; rw [← e, word_laid]
  · intro e
    refine bits_inj (by rw [laidS_len, h]) ?_
    refine word_inj (by rw [bits_len, bits_len, laidS_len, h]) (by rw [bits_len, laidS_len]; omega) ?_
    rw [word_laid, e]
/-- what is left of a sealed text -/
theorem seal_state {u v : List UInt8} (h : v.length = 4) : laidS (crcS u) = v ↔ crcF (0xffffffff#32) (u ++ v) = cbs 32 (0xffffffff#32) := by
  rw [laid_word h, crcF_append, crc_four h]
  unfold crcS
  constructor
  · intro e
    rw [e]; congr 1
    generalize crcF (0xffffffff#32) u = r
    apply BitVec.eq_of_getLsbD_eq
    intro i hi
    have : ∀ j, j < 32 → (0xffffffff#32).getLsbD j = true := by decide
    rw [this i hi, BitVec.getLsbD_xor, BitVec.getLsbD_not, decide_eq_true hi]
    cases r.getLsbD i <;> rfl
  · intro e
    have e2 := cbs_inj e
    generalize crcF (0xffffffff#32) u = r at e2 ⊢
    apply BitVec.eq_of_getLsbD_eq
    intro i hi
    have e3 := congrArg (fun x : BitVec 32 => x.getLsbD i) e2
    have : ∀ j, j < 32 → (0xffffffff#32).getLsbD j = true := by decide
    simp only [BitVec.getLsbD_xor, this i hi] at e3
    rw [BitVec.getLsbD_not, decide_eq_true hi]
    revert e3
    cases r.getLsbD i <;> cases (word (bitsOf v)).getLsbD i <;> simp
theorem open_state {g : List UInt8} (h : 4 ≤ g.length) : (openS g).2 = true ↔ crcF (0xffffffff#32) g = cbs 32 (0xffffffff#32) := by
  have hv : (g.drop ((g.length : Int) - 4).toNat).length = 4 := by rw [List.length_drop]; omega
  have hs := seal_state (u := g.take ((g.length : Int) - 4).toNat) hv
  rw [List.take_append_drop] at hs
  rw [← hs]
  unfold openS
  split
  · rename_i h2; exact ⟨fun _ => h2.2, fun _ => rfl⟩
  · rename_i h2; exact ⟨fun e => (by cases e), fun e => absurd ⟨h, e⟩ h2⟩
theorem open_burst {f g : List UInt8} {a : Nat} (hf : (openS f).2 = true) (h4 : 4 ≤ f.length) (hl : g.length = f.length) (hw : ∀ p, p < a ∨ a + 32 ≤ p → (bitsOf g)[p]? = (bitsOf f)[p]?) : (openS g).2 = decide (g = f) := by
  by_cases h : g = f
  · subst h; rw [hf]; simp
  · rw [decide_eq_false h]
    cases e : (openS g).2 with
    | false => rfl
    | true =>
      have h1 := (open_state (by omega)).1 e
      rw [← (open_state h4).1 hf] at h1
      exact absurd (crc_burst hl hw _ h1) h
/-- one bit of a byte turned -/
def pow8 (n : Nat) : UInt8 := UInt8.ofNat (2 ^ n)
theorem shl8z {z : Int} (h0 : 0 ≤ z) (h : z < 8) : IntKind.wrap .u8 (1 * 2 ^ (min z.toNat (IntKind.bits .u8))) = ((pow8 z.toNat).toNat : Int) := by
  obtain ⟨n, rfl⟩ : ∃ n : Nat, z = n := ⟨z.toNat, by omega⟩
  exact shl8 n (by omega)
theorem turn_step {s lc : List UInt8} {a q : Nat} {c : UInt8} (hl : lc.length = s.length) (hw : ∀ p, p < a ∨ a + 32 ≤ p → (bitsOf lc)[p]? = (bitsOf s)[p]?) (hq : a ≤ q ∧ q < a + 32) (hc : lc[q / 8]? = some c) :
    (lc.set (q / 8) (c ^^^ pow8 (q % 8))).length = s.length ∧ ∀ p, p < a ∨ a + 32 ≤ p → (bitsOf (lc.set (q / 8) (c ^^^ pow8 (q % 8))))[p]? = (bitsOf s)[p]? := by
  refine ⟨by rw [List.length_set, hl], fun p hp => ?_⟩
  rw [← hw p hp, bits_get, bits_get]
  by_cases h : p / 8 = q / 8
  · have hlt := (List.getElem?_eq_some_iff.1 hc).1
    rw [h, List.getElem?_set_self hlt, hc, Option.map_some, Option.map_some]
    congr 1
    have hm : p % 8 ≠ q % 8 := by omega
    rw [UInt8.toNat_xor, Nat.testBit_xor]
    have : (pow8 (q % 8)).toNat.testBit (p % 8) = false := by
      unfold pow8
      have h2 : 2 ^ (q % 8) < 256 := Nat.lt_of_le_of_lt (Nat.pow_le_pow_right (by decide) (show q % 8 ≤ 7 by omega)) (by decide)
      rw [UInt8.toNat_ofNat', Nat.mod_eq_of_lt h2, Nat.testBit_two_pow]
      exact decide_eq_false (by omega)
    rw [this, Bool.xor_false]
  · rw [List.getElem?_set_ne (fun e => h e.symm)]
/-- the lists are alike but for a window of 32 bits -/
def Win (a : Nat) (t s : List UInt8) : Prop := t.length = s.length ∧ ∀ p, p < a ∨ a + 32 ≤ p → (bitsOf t)[p]? = (bitsOf s)[p]?
theorem Win.refl (a : Nat) (s : List UInt8) : Win a s s := ⟨rfl, fun _ _ => rfl⟩
theorem Win.step {a i : Nat} {t s : List UInt8} {c : UInt8} (h : Win a t s) (hi : i < 32) (hc : t[(((a : Int) + (i : Int)) / 8).toNat]? = some c) :
    Win a (t.set (((a : Int) + (i : Int)) / 8).toNat (c ^^^ pow8 (((a : Int) + (i : Int)) % 8).toNat)) s := by
  have e1 : (((a : Int) + (i : Int)) / 8).toNat = (a + i) / 8 := by omega
  have e2 : (((a : Int) + (i : Int)) % 8).toNat = (a + i) % 8 := by omega
  rw [e1] at hc ⊢
  rw [e2]
  exact turn_step h.1 h.2 (by omega) hc
end Go.Q
namespace Go.Q
theorem two_pow8 (j : Nat) : ((2 : Int) ^ (8 * j)) = ((256 ^ j : Nat) : Int) := by
  induction j with
  | zero => rfl
  | succ j ih => rw [Nat.mul_succ, Int.pow_add, ih, Nat.pow_succ, Int.natCast_mul]; rfl
theorem by8_nat (m : Nat) (j : Nat) : (by8 ((m : Int) / 2 ^ (8 * j))).toNat = m / 256 ^ j % 256 := by
  unfold by8
  rw [UInt8.toNat_ofNat', two_pow8, ← Int.natCast_ediv]
  omega
theorem fold_be (m : Nat) : ∀ (j : Nat) (acc : Int), (beFrom (m : Int) j).foldl (fun n b => n * 256 + (b.toNat : Int)) acc = acc * ((256 ^ j : Nat) : Int) + ((m % 256 ^ j : Nat) : Int)
  | 0, acc => by simp [beFrom, Nat.mod_one]
  | j + 1, acc => by
    rw [show beFrom (m : Int) (j + 1) = by8 ((m : Int) / 2 ^ (8 * j)) :: beFrom (m : Int) j from rfl, List.foldl_cons, fold_be m j, by8_nat, Nat.pow_succ, Nat.mod_mul, Int.add_mul, Int.mul_assoc, Int.natCast_mul, Int.natCast_add, Int.natCast_mul, Int.mul_comm 256, Int.mul_comm ((m / 256 ^ j % 256 : Nat) : Int), show ((256 : Nat) : Int) = 256 from rfl]
    omega
theorem beVal_be (m j : Nat) (h : m < 256 ^ j) : beVal (beFrom (m : Int) j) = m := by
  rw [beVal, fold_be, Nat.mod_eq_of_lt h]; omega
/-- a number that fits is below the power -/
theorem fits_nat {n : Int} {k : Nat} (h : fitsS n k = true) (h1 : 1 ≤ k) (h8 : k ≤ 8) (hn : n ≤ 9223372036854775807) : ∃ m : Nat, n = m ∧ m < 256 ^ k ∧ m ≤ 9223372036854775807 := by
  simp only [fitsS, Bool.and_eq_true, Bool.or_eq_true, decide_eq_true_eq] at h
  obtain ⟨h0, h2⟩ := h
  refine ⟨n.toNat, by omega, ?_, by omega⟩
  rcases h2 with h2 | h2
  · obtain rfl : k = 8 := by omega
    omega
  · rw [show (min (8 * (k : Int)).toNat 64) = 8 * k from by omega, two_pow8, Int.fdiv_eq_ediv_of_nonneg _ (Int.natCast_nonneg _), show n = ((n.toNat : Nat) : Int) from by omega, ← Int.natCast_ediv] at h2
    have h3 : n.toNat / 256 ^ k = 0 := by omega
    exact (Nat.div_eq_zero_iff.1 h3).resolve_left (Nat.pos_iff_ne_zero.1 (Nat.pow_pos (by omega)))
theorem be_first {m : Nat} (h : m ≤ 9223372036854775807) : ∀ c, (beFrom (m : Int) 8)[0]? = some c → c.toNat ≤ 127 := by
  intro c hc
  rw [show beFrom (m : Int) 8 = by8 ((m : Int) / 2 ^ (8 * 7)) :: beFrom (m : Int) 7 from rfl] at hc
  have : c = by8 ((m : Int) / 2 ^ (8 * 7)) := by simpa using hc.symm
  subst this
  rw [by8_nat]
  omega
theorem put_one_fits {n : Int} {k : Nat} (h1 : 1 ≤ k) (h8 : k ≤ 8) (h : fitsS n k = true) : putS k [n] = beFrom n k := by
  rw [putS_yes h1 h8 (by simpa using h)]; simp
theorem put_one_no {n : Int} {k : Nat} (h1 : 1 ≤ k) (h8 : k ≤ 8) (h : putS k [n] = []) : fitsS n k = false := by
  cases hf : fitsS n k with
  | false => rfl
  | true =>
    rw [put_one_fits h1 h8 hf] at h
    have := congrArg List.length h
    rw [beFrom_length] at this
    simp at this; omega
theorem put_one_yes {n : Int} {k : Nat} (h1 : 1 ≤ k) (h8 : k ≤ 8) (h : putS k [n] ≠ []) : fitsS n k = true := by
  cases hf : fitsS n k with
  | true => rfl
  | false => exact absurd (putS_no (List.mem_singleton.2 rfl) hf) h
theorem back_law {n : Int} {k : Nat} {more : List UInt8} (h1 : 1 ≤ k) (h8 : k ≤ 8) (hn : n ≤ 9223372036854775807) (h : putS k [n] ≠ []) : takeS (putS k [n] ++ more) k = (n, more, true) := by
  have hf := put_one_yes h1 h8 h
  obtain ⟨m, rfl, hm, hm2⟩ := fits_nat hf h1 h8 hn
  rw [put_one_fits h1 h8 hf, takeS_yes h1 h8 (by rw [List.length_append, beFrom_length]; omega) ?_]
  · rw [List.take_left' (beFrom_length _ _), List.drop_left' (beFrom_length _ _), beVal_be m k hm]
  · rcases Nat.lt_or_ge k 8 with g | g
    · exact .inl (by omega)
    · obtain rfl : k = 8 := by omega
      refine .inr fun c hc => be_first hm2 c ?_
      rw [List.getElem?_append_left (by rw [beFrom_length]; omega)] at hc
      exact hc
theorem div_mod_pow (x j : Nat) : x / 256 ^ j % 256 = x % 256 ^ (j + 1) / 256 ^ j := by rw [Nat.pow_succ, Nat.mod_mul_right_div_self]
theorem be_mod (x k : Nat) : ∀ j, j ≤ k → beFrom (x : Int) j = beFrom ((x % 256 ^ k : Nat) : Int) j
  | 0, _ => rfl
  | j + 1, h => by
    show by8 ((x : Int) / 2 ^ (8 * j)) :: beFrom (x : Int) j = by8 (((x % 256 ^ k : Nat) : Int) / 2 ^ (8 * j)) :: beFrom ((x % 256 ^ k : Nat) : Int) j
    rw [be_mod x k j (by omega)]
    congr 1
    rw [← UInt8.toNat_inj, by8_nat, by8_nat, div_mod_pow, div_mod_pow, Nat.mod_mod_of_dvd _ (Nat.pow_dvd_pow 256 h)]
theorem be_less : ∀ (k a b : Nat), a < 256 ^ k → b < 256 ^ k → Op.bytesLess (beFrom (a : Int) k) (beFrom (b : Int) k) = decide (a < b)
  | 0, a, b, ha, hb => by simp at ha hb; subst ha hb; rfl
  | k + 1, a, b, ha, hb => by
    have hp : 0 < 256 ^ k := Nat.pow_pos (by omega)
    show (by8 ((a : Int) / 2 ^ (8 * k)) < by8 ((b : Int) / 2 ^ (8 * k)) || (by8 ((a : Int) / 2 ^ (8 * k)) == by8 ((b : Int) / 2 ^ (8 * k)) && Op.bytesLess (beFrom (a : Int) k) (beFrom (b : Int) k))) = _
    rw [be_mod a k k (Nat.le_refl _), be_mod b k k (Nat.le_refl _), be_less k _ _ (Nat.mod_lt _ hp) (Nat.mod_lt _ hp)]
    have qa : a / 256 ^ k < 256 := (Nat.div_lt_iff_lt_mul hp).2 (by rw [Nat.pow_succ] at ha; omega)
    have qb : b / 256 ^ k < 256 := (Nat.div_lt_iff_lt_mul hp).2 (by rw [Nat.pow_succ] at hb; omega)
    have e1 : (by8 ((a : Int) / 2 ^ (8 * k)) < by8 ((b : Int) / 2 ^ (8 * k))) ↔ a / 256 ^ k < b / 256 ^ k := by
      rw [UInt8.lt_iff_toNat_lt, by8_nat, by8_nat, Nat.mod_eq_of_lt qa, Nat.mod_eq_of_lt qb]
    have e2 : (by8 ((a : Int) / 2 ^ (8 * k)) = by8 ((b : Int) / 2 ^ (8 * k))) ↔ a / 256 ^ k = b / 256 ^ k := by
      rw [← UInt8.toNat_inj, by8_nat, by8_nat, Nat.mod_eq_of_lt qa, Nat.mod_eq_of_lt qb]
    have da := Nat.div_add_mod a (256 ^ k)
    have db := Nat.div_add_mod b (256 ^ k)
    rw [Bool.eq_iff_iff]
    simp only [Bool.or_eq_true, Bool.and_eq_true, decide_eq_true_eq, beq_iff_eq, e1, e2]
    rcases Nat.lt_trichotomy (a / 256 ^ k) (b / 256 ^ k) with g | g | g
    · exact ⟨fun _ => Nat.lt_of_div_lt_div g, fun _ => .inl g⟩
    · rw [← g] at db
      constructor
      · rintro (h | ⟨_, h⟩)
        · omega
        · omega
      · intro h; exact .inr ⟨g, by omega⟩
    · have := Nat.lt_of_div_lt_div g
      constructor
      · rintro (h | ⟨h, _⟩) <;> omega
      · intro h; omega
theorem be_inj (k a b : Nat) (ha : a < 256 ^ k) (hb : b < 256 ^ k) (h : beFrom (a : Int) k = beFrom (b : Int) k) : a = b := by
  have h1 := beVal_be a k ha
  rw [h, beVal_be b k hb] at h1
  omega
end Go.Q
namespace Go.Q
theorem put_one_len (k : Nat) (n : Int) : (putS k [n]).length ≤ 8 := by
  unfold putS
  split
  · rename_i h; simp [beFrom_length]; omega
  · simp
theorem put_two_no {k : Nat} {a b : Int} (h1 : 1 ≤ k) (h8 : k ≤ 8) (h : putS k [a] = [] ∨ putS k [b] = []) : putS k [a, b] = [] := by
  rcases h with h | h
  · exact putS_no (List.mem_cons_self ..) (put_one_no h1 h8 h)
  · exact putS_no (List.mem_cons_of_mem _ (List.mem_singleton.2 rfl)) (put_one_no h1 h8 h)
theorem put_two {k : Nat} {a b : Int} (h1 : 1 ≤ k) (h8 : k ≤ 8) (ha : putS k [a] ≠ []) (hb : putS k [b] ≠ []) : putS k [a, b] = putS k [a] ++ putS k [b] := by
  have fa := put_one_yes h1 h8 ha
  have fb := put_one_yes h1 h8 hb
  rw [put_one_fits h1 h8 fa, put_one_fits h1 h8 fb, putS_yes h1 h8 (by simp [fa, fb])]
  simp
theorem put_one_length {k : Nat} {a : Int} (h1 : 1 ≤ k) (h8 : k ≤ 8) (ha : putS k [a] ≠ []) : (putS k [a]).length = k := by
  rw [put_one_fits h1 h8 (put_one_yes h1 h8 ha), beFrom_length]
theorem rises_less {k : Nat} {a b : Int} (h1 : 1 ≤ k) (h8 : k ≤ 8) (ha : putS k [a] ≠ []) (hb : putS k [b] ≠ []) (ma : a ≤ 9223372036854775807) (mb : b ≤ 9223372036854775807) : Op.bytesLess (putS k [a]) (putS k [b]) = decide (a < b) := by
  have fa := put_one_yes h1 h8 ha
  have fb := put_one_yes h1 h8 hb
  rw [put_one_fits h1 h8 fa, put_one_fits h1 h8 fb]
  obtain ⟨x, rfl, hx, _⟩ := fits_nat fa h1 h8 ma
  obtain ⟨y, rfl, hy, _⟩ := fits_nat fb h1 h8 mb
  rw [be_less k x y hx hy]
  simp
theorem rises_same {k : Nat} {a b : Int} (h1 : 1 ≤ k) (h8 : k ≤ 8) (ha : putS k [a] ≠ []) (hb : putS k [b] ≠ []) (ma : a ≤ 9223372036854775807) (mb : b ≤ 9223372036854775807) : decide (putS k [a] = putS k [b]) = decide (a = b) := by
  have fa := put_one_yes h1 h8 ha
  have fb := put_one_yes h1 h8 hb
  rw [put_one_fits h1 h8 fa, put_one_fits h1 h8 fb]
  obtain ⟨x, rfl, hx, _⟩ := fits_nat fa h1 h8 ma
  obtain ⟨y, rfl, hy, _⟩ := fits_nat fb h1 h8 mb
  by_cases e : x = y
  · subst e; simp
  · rw [decide_eq_false (fun h => e (be_inj k x y hx hy h)), decide_eq_false (by omega)]
end Go.Q
namespace Go.Q
theorem be_zero (n : Nat) (i : Nat) (h : n < 256 ^ i) : ∀ j, beFrom (n : Int) (i + j) = List.replicate j (0 : UInt8) ++ beFrom (n : Int) i
  | 0 => rfl
  | j + 1 => by
    show by8 ((n : Int) / 2 ^ (8 * (i + j))) :: beFrom (n : Int) (i + j) = _
    rw [be_zero n i h j, List.replicate_succ]
    have : by8 ((n : Int) / 2 ^ (8 * (i + j))) = 0 := by
      rw [← UInt8.toNat_inj, by8_nat, Nat.div_eq_of_lt (Nat.lt_of_lt_of_le h (Nat.pow_le_pow_right (by omega) (by omega)))]; rfl
    rw [this]; rfl
theorem set_put {j : Nat} {l : List UInt8} {b : UInt8} (h : 0 < j) : (List.replicate j (0 : UInt8) ++ l).set (j - 1) b = List.replicate (j - 1) 0 ++ b :: l := by
  obtain ⟨i, rfl⟩ : ∃ i, j = i + 1 := ⟨j - 1, by omega⟩
  rw [Nat.add_sub_cancel, List.replicate_succ', List.append_assoc, List.set_append_right _ _ (by simp)]
  simp
theorem by8_mod (y : Int) : by8 (y % 256) = by8 y := by unfold by8; rw [Int.emod_emod_of_dvd _ (by decide)]
theorem fits_iff {n : Nat} {m : Nat} (h8 : m ≤ 8) (hn : (n : Int) ≤ 9223372036854775807) : fitsS (n : Int) m = decide (n < 256 ^ m) := by
  rw [Bool.eq_iff_iff]
  simp only [fitsS, Bool.and_eq_true, Bool.or_eq_true, decide_eq_true_eq]
  rw [show (min (8 * (m : Int)).toNat 64) = 8 * m from by omega, two_pow8, Int.fdiv_eq_ediv_of_nonneg _ (Int.natCast_nonneg _), ← Int.natCast_ediv]
  have hp : 0 < 256 ^ m := Nat.pow_pos (by omega)
  constructor
  · rintro ⟨_, h | h⟩
    · obtain rfl : m = 8 := by omega
      omega
    · exact (Nat.div_eq_zero_iff.1 (by omega : n / 256 ^ m = 0)).resolve_left (by omega)
  · intro h; exact ⟨by omega, .inr (by rw [Nat.div_eq_of_lt h]; rfl)⟩
end Go.Q
namespace Go.Q
theorem refput_set {lc : List UInt8} {n y i : Int} {m j : Nat} (h : lc = List.replicate j 0 ++ beFrom n (m - j)) (h0 : 0 < j) (hj : j ≤ m) (hi : i = (j : Int) - 1) (hy : 0 ≤ n → y = n / ((256 ^ (m - j) : Nat) : Int)) (hn : 0 ≤ n) :
    lc.set i.toNat (by8 (y % 256)) = List.replicate (j - 1) 0 ++ beFrom n (m - (j - 1)) := by
  rw [h, show i.toNat = j - 1 from by omega, set_put h0, by8_mod, hy hn, show m - (j - 1) = (m - j) + 1 from by omega]
  congr 1
  show _ = by8 (n / 2 ^ (8 * (m - j))) :: beFrom n (m - j)
  rw [two_pow8]
theorem refput_div {n y : Int} {m j : Nat} (hy : 0 ≤ n → y = n / ((256 ^ (m - j) : Nat) : Int)) (h0 : 0 < j) (hj : j ≤ m) : 0 ≤ n → y / 256 = n / ((256 ^ (m - (j - 1)) : Nat) : Int) := by
  intro hn
  rw [hy hn, show m - (j - 1) = (m - j) + 1 from by omega, Nat.pow_succ, Int.natCast_mul, Int.ediv_ediv_of_nonneg (Int.natCast_nonneg _)]; rfl
theorem refput_low {n y : Int} {m j : Nat} (hj : j ≤ m) (hy : 0 ≤ n → y = n / ((256 ^ (m - j) : Nat) : Int)) (hn : 0 ≤ n) (h : j = 0 ∨ y ≤ 0) (hy0 : y = 0) : n.toNat < 256 ^ (m - j) := by
  have := hy hn
  rw [hy0, show n = ((n.toNat : Nat) : Int) from by omega, ← Int.natCast_ediv] at this
  exact (Nat.div_eq_zero_iff.1 (by omega : n.toNat / 256 ^ (m - j) = 0)).resolve_left (Nat.pos_iff_ne_zero.1 (Nat.pow_pos (by omega)))
theorem refput_ok {n y : Int} {m j : Nat} (hm : 1 ≤ m ∧ m ≤ 8) (hn : -9223372036854775808 ≤ n ∧ n ≤ 9223372036854775807) (hj : j ≤ m) (hy : 0 ≤ n → y = n / ((256 ^ (m - j) : Nat) : Int)) (hneg : n < 0 → j = m ∧ y = n) (h : j = 0 ∨ y ≤ 0) : decide (y = 0) = fitsS n m := by
  rcases (by omega : n < 0 ∨ 0 ≤ n) with g | g
  · rw [decide_eq_false (by have := hneg g; omega)]
    simp only [fitsS]
    rw [decide_eq_false (by omega)]; rfl
  · have e : n = ((n.toNat : Nat) : Int) := by omega
    rw [e, fits_iff hm.2 (by omega)]
    have hyn : 0 ≤ y := by rw [hy g]; exact Int.ediv_nonneg g (Int.natCast_nonneg _)
    have hy' := hy g
    rw [e, ← Int.natCast_ediv] at hy'
    by_cases hy0 : y = 0
    · have := refput_low hj hy g h hy0
      rw [decide_eq_true hy0, decide_eq_true (Nat.lt_of_lt_of_le this (Nat.pow_le_pow_right (by omega) (by omega)))]
    · have hj0 : j = 0 := by omega
      subst hj0
      rw [decide_eq_false hy0, decide_eq_false]
      intro hl
      rw [Nat.sub_zero, Nat.div_eq_of_lt hl] at hy'
      exact hy0 hy'
theorem refput_be {n y : Int} {m j : Nat} {lc : List UInt8} (hm : 1 ≤ m ∧ m ≤ 8) (hn : -9223372036854775808 ≤ n ∧ n ≤ 9223372036854775807) (hj : j ≤ m) (hlc : lc = List.replicate j 0 ++ beFrom n (m - j)) (hy : 0 ≤ n → y = n / ((256 ^ (m - j) : Nat) : Int)) (hneg : n < 0 → j = m ∧ y = n) (h : j = 0 ∨ y ≤ 0) :
    fitsS n m = true → lc = beFrom n m := by
  intro hf
  rw [← refput_ok hm hn hj hy hneg h, decide_eq_true_eq] at hf
  rcases (by omega : n < 0 ∨ 0 ≤ n) with g | g
  · have := hneg g; omega
  · have hl := refput_low hj hy g h hf
    have := be_zero n.toNat (m - j) hl j
    rw [show ((n.toNat : Nat) : Int) = n from by omega, show m - j + j = m from by omega] at this
    rw [hlc, this]
end Go.Q
namespace Go.Q
theorem take_true {s : List UInt8} {m : Nat} (h : (takeS s m).2.2 = true) : 1 ≤ m ∧ m ≤ s.length ∧ (takeS s m).2.1 = s.drop m := by
  unfold takeS at h ⊢
  split at h
  · rename_i g; rw [if_pos g]; exact ⟨g.1, g.2.2.1, rfl⟩
  · cases h
theorem take_false {s : List UInt8} {m : Nat} (h : (takeS s m).2.2 = false) : (takeS s m).2.1 = s := by
  unfold takeS at h ⊢
  split at h
  · cases h
  · rename_i g; rw [if_neg g]
theorem put_none {m : Nat} {l : List Int} (h : ¬ (1 ≤ m ∧ m ≤ 8) ∨ ∃ x ∈ l, fitsS x m = false) : putS m l = [] := by
  rcases h with h | ⟨x, hx, h⟩
  · rw [putS, if_neg (fun g => h ⟨g.1, g.2.1⟩)]
  · exact putS_no hx h
theorem fits_nonneg {n : Int} {m : Nat} (h : fitsS n m = true) : 0 ≤ n := by
  simp only [fitsS, Bool.and_eq_true, decide_eq_true_eq] at h; exact h.1
end Go.Q
namespace Go.Q
section
variable {P : Program} {E w : World} {ss : List (List Hp)} {N : Nat} {r : Nat → Value}
theorem run_loadVarN {t : TypeId} {d : TypeDesc} {L : List Hp} {b off : Nat} {cs : List Value} {z : Value} {by_ : Nat} (ht : P.underlying t = some d) (hd : aggB d = true)
    (hi : TI P t z cs.length by_) (H : Has E w ss) (hL : L ⊆ ss.flatten) (hc : CellsAt L b off cs) : (loadVar t ⟨b, off, none⟩).run P w = .ok (.agg cs.toArray) w := by
  simp only [Sem.run_bind, Sem.run_pure, Result.andThen_ok, loadVar, run_isAgg ht, hd, if_true, hi.size]
  rw [run_loadCells_list (P := P) (w := w) ⟨b, off, none⟩ cs (fun j v hv => by rw [add_lit]; exact H.cell hL hc hv)]
  rfl
theorem run_loadVar1 {t : TypeId} {d : TypeDesc} {L : List Hp} {b off : Nat} {v : Value} (ht : P.underlying t = some d) (hd : aggB d = false)
    (H : Has E w ss) (hL : L ⊆ ss.flatten) (hc : CellsAt L b off [v]) : (loadVar t ⟨b, off, none⟩).run P w = .ok v w := by
  have e := H.cell (j := 0) (v := v) hL hc rfl
  simp only [Sem.run_bind, Sem.run_pure, Result.andThen_ok, loadVar, run_isAgg ht, hd]
  simp only [Bool.false_eq_true, if_false, run_load]
  rw [show (⟨b, off, none⟩ : Addr) = ⟨b, off + 0, none⟩ from rfl, e]
theorem c_retC1 {fn : Func} {R : Ending → World → Prop} {t : Tmp} {T : TypeId} {a : Addr} {v : Value} (hr : fn.results = #[.cell t T]) (hv : ev N r (.tmp t) = .pointer (some a)) (hl : (loadVar T a).run P w = .ok v w) (hR : R (.returned v) w) :
    bodyPost P fn R .ret (Go.Q.fr N r) w := by
  refine bodyPost_ret (v := v) ?_ rfl hR
  have e : ∀ t, (Go.Q.fr N r).tmps[t]?.getD undef = ev N r (.tmp t) := fun t => by rw [← getD_fr, Array.getD_eq_getD_getElem?]
  simp [results, hr, e, hv, asAddr, hl]
theorem c_retC2 {fn : Func} {R : Ending → World → Prop} {t u : Tmp} {T : TypeId} {a : Addr} {v x : Value} (hr : fn.results = #[.cell t T, .tmp u]) (hv : ev N r (.tmp t) = .pointer (some a)) (hl : (loadVar T a).run P w = .ok v w) (hx : ev N r (.tmp u) = x)
    (hR : R (.returned (.tuple #[v, x])) w) : bodyPost P fn R .ret (Go.Q.fr N r) w := by
  refine bodyPost_ret (v := .tuple #[v, x]) ?_ rfl hR
  have e : ∀ t, (Go.Q.fr N r).tmps[t]?.getD undef = ev N r (.tmp t) := fun t => by rw [← getD_fr, Array.getD_eq_getD_getElem?]
  simp [results, hr, e, hv, asAddr, hl, hx]
theorem c_retC3 {fn : Func} {R : Ending → World → Prop} {t u s : Tmp} {T : TypeId} {a : Addr} {v x y : Value} (hr : fn.results = #[.cell t T, .tmp u, .tmp s]) (hv : ev N r (.tmp t) = .pointer (some a)) (hl : (loadVar T a).run P w = .ok v w) (hx : ev N r (.tmp u) = x) (hy : ev N r (.tmp s) = y)
    (hR : R (.returned (.tuple #[v, x, y])) w) : bodyPost P fn R .ret (Go.Q.fr N r) w := by
  refine bodyPost_ret (v := .tuple #[v, x, y]) ?_ rfl hR
  have e : ∀ t, (Go.Q.fr N r).tmps[t]?.getD undef = ev N r (.tmp t) := fun t => by rw [← getD_fr, Array.getD_eq_getD_getElem?]
  simp [results, hr, e, hv, asAddr, hl, hx, hy]
end
end Go.Q
namespace Go.Q
structure Fr where
  ep : Int
  pl : Int
  gsn : Int
  data : List UInt8
def frC (f : Fr) : List Value := [iV f.ep, iV f.pl, iV f.gsn, S f.data]
theorem frC_len (f : Fr) : (frC f).length = 4 := rfl
theorem one_fr (l : List Fr) : ∀ u ∈ l.flatMap frC, u.oneCell' = true := one_flat (fun f u hu => by
  simp only [frC, List.mem_cons, List.not_mem_nil, or_false] at hu
  rcases hu with rfl | rfl | rfl | rfl <;> rfl) l
def rightS (f : Fr) : Bool := decide (0 ≤ f.ep ∧ f.ep ≤ 2147483647 ∧ 0 ≤ f.pl ∧ f.pl ≤ 4611686018427387903 ∧ 0 ≤ f.gsn ∧ f.gsn ≤ 4611686018427387903 ∧ f.data.length ≤ 200)
theorem rightS_of {f : Fr} (h : rightS f = true) : 0 ≤ f.ep ∧ f.ep ≤ 2147483647 ∧ 0 ≤ f.pl ∧ f.pl ≤ 4611686018427387903 ∧ 0 ≤ f.gsn ∧ f.gsn ≤ 4611686018427387903 ∧ f.data.length ≤ 200 := of_decide_eq_true h
def headS (f : Fr) : List UInt8 := beFrom (f.data.length : Int) 1 ++ (beFrom f.ep 4 ++ (beFrom f.pl 8 ++ beFrom f.gsn 8))
theorem headS_len (f : Fr) : (headS f).length = 21 := by simp only [headS, List.length_append, beFrom_length]
def makeS (f : Fr) : List UInt8 := if rightS f = true then sealS (headS f ++ f.data) else []
theorem makeS_yes {f : Fr} (h : rightS f = true) : makeS f = sealS (headS f ++ f.data) := by rw [makeS, if_pos h]
theorem makeS_no {f : Fr} (h : rightS f = false) : makeS f = [] := by rw [makeS, if_neg (by rw [h]; decide)]
theorem makeS_len {f : Fr} (h : rightS f = true) : (makeS f).length = f.data.length + 25 := by
  rw [makeS_yes h, sealS, List.length_append, List.length_append, headS_len, laidS_len]; omega
theorem fits_lit {n : Int} {m : Nat} {b : Nat} (h0 : 0 ≤ n) (h1 : n < (b : Int)) (h8 : m ≤ 8) (hb : b ≤ 256 ^ m) (h63 : n ≤ 9223372036854775807) : fitsS n m = true := by
  obtain ⟨k, rfl⟩ : ∃ k : Nat, n = k := ⟨n.toNat, by omega⟩
  rw [fits_iff h8 h63]
  exact decide_eq_true (by omega)
theorem put_flat {f : Fr} (h : rightS f = true) : [putS 1 [((f.data.length : Nat) : Int)], putS 4 [f.ep], putS 8 [f.pl, f.gsn], f.data].flatten = headS f ++ f.data := by
  obtain ⟨h1, h2, h3, h4, h5, h6, h7⟩ := rightS_of h
  have f1 : fitsS ((f.data.length : Nat) : Int) 1 = true := fits_lit (b := 256) (by omega) (by omega) (by decide) (by decide) (by omega)
  have f2 : fitsS f.ep 4 = true := fits_lit (b := 2147483648) h1 (by omega) (by decide) (by decide) (by omega)
  have f3 : fitsS f.pl 8 = true := fits_lit (b := 4611686018427387904) h3 (by omega) (by decide) (by decide) (by omega)
  have f4 : fitsS f.gsn 8 = true := fits_lit (b := 4611686018427387904) h5 (by omega) (by decide) (by decide) (by omega)
  rw [putS_yes (by decide) (by decide) (by simpa using f1), putS_yes (by decide) (by decide) (by simpa using f2), putS_yes (by decide) (by decide) (by simpa using ⟨f3, f4⟩)]
  simp [headS]
theorem fits_head {f : Fr} (h : rightS f = true) : fitsS ((f.data.length : Nat) : Int) 1 = true ∧ fitsS f.ep 4 = true ∧ fitsS f.pl 8 = true ∧ fitsS f.gsn 8 = true := by
  obtain ⟨h1, h2, h3, h4, h5, h6, h7⟩ := rightS_of h
  exact ⟨fits_lit (b := 256) (by omega) (by omega) (by decide) (by decide) (by omega), fits_lit (b := 2147483648) h1 (by omega) (by decide) (by decide) (by omega),
    fits_lit (b := 4611686018427387904) h3 (by omega) (by decide) (by decide) (by omega), fits_lit (b := 4611686018427387904) h5 (by omega) (by decide) (by decide) (by omega)⟩
theorem ref_flat {f : Fr} (h : rightS f = true) {a b c d : List UInt8} (ha : fitsS ((f.data.length : Nat) : Int) 1 = true → a = beFrom ((f.data.length : Nat) : Int) 1) (hb : fitsS f.ep 4 = true → b = beFrom f.ep 4)
    (hc : fitsS f.pl 8 = true → c = beFrom f.pl 8) (hd : fitsS f.gsn 8 = true → d = beFrom f.gsn 8) : a ++ b ++ c ++ d ++ f.data = headS f ++ f.data := by
  obtain ⟨h1, h2, h3, h4⟩ := fits_head h
  rw [ha h1, hb h2, hc h3, hd h4]; simp [headS]
end Go.Q
namespace Go.Q
theorem take_be {n : Int} {k : Nat} {more : List UInt8} (h1 : 1 ≤ k) (h8 : k ≤ 8) (hn : n ≤ 9223372036854775807) (h : fitsS n k = true) : takeS (beFrom n k ++ more) k = (n, more, true) := by
  have e := put_one_fits h1 h8 h
  have hne : putS k [n] ≠ [] := fun g => by
    have := beFrom_length n k
    rw [← e, g] at this
    simp at this; omega
  have := back_law (more := more) h1 h8 hn hne
  rwa [e] at this
theorem take_rest_le (s : List UInt8) (m : Nat) : (takeS s m).2.1.length ≤ s.length := by
  unfold takeS
  split
  · simp only [List.length_drop]; omega
  · exact Nat.le_refl _
theorem beVal_one (c : UInt8) : beVal [c] = (c.toNat : Int) := by simp [beVal]
theorem take_one (s : List UInt8) : 0 ≤ (takeS s 1).1 ∧ (takeS s 1).1 ≤ 255 := by
  cases s with
  | nil => unfold takeS; rw [if_neg (by simp)]; simp
  | cons c t =>
    rw [takeS_yes (by decide) (by decide) (by simp) (.inl (by decide))]
    have := c.toNat_lt
    show 0 ≤ beVal [c] ∧ beVal [c] ≤ 255
    rw [beVal_one]; omega
theorem take_one_ok {s : List UInt8} : (takeS s 1).2.2 = decide (1 ≤ s.length) := by
  cases s with
  | nil => unfold takeS; rw [if_neg (by simp)]; rfl
  | cons c t => rw [takeS_yes (by decide) (by decide) (by simp) (.inl (by decide))]; simp
/-- what is read at the beginning -/
def fO (s : List UInt8) : Fr := ⟨(takeS (takeS s 1).2.1 4).1, (takeS (takeS (takeS s 1).2.1 4).2.1 8).1, (takeS (takeS (takeS (takeS s 1).2.1 4).2.1 8).2.1 8).1, (s.take (21 + (takeS s 1).1).toNat).drop 21⟩
def opensB (s : List UInt8) : Bool := (takeS s 1).2.2 && decide ((takeS s 1).1 + 25 ≤ (s.length : Int)) && rightS (fO s) && decide (makeS (fO s) = s.take ((takeS s 1).1 + 25).toNat)
def oF (s : List UInt8) : Fr := if opensB s = true then fO s else ⟨0, 0, 0, []⟩
def oN (s : List UInt8) : Int := if opensB s = true then (takeS s 1).1 + 25 else 0
theorem made_flat {f : Fr} (h : rightS f = true) (more : List UInt8) :
    makeS f ++ more = beFrom ((f.data.length : Nat) : Int) 1 ++ (beFrom f.ep 4 ++ (beFrom f.pl 8 ++ (beFrom f.gsn 8 ++ (f.data ++ (laidS (crcS (headS f ++ f.data)) ++ more))))) := by
  rw [makeS_yes h, sealS]; simp [headS]
theorem made_takes {f : Fr} (h : rightS f = true) (more : List UInt8) : (takeS (makeS f ++ more) 1) = (((f.data.length : Nat) : Int), beFrom f.ep 4 ++ (beFrom f.pl 8 ++ (beFrom f.gsn 8 ++ (f.data ++ (laidS (crcS (headS f ++ f.data)) ++ more)))), true) ∧ fO (makeS f ++ more) = f := by
  obtain ⟨h1, h2, h3, h4⟩ := fits_head h
  obtain ⟨r1, r2, r3, r4, r5, r6, r7⟩ := rightS_of h
  have e1 := take_be (more := beFrom f.ep 4 ++ (beFrom f.pl 8 ++ (beFrom f.gsn 8 ++ (f.data ++ (laidS (crcS (headS f ++ f.data)) ++ more))))) (by decide) (by decide) (by omega) h1
  have e2 := take_be (more := beFrom f.pl 8 ++ (beFrom f.gsn 8 ++ (f.data ++ (laidS (crcS (headS f ++ f.data)) ++ more)))) (by decide) (by decide) (by omega) h2
  have e3 := take_be (more := beFrom f.gsn 8 ++ (f.data ++ (laidS (crcS (headS f ++ f.data)) ++ more))) (by decide) (by decide) (by omega) h3
  have e4 := take_be (more := f.data ++ (laidS (crcS (headS f ++ f.data)) ++ more)) (by decide) (by decide) (by omega) h4
  have hf := made_flat h more
  refine ⟨by rw [hf]; exact e1, ?_⟩
  have hd : ((makeS f ++ more).take (21 + ((f.data.length : Nat) : Int)).toNat).drop 21 = f.data := by
    rw [makeS_yes h, sealS, show (21 + ((f.data.length : Nat) : Int)).toNat = 21 + f.data.length by omega]
    have hl : (headS f ++ f.data).length = 21 + f.data.length := by rw [List.length_append, headS_len]
    rw [← hl, List.append_assoc, List.take_left, ← headS_len f, List.drop_left]
  have e1' := e1
  rw [← hf] at e1'
  unfold fO
  rw [e1']
  simp only [e2, e3, e4, hd]
theorem made_opens {f : Fr} (h : rightS f = true) (more : List UInt8) : opensB (makeS f ++ more) = true := by
  obtain ⟨h1, h2⟩ := made_takes h more
  have hl := makeS_len h
  unfold opensB
  rw [h2, h1, h, Bool.true_and, Bool.and_true, Bool.and_eq_true]
  refine ⟨decide_eq_true (by simp only [List.length_append]; omega), decide_eq_true ?_⟩
  rw [show (((f.data.length : Nat) : Int) + 25).toNat = (makeS f).length by omega, List.take_left]
theorem made_oF {f : Fr} (h : rightS f = true) (more : List UInt8) : oF (makeS f ++ more) = f ∧ oN (makeS f ++ more) = ((f.data.length : Nat) : Int) + 25 := by
  unfold oF oN
  rw [if_pos (made_opens h more), if_pos (made_opens h more), (made_takes h more).1, (made_takes h more).2]
  exact ⟨rfl, rfl⟩
theorem opens_made {s : List UInt8} (h : opensB s = true) : rightS (fO s) = true ∧ ((fO s).data.length : Int) = (takeS s 1).1 ∧ s = makeS (fO s) ++ s.drop ((takeS s 1).1 + 25).toNat ∧ (takeS s 1).1 + 25 ≤ (s.length : Int) := by
  unfold opensB at h
  rw [Bool.and_eq_true, Bool.and_eq_true, Bool.and_eq_true] at h
  obtain ⟨⟨⟨h1, h2⟩, h3⟩, h4⟩ := h
  have h2 := of_decide_eq_true h2
  have h4 := of_decide_eq_true h4
  have h0 := take_one s
  refine ⟨h3, ?_, by rw [h4, List.take_append_drop], h2⟩
  show ((((s.take (21 + (takeS s 1).1).toNat).drop 21).length : Nat) : Int) = _
  rw [List.length_drop, List.length_take]; omega
/-- an opened one is a made one with something behind -/
theorem opens_iff {s : List UInt8} : opensB s = true ↔ ∃ f more, rightS f = true ∧ s = makeS f ++ more := by
  constructor
  · intro h; obtain ⟨h1, _, h3, _⟩ := opens_made h; exact ⟨_, _, h1, h3⟩
  · rintro ⟨f, more, h, rfl⟩; exact made_opens h more
/-- as the document has it -/
def fR (s : List UInt8) (c : UInt8) : Fr := ⟨(takeS (s.drop 1) 4).1, (takeS (s.drop 5) 8).1, (takeS (s.drop 13) 8).1, (s.take (21 + (c.toNat : Int)).toNat).drop 21⟩
theorem drop_be (a b c : List UInt8) (n : Nat) (h : a.length = n) : (a ++ b).drop n = b := by rw [← h, List.drop_left]
theorem ref_opens {s : List UInt8} {c : UInt8} (hc : s[0]? = some c) (h25 : 25 ≤ s.length) (hl : 25 + (c.toNat : Int) ≤ (s.length : Int)) :
    opensB s = ((takeS (s.drop 5) 8).2.2 && (takeS (s.drop 13) 8).2.2 && rightS (fR s c) && decide (makeS (fR s c) = s.take (25 + ((fR s c).data.length : Int)).toNat)) ∧
    (opensB s = true → fO s = fR s c ∧ (takeS s 1).1 = (c.toNat : Int)) := by
  have key : opensB s = true → (takeS (s.drop 5) 8).2.2 = true ∧ (takeS (s.drop 13) 8).2.2 = true ∧ fO s = fR s c ∧ (takeS s 1).1 = (c.toNat : Int) := by
    intro h
    obtain ⟨f, more, hr, rfl⟩ := opens_iff.1 h
    obtain ⟨h1, h2, h3, h4⟩ := fits_head hr
    obtain ⟨r1, r2, r3, r4, r5, r6, r7⟩ := rightS_of hr
    have hf := made_flat hr more
    have d1 : (makeS f ++ more).drop 1 = beFrom f.ep 4 ++ (beFrom f.pl 8 ++ (beFrom f.gsn 8 ++ (f.data ++ (laidS (crcS (headS f ++ f.data)) ++ more)))) := by rw [hf]; exact drop_be _ _ [] 1 (beFrom_length _ _)
    have d5 : (makeS f ++ more).drop 5 = beFrom f.pl 8 ++ (beFrom f.gsn 8 ++ (f.data ++ (laidS (crcS (headS f ++ f.data)) ++ more))) := by
      rw [show (5 : Nat) = 1 + 4 from rfl, ← List.drop_drop, d1]; exact drop_be _ _ [] 4 (beFrom_length _ _)
    have d13 : (makeS f ++ more).drop 13 = beFrom f.gsn 8 ++ (f.data ++ (laidS (crcS (headS f ++ f.data)) ++ more)) := by
      rw [show (13 : Nat) = 5 + 8 from rfl, ← List.drop_drop, d5]; exact drop_be _ _ [] 8 (beFrom_length _ _)
    have e2 := take_be (more := beFrom f.pl 8 ++ (beFrom f.gsn 8 ++ (f.data ++ (laidS (crcS (headS f ++ f.data)) ++ more)))) (by decide) (by decide) (by omega) h2
    have e3 := take_be (more := beFrom f.gsn 8 ++ (f.data ++ (laidS (crcS (headS f ++ f.data)) ++ more))) (by decide) (by decide) (by omega) h3
    have e4 := take_be (more := f.data ++ (laidS (crcS (headS f ++ f.data)) ++ more)) (by decide) (by decide) (by omega) h4
    obtain ⟨m1, m2⟩ := made_takes hr more
    have hc2 : ((f.data.length : Nat) : Int) = (c.toNat : Int) := by
      have b1 : (makeS f ++ more).take 1 = beFrom ((f.data.length : Nat) : Int) 1 := by rw [hf]; exact List.take_left' (beFrom_length _ _)
      have b2 : (makeS f ++ more).take 1 = [c] := by
        cases hm : (makeS f ++ more) with
        | nil => rw [hm] at hc; simp at hc
        | cons x t => rw [hm] at hc; simp at hc; rw [hc]; rfl
      have b3 := take_be (more := []) (by decide : 1 ≤ 1) (by decide) (by omega) h1
      rw [← b1, b2, List.append_nil, takeS_yes (by decide) (by decide) (by simp) (.inl (by decide))] at b3
      have b4 := congrArg (fun x => x.1) b3
      simp only [List.take] at b4
      rw [beVal_one] at b4
      exact b4.symm
    refine ⟨by rw [d5, e3], by rw [d13, e4], ?_, by rw [m1]; exact hc2⟩
    rw [m2]
    unfold fR
    rw [d1, d5, d13, e2, e3, e4, ← hc2]
    have := congrArg Fr.data m2
    unfold fO at this
    rw [m1] at this
    simp only at this
    rw [this]
  have dl : ((fR s c).data.length : Int) = (c.toNat : Int) := by
    show ((((s.take (21 + (c.toNat : Int)).toNat).drop 21).length : Nat) : Int) = _
    rw [List.length_drop, List.length_take]; omega
  refine ⟨?_, fun h => ⟨(key h).2.2.1, (key h).2.2.2⟩⟩
  apply Bool.eq_iff_iff.2
  rw [Bool.and_eq_true, Bool.and_eq_true, Bool.and_eq_true]
  constructor
  · intro h
    obtain ⟨k1, k2, k3, k4⟩ := key h
    obtain ⟨o1, o2, o3, o4⟩ := opens_made h
    refine ⟨⟨⟨k1, k2⟩, by rw [← k3]; exact o1⟩, decide_eq_true ?_⟩
    rw [dl, ← k3]
    have h' := h
    unfold opensB at h'
    rw [Bool.and_eq_true, Bool.and_eq_true, Bool.and_eq_true] at h'
    have h4 := of_decide_eq_true h'.2
    rw [h4, k4, Int.add_comm]
  · rintro ⟨⟨⟨k1, k2⟩, k3⟩, k4⟩
    have k4 := of_decide_eq_true k4
    exact opens_iff.2 ⟨fR s c, s.drop (25 + ((fR s c).data.length : Int)).toNat, k3, by rw [k4, List.take_append_drop]⟩
theorem ref_yes {s : List UInt8} {c : UInt8} (hc : s[0]? = some c) (h25 : 25 ≤ s.length) (hl : 25 + (c.toNat : Int) ≤ (s.length : Int)) (k1 : (takeS (s.drop 5) 8).2.2 = true) (k2 : (takeS (s.drop 13) 8).2.2 = true) (k3 : rightS (fR s c) = true)
    (k4 : makeS (fR s c) = s.take (25 + ((fR s c).data.length : Int)).toNat) : opensB s = true := by rw [(ref_opens hc h25 hl).1, k1, k2, k3, decide_eq_true k4]; rfl
theorem ref_no {s : List UInt8} {c : UInt8} (hc : s[0]? = some c) (h25 : 25 ≤ s.length) (hl : 25 + (c.toNat : Int) ≤ (s.length : Int)) (h : (takeS (s.drop 5) 8).2.2 = false ∨ (takeS (s.drop 13) 8).2.2 = false ∨ rightS (fR s c) = false ∨
    makeS (fR s c) ≠ s.take (25 + ((fR s c).data.length : Int)).toNat) : opensB s = false := by
  rw [(ref_opens hc h25 hl).1]
  rcases h with h | h | h | h
  · rw [h]; simp
  · rw [h]; simp
  · rw [h]; simp
  · rw [decide_eq_false h]; simp
theorem oF_no {s : List UInt8} (h : opensB s = false) : oF s = ⟨0, 0, 0, []⟩ ∧ oN s = 0 := by
  unfold oF oN; rw [h]; exact ⟨rfl, rfl⟩
theorem oN_yes {s : List UInt8} (h : opensB s = true) : oN s = 25 + ((oF s).data.length : Int) := by
  unfold oF oN; rw [if_pos h, if_pos h, (opens_made h).2.1, Int.add_comm]
theorem oF_le (s : List UInt8) : (oF s).data.length ≤ s.length := by
  unfold oF
  split
  · show ((s.take (21 + (takeS s 1).1).toNat).drop 21).length ≤ s.length
    rw [List.length_drop, List.length_take]; omega
  · exact Nat.zero_le _
theorem not_t {b : Bool} (h : (!b) = true) : b = false := by cases b <;> simp_all
theorem not_f {b : Bool} (h : (!b) = false) : b = true := by cases b <;> simp_all
theorem opens_yes {s : List UInt8} (h1 : (takeS s 1).2.2 = true) (h2 : (takeS s 1).1 + 25 ≤ (s.length : Int)) (h3 : rightS (fO s) = true) (h4 : makeS (fO s) = s.take ((takeS s 1).1 + 25).toNat) : opensB s = true := by
  unfold opensB; rw [h1, h3, decide_eq_true h2, decide_eq_true h4]; rfl
theorem opens_no1 {s : List UInt8} (h : (takeS s 1).2.2 = false) : opensB s = false := by unfold opensB; rw [h]; rfl
theorem opens_no2 {s : List UInt8} (h : (s.length : Int) < (takeS s 1).1 + 25) : opensB s = false := by
  unfold opensB; rw [decide_eq_false (show ¬ (takeS s 1).1 + 25 ≤ (s.length : Int) by omega)]; simp
theorem opens_no3 {s : List UInt8} (h : rightS (fO s) = false) : opensB s = false := by unfold opensB; rw [h]; simp
theorem opens_no4 {s : List UInt8} (h : makeS (fO s) ≠ s.take ((takeS s 1).1 + 25).toNat) : opensB s = false := by unfold opensB; rw [decide_eq_false h]; simp
theorem opens_short {s : List UInt8} (h : s.length < 25) : opensB s = false := opens_no2 (by have := take_one s; omega)
theorem take_one_at {s : List UInt8} {c : UInt8} (hc : s[0]? = some c) : (takeS s 1).1 = (c.toNat : Int) := by
  cases s with
  | nil => simp at hc
  | cons x t =>
    have e : x = c := by simpa using hc
    subst e
    rw [takeS_yes (by decide) (by decide) (by simp) (.inl (by decide))]
    exact beVal_one x
theorem opens_short2 {s : List UInt8} {c : UInt8} (hc : s[0]? = some c) (h : (s.length : Int) < 25 + (c.toNat : Int)) : opensB s = false := opens_no2 (by rw [take_one_at hc]; omega)
theorem rest_le1 {s : List UInt8} (h : s.length ≤ 9000000000000000000) : (takeS s 1).2.1.length ≤ 9223372036854775807 := by have := take_rest_le s 1; omega
theorem rest_le2 {s : List UInt8} (h : s.length ≤ 9000000000000000000) : (takeS (takeS s 1).2.1 4).2.1.length ≤ 9223372036854775807 := by have := take_rest_le s 1; have := take_rest_le (takeS s 1).2.1 4; omega
theorem rest_le3 {s : List UInt8} (h : s.length ≤ 9000000000000000000) : (takeS (takeS (takeS s 1).2.1 4).2.1 8).2.1.length ≤ 9223372036854775807 := by
  have := take_rest_le s 1; have := take_rest_le (takeS s 1).2.1 4; have := take_rest_le (takeS (takeS s 1).2.1 4).2.1 8; omega
end Go.Q
namespace Go.Q
theorem be1 (n : Int) : beFrom n 1 = [by8 n] := by simp [beFrom]
theorem put1 {x : Int} (h : 0 ≤ x ∧ x ≤ 255) : putS 1 [x] = beFrom x 1 := by
  rw [putS_yes (by decide) (by decide) (fun y hy => by rw [List.mem_singleton.1 hy]; exact fits_lit (b := 256) h.1 (by omega) (by decide) (by decide) (by omega))]; simp
theorem put8 {x : Int} (h : 0 ≤ x ∧ x ≤ 9223372036854775807) : putS 8 [x] = beFrom x 8 := by
  rw [putS_yes (by decide) (by decide) (fun y hy => by rw [List.mem_singleton.1 hy]; exact fits_lit (b := 9223372036854775808) h.1 (by omega) (by decide) (by decide) (by omega))]; simp
def shortB (s : Bs) : Bs := beFrom (s.length : Int) 1 ++ s
theorem shortB_len (s : Bs) : (shortB s).length = s.length + 1 := by unfold shortB; rw [List.length_append, beFrom_length]; omega
def cellB (c : Cel) : Bs := shortB c.1 ++ shortB c.2
def headB (no gsn : Int) (n : Nat) : Bs := beFrom no 1 ++ beFrom gsn 8 ++ beFrom (n : Int) 1
theorem headB_len (no gsn : Int) (n : Nat) : (headB no gsn n).length = 10 := by unfold headB; simp [beFrom_length]
def bodyB (no gsn : Int) (l : List Cel) : Bs := headB no gsn l.length ++ l.flatMap cellB
def fullB (no gsn : Int) (l : List Cel) : Bs := bodyB no gsn l ++ List.replicate (252 - (bodyB no gsn l).length) 0
def laidP (no gsn : Int) (l : List Cel) : Bs := if pageR no gsn l = true then sealS (fullB no gsn l) else []
theorem celOk_len {c : Cel} (h : celOk c = true) : c.1.length ≤ 8 ∧ c.2.length ≤ 16 := by
  unfold celOk keyR valR at h
  simp only [Bool.and_eq_true, decide_eq_true_eq] at h
  omega
theorem cellB_len {c : Cel} (h : celOk c = true) : (cellB c).length ≤ 26 := by
  have := celOk_len h
  unfold cellB; rw [List.length_append, shortB_len, shortB_len]; omega
theorem cells_len : ∀ {l : List Cel}, (∀ c ∈ l, celOk c = true) → (l.flatMap cellB).length ≤ 26 * l.length
  | [], _ => by simp
  | c :: t, h => by
    have h1 := cellB_len (h c (List.mem_cons_self ..))
    have h2 := cells_len fun a ha => h a (List.mem_cons_of_mem c ha)
    rw [List.flatMap_cons, List.length_append, List.length_cons]; omega
theorem bodyB_len {no gsn : Int} {l : List Cel} (h : pageR no gsn l = true) : (bodyB no gsn l).length ≤ 218 := by
  have h1 := cellsR_iff.1 (pageR_iff.1 h).2
  have h2 := cells_len h1.1
  unfold bodyB; rw [List.length_append, headB_len]; omega
theorem fullB_len {no gsn : Int} {l : List Cel} (h : pageR no gsn l = true) : (fullB no gsn l).length = 252 := by
  have := bodyB_len h
  unfold fullB; rw [List.length_append, List.length_replicate]; omega
theorem laidP_len {no gsn : Int} {l : List Cel} (h : pageR no gsn l = true) : (laidP no gsn l).length = 256 := by
  unfold laidP; rw [if_pos h, sealS, List.length_append, laidS_len, fullB_len h]
theorem laidP_no {no gsn : Int} {l : List Cel} (h : pageR no gsn l = false) : laidP no gsn l = [] := by
  unfold laidP; rw [if_neg (by rw [h]; decide)]
theorem laidP_le (no gsn : Int) (l : List Cel) : (laidP no gsn l).length ≤ 256 := by
  cases h : pageR no gsn l with
  | true => rw [laidP_len h]; exact Nat.le_refl _
  | false => rw [laidP_no h]; simp
/-! ### a text with its length ahead -/
def textS (s : Bs) : Bs × Bs × Bool := if (takeS s 1).2.2 = true ∧ (takeS s 1).1 ≤ ((takeS s 1).2.1.length : Int) then ((takeS s 1).2.1.take (takeS s 1).1.toNat, (takeS s 1).2.1.drop (takeS s 1).1.toNat, true) else ([], [], false)
theorem textS_short {k more : Bs} (h : k.length ≤ 255) : textS (shortB k ++ more) = (k, more, true) := by
  unfold textS shortB
  rw [List.append_assoc, take_be (by decide) (by decide) (by omega) (fits_lit (b := 256) (by omega) (by omega) (by decide) (by decide) (by omega))]
  rw [if_pos ⟨rfl, by simp only [List.length_append]; omega⟩]
  simp
theorem textS_le (s : Bs) : (textS s).1.length ≤ 255 ∧ (textS s).2.1.length ≤ s.length := by
  unfold textS
  split
  · have h1 := take_one s
    have h2 := take_rest_le s 1
    simp only [List.length_take, List.length_drop]
    omega
  · simp
/-- the cells, as page.Read takes them -/
def goP : Nat → Int → Bs → List Cel → Bool × List Cel
  | 0, _, _, acc => (true, acc)
  | f + 1, n, rest, acc => if 0 < n then
      (if (textS rest).2.2 = true then
        (if (textS (textS rest).2.1).2.2 = true then goP f (n - 1) (textS (textS rest).2.1).2.1 (acc ++ [((textS rest).1, (textS (textS rest).2.1).1)])
         else (false, acc ++ [((textS rest).1, (textS (textS rest).2.1).1)]))
       else (false, acc ++ [((textS rest).1, [])]))
    else (true, acc)
theorem goP_laid : ∀ (l : List Cel) (f : Nat) (more : Bs) (acc : List Cel), (∀ c ∈ l, celOk c = true) → l.length ≤ f → goP f (l.length : Int) (l.flatMap cellB ++ more) acc = (true, acc ++ l)
  | [], 0, _, _, _, _ => by simp [goP]
  | [], f + 1, _, _, _, _ => by rw [goP, if_neg (by simp)]; simp
  | c :: t, 0, _, _, _, h => by simp at h
  | c :: t, f + 1, more, acc, hc, hf => by
    have h1 := celOk_len (hc c (List.mem_cons_self ..))
    have e : (c :: t).flatMap cellB ++ more = shortB c.1 ++ (shortB c.2 ++ (t.flatMap cellB ++ more)) := by
      rw [List.flatMap_cons, cellB]; simp only [List.append_assoc]
    rw [goP, if_pos (by simp only [List.length_cons]; omega), e, textS_short (by omega)]
    simp only
    rw [textS_short (by omega)]
    simp only [if_true]
    rw [show (((c :: t).length : Nat) : Int) - 1 = (t.length : Int) by simp only [List.length_cons]; omega, goP_laid t f more _ (fun a ha => hc a (List.mem_cons_of_mem c ha)) (by simpa using hf)]
    simp
def goP0 (s : Bs) : Bool × List Cel := if (takeS (takeS s 1).2.1 8).2.2 = true then goP 8 (takeS (takeS (takeS s 1).2.1 8).2.1 1).1 (takeS (takeS (takeS s 1).2.1 8).2.1 1).2.1 [] else (false, [])
def readP (s : Bs) : Bool × Int × Int × List Cel :=
  if s.length = 256 ∧ (goP0 s).1 = true ∧ laidP (takeS s 1).1 (takeS (takeS s 1).2.1 8).1 (goP0 s).2 = s then (true, (takeS s 1).1, (takeS (takeS s 1).2.1 8).1, (goP0 s).2) else (false, 0, 0, [])
theorem readP_true {s : Bs} (h : (readP s).1 = true) : pageR (readP s).2.1 (readP s).2.2.1 (readP s).2.2.2 = true ∧ laidP (readP s).2.1 (readP s).2.2.1 (readP s).2.2.2 = s := by
  unfold readP at h ⊢
  split at h
  · rename_i g
    rw [if_pos g]
    refine ⟨?_, g.2.2⟩
    cases e : pageR (takeS s 1).1 (takeS (takeS s 1).2.1 8).1 (goP0 s).2 with
    | true => rfl
    | false => have := g.2.2; rw [laidP_no e] at this; have := g.1; rw [← ‹[] = s›] at this; simp at this
  · cases h
theorem laid_takes {no gsn : Int} {l : List Cel} (h : pageR no gsn l = true) : ∃ tail : Bs, laidP no gsn l = beFrom no 1 ++ (beFrom gsn 8 ++ (beFrom (l.length : Int) 1 ++ (l.flatMap cellB ++ tail))) := by
  refine ⟨List.replicate (252 - (bodyB no gsn l).length) 0 ++ laidS (crcS (fullB no gsn l)), ?_⟩
  unfold laidP
  rw [if_pos h, sealS]
  have e : fullB no gsn l = beFrom no 1 ++ (beFrom gsn 8 ++ (beFrom (l.length : Int) 1 ++ (l.flatMap cellB ++ List.replicate (252 - (bodyB no gsn l).length) 0))) := by
    have e2 : bodyB no gsn l = beFrom no 1 ++ (beFrom gsn 8 ++ (beFrom (l.length : Int) 1 ++ l.flatMap cellB)) := by unfold bodyB headB; simp only [List.append_assoc]
    have e3 : fullB no gsn l = bodyB no gsn l ++ List.replicate (252 - (bodyB no gsn l).length) 0 := rfl
    rw [e3]
    generalize List.replicate (252 - (bodyB no gsn l).length) (0 : UInt8) = z
    rw [e2]; simp only [List.append_assoc]
  generalize laidS (crcS (fullB no gsn l)) = y
  rw [e]
  simp only [List.append_assoc]
theorem readP_laid {no gsn : Int} {l : List Cel} (h : pageR no gsn l = true) : readP (laidP no gsn l) = (true, no, gsn, l) := by
  obtain ⟨tail, ht⟩ := laid_takes h
  have hp := pageR_iff.1 h
  have hc := cellsR_iff.1 hp.2
  have t1 : takeS (laidP no gsn l) 1 = (no, beFrom gsn 8 ++ (beFrom (l.length : Int) 1 ++ (l.flatMap cellB ++ tail)), true) := by
    rw [ht]; exact take_be (by decide) (by decide) (by omega) (fits_lit (b := 256) (by omega) (by omega) (by decide) (by decide) (by omega))
  have t2 : takeS (beFrom gsn 8 ++ (beFrom (l.length : Int) 1 ++ (l.flatMap cellB ++ tail))) 8 = (gsn, beFrom (l.length : Int) 1 ++ (l.flatMap cellB ++ tail), true) :=
    take_be (by decide) (by decide) (by omega) (fits_lit (b := 9223372036854775808) (by omega) (by omega) (by decide) (by decide) (by omega))
  have t3 : takeS (beFrom (l.length : Int) 1 ++ (l.flatMap cellB ++ tail)) 1 = ((l.length : Int), l.flatMap cellB ++ tail, true) :=
    take_be (by decide) (by decide) (by omega) (fits_lit (b := 256) (by omega) (by omega) (by decide) (by decide) (by omega))
  have hg : goP0 (laidP no gsn l) = (true, l) := by
    unfold goP0
    simp only [t1, t2, t3, if_true]
    rw [goP_laid l 8 tail [] hc.1 hc.2.2]; rfl
  unfold readP
  rw [hg, t1]
  simp only
  rw [t2]
  simp only
  rw [if_pos ⟨laidP_len h, trivial, trivial⟩]
/-! ### as the document takes them -/
def byteN (s : Bs) (i : Nat) : Nat := (s[i]?.getD 0).toNat
def goR (s : Bs) : Nat → Nat → List Cel → Bool × List Cel
  | 0, _, acc => (true, acc)
  | f + 1, at_, acc => if byteN s at_ ≤ 8 then
      (if byteN s (at_ + 1 + byteN s at_) ≤ 16 then
        goR s f (at_ + 2 + byteN s at_ + byteN s (at_ + 1 + byteN s at_)) (acc ++ [((s.take (at_ + 1 + byteN s at_)).drop (at_ + 1), (s.take (at_ + 2 + byteN s at_ + byteN s (at_ + 1 + byteN s at_))).drop (at_ + 2 + byteN s at_))])
       else (false, acc))
    else (false, acc)
theorem byte_at {pre t : Bs} {b : UInt8} : byteN (pre ++ b :: t) pre.length = b.toNat := by
  unfold byteN; rw [List.getElem?_append_right (Nat.le_refl _)]; simp
theorem by8_len {n : Nat} (h : n ≤ 255) : (by8 (n : Int)).toNat = n := by
  unfold by8; rw [UInt8.toNat_ofNat']; omega
theorem goR_laid : ∀ (l : List Cel) (pre more : Bs) (acc : List Cel), (∀ c ∈ l, celOk c = true) → goR (pre ++ (l.flatMap cellB ++ more)) l.length pre.length acc = (true, acc ++ l)
  | [], _, _, _, _ => by simp [goR]
  | c :: t, pre, more, acc, hc => by
    have h1 := celOk_len (hc c (List.mem_cons_self ..))
    have e : pre ++ ((c :: t).flatMap cellB ++ more) = pre ++ (by8 (c.1.length : Int) :: (c.1 ++ (by8 (c.2.length : Int) :: (c.2 ++ (t.flatMap cellB ++ more))))) := by
      rw [List.flatMap_cons, cellB, shortB, shortB, be1, be1]; simp only [List.append_assoc, List.cons_append, List.nil_append]
    have e2 : pre ++ ((c :: t).flatMap cellB ++ more) = (pre ++ by8 (c.1.length : Int) :: c.1) ++ (by8 (c.2.length : Int) :: (c.2 ++ (t.flatMap cellB ++ more))) := by rw [e]; simp
    have e3 : pre ++ ((c :: t).flatMap cellB ++ more) = (pre ++ cellB c) ++ (t.flatMap cellB ++ more) := by rw [List.flatMap_cons]; simp only [List.append_assoc]
    have b1 : byteN (pre ++ ((c :: t).flatMap cellB ++ more)) pre.length = c.1.length := by rw [e, byte_at, by8_len (by omega)]
    have l2 : (pre ++ by8 (c.1.length : Int) :: c.1).length = pre.length + 1 + c.1.length := by simp only [List.length_append, List.length_cons]; omega
    have b2 : byteN (pre ++ ((c :: t).flatMap cellB ++ more)) (pre.length + 1 + c.1.length) = c.2.length := by rw [e2, ← l2, byte_at, by8_len (by omega)]
    have l3 : (pre ++ cellB c).length = pre.length + 2 + c.1.length + c.2.length := by unfold cellB; simp only [List.length_append, shortB_len]; omega
    rw [List.length_cons, goR, b1, if_pos h1.1, b2, if_pos h1.2]
    have k1 : ((pre ++ ((c :: t).flatMap cellB ++ more)).take (pre.length + 1 + c.1.length)).drop (pre.length + 1) = c.1 := by
      rw [e2, ← l2, List.take_left' rfl, show pre ++ by8 (c.1.length : Int) :: c.1 = (pre ++ [by8 (c.1.length : Int)]) ++ c.1 by simp, show pre.length + 1 = (pre ++ [by8 (c.1.length : Int)]).length by simp, List.drop_left' rfl]
    have k2 : ((pre ++ ((c :: t).flatMap cellB ++ more)).take (pre.length + 2 + c.1.length + c.2.length)).drop (pre.length + 2 + c.1.length) = c.2 := by
      rw [e3, ← l3, List.take_left' rfl]
      rw [show pre ++ cellB c = (pre ++ shortB c.1 ++ beFrom (c.2.length : Int) 1) ++ c.2 by unfold cellB; rw [show shortB c.2 = beFrom (c.2.length : Int) 1 ++ c.2 from rfl]; simp only [List.append_assoc]]
      rw [show pre.length + 2 + c.1.length = (pre ++ shortB c.1 ++ beFrom (c.2.length : Int) 1).length by simp only [List.length_append, shortB_len, beFrom_length]; omega, List.drop_left' rfl]
    rw [k1, k2, e3, ← l3, goR_laid t (pre ++ cellB c) more _ (fun a ha => hc a (List.mem_cons_of_mem c ha))]
    simp
def goR0 (s : Bs) : Bool × List Cel := if (takeS (s.drop 1) 8).2.2 = true then goR s (min (byteN s 9) 8) 10 [] else (false, [])
def readR (s : Bs) : Bool × Int × Int × List Cel :=
  if s.length = 256 ∧ (goR0 s).1 = true ∧ pageR (byteN s 0) (takeS (s.drop 1) 8).1 (goR0 s).2 = true ∧ laidP (byteN s 0) (takeS (s.drop 1) 8).1 (goR0 s).2 = s then (true, (byteN s 0 : Int), (takeS (s.drop 1) 8).1, (goR0 s).2) else (false, 0, 0, [])
theorem readR_laid {no gsn : Int} {l : List Cel} (h : pageR no gsn l = true) : readR (laidP no gsn l) = (true, no, gsn, l) := by
  obtain ⟨tail, ht⟩ := laid_takes h
  have hp := pageR_iff.1 h
  have hc := cellsR_iff.1 hp.2
  obtain ⟨n0, hn0⟩ : ∃ n : Nat, no = (n : Int) := ⟨no.toNat, by omega⟩
  have b0 : byteN (laidP no gsn l) 0 = n0 := by
    rw [ht, be1]
    have := byte_at (pre := []) (b := by8 no) (t := beFrom gsn 8 ++ (beFrom (l.length : Int) 1 ++ (l.flatMap cellB ++ tail)))
    rw [hn0] at this ⊢
    rw [by8_len (by omega)] at this
    exact this
  have d1 : (laidP no gsn l).drop 1 = beFrom gsn 8 ++ (beFrom (l.length : Int) 1 ++ (l.flatMap cellB ++ tail)) := by rw [ht, be1]; rfl
  have t2 : takeS ((laidP no gsn l).drop 1) 8 = (gsn, beFrom (l.length : Int) 1 ++ (l.flatMap cellB ++ tail), true) := by
    rw [d1]; exact take_be (by decide) (by decide) (by omega) (fits_lit (b := 9223372036854775808) (by omega) (by omega) (by decide) (by decide) (by omega))
  have e9 : laidP no gsn l = (beFrom no 1 ++ beFrom gsn 8) ++ (by8 (l.length : Int) :: (l.flatMap cellB ++ tail)) := by rw [ht, be1 (l.length : Int)]; simp only [List.append_assoc, List.cons_append, List.nil_append]
  have b9 : byteN (laidP no gsn l) 9 = l.length := by
    have := byte_at (pre := beFrom no 1 ++ beFrom gsn 8) (b := by8 (l.length : Int)) (t := l.flatMap cellB ++ tail)
    rw [← e9, by8_len (by omega), List.length_append, beFrom_length, beFrom_length] at this
    exact this
  have hg : goR0 (laidP no gsn l) = (true, l) := by
    unfold goR0
    rw [t2, if_pos rfl, b9, Nat.min_eq_left (by omega)]
    have e10 : laidP no gsn l = (beFrom no 1 ++ beFrom gsn 8 ++ beFrom (l.length : Int) 1) ++ (l.flatMap cellB ++ tail) := by rw [ht]; simp only [List.append_assoc]
    have := goR_laid l (beFrom no 1 ++ beFrom gsn 8 ++ beFrom (l.length : Int) 1) tail [] hc.1
    rw [← e10] at this
    simpa [beFrom_length] using this
  unfold readR
  rw [hg, b0, t2, ← hn0]
  simp only
  rw [if_pos ⟨laidP_len h, trivial, h, trivial⟩]
theorem readR_true {s : Bs} (h : (readR s).1 = true) : pageR (readR s).2.1 (readR s).2.2.1 (readR s).2.2.2 = true ∧ laidP (readR s).2.1 (readR s).2.2.1 (readR s).2.2.2 = s := by
  unfold readR at h ⊢
  split at h
  · rename_i g; rw [if_pos g]; exact ⟨g.2.2.1, g.2.2.2⟩
  · cases h
theorem readP_false {s : Bs} (h : (readP s).1 = false) : readP s = (false, 0, 0, []) := by
  unfold readP at h ⊢
  split at h
  · cases h
  · rename_i g; rw [if_neg g]
theorem readR_false {s : Bs} (h : (readR s).1 = false) : readR s = (false, 0, 0, []) := by
  unfold readR at h ⊢
  split at h
  · cases h
  · rename_i g; rw [if_neg g]
/-- both are the page whose bytes these are -/
theorem read_eq (s : Bs) : readP s = readR s := by
  cases h : (readP s).1 with
  | true =>
    obtain ⟨h1, h2⟩ := readP_true h
    have e := readR_laid h1
    rw [h2] at e
    rw [e, ← h]
  | false =>
    cases g : (readR s).1 with
    | true =>
      obtain ⟨h1, h2⟩ := readR_true g
      have e := readP_laid h1
      rw [h2] at e
      rw [e] at h; cases h
    | false => rw [readP_false h, readR_false g]
theorem text_no {s : Bs} (h : (takeS s 1).2.2 = false ∨ ((takeS s 1).2.1.length : Int) < (takeS s 1).1) : textS s = ([], [], false) := by
  unfold textS; rw [if_neg]; rintro ⟨g1, g2⟩
  rcases h with h | h
  · rw [g1] at h; cases h
  · omega
theorem text_yes {s : Bs} (h1 : (takeS s 1).2.2 = true) (h2 : ¬ ((takeS s 1).2.1.length : Int) < (takeS s 1).1) : textS s = ((takeS s 1).2.1.take (takeS s 1).1.toNat, (takeS s 1).2.1.drop (takeS s 1).1.toNat, true) := by
  unfold textS; rw [if_pos ⟨h1, by omega⟩]
/-- where page.Read's loop stands -/
def goS (ok : Bool) (n : Int) (rest : Bs) (acc : List Cel) : Bool × List Cel := if ok = true then goP (8 - acc.length) n rest acc else (false, acc)
theorem goS_step {n : Int} {rest r3 : Bs} {acc : List Cel} {X : Bool × List Cel} {ok : Bool} (h : X = goS ok n rest acc) (hok : ok = true) (hn : 0 < n) (ha : acc.length < 8) :
    X = if (textS rest).2.2 = true then goS (textS (textS rest).2.1).2.2 (n - 1) (textS (textS rest).2.1).2.1 (acc ++ [((textS rest).1, (textS (textS rest).2.1).1)]) else goS false (n - 1) r3 (acc ++ [((textS rest).1, [])]) := by
  subst hok
  obtain ⟨f, hf⟩ : ∃ f, 8 - acc.length = f + 1 := ⟨7 - acc.length, by omega⟩
  rw [h, goS, if_pos rfl, hf, goP, if_pos hn]
  have hl : ∀ c : Cel, 8 - (acc ++ [c]).length = f := fun c => by simp only [List.length_append, List.length_cons, List.length_nil]; omega
  by_cases g1 : (textS rest).2.2 = true
  · rw [if_pos g1, if_pos g1]
    unfold goS
    rw [hl]
  · rw [if_neg g1, if_neg g1]
    simp [goS]
theorem goS_end {n : Int} {rest : Bs} {acc : List Cel} {X : Bool × List Cel} {ok : Bool} (h : X = goS ok n rest acc) (he : ok = false ∨ ¬ 0 < n ∨ ¬ acc.length < 8) : X = (ok, acc) := by
  rw [h]; unfold goS
  cases ok with
  | false => simp
  | true =>
    rw [if_pos rfl]
    rcases he with he | he | he
    · cases he
    · cases 8 - acc.length with
      | zero => rfl
      | succ f => rw [goP, if_neg he]
    · rw [show 8 - acc.length = 0 by omega]; rfl
theorem goS_start (s : Bs) : goP0 s = goS (takeS (takeS s 1).2.1 8).2.2 (takeS (takeS (takeS s 1).2.1 8).2.1 1).1 (takeS (takeS (takeS s 1).2.1 8).2.1 1).2.1 [] := rfl
theorem readP_yes {s : Bs} {l : List Cel} (h : s.length = 256) (hg : goP0 s = (true, l)) (hl : laidP (takeS s 1).1 (takeS (takeS s 1).2.1 8).1 l = s) : readP s = (true, (takeS s 1).1, (takeS (takeS s 1).2.1 8).1, l) := by
  unfold readP; rw [hg, if_pos ⟨h, rfl, hl⟩]
theorem readP_no {s : Bs} (h : ¬ s.length = 256 ∨ (goP0 s).1 = false ∨ laidP (takeS s 1).1 (takeS (takeS s 1).2.1 8).1 (goP0 s).2 ≠ s) : readP s = (false, 0, 0, []) := by
  unfold readP; rw [if_neg]; rintro ⟨g1, g2, g3⟩
  rcases h with h | h | h
  · exact h g1
  · rw [g2] at h; cases h
  · exact h g3
/-! ### the document's bytes -/
theorem head_ref (no gsn : Int) (n : Nat) : [by8 no] ++ beFrom gsn 8 ++ [by8 (n : Int)] = headB no gsn n := by unfold headB; rw [be1, be1]
theorem cell_ref {t : Bs} {l : List Cel} {k : Nat} {c : Cel} {h0 : Bs} (h : t = h0 ++ (l.take k).flatMap cellB) (hx : l[k]? = some c) : t ++ [by8 (c.1.length : Int)] ++ c.1 ++ [by8 (c.2.length : Int)] ++ c.2 = h0 ++ (l.take (k + 1)).flatMap cellB := by
  rw [take_succ_of hx, List.flatMap_append, h]
  simp [cellB, shortB, be1]
theorem full_ref {no gsn : Int} {l : List Cel} {u : Bs} {j : Nat} (h : pageR no gsn l = true) (hu : u = bodyB no gsn l ++ List.replicate j 0) (hl : u.length = 252) : u ++ laidS (crcS u) = laidP no gsn l := by
  have e : u = fullB no gsn l := by
    rw [hu, List.length_append, List.length_replicate] at hl
    rw [hu]; unfold fullB; rw [show j = 252 - (bodyB no gsn l).length by omega]
  unfold laidP; rw [if_pos h, sealS, e]
theorem byteN_of {s : Bs} {i : Nat} {c : UInt8} (h : s[i]? = some c) : byteN s i = c.toNat := by unfold byteN; rw [h]; rfl
/-- where the document's loop stands -/
def grS (s : Bs) (ok : Bool) (f at_ : Nat) (acc : List Cel) : Bool × List Cel := if ok = true then goR s f at_ acc else (false, acc)
theorem grS_no1 {s : Bs} {ok : Bool} {f at_ : Nat} {acc : List Cel} {X : Bool × List Cel} {c : UInt8} (h : X = grS s ok f at_ acc) (hok : ok = true) (hf : 0 < f) (hc : s[at_]? = some c) (h8 : ¬ (c.toNat : Int) ≤ 8) : X = (false, acc) := by
  obtain ⟨f, rfl⟩ : ∃ g, f = g + 1 := ⟨f - 1, by omega⟩
  rw [h, grS, if_pos hok, goR, byteN_of hc, if_neg (by omega)]
theorem grS_no2 {s : Bs} {ok : Bool} {f at_ a : Nat} {acc : List Cel} {X : Bool × List Cel} {c d : UInt8} (h : X = grS s ok f at_ acc) (hok : ok = true) (hf : 0 < f) (hc : s[at_]? = some c) (h8 : (c.toNat : Int) ≤ 8) (hd : s[a]? = some d) (ha : a = at_ + 1 + c.toNat) (h16 : ¬ (d.toNat : Int) ≤ 16) : X = (false, acc) := by
  obtain ⟨f, rfl⟩ : ∃ g, f = g + 1 := ⟨f - 1, by omega⟩
  subst ha
  rw [h, grS, if_pos hok, goR, byteN_of hc, if_pos (by omega), byteN_of hd, if_neg (by omega)]
theorem grS_go {s : Bs} {ok : Bool} {f f2 at_ a a1 a2 a3 a4 b : Nat} {acc : List Cel} {X : Bool × List Cel} {c d : UInt8} (h : X = grS s ok f at_ acc) (hok : ok = true) (hf : f = f2 + 1) (hc : s[at_]? = some c) (h8 : (c.toNat : Int) ≤ 8) (hd : s[a]? = some d) (ha : a = at_ + 1 + c.toNat) (h16 : (d.toNat : Int) ≤ 16)
    (e1 : a1 = at_ + 1) (e2 : a2 = at_ + 1 + c.toNat) (e3 : a3 = at_ + 2 + c.toNat) (e4 : a4 = at_ + 2 + c.toNat + d.toNat) (eb : b = at_ + 2 + c.toNat + d.toNat) {ok2 : Bool} (hok2 : ok2 = true) : X = grS s ok2 f2 b (acc ++ [((s.take a2).drop a1, (s.take a4).drop a3)]) := by
  subst hf ha e1 e2 e3 e4 eb hok2
  rw [h, grS, if_pos hok, goR, byteN_of hc, if_pos (by omega), byteN_of hd, if_pos (by omega), grS, if_pos rfl]
theorem grS_end {s : Bs} {ok : Bool} {f at_ : Nat} {acc : List Cel} {X : Bool × List Cel} (h : X = grS s ok f at_ acc) (he : ok = false ∨ f = 0) : X = (ok, acc) := by
  rw [h]; unfold grS
  cases ok with
  | false => simp
  | true => rcases he with e | e
            · cases e
            · rw [if_pos rfl, e]; rfl
theorem goR0_start {s : Bs} {c : UInt8} (hc : s[9]? = some c) : goR0 s = grS s (takeS (s.drop 1) 8).2.2 (min c.toNat 8 - 0) 10 [] := by
  unfold goR0 grS; rw [byteN_of hc]; rfl
theorem readR_yes {s : Bs} {l : List Cel} {c : UInt8} (h : s.length = 256) (hc : s[0]? = some c) (hg : goR0 s = (true, l)) (hr : pageR (c.toNat : Int) (takeS (s.drop 1) 8).1 l = true) (hl : laidP (c.toNat : Int) (takeS (s.drop 1) 8).1 l = s) : readR s = (true, (c.toNat : Int), (takeS (s.drop 1) 8).1, l) := by
  unfold readR; rw [hg, byteN_of hc, if_pos ⟨h, rfl, hr, hl⟩]
theorem readR_no {s : Bs} {c : UInt8} {g : Bool × List Cel} (hg : goR0 s = g) (hc : s[0]? = some c) (h : g.1 = false ∨ pageR (c.toNat : Int) (takeS (s.drop 1) 8).1 g.2 = false ∨ laidP (c.toNat : Int) (takeS (s.drop 1) 8).1 g.2 ≠ s) : readR s = (false, 0, 0, []) := by
  unfold readR; rw [hg, byteN_of hc, if_neg]; rintro ⟨_, g1, g2, g3⟩
  rcases h with h | h | h
  · rw [g1] at h; cases h
  · rw [g2] at h; cases h
  · exact h g3
theorem readR_short {s : Bs} (h : ¬ s.length = 256) : readR s = (false, 0, 0, []) := by
  unfold readR; rw [if_neg (fun g => h g.1)]
end Go.Q
namespace Go.Q
theorem cell_prog {t : Bs} {l : List Cel} {k : Nat} {c : Cel} {h0 : Bs} (h : t = h0 ++ (l.take k).flatMap cellB) (hx : l[k]? = some c) : t ++ (shortB c.1 ++ shortB c.2) = h0 ++ (l.take (k + 1)).flatMap cellB := by
  rw [take_succ_of hx, List.flatMap_append, h]
  simp [cellB]
end Go.Q
namespace Go.Q
structure Hd where
  seq : Int
  ep : Int
  cut : Int
  st : Int
  mrk : Int
deriving DecidableEq
def hdZ : Hd := ⟨0, 0, 0, 0, 0⟩
def hdR (h : Hd) : Bool := decide ((0 ≤ h.seq ∧ h.seq ≤ 4611686018427387903) ∧ (0 ≤ h.ep ∧ h.ep ≤ 2147483647) ∧ (0 ≤ h.cut ∧ h.cut ≤ 4611686018427387903) ∧ (0 ≤ h.st ∧ h.st ≤ 4611686018427387903) ∧ (0 ≤ h.mrk ∧ h.mrk ≤ 4611686018427387903))
def hdN (h : Hd) : Bs := beFrom h.seq 8 ++ (beFrom h.ep 8 ++ (beFrom h.cut 8 ++ (beFrom h.st 8 ++ beFrom h.mrk 8)))
theorem hdN_len (h : Hd) : (hdN h).length = 40 := by unfold hdN; simp [beFrom_length]
/-- the sector of a right head; of another there is none -/
def hdL (h : Hd) : Bs := if hdR h = true then sealS (hdN h) ++ List.replicate 20 0 else []
theorem hdL_len {h : Hd} (hr : hdR h = true) : (hdL h).length = 64 := by
  unfold hdL; rw [if_pos hr, List.length_append, List.length_replicate, sealS, List.length_append, hdN_len, laidS_len]
theorem hdL_no {h : Hd} (hr : hdR h = false) : hdL h = [] := by unfold hdL; rw [if_neg (by rw [hr]; decide)]
/-- as the program reads it: each number from what the one before leaves -/
def hdP (s : Bs) : Hd × Bool :=
  let t1 := takeS s 8; let t2 := takeS t1.2.1 8; let t3 := takeS t2.2.1 8; let t4 := takeS t3.2.1 8; let t5 := takeS t4.2.1 8
  let h : Hd := ⟨t1.1, t2.1, t3.1, t4.1, t5.1⟩
  if s.length = 64 ∧ hdL h = s then (h, true) else (hdZ, false)
/-- as the document does: each at its place -/
def hdD (s : Bs) : Hd × Bool :=
  let h : Hd := ⟨(takeS s 8).1, (takeS (s.drop 8) 8).1, (takeS (s.drop 16) 8).1, (takeS (s.drop 24) 8).1, (takeS (s.drop 32) 8).1⟩
  if s.length = 64 ∧ hdR h = true ∧ hdL h = s then (h, true) else (hdZ, false)
theorem take8 {x : Int} {more : Bs} (h : 0 ≤ x ∧ x ≤ 4611686018427387903) : takeS (beFrom x 8 ++ more) 8 = (x, more, true) :=
  take_be (by decide) (by decide) (by omega) (fits_lit (b := 9223372036854775808) h.1 (by omega) (by decide) (by decide) (by omega))
theorem hd_tail {h : Hd} (hr : hdR h = true) : ∃ tail : Bs, hdL h = beFrom h.seq 8 ++ (beFrom h.ep 8 ++ (beFrom h.cut 8 ++ (beFrom h.st 8 ++ (beFrom h.mrk 8 ++ tail)))) := by
  refine ⟨laidS (crcS (hdN h)) ++ List.replicate 20 0, ?_⟩
  unfold hdL
  rw [if_pos hr, sealS]
  generalize laidS (crcS (hdN h)) = y
  unfold hdN
  simp only [List.append_assoc]
theorem drop8 {x : Int} {more : Bs} : (beFrom x 8 ++ more).drop 8 = more := List.drop_left' (beFrom_length x 8)
theorem hdP_laid {h : Hd} (hr : hdR h = true) : hdP (hdL h) = (h, true) := by
  obtain ⟨tail, ht⟩ := hd_tail hr
  have hb := of_decide_eq_true hr
  obtain ⟨b1, b2, b3, b4, b5⟩ := hb
  unfold hdP
  have t1 : takeS (hdL h) 8 = (h.seq, beFrom h.ep 8 ++ (beFrom h.cut 8 ++ (beFrom h.st 8 ++ (beFrom h.mrk 8 ++ tail))), true) := by rw [ht]; exact take8 b1
  simp only [t1, take8 (x := h.ep) ⟨b2.1, by omega⟩, take8 b3, take8 b4, take8 b5]
  rw [if_pos ⟨hdL_len hr, trivial⟩]
theorem hdD_laid {h : Hd} (hr : hdR h = true) : hdD (hdL h) = (h, true) := by
  obtain ⟨tail, ht⟩ := hd_tail hr
  obtain ⟨b1, b2, b3, b4, b5⟩ := of_decide_eq_true hr
  have d1 : (hdL h).drop 8 = beFrom h.ep 8 ++ (beFrom h.cut 8 ++ (beFrom h.st 8 ++ (beFrom h.mrk 8 ++ tail))) := by rw [ht, drop8]
  have d2 : (hdL h).drop 16 = beFrom h.cut 8 ++ (beFrom h.st 8 ++ (beFrom h.mrk 8 ++ tail)) := by rw [show 16 = 8 + 8 from rfl, ← List.drop_drop, d1, drop8]
  have d3 : (hdL h).drop 24 = beFrom h.st 8 ++ (beFrom h.mrk 8 ++ tail) := by rw [show 24 = 16 + 8 from rfl, ← List.drop_drop, d2, drop8]
  have d4 : (hdL h).drop 32 = beFrom h.mrk 8 ++ tail := by rw [show 32 = 24 + 8 from rfl, ← List.drop_drop, d3, drop8]
  have t1 : takeS (hdL h) 8 = (h.seq, beFrom h.ep 8 ++ (beFrom h.cut 8 ++ (beFrom h.st 8 ++ (beFrom h.mrk 8 ++ tail))), true) := by rw [ht]; exact take8 b1
  unfold hdD
  simp only [d1, d2, d3, d4, t1, take8 (x := h.ep) ⟨b2.1, by omega⟩, take8 b3, take8 b4, take8 b5]
  rw [if_pos ⟨hdL_len hr, hr, trivial⟩]
theorem hdP_true {s : Bs} (h : (hdP s).2 = true) : hdR (hdP s).1 = true ∧ hdL (hdP s).1 = s := by
  unfold hdP at h ⊢
  simp only at h ⊢
  split at h
  · rename_i g
    rw [if_pos g]
    refine ⟨?_, g.2⟩
    cases hr : hdR _ with
    | true => rfl
    | false => have := g.2; rw [hdL_no hr] at this; rw [← this] at g; simp at g
  · cases h
theorem hdD_true {s : Bs} (h : (hdD s).2 = true) : hdR (hdD s).1 = true ∧ hdL (hdD s).1 = s := by
  unfold hdD at h ⊢
  simp only at h ⊢
  split at h
  · rename_i g; rw [if_pos g]; exact g.2
  · cases h
theorem hdP_false {s : Bs} (h : (hdP s).2 = false) : hdP s = (hdZ, false) := by
  unfold hdP at h ⊢
  simp only at h ⊢
  split
  · rename_i g; rw [if_pos g] at h; cases h
  · rfl
theorem hdD_false {s : Bs} (h : (hdD s).2 = false) : hdD s = (hdZ, false) := by
  unfold hdD at h ⊢
  simp only at h ⊢
  split
  · rename_i g; rw [if_pos g] at h; cases h
  · rfl
theorem hd_eq (s : Bs) : hdP s = hdD s := by
  cases h : (hdP s).2 with
  | true =>
    obtain ⟨h1, h2⟩ := hdP_true h
    have e := hdD_laid h1
    rw [h2] at e
    rw [e, ← h]
  | false =>
    cases g : (hdD s).2 with
    | true =>
      obtain ⟨h1, h2⟩ := hdD_true g
      have e := hdP_laid h1
      rw [h2] at e
      rw [e] at h; cases h
    | false => rw [hdP_false h, hdD_false g]
/-- the better of two sectors' heads, as the program finds it: one behind the other -/
def ldStep (i : Int) (best : Hd × Bool) (r : Hd × Bool) : Hd × Bool := if r.2 = true ∧ r.1.seq % 2 = i ∧ (best.2 = false ∨ best.1.seq < r.1.seq) then (r.1, true) else best
def blankB (s : Bs) : Bool := decide (s = List.replicate 64 0)
def ldP (s t : Bs) : Hd × Int :=
  let b := ldStep 1 (ldStep 0 (hdZ, false) (hdP s)) (hdP t)
  if b.2 = true then (b.1, 0) else if blankB s = true ∧ blankB t = true then (hdZ, 7) else (hdZ, 9)
/-- as the document tells it -/
def ldD (s t : Bs) : Hd × Int :=
  let a := hdD s; let b := hdD t
  let x := a.2 && decide (a.1.seq % 2 = 0); let y := b.2 && decide (b.1.seq % 2 = 1)
  if x = true ∧ (y = false ∨ b.1.seq < a.1.seq) then (a.1, 0) else if y = true then (b.1, 0) else if blankB s = true ∧ t = s then (hdZ, 7) else (hdZ, 9)
theorem ld_eq (s t : Bs) : ldP s t = ldD s t := by
  have hb : (blankB s = true ∧ blankB t = true) ↔ (blankB s = true ∧ t = s) := by
    unfold blankB
    simp only [decide_eq_true_eq]
    constructor
    · rintro ⟨h1, h2⟩; exact ⟨h1, by rw [h1, h2]⟩
    · rintro ⟨h1, h2⟩; exact ⟨h1, by rw [h2, h1]⟩
  unfold ldP ldD
  rw [hd_eq s, hd_eq t]
  generalize hdD s = a
  generalize hdD t = b
  obtain ⟨a1, a2⟩ := a
  obtain ⟨b1, b2⟩ := b
  unfold ldStep
  by_cases hx : a2 = true ∧ a1.seq % 2 = 0
  · obtain ⟨rfl, hx2⟩ := hx
    by_cases hy : b2 = true ∧ b1.seq % 2 = 1
    · obtain ⟨rfl, hy2⟩ := hy
      by_cases hc : a1.seq < b1.seq
      · have : ¬ b1.seq < a1.seq := by omega
        simp [hx2, hy2, hc, this]
      · have : b1.seq < a1.seq := by omega
        simp [hx2, hy2, hc, this]
    · have : (b2 && decide (b1.seq % 2 = 1)) = false := by cases b2 <;> simp_all
      have hn : ¬ (b2 = true ∧ b1.seq % 2 = 1 ∧ a1.seq < b1.seq) := fun g => hy ⟨g.1, g.2.1⟩
      simp [hx2, this, hn]
  · have hxf : (a2 && decide (a1.seq % 2 = 0)) = false := by cases a2 <;> simp_all
    by_cases hy : b2 = true ∧ b1.seq % 2 = 1
    · obtain ⟨rfl, hy2⟩ := hy
      have : ¬ (a2 = true ∧ a1.seq % 2 = 0) := hx
      simp [hxf, hy2, this]
    · have hyf : (b2 && decide (b1.seq % 2 = 1)) = false := by cases b2 <;> simp_all
      have h1 : ¬ (a2 = true ∧ a1.seq % 2 = 0) := hx
      have h2 : ¬ (b2 = true ∧ b1.seq % 2 = 1) := hy
      simp [hxf, hyf, h1, h2, hb]
end Go.Q
namespace Go.Q
/-- a power that is on, is not armed, and was used a few times -/
structure Calm (p : Pw) (k : Nat) : Prop where
  off : p.off = false
  arm : p.armed = false
  u0 : 0 ≤ p.uses
  u1 : p.uses ≤ k
  l0 : -(k : Int) ≤ p.left
  l1 : p.left ≤ 0
theorem Calm.ok {p : Pw} {k : Nat} (h : Calm p k) (hk : k ≤ 1000000) : PwOk p := by
  obtain ⟨_, _, h1, h2, h3, h4⟩ := h
  exact ⟨h1, by omega, by omega, by omega⟩
theorem Calm.use {p : Pw} {k : Nat} (h : Calm p k) : Calm (useS p) (k + 1) := by
  obtain ⟨h1, h2, h3, h4, h5, h6⟩ := h
  unfold useS
  rw [if_neg (by rw [h1]; decide), h2]
  exact ⟨rfl, rfl, by show 0 ≤ p.uses + 1; omega, by show p.uses + 1 ≤ _; omega, by show _ ≤ p.left - 1; omega, by show p.left - 1 ≤ 0; omega⟩
theorem Calm.b {p : Pw} {k : Nat} (h : Calm p k) : useB p = true := by
  have := h.use.off
  unfold useB; rw [h.off, this]; rfl
theorem Calm.mono {p : Pw} {k m : Nat} (h : Calm p k) (hk : k ≤ m) : Calm p m := ⟨h.off, h.arm, h.u0, by have := h.u1; omega, by have := h.l0; omega, h.l1⟩
theorem Calm.back {p : Pw} {k : Nat} (h : Calm p k) : Calm (backS p) k := ⟨rfl, rfl, h.u0, h.u1, h.l0, h.l1⟩
theorem Calm.new : Calm (Pw.mk false false 0 0) 0 := ⟨rfl, rfl, by decide, by decide, by decide, by decide⟩
theorem settle_at {lo : List (Int × Bs)} (h0 : ∀ n, (getB lo n).isSome = true → 0 ≤ n) (j : Nat) : ∀ (keep : List Int) (la : List Bs), j < la.length → (settleS lo la keep)[j]? = if (j : Int) ∈ keep ∧ (getB lo (j : Int)).isSome = true then getB lo (j : Int) else la[j]?
  | [], la, _ => by simp [settleS]
  | n :: keep, la, hj => by
    show (settleS lo (match getB lo n with | some s => la.set n.toNat s | none => la) keep)[j]? = _
    cases hn : getB lo n with
    | none =>
      rw [settle_at h0 j keep la hj]
      by_cases e : (j : Int) = n
      · rw [e, hn]; simp
      · simp [List.mem_cons, e]
    | some s =>
      show (settleS lo (la.set n.toNat s) keep)[j]? = _
      rw [settle_at h0 j keep (la.set n.toNat s) (by simpa using hj)]
      have hp := h0 n (by rw [hn]; rfl)
      by_cases e : (j : Int) = n
      · subst e
        rw [hn]
        simp [hj]
      · have g : n.toNat ≠ j := by omega
        simp [List.mem_cons, e, List.getElem?_set, g]
theorem LoOk.nn {lo : List (Int × Bs)} {k : Nat} (h : LoOk lo k) : ∀ n, (getB lo n).isSome = true → 0 ≤ n := fun n g => (h.get g).1
theorem keysS_mem {lo : List (Int × Bs)} {n : Int} : n ∈ keysS lo ↔ (getB lo n).isSome = true := by
  unfold keysS; rw [(List.mergeSort_perm _ _).mem_iff, getB_mem]
/-- a text that may be a sector's -/
def okT (l : List Bs) (j : Nat) : Prop := j < l.length ∧ ((l[j]?).getD []).length ≤ 64
instance (l : List Bs) (j : Nat) : Decidable (okT l j) := inferInstanceAs (Decidable (_ ∧ _))
def secT (base l : List Bs) (j : Nat) : Bs := if okT l j then fillS ((l[j]?).getD []) else (base[j]?).getD []
theorem secT_yes {base l : List Bs} {j : Nat} {s : Bs} (h : l[j]? = some s) (hs : s.length ≤ 64) : secT base l j = fillS s := by
  have hlt := (List.getElem?_eq_some_iff.1 h).1
  unfold secT; rw [if_pos ⟨hlt, by rw [h]; exact hs⟩, h]; rfl
theorem secT_no {base l : List Bs} {j : Nat} (h : ¬ okT l j) : secT base l j = (base[j]?).getD [] := by unfold secT; rw [if_neg h]
/-- what is loose where the first i texts were written -/
def WR (k : Nat) (l : List Bs) (i : Nat) (lo : List (Int × Bs)) : Prop := (∀ j : Nat, j < k → getB lo (j : Int) = if j < i ∧ okT l j then some (fillS ((l[j]?).getD [])) else none) ∧ LoOk lo k
theorem LoOk.nil (k : Nat) : LoOk [] k := fun p h => by simp at h
theorem LoOk.put {lo : List (Int × Bs)} {k : Nat} (h : LoOk lo k) {n : Int} {s : Bs} (hn : inS n k) (hs : s.length = 64) : LoOk (putB lo n s) k := by
  intro p hp
  have : ∀ l : List (Int × Bs), p ∈ putB l n s → p = (n, s) ∨ p ∈ l := by
    intro l
    induction l with
    | nil => intro h; exact .inl (List.mem_singleton.1 h)
    | cons q t ih =>
      obtain ⟨a, u⟩ := q
      intro h
      rw [putB] at h
      split at h
      · rcases List.mem_cons.1 h with e | e
        · exact .inl e
        · exact .inr (List.mem_cons_of_mem _ e)
      · rcases List.mem_cons.1 h with e | e
        · exact .inr (by rw [e]; exact List.mem_cons_self ..)
        · rcases ih e with e | e
          · exact .inl e
          · exact .inr (List.mem_cons_of_mem _ e)
  rcases this lo hp with rfl | g
  · exact ⟨hn, hs⟩
  · exact h p g
theorem LoOk.del {lo : List (Int × Bs)} {k : Nat} (h : LoOk lo k) (n : Int) : LoOk (delB lo n) k := fun p hp => h p ((delB_sub n lo).subset hp)
theorem LoOk.write {lo : List (Int × Bs)} {k : Nat} (h : LoOk lo k) (p : Pw) (n : Int) (s : Bs) : LoOk (writeS p k lo n s) k := by
  unfold writeS
  split
  · rename_i g; exact h.put g.2.2 (fill_len g.2.1)
  · exact h
theorem WR.start (k : Nat) (l : List Bs) : WR k l 0 [] := ⟨fun j _ => by simp [getB], LoOk.nil k⟩
theorem WR.yes {k i m : Nat} {l : List Bs} {lo : List (Int × Bs)} {p : Pw} {s : Bs} (h : WR k l i lo) (hi : i < k) (hx : l[i]? = some s) (hs : s.length ≤ 64) (hp : Calm p m) : WR k l (i + 1) (writeS p k lo (i : Int) [s].flatten) := by
  have e : ([s] : List Bs).flatten = s := by simp
  have hin : inS (i : Int) k := ⟨by omega, by omega⟩
  have hw : writeS p k lo (i : Int) [s].flatten = putB lo (i : Int) (fillS s) := by unfold writeS; rw [e, if_pos ⟨hp.b, hs, hin⟩]
  have hlt := (List.getElem?_eq_some_iff.1 hx).1
  refine ⟨fun j hj => ?_, h.2.write p _ _⟩
  rw [hw, getB_put]
  by_cases g : j = i
  · subst g
    rw [if_pos rfl, if_pos ⟨by omega, hlt, by rw [hx]; exact hs⟩, hx]; rfl
  · rw [if_neg (by omega), h.1 j hj]
    by_cases c : j < i
    · simp [c, show j < i + 1 by omega]
    · simp [c, show ¬ j < i + 1 by omega]
theorem WR.no {k i : Nat} {l : List Bs} {lo : List (Int × Bs)} (h : WR k l i lo) (hx : ¬ okT l i) : WR k l (i + 1) lo := by
  refine ⟨fun j hj => ?_, h.2⟩
  rw [h.1 j hj]
  by_cases g : j = i
  · subst g; simp [hx]
  · by_cases c : j < i
    · simp [c, show j < i + 1 by omega]
    · simp [c, show ¬ j < i + 1 by omega]
theorem WR.at {k j : Nat} {l la : List Bs} {lo : List (Int × Bs)} (h : WR k l k lo) (hl : la.length = k) (hj : j < k) (keep : List Int) : (settleS lo la keep)[j]? = some (if (j : Int) ∈ keep then secT la l j else (la[j]?).getD []) := by
  rw [settle_at h.2.nn j keep la (by omega), h.1 j hj]
  have hla : la[j]? = some la[j] := List.getElem?_eq_getElem (by omega)
  by_cases c : okT l j
  · simp only [hj, c, and_self, if_true, Option.isSome_some, and_true]
    by_cases d : (j : Int) ∈ keep
    · rw [if_pos d, if_pos d]; unfold secT; rw [if_pos c]
    · rw [if_neg d, if_neg d, hla]; rfl
  · simp only [c, and_false, if_false, Option.isSome_none, Bool.false_eq_true]
    rw [hla, secT_no c]
    split <;> simp [hla]
theorem map_range_get {α : Type} (f : Nat → α) {k j : Nat} (hj : j < k) : ((List.range k).map f)[j]? = some (f j) := by
  rw [List.getElem?_map, List.getElem?_range hj]; rfl
theorem WR.sync {k : Nat} {l la : List Bs} {lo : List (Int × Bs)} (h : WR k l k lo) (hl : la.length = k) : settleS lo la (keysS lo) = (List.range k).map (secT la l) := by
  refine List.ext_getElem? fun j => ?_
  rcases Nat.lt_or_ge j k with hj | hj
  · rw [h.at hl hj, map_range_get _ hj]
    by_cases c : okT l j
    · rw [if_pos (keysS_mem.2 (by rw [h.1 j hj, if_pos ⟨hj, c⟩]; rfl))]
    · rw [secT_no c]; simp
  · rw [List.getElem?_eq_none (by rw [settle_len]; omega), List.getElem?_eq_none (by simp; omega)]
theorem sync_calm {p : Pw} {k : Nat} (h : Calm p k) (la : List Bs) (lo : List (Int × Bs)) : syncE p = 0 ∧ syncA p la lo = settleS lo la (keysS lo) ∧ syncO p lo = [] := by
  unfold syncE syncA syncO; rw [h.b]; exact ⟨rfl, rfl, rfl⟩
theorem read_calm {p : Pw} {k : Nat} (h : Calm p k) {la : List Bs} {n : Int} (hn : inS n la.length) : readS p la [] n = (la[n.toNat]?).getD [] ∧ readE p la n = 0 := by
  unfold readS readE; rw [h.off]; simp [hn, getB]
theorem set_last {α : Type} (l : List α) (a b : α) {n : Int} (h : n = (l.length : Int)) : (l ++ [a]).set n.toNat b = l ++ [b] := by
  subst h; simp
theorem range_snoc {α : Type} (f : Nat → α) (k : Nat) : (List.range (k + 1)).map f = (List.range k).map f ++ [f k] := by rw [List.range_succ, List.map_append]; rfl
theorem keys_nil : keysS ([] : List (Int × Bs)) = [] := by simp [keysS]
end Go.Q
namespace Go.Q
theorem sub_perm : ∀ {S R : List Hp}, S.Nodup → S ⊆ R → ∃ rest, R.Perm (S ++ rest)
  | [], R, _, _ => ⟨R, .refl _⟩
  | a :: S, R, hn, hs => by
    obtain ⟨l1, l2, rfl⟩ := List.append_of_mem (hs List.mem_cons_self)
    obtain ⟨rest, h⟩ := sub_perm (S := S) (R := l1 ++ l2) (List.nodup_cons.1 hn).2 (fun x hx => by
      have g := hs (List.mem_cons_of_mem _ hx)
      have hne : x ≠ a := fun e => (List.nodup_cons.1 hn).1 (e ▸ hx)
      simp only [List.mem_append, List.mem_cons] at g ⊢
      rcases g with g | g | g
      · exact .inl g
      · exact absurd g hne
      · exact .inr g)
    exact ⟨rest, List.perm_middle.trans (h.cons a)⟩
theorem Has.part {E w : World} {S R : List Hp} (H : Has E w [R]) (hn : S.Nodup) (hs : S ⊆ R) : ∃ rest, R.Perm (S ++ rest) ∧ Has E w [S, rest] := by
  obtain ⟨rest, hp⟩ := sub_perm hn hs
  refine ⟨rest, hp, ?_⟩
  have h0 : Has0 E w R := by simpa [Has] using H
  have h1 := h0.perm hp.symm
  simpa [Has] using h1
theorem Has.parted {E w : World} {M S R rest : List Hp} (hp : R.Perm (S ++ rest)) (H : Has E w [M, S, rest]) : Has E w [M, R] := by
  have h0 : Has0 E w (M ++ (S ++ rest)) := by simpa [Has] using H
  have h1 := h0.perm (hp.append_left M)
  simpa [Has] using h1
theorem Calls.inside {P : Program} {f : FuncId} {args : Array Value} {E w : World} {S R : List Hp} {Q : Ending → Prop} (H : Has E w [R]) (hn : S.Nodup) (hs : S ⊆ R)
    (c : ∀ R', Has E w [S, R'] → Calls P f args w fun e w' => Q e ∧ Has E w' [S, R']) : Calls P f args w fun e w' => Q e ∧ Has E w' [R] := by
  obtain ⟨rest, hp, H2⟩ := H.part hn hs
  exact (c rest H2).mono fun e w' ⟨he, h⟩ => ⟨he, by
    have h0 : Has0 E w' (S ++ rest) := by simpa [Has] using h
    have h1 := h0.perm hp
    simpa [Has] using h1⟩
theorem Calls.insideM {α : Type} {P : Program} {f : FuncId} {args : Array Value} {E w : World} {S R : List Hp} {Q : Ending → α → List Hp → Prop} (H : Has E w [R]) (hn : S.Nodup) (hs : S ⊆ R)
    (c : ∀ R', Has E w [S, R'] → Calls P f args w fun e w' => ∃ a M, Q e a M ∧ Has E w' [M, S, R']) : Calls P f args w fun e w' => ∃ a M, Q e a M ∧ Has E w' [M, R] := by
  obtain ⟨rest, hp, H2⟩ := H.part hn hs
  exact (c rest H2).mono fun e w' ⟨a, M, he, h⟩ => ⟨a, M, he, h.parted hp⟩
theorem Has.open2 {E w : World} {a b : List Hp} {ss : List (List Hp)} (H : Has E w ((a ++ b) :: ss)) : Has E w (a :: b :: ss) := by
  unfold Has at *; simpa [List.append_assoc] using H
theorem Has.close2 {E w : World} {a b : List Hp} {ss : List (List Hp)} (H : Has E w (a :: b :: ss)) : Has E w ((a ++ b) :: ss) := by
  unfold Has at *; simpa [List.append_assoc] using H
theorem Has.close2' {E w : World} {x a b : List Hp} {ss : List (List Hp)} (H : Has E w (x :: a :: b :: ss)) : Has E w (x :: (a ++ b) :: ss) := by
  unfold Has at *; simpa [List.append_assoc] using H
/-- no heaplet of these is empty -/
def Full (S : List Hp) : Prop := ∀ h ∈ S, ∃ b o, h b = some o
theorem Full.one (b : Nat) (o : Obj) : Full [Hp.one b o] := fun h hh => ⟨b, o, by rw [List.mem_singleton.1 hh]; exact Hp.one_at b o⟩
theorem Full.app {S T : List Hp} (h : Full S) (g : Full T) : Full (S ++ T) := fun x hx => (List.mem_append.1 hx).elim (h x) (g x)
theorem Full.nodup {E w : World} {S : List Hp} {ss : List (List Hp)} (hf : Full S) (H : Has E w (S :: ss)) : S.Nodup := by
  have h0 : Has0 E w (S ++ ss.flatten) := by simpa [Has] using H
  have h1 : S.Pairwise Hp.dis := h0.dj.sublist (List.sublist_append_left _ _)
  refine List.Pairwise.imp_of_mem (fun {a b} ha hb d e => ?_) h1
  subst e
  obtain ⟨x, o, hx⟩ := hf a ha
  rcases d x with g | g <;> rw [hx] at g <;> cases g
theorem Own.full {e sz n : Nat} {v : Value} {cs : List Value} {hs : List Hp} (h : Own e sz v n cs hs) : Full hs := by
  obtain ⟨_, ⟨_, _, h⟩ | ⟨b, cap, cur, _, h, _⟩⟩ := h
  · subst h; exact fun x hx => by cases hx
  · subst h; exact Full.one _ _
theorem in_sub {a b l : List Hp} (h : a ⊆ l) (g : b ⊆ l) : a ++ b ⊆ l := fun x hx => (List.mem_append.1 hx).elim (fun y => h y) (fun y => g y)
-- what stays, whatever is done
theorem LoOk.sync {lo : List (Int × Bs)} {k : Nat} (h : LoOk lo k) (p : Pw) : LoOk (syncO p lo) k := by
  unfold syncO; split
  · exact LoOk.nil k
  · exact h
theorem syncA_len (p : Pw) (la : List Bs) (lo : List (Int × Bs)) : (syncA p la lo).length = la.length := by
  unfold syncA; split
  · exact settle_len _ _ _
  · rfl
theorem putA_len (la : List Bs) (n : Int) (s : Bs) : (putA la n s).length = la.length := by
  unfold putA; split <;> simp
theorem LoOk.puto {lo : List (Int × Bs)} {k m : Nat} (h : LoOk lo k) (n : Int) (s : Bs) : LoOk (putO m lo n s) k := by
  unfold putO; split
  · exact h.del n
  · exact h
theorem readE_on {p : Pw} {la : List Bs} {n : Int} (h : p.off = false) (hn : inS n la.length) : readE p la n = 0 := by unfold readE; rw [h]; simp [hn]
theorem readS_on {p q : Pw} {la : List Bs} {lo : List (Int × Bs)} {n : Int} (h : p.off = false) (g : q.off = false) : readS p la lo n = readS q la lo n := by unfold readS; rw [h, g]
end Go.Q
