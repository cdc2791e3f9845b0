/-
  Parts of a walk: what functions of the program compute, each told by a theorem.
-/
import Derived.Test.YtagicdbeacmffaaDoorQNums
import Derived.Test.YtagicdbeacmffaaDoorQVBase
import Derived.Test.YtagicdbeacmffaaDoorQJ
set_option linter.unusedVariables false
set_option linter.unusedSimpArgs false
namespace Go.Q
open Go.Proofs
set_option linter.unusedVariables false
set_option maxRecDepth 100000
attribute [local irreducible] wpList OK Code.wp
set_option maxHeartbeats 4000000 in
theorem sum_c {E w : World} {R : List Hp} (hH : Has E w [R]) {v : Value} {l : List Int} (hv : Ints R v l) :
    Calls Tryd.prog 42 #[v] w fun e w' => e = .returned (.int .i64 (sumS 0 l)) ∧ Has E w' [R] := by
  have hn := hv.le
  refine c_enter (args := [v]) Tryd.func42 rfl Tryd.ntmps42 (by simp) ?_
  refine wp_seq_k fun K1 hK1 => ?_
  refine c_region ?_
  refine s_op (o_assign (v := (.int .i64 0)) rfl ?_)
  refine s_nil ?_
  refine t_norm (hK1 _ _ ?_)
  refine wp_seq_k fun K2 hK2 => ?_
  refine c_region ?_
  refine s_op (o_assign (v := (.int .i64 0)) rfl ?_)
  refine s_nil ?_
  refine t_norm (hK2 _ _ ?_)
  refine wp_seq_k fun K3 hK3 => ?_
  refine wp_seq_k fun K4 hK4 => ?_
  refine c_region ?_
  refine s_op (o_move (v := v) rfl ?_)
  refine s_op (o_lenS Tryd.underlying37 rfl hv ?_)
  refine s_op (o_move (v := (.int .i64 0)) rfl ?_)
  refine s_nil ?_
  refine t_norm (hK4 _ _ ?_)
  refine wp_block ?_
  let I6 : Nat → (Nat → Value) → World → Prop := fun n__ r__ w__ => ∃ (k : Nat) (y : Int), n__ = l.length - k ∧ Has E w__ [R] ∧ (k ≤ l.length) ∧ (sumS 0 l = sumS y (l.drop k)) ∧ (0 ≤ y ∧ y ≤ 9223372036854775807) ∧ r__ 0 = v ∧ r__ 3 = (.int .i64 y) ∧ r__ 6 = v ∧ r__ 7 = (.int .i64 ((l.length : Nat) : Int)) ∧ r__ 8 = (.int .i64 (k : Int))
  refine c_loop I6 _ ⟨0, 0, rfl, hH, Nat.zero_le _, rfl, (by omega), rfl, rfl, rfl, rfl, rfl⟩ ?_
  rintro n_ r9 w7 ⟨k, y, rfl, hH8, hk, hy, hb, e5_0, e5_3, e5_6, e5_7, e5_8⟩
  refine wp_seq_k fun K10 hK10 => ?_
  refine c_region ?_
  refine s_op (o_lss (a := (k : Int)) (b := ((l.length : Nat) : Int)) e5_8 e5_7 ?_)
  refine s_nil ?_
  refine t_norm (hK10 _ _ ?_)
  refine wp_seq_k fun K11 hK11 => ?_
  refine c_cond rfl (fun h12 => ?_) (fun h12 => ?_)
  · -- (k : Int) < ((l.length : Nat) : Int)
    refine wp_skip ?_
    refine t_norm (hK11 _ _ ?_)
    refine wp_seq_k fun K13 hK13 => ?_
    refine wp_block ?_
    refine wp_seq_k fun K14 hK14 => ?_
    refine c_region ?_
    obtain ⟨x18, hx19⟩ : ∃ x_, l[((k : Int)).toNat]? = some x_ := get_some (by omega)
    refine s_op (o_index1 Tryd.underlying37 ti3 e5_6 hv e5_8 (by omega) hx19 fun b15 o16 hc17 => ?_)
    refine s_op (o_load1 (v := (.int .i64 x18)) Tryd.underlying3 rfl rfl hH8 (seg_sub 0 rfl) hc17 ?_)
    refine s_op (o_assign (v := (.int .i64 x18)) rfl ?_)
    refine s_nil ?_
    refine t_norm (hK14 _ _ ?_)
    refine wp_seq_k fun K20 hK20 => ?_
    refine wp_seq_k fun K21 hK21 => ?_
    refine c_region ?_
    refine s_op (o_move (v := (.int .i64 x18)) rfl ?_)
    refine s_op (o_move (v := (.int .i64 y)) e5_3 ?_)
    refine s_op (o_sub (a := 9223372036854775807) (b := y) rfl rfl (w64 (by omega) (by omega)) ?_)
    refine s_op (o_gtr (a := x18) (b := 9223372036854775807 - y) rfl rfl ?_)
    refine s_nil ?_
    refine t_norm (hK21 _ _ ?_)
    refine c_cond rfl (fun h22 => ?_) (fun h22 => ?_)
    · -- 9223372036854775807 - y < x18
      refine wp_seq_k fun K23 hK23 => ?_
      refine c_region ?_
      refine s_op (o_assign (v := (.int .i64 9223372036854775807)) rfl ?_)
      refine s_nil ?_
      refine t_norm (hK23 _ _ ?_)
      refine wp_ret ?_
      refine t_ret (b_ret (t_ret (t_ret (b_ret (t_ret (c_ret1 Tryd.results42 (v := (.int .i64 9223372036854775807)) rfl ?_))))))
      exact ⟨by rw [hy, drop_of (by simpa using hx19), sumS, if_pos (by omega)], hH8⟩
    · -- not: 9223372036854775807 - y < x18
      refine wp_skip ?_
      refine t_norm (hK20 _ _ ?_)
      refine c_region ?_
      refine s_op (o_move (v := (.int .i64 y)) e5_3 ?_)
      refine s_op (o_move (v := (.int .i64 x18)) rfl ?_)
      refine s_op (o_max (a := x18) (b := 0) rfl rfl ?_)
      refine s_op (o_add (a := y) (b := max x18 0) rfl rfl (w64 (by omega) (by omega)) ?_)
      refine s_op (o_assign (v := (.int .i64 (y + (max x18 0)))) rfl ?_)
      refine s_nil ?_
      refine b_norm ?_
      refine t_norm (hK13 _ _ ?_)
      refine c_region ?_
      refine s_op (o_add (a := (k : Int)) (b := 1) e5_8 rfl (w64 (by omega) (by omega)) ?_)
      refine s_op (o_move (v := (.int .i64 ((k : Int) + 1))) rfl ?_)
      refine s_nil ?_
      refine t_norm ⟨l.length - (k + 1), _, rfl, ?_, ?_⟩
      · omega
      · exact ⟨(k + 1), (y + (max x18 0)), rfl, hH8, (by omega), (by rw [hy, drop_of (by simpa using hx19), sumS, if_neg (by omega)]), (by omega), e5_0, rfl, e5_6, e5_7, rfl⟩
  · -- not: (k : Int) < ((l.length : Nat) : Int)
    refine wp_exit ?_
    refine t_exit (t_exit (x_in (?_)))
    refine t_norm (hK3 _ _ ?_)
    refine wp_seq_k fun K24 hK24 => ?_
    refine c_region ?_
    refine s_op (o_move (v := (.int .i64 y)) e5_3 ?_)
    refine s_op (o_assign (v := (.int .i64 y)) rfl ?_)
    refine s_nil ?_
    refine t_norm (hK24 _ _ ?_)
    refine wp_ret ?_
    refine c_ret1 Tryd.results42 (v := (.int .i64 y)) rfl ?_
    exact ⟨by rw [hy, List.drop_of_length_le (by omega)]; rfl, hH8⟩
set_option maxHeartbeats 4000000 in
theorem fits_c {E w : World} {R : List Hp} (hH : Has E w [R]) (n : Int) (m : Nat) (hm : m ≤ 8) :
    Calls Tryd.prog 47 #[(.int .i64 n), (.int .i64 (m : Int))] w fun e w' => e = .returned (.bool (fitsS n m)) ∧ Has E w' [R] := by
  refine c_enter (args := [(.int .i64 n), (.int .i64 (m : Int))]) Tryd.func47 rfl Tryd.ntmps47 (by simp) ?_
  refine wp_seq_k fun K1 hK1 => ?_
  refine c_region ?_
  refine s_op (o_assign (v := (.bool false)) rfl ?_)
  refine s_nil ?_
  refine t_norm (hK1 _ _ ?_)
  refine wp_seq_k fun K2 hK2 => ?_
  refine c_region ?_
  refine s_op (o_move (v := (.int .i64 n)) rfl ?_)
  refine s_op (o_geq (a := n) (b := 0) rfl rfl ?_)
  refine s_op (o_move (v := (.bool (decide (0 ≤ n)))) rfl ?_)
  by_cases h3 : 0 ≤ n
  · -- 0 ≤ n
    refine s_on 7 rfl (congrArg Value.bool (decide_eq_true h3)) (o_move (v := (.int .i64 (m : Int))) rfl ?_)
    refine s_on 7 rfl (congrArg Value.bool (decide_eq_true h3)) (o_eql (a := (m : Int)) (b := 8) rfl rfl ?_)
    refine s_on 7 rfl (congrArg Value.bool (decide_eq_true h3)) (o_move (v := (.bool (decide ((m : Int) = 8)))) rfl ?_)
    by_cases h4 : (m : Int) = 8
    · -- (m : Int) = 8
      refine s_off (b' := true) 10 rfl (congrArg Value.bool (decide_eq_true h4)) rfl ?_
      refine s_off (b' := true) 10 rfl (congrArg Value.bool (decide_eq_true h4)) rfl ?_
      refine s_off (b' := true) 10 rfl (congrArg Value.bool (decide_eq_true h4)) rfl ?_
      refine s_off (b' := true) 10 rfl (congrArg Value.bool (decide_eq_true h4)) rfl ?_
      refine s_off (b' := true) 10 rfl (congrArg Value.bool (decide_eq_true h4)) rfl ?_
      refine s_on 7 rfl (congrArg Value.bool (decide_eq_true h3)) (o_pick_t (u := (.bool true)) ((rfl : _ = _).trans (congrArg Value.bool (decide_eq_true h4))) rfl ?_)
      refine s_op (o_pick_t (u := (.bool true)) ((rfl : _ = _).trans (congrArg Value.bool (decide_eq_true h3))) rfl ?_)
      refine s_op (o_assign (v := (.bool true)) rfl ?_)
      refine s_nil ?_
      refine t_norm (hK2 _ _ ?_)
      refine wp_ret ?_
      refine c_ret1 Tryd.results47 (v := (.bool true)) rfl ?_
      exact ⟨by simp [fitsS, *], hH⟩
    · -- not: (m : Int) = 8
      refine s_on 10 rfl (congrArg Value.bool (decide_eq_false h4)) (o_move (v := (.int .i64 n)) rfl ?_)
      refine s_on 10 rfl (congrArg Value.bool (decide_eq_false h4)) (o_move (v := (.int .i64 (m : Int))) rfl ?_)
      refine s_on 10 rfl (congrArg Value.bool (decide_eq_false h4)) (o_mul (a := 8) (b := (m : Int)) rfl rfl (w64 (by omega) (by omega)) ?_)
      refine s_on 10 rfl (congrArg Value.bool (decide_eq_false h4)) (o_shr (c := Int.fdiv n (2 ^ (min (8 * (m : Int)).toNat 64))) rfl rfl (by omega) rfl ?_)
      refine s_on 10 rfl (congrArg Value.bool (decide_eq_false h4)) (o_eql (a := Int.fdiv n (2 ^ (min (8 * (m : Int)).toNat 64))) (b := 0) rfl rfl ?_)
      refine s_on 7 rfl (congrArg Value.bool (decide_eq_true h3)) (o_pick_f (u := (.bool (decide (Int.fdiv n (2 ^ (min (8 * (m : Int)).toNat 64)) = 0)))) ((rfl : _ = _).trans (congrArg Value.bool (decide_eq_false h4))) rfl ?_)
      refine s_op (o_pick_t (u := (.bool (decide (Int.fdiv n (2 ^ (min (8 * (m : Int)).toNat 64)) = 0)))) ((rfl : _ = _).trans (congrArg Value.bool (decide_eq_true h3))) rfl ?_)
      refine s_op (o_assign (v := (.bool (decide (Int.fdiv n (2 ^ (min (8 * (m : Int)).toNat 64)) = 0)))) rfl ?_)
      refine s_nil ?_
      refine t_norm (hK2 _ _ ?_)
      refine wp_ret ?_
      refine c_ret1 Tryd.results47 (v := (.bool (decide (Int.fdiv n (2 ^ (min (8 * (m : Int)).toNat 64)) = 0)))) rfl ?_
      exact ⟨by simp [fitsS, *], hH⟩
  · -- not: 0 ≤ n
    refine s_off (b' := false) 7 rfl (congrArg Value.bool (decide_eq_false h3)) rfl ?_
    refine s_off (b' := false) 7 rfl (congrArg Value.bool (decide_eq_false h3)) rfl ?_
    refine s_off (b' := false) 7 rfl (congrArg Value.bool (decide_eq_false h3)) rfl ?_
    refine s_offu 10 rfl rfl ?_
    refine s_offu 10 rfl rfl ?_
    refine s_offu 10 rfl rfl ?_
    refine s_offu 10 rfl rfl ?_
    refine s_offu 10 rfl rfl ?_
    refine s_off (b' := false) 7 rfl (congrArg Value.bool (decide_eq_false h3)) rfl ?_
    refine s_op (o_pick_f (u := (.bool false)) ((rfl : _ = _).trans (congrArg Value.bool (decide_eq_false h3))) rfl ?_)
    refine s_op (o_assign (v := (.bool false)) rfl ?_)
    refine s_nil ?_
    refine t_norm (hK2 _ _ ?_)
    refine wp_ret ?_
    refine c_ret1 Tryd.results47 (v := (.bool false)) rfl ?_
    exact ⟨by simp [fitsS, *], hH⟩
set_option maxHeartbeats 4000000 in
theorem put_c {E w : World} {R : List Hp} (hH : Has E w [R]) (m : Nat) {v : Value} {l : List Int} (hv : Ints R v l) (hl : l.length ≤ 1000000) :
    Calls Tryd.prog 40 #[(.int .i64 (m : Int)), v] w fun e w' => e = .returned (S (putS m l)) ∧ Has E w' [R] := by
  have hml0 : 0 ≤ (m : Int) * (l.length : Int) := Int.mul_nonneg (by omega) (by omega)
  have hml : m ≤ 8 → (m : Int) * (l.length : Int) ≤ 8000000 := fun h => by have h2 : m * l.length ≤ 8 * 1000000 := Nat.mul_le_mul h hl; have h3 := Int.ofNat_le.2 h2; rw [Int.natCast_mul] at h3; omega
  refine c_enter (args := [(.int .i64 (m : Int)), v]) Tryd.func40 rfl Tryd.ntmps40 (by simp) ?_
  refine wp_seq_k fun K1 hK1 => ?_
  refine c_region ?_
  refine s_op (o_assign (v := (S ([] : List UInt8))) rfl ?_)
  refine s_nil ?_
  refine t_norm (hK1 _ _ ?_)
  refine wp_seq_k fun K2 hK2 => ?_
  refine wp_seq_k fun K3 hK3 => ?_
  refine c_region ?_
  refine s_op (o_move (v := (.int .i64 (m : Int))) rfl ?_)
  refine s_op (o_lss (a := (m : Int)) (b := 1) rfl rfl ?_)
  refine s_op (o_move (v := (.bool (decide ((m : Int) < 1)))) rfl ?_)
  by_cases h4 : (m : Int) < 1
  · -- (m : Int) < 1
    refine s_off (b' := true) 11 rfl (congrArg Value.bool (decide_eq_true h4)) rfl ?_
    refine s_off (b' := true) 11 rfl (congrArg Value.bool (decide_eq_true h4)) rfl ?_
    refine s_op (o_pick_t (u := (.bool true)) ((rfl : _ = _).trans (congrArg Value.bool (decide_eq_true h4))) rfl ?_)
    refine s_nil ?_
    refine t_norm (hK3 _ _ ?_)
    refine c_true rfl rfl ?_
    refine wp_seq_k fun K5 hK5 => ?_
    refine c_region ?_
    refine s_op (o_assign (v := (S ([] : List UInt8))) rfl ?_)
    refine s_nil ?_
    refine t_norm (hK5 _ _ ?_)
    refine wp_ret ?_
    refine t_ret (c_ret1 Tryd.results40 (v := (S ([] : List UInt8))) rfl ?_)
    exact ⟨by rw [putS, if_neg (by omega)], hH⟩
  · -- not: (m : Int) < 1
    refine s_on 11 rfl (congrArg Value.bool (decide_eq_false h4)) (o_move (v := (.int .i64 (m : Int))) rfl ?_)
    refine s_on 11 rfl (congrArg Value.bool (decide_eq_false h4)) (o_gtr (a := (m : Int)) (b := 8) rfl rfl ?_)
    refine s_op (o_pick_f (u := (.bool (decide (8 < (m : Int))))) ((rfl : _ = _).trans (congrArg Value.bool (decide_eq_false h4))) rfl ?_)
    refine s_nil ?_
    refine t_norm (hK3 _ _ ?_)
    refine c_cond rfl (fun h6 => ?_) (fun h6 => ?_)
    · -- 8 < (m : Int)
      refine wp_seq_k fun K7 hK7 => ?_
      refine c_region ?_
      refine s_op (o_assign (v := (S ([] : List UInt8))) rfl ?_)
      refine s_nil ?_
      refine t_norm (hK7 _ _ ?_)
      refine wp_ret ?_
      refine t_ret (c_ret1 Tryd.results40 (v := (S ([] : List UInt8))) rfl ?_)
      exact ⟨by rw [putS, if_neg (by omega)], hH⟩
    · -- not: 8 < (m : Int)
      refine wp_skip ?_
      refine t_norm (hK2 _ _ ?_)
      refine wp_seq_k fun K8 hK8 => ?_
      refine c_region ?_
      refine s_op (o_move (v := (.int .i64 (m : Int))) rfl ?_)
      refine s_op (o_move (v := v) rfl ?_)
      refine s_op (o_lenS Tryd.underlying37 rfl hv ?_)
      refine s_op (o_mul (a := (m : Int)) (b := ((l.length : Nat) : Int)) rfl rfl (w64 (by omega) (by omega)) ?_)
      refine s_op (o_make Tryd.underlying68 ti5 rfl rfl (by omega) (by omega) (by omega) (by omega) hH fun v9 s10 w12 ho11 hH13 => ?_)
      have ho11 : Own 5 1 v9 0 [] s10 := by simpa using ho11
      refine s_op (o_assign (v := v9) rfl ?_)
      refine s_nil ?_
      refine t_norm (hK8 _ _ ?_)
      refine wp_seq_k fun K14 hK14 => ?_
      refine wp_seq_k fun K15 hK15 => ?_
      refine c_region ?_
      refine s_op (o_move (v := v) rfl ?_)
      refine s_op (o_lenS Tryd.underlying37 rfl hv ?_)
      refine s_op (o_move (v := (.int .i64 0)) rfl ?_)
      refine s_nil ?_
      refine t_norm (hK15 _ _ ?_)
      refine wp_block ?_
      let I17 : Nat → (Nat → Value) → World → Prop := fun n__ r__ w__ => ∃ (k : Nat) (vb : Value) (hs : List Hp) (lb : List UInt8), n__ = l.length - k ∧ Has E w__ [hs, R] ∧ (k ≤ l.length) ∧ (Own 5 1 vb lb.length (lb.map bV) hs) ∧ (lb = (l.take k).flatMap (beFrom · m)) ∧ (∀ x ∈ l.take k, fitsS x m = true) ∧ (lb.length ≤ 8 * k) ∧ r__ 0 = (.int .i64 (m : Int)) ∧ r__ 1 = v ∧ r__ 5 = vb ∧ r__ 14 = (.bool (decide (8 < (m : Int)))) ∧ r__ 20 = v ∧ r__ 21 = (.int .i64 ((l.length : Nat) : Int)) ∧ r__ 22 = (.int .i64 (k : Int))
      refine c_loop I17 _ ⟨0, v9, s10, [], rfl, hH13, Nat.zero_le _, ho11, rfl, (by simp), (by simp), rfl, rfl, rfl, rfl, rfl, rfl, rfl⟩ ?_
      rintro n_ r20 w18 ⟨k, vb, hs, lb, rfl, hH19, hk, hob, hlb, hfit, hlen, e16_0, e16_1, e16_5, e16_14, e16_20, e16_21, e16_22⟩
      refine wp_seq_k fun K21 hK21 => ?_
      refine c_region ?_
      refine s_op (o_lss (a := (k : Int)) (b := ((l.length : Nat) : Int)) e16_22 e16_21 ?_)
      refine s_nil ?_
      refine t_norm (hK21 _ _ ?_)
      refine wp_seq_k fun K22 hK22 => ?_
      refine c_cond rfl (fun h23 => ?_) (fun h23 => ?_)
      · -- (k : Int) < ((l.length : Nat) : Int)
        refine wp_skip ?_
        refine t_norm (hK22 _ _ ?_)
        refine wp_seq_k fun K24 hK24 => ?_
        refine wp_block ?_
        refine wp_seq_k fun K25 hK25 => ?_
        refine c_region ?_
        obtain ⟨x29, hx30⟩ : ∃ x_, l[((k : Int)).toNat]? = some x_ := get_some (by omega)
        refine s_op (o_index1 Tryd.underlying37 ti3 e16_20 hv e16_22 (by omega) hx30 fun b26 o27 hc28 => ?_)
        refine s_op (o_load1 (v := (.int .i64 x29)) Tryd.underlying3 rfl rfl hH19 (seg_sub 1 rfl) hc28 ?_)
        refine s_op (o_assign (v := (.int .i64 x29)) rfl ?_)
        refine s_nil ?_
        refine t_norm (hK25 _ _ ?_)
        refine wp_seq_k fun K31 hK31 => ?_
        refine wp_seq_k fun K32 hK32 => ?_
        refine c_region ?_
        refine s_op (o_move (v := (.int .i64 x29)) rfl ?_)
        refine s_op (o_move (v := (.int .i64 (m : Int))) e16_0 ?_)
        refine s_op (o_callf (vs := #[(.int .i64 x29), (.int .i64 (m : Int))]) ca47 rfl (args2 rfl rfl) (fits_c hH19.all x29 m (by omega)) ?_)
        rintro _ w35 ⟨rfl, hX33⟩
        refine ⟨_, rfl, ?_⟩
        have hH34 := hX33.of_all
        refine s_op (o_not rfl ?_)
        refine s_nil ?_
        refine t_norm (hK32 _ _ ?_)
        refine c_condb rfl (fun h36 => ?_) (fun h36 => ?_)
        · -- !(fitsS x29 m)
          refine wp_seq_k fun K37 hK37 => ?_
          refine c_region ?_
          refine s_op (o_assign (v := (S ([] : List UInt8))) rfl ?_)
          refine s_nil ?_
          refine t_norm (hK37 _ _ ?_)
          refine wp_ret ?_
          refine t_ret (b_ret (t_ret (t_ret (b_ret (t_ret (c_ret1 Tryd.results40 (v := (S ([] : List UInt8))) rfl ?_))))))
          have hH38 : Has E w35 [R] := (hH34.front 1 rfl).first 1 rfl
          exact ⟨by rw [putS_no (x := x29) (List.mem_of_getElem? hx30) (by simpa using h36)], hH38⟩
        · -- not: !(fitsS x29 m)
          refine wp_skip ?_
          refine t_norm (hK31 _ _ ?_)
          refine wp_seq_k fun K39 hK39 => ?_
          refine c_region ?_
          refine s_op (o_move (v := (.int .i64 (m : Int))) e16_0 ?_)
          refine s_op (o_sub (a := (m : Int)) (b := 1) rfl rfl (w64 (by omega) (by omega)) ?_)
          refine s_op (o_assign (v := (.int .i64 ((m : Int) - 1))) rfl ?_)
          refine s_nil ?_
          refine t_norm (hK39 _ _ ?_)
          refine wp_block ?_
          let I41 : Nat → (Nat → Value) → World → Prop := fun n__ r__ w__ => ∃ (j : Nat) (i : Int) (vc : Value) (hs2 : List Hp) (lc : List UInt8), n__ = j + 1 ∧ Has E w__ [hs2, R] ∧ (j ≤ m) ∧ (i = (j : Int) - 1) ∧ (Own 5 1 vc lc.length (lc.map bV) hs2) ∧ (lb ++ beFrom x29 m = lc ++ beFrom x29 j) ∧ (lc.length + j ≤ lb.length + m) ∧ r__ 0 = (.int .i64 (m : Int)) ∧ r__ 1 = v ∧ r__ 5 = vc ∧ r__ 7 = (.int .i64 x29) ∧ r__ 8 = (.int .i64 i) ∧ r__ 14 = (.bool (decide (8 < (m : Int)))) ∧ r__ 20 = v ∧ r__ 21 = (.int .i64 ((l.length : Nat) : Int)) ∧ r__ 22 = (.int .i64 (k : Int)) ∧ r__ 23 = (.bool (decide ((k : Int) < ((l.length : Nat) : Int)))) ∧ r__ 29 = (.bool (!(fitsS x29 m)))
          refine c_loop I41 _ ⟨m, ((m : Int) - 1), vb, hs, lb, rfl, hH34, Nat.le_refl _, rfl, hob, rfl, (by omega), e16_0, e16_1, e16_5, rfl, rfl, e16_14, e16_20, e16_21, e16_22, rfl, rfl⟩ ?_
          rintro n_ r44 w42 ⟨j, i, vc, hs2, lc, rfl, hH43, hj, hi, hoc, hpart, hlen2, e40_0, e40_1, e40_5, e40_7, e40_8, e40_14, e40_20, e40_21, e40_22, e40_23, e40_29⟩
          refine wp_seq_k fun K45 hK45 => ?_
          refine wp_seq_k fun K46 hK46 => ?_
          refine c_region ?_
          refine s_op (o_move (v := (.int .i64 i)) e40_8 ?_)
          refine s_op (o_geq (a := i) (b := 0) rfl rfl ?_)
          refine s_nil ?_
          refine t_norm (hK46 _ _ ?_)
          refine c_cond rfl (fun h47 => ?_) (fun h47 => ?_)
          · -- 0 ≤ i
            refine wp_skip ?_
            refine t_norm (hK45 _ _ ?_)
            refine wp_seq_k fun K48 hK48 => ?_
            refine wp_block ?_
            refine c_region ?_
            refine s_op (o_move (v := vc) e40_5 ?_)
            refine s_op (o_move (v := (.int .i64 x29)) e40_7 ?_)
            refine s_op (o_move (v := (.int .i64 i)) e40_8 ?_)
            refine s_op (o_mul (a := 8) (b := i) rfl rfl (w64 (by omega) (by omega)) ?_)
            refine s_op (o_shr (c := Int.fdiv x29 (2 ^ (min (8 * i).toNat 64))) rfl rfl (by omega) rfl ?_)
            refine s_op (o_conv (c := ((by8 (Int.fdiv x29 (2 ^ (min (8 * i).toNat 64)))).toNat : Int)) Tryd.underlying3 Tryd.underlying5 rfl (wrap_by8 _) ?_)
            refine s_op (o_buildSlice (ps := #[(0, (bV (by8 (Int.fdiv x29 (2 ^ (min (8 * i).toNat 64))))))]) (cells := #[(bV (by8 (Int.fdiv x29 (2 ^ (min (8 * i).toNat 64)))))]) Tryd.underlying68 ti5 (by decide) (parts1 rfl) (by kernel_rfl) hH43 fun b49 w50 hH51 => ?_)
            refine s_op (o_append Tryd.underlying68 ti5 rfl (by decide) rfl hoc rfl (sl_lit (f := bV) (l := [(by8 (Int.fdiv x29 (2 ^ (min (8 * i).toNat 64))))]) rfl rfl (by simp)) (hH51.front 1 rfl) (seg_sub 0 rfl) (one_bV _) (by simp; omega) (by simp; omega) fun v52 s53 w55 ho54 hH56 => ?_)
            have ho54 : Own 5 1 v52 (lc ++ [(by8 (Int.fdiv x29 (2 ^ (min (8 * i).toNat 64))))]).length ((lc ++ [(by8 (Int.fdiv x29 (2 ^ (min (8 * i).toNat 64))))]).map bV) s53 := ho54.app
            refine s_op (o_assign (v := v52) rfl ?_)
            refine s_nil ?_
            refine b_norm ?_
            refine t_norm (hK48 _ _ ?_)
            refine c_region ?_
            refine s_op (o_move (v := (.int .i64 i)) e40_8 ?_)
            refine s_op (o_sub (a := i) (b := 1) rfl rfl (w64 (by omega) (by omega)) ?_)
            refine s_op (o_assign (v := (.int .i64 (i - 1))) rfl ?_)
            refine s_nil ?_
            have hH57 : Has E w55 [s53, R] := ((hH56.front 2 rfl).front 1 rfl).first 2 rfl
            refine t_norm ⟨(j - 1) + 1, _, rfl, ?_, ?_⟩
            · omega
            · exact ⟨(j - 1), (i - 1), v52, s53, (lc ++ [(by8 (Int.fdiv x29 (2 ^ (min (8 * i).toNat 64))))]), rfl, hH57, (by omega), (by omega), (ho54), (by rw [hpart, beFrom_pred (by omega), hi, by8_shift _ (by omega) (by omega)]; simp [List.append_assoc]), (by simp; omega), e40_0, e40_1, rfl, e40_7, rfl, e40_14, e40_20, e40_21, e40_22, e40_23, e40_29⟩
          · -- not: 0 ≤ i
            refine wp_exit ?_
            refine t_exit (t_exit (x_in (?_)))
            refine b_norm ?_
            refine t_norm (hK24 _ _ ?_)
            refine c_region ?_
            refine s_op (o_add (a := (k : Int)) (b := 1) e40_22 rfl (w64 (by omega) (by omega)) ?_)
            refine s_op (o_move (v := (.int .i64 ((k : Int) + 1))) rfl ?_)
            refine s_nil ?_
            refine t_norm ⟨l.length - (k + 1), _, rfl, ?_, ?_⟩
            · omega
            · exact ⟨(k + 1), vc, hs2, lc, rfl, hH43, (by omega), (hoc), (by (have e : j = 0 := by omega); rw [e] at hpart; rw [take_succ_of (by simpa using hx30), List.flatMap_append, ← hlb]; simpa [beFrom] using hpart.symm), (by rw [take_succ_of (by simpa using hx30)]; exact fun x hx => (List.mem_append.1 hx).elim (hfit x) (fun h => by simp at h; subst h; simpa using h36)), (by omega), e40_0, e40_1, e40_5, e40_14, e40_20, e40_21, rfl⟩
      · -- not: (k : Int) < ((l.length : Nat) : Int)
        refine wp_exit ?_
        refine t_exit (t_exit (x_in (?_)))
        refine t_norm (hK14 _ _ ?_)
        refine wp_seq_k fun K58 hK58 => ?_
        refine c_region ?_
        refine s_op (o_move (v := vb) e16_5 ?_)
        refine s_op (o_bstr Tryd.underlying68 Tryd.underlying5 Tryd.underlying9 rfl hob.sl hH19 (seg_sub 0 rfl) ?_)
        refine s_op (o_assign (v := (S lb)) rfl ?_)
        refine s_nil ?_
        refine t_norm (hK58 _ _ ?_)
        refine wp_ret ?_
        refine c_ret1 Tryd.results40 (v := (S lb)) rfl ?_
        have hH59 : Has E w18 [R] := (hH19.front 1 rfl).first 1 rfl
        have e : k = l.length := by omega
        subst e
        rw [List.take_of_length_le (Nat.le_refl _)] at hlb hfit
        exact ⟨by rw [putS_yes (by omega) (by omega) hfit, hlb], hH59⟩
set_option maxHeartbeats 4000000 in
theorem take_c {E w : World} {R : List Hp} (hH : Has E w [R]) (m : Nat) (s : List UInt8) (hsl : s.length ≤ 9223372036854775807) :
    Calls Tryd.prog 37 #[(S s), (.int .i64 (m : Int))] w fun e w' => e = .returned (.tuple #[.int .i64 (takeS s m).1, S (takeS s m).2.1, .bool (takeS s m).2.2]) ∧ Has E w' [R] := by
  refine c_enter (args := [(S s), (.int .i64 (m : Int))]) Tryd.func37 rfl Tryd.ntmps37 (by simp) ?_
  refine wp_seq_k fun K1 hK1 => ?_
  refine c_region ?_
  refine s_op (o_assign (v := (.int .i64 0)) rfl ?_)
  refine s_op (o_assign (v := (S ([] : List UInt8))) rfl ?_)
  refine s_op (o_assign (v := (.bool false)) rfl ?_)
  refine s_nil ?_
  refine t_norm (hK1 _ _ ?_)
  refine wp_seq_k fun K2 hK2 => ?_
  refine wp_seq_k fun K3 hK3 => ?_
  refine c_region ?_
  refine s_op (o_move (v := (.int .i64 (m : Int))) rfl ?_)
  refine s_op (o_lss (a := (m : Int)) (b := 1) rfl rfl ?_)
  refine s_op (o_move (v := (.bool (decide ((m : Int) < 1)))) rfl ?_)
  by_cases h4 : (m : Int) < 1
  · -- (m : Int) < 1
    refine s_off (b' := true) 11 rfl (congrArg Value.bool (decide_eq_true h4)) rfl ?_
    refine s_off (b' := true) 11 rfl (congrArg Value.bool (decide_eq_true h4)) rfl ?_
    refine s_op (o_pick_t (u := (.bool true)) ((rfl : _ = _).trans (congrArg Value.bool (decide_eq_true h4))) rfl ?_)
    refine s_op (o_move (v := (.bool true)) rfl ?_)
    refine s_off (b' := true) 15 rfl rfl rfl ?_
    refine s_off (b' := true) 15 rfl rfl rfl ?_
    refine s_off (b' := true) 15 rfl rfl rfl ?_
    refine s_off (b' := true) 15 rfl rfl rfl ?_
    refine s_op (o_pick_t (u := (.bool true)) rfl rfl ?_)
    refine s_op (o_move (v := (.bool true)) rfl ?_)
    refine s_off (b' := true) 21 rfl rfl rfl ?_
    refine s_off (b' := true) 21 rfl rfl rfl ?_
    refine s_off (b' := true) 21 rfl rfl rfl ?_
    refine s_offu 24 rfl rfl ?_
    refine s_offu 24 rfl rfl ?_
    refine s_offu 24 rfl rfl ?_
    refine s_off (b' := true) 21 rfl rfl rfl ?_
    refine s_op (o_pick_t (u := (.bool true)) rfl rfl ?_)
    refine s_nil ?_
    refine t_norm (hK3 _ _ ?_)
    refine c_true rfl rfl ?_
    refine wp_seq_k fun K5 hK5 => ?_
    refine c_region ?_
    refine s_op (o_move (v := (S s)) rfl ?_)
    refine s_op (o_assign (v := (.int .i64 0)) rfl ?_)
    refine s_op (o_assign (v := (S s)) rfl ?_)
    refine s_op (o_assign (v := (.bool false)) rfl ?_)
    refine s_nil ?_
    refine t_norm (hK5 _ _ ?_)
    refine wp_ret ?_
    refine t_ret (c_ret3 Tryd.results37 (v := (.int .i64 0)) rfl (x := (S s)) rfl (y := (.bool false)) rfl ?_)
    exact ⟨by rw [takeS_no (by first | exact .inl (by omega) | exact .inr (.inl (by omega)) | exact .inr (.inr ⟨by omega, 0, by simpa using rfl, by omega⟩))], hH⟩
  · -- not: (m : Int) < 1
    refine s_on 11 rfl (congrArg Value.bool (decide_eq_false h4)) (o_move (v := (.int .i64 (m : Int))) rfl ?_)
    refine s_on 11 rfl (congrArg Value.bool (decide_eq_false h4)) (o_gtr (a := (m : Int)) (b := 8) rfl rfl ?_)
    refine s_op (o_pick_f (u := (.bool (decide (8 < (m : Int))))) ((rfl : _ = _).trans (congrArg Value.bool (decide_eq_false h4))) rfl ?_)
    refine s_op (o_move (v := (.bool (decide (8 < (m : Int))))) rfl ?_)
    by_cases h6 : 8 < (m : Int)
    · -- 8 < (m : Int)
      refine s_off (b' := true) 15 rfl (congrArg Value.bool (decide_eq_true h6)) rfl ?_
      refine s_off (b' := true) 15 rfl (congrArg Value.bool (decide_eq_true h6)) rfl ?_
      refine s_off (b' := true) 15 rfl (congrArg Value.bool (decide_eq_true h6)) rfl ?_
      refine s_off (b' := true) 15 rfl (congrArg Value.bool (decide_eq_true h6)) rfl ?_
      refine s_op (o_pick_t (u := (.bool true)) ((rfl : _ = _).trans (congrArg Value.bool (decide_eq_true h6))) rfl ?_)
      refine s_op (o_move (v := (.bool true)) rfl ?_)
      refine s_off (b' := true) 21 rfl rfl rfl ?_
      refine s_off (b' := true) 21 rfl rfl rfl ?_
      refine s_off (b' := true) 21 rfl rfl rfl ?_
      refine s_offu 24 rfl rfl ?_
      refine s_offu 24 rfl rfl ?_
      refine s_offu 24 rfl rfl ?_
      refine s_off (b' := true) 21 rfl rfl rfl ?_
      refine s_op (o_pick_t (u := (.bool true)) rfl rfl ?_)
      refine s_nil ?_
      refine t_norm (hK3 _ _ ?_)
      refine c_true rfl rfl ?_
      refine wp_seq_k fun K7 hK7 => ?_
      refine c_region ?_
      refine s_op (o_move (v := (S s)) rfl ?_)
      refine s_op (o_assign (v := (.int .i64 0)) rfl ?_)
      refine s_op (o_assign (v := (S s)) rfl ?_)
      refine s_op (o_assign (v := (.bool false)) rfl ?_)
      refine s_nil ?_
      refine t_norm (hK7 _ _ ?_)
      refine wp_ret ?_
      refine t_ret (c_ret3 Tryd.results37 (v := (.int .i64 0)) rfl (x := (S s)) rfl (y := (.bool false)) rfl ?_)
      exact ⟨by rw [takeS_no (by first | exact .inl (by omega) | exact .inr (.inl (by omega)) | exact .inr (.inr ⟨by omega, 0, by simpa using rfl, by omega⟩))], hH⟩
    · -- not: 8 < (m : Int)
      refine s_on 15 rfl (congrArg Value.bool (decide_eq_false h6)) (o_move (v := (S s)) rfl ?_)
      refine s_on 15 rfl (congrArg Value.bool (decide_eq_false h6)) (o_slen Tryd.underlying9 rfl ?_)
      refine s_on 15 rfl (congrArg Value.bool (decide_eq_false h6)) (o_move (v := (.int .i64 (m : Int))) rfl ?_)
      refine s_on 15 rfl (congrArg Value.bool (decide_eq_false h6)) (o_lss (a := (s.length : Int)) (b := (m : Int)) rfl rfl ?_)
      refine s_op (o_pick_f (u := (.bool (decide ((s.length : Int) < (m : Int))))) ((rfl : _ = _).trans (congrArg Value.bool (decide_eq_false h6))) rfl ?_)
      refine s_op (o_move (v := (.bool (decide ((s.length : Int) < (m : Int))))) rfl ?_)
      by_cases h8 : (s.length : Int) < (m : Int)
      · -- (s.length : Int) < (m : Int)
        refine s_off (b' := true) 21 rfl (congrArg Value.bool (decide_eq_true h8)) rfl ?_
        refine s_off (b' := true) 21 rfl (congrArg Value.bool (decide_eq_true h8)) rfl ?_
        refine s_off (b' := true) 21 rfl (congrArg Value.bool (decide_eq_true h8)) rfl ?_
        refine s_offu 24 rfl rfl ?_
        refine s_offu 24 rfl rfl ?_
        refine s_offu 24 rfl rfl ?_
        refine s_off (b' := true) 21 rfl (congrArg Value.bool (decide_eq_true h8)) rfl ?_
        refine s_op (o_pick_t (u := (.bool true)) ((rfl : _ = _).trans (congrArg Value.bool (decide_eq_true h8))) rfl ?_)
        refine s_nil ?_
        refine t_norm (hK3 _ _ ?_)
        refine c_true rfl rfl ?_
        refine wp_seq_k fun K9 hK9 => ?_
        refine c_region ?_
        refine s_op (o_move (v := (S s)) rfl ?_)
        refine s_op (o_assign (v := (.int .i64 0)) rfl ?_)
        refine s_op (o_assign (v := (S s)) rfl ?_)
        refine s_op (o_assign (v := (.bool false)) rfl ?_)
        refine s_nil ?_
        refine t_norm (hK9 _ _ ?_)
        refine wp_ret ?_
        refine t_ret (c_ret3 Tryd.results37 (v := (.int .i64 0)) rfl (x := (S s)) rfl (y := (.bool false)) rfl ?_)
        exact ⟨by rw [takeS_no (by first | exact .inl (by omega) | exact .inr (.inl (by omega)) | exact .inr (.inr ⟨by omega, 0, by simpa using rfl, by omega⟩))], hH⟩
      · -- not: (s.length : Int) < (m : Int)
        refine s_on 21 rfl (congrArg Value.bool (decide_eq_false h8)) (o_move (v := (.int .i64 (m : Int))) rfl ?_)
        refine s_on 21 rfl (congrArg Value.bool (decide_eq_false h8)) (o_eql (a := (m : Int)) (b := 8) rfl rfl ?_)
        refine s_on 21 rfl (congrArg Value.bool (decide_eq_false h8)) (o_move (v := (.bool (decide ((m : Int) = 8)))) rfl ?_)
        by_cases h10 : (m : Int) = 8
        · -- (m : Int) = 8
          refine s_on 24 rfl (congrArg Value.bool (decide_eq_true h10)) (o_move (v := (S s)) rfl ?_)
          obtain ⟨c11, hx12⟩ : ∃ x_, s[((0 : Int)).toNat]? = some x_ := get_some (by omega)
          have c11_lt := c11.toNat_lt
          refine s_on 24 rfl (congrArg Value.bool (decide_eq_true h10)) (o_sidx Tryd.underlying9 rfl rfl (by omega) hx12 ?_)
          refine s_on 24 rfl (congrArg Value.bool (decide_eq_true h10)) (o_gtr (a := (c11.toNat : Int)) (b := 127) rfl rfl ?_)
          refine s_on 21 rfl (congrArg Value.bool (decide_eq_false h8)) (o_pick_t (u := (.bool (decide (127 < (c11.toNat : Int))))) ((rfl : _ = _).trans (congrArg Value.bool (decide_eq_true h10))) rfl ?_)
          refine s_op (o_pick_f (u := (.bool (decide (127 < (c11.toNat : Int))))) ((rfl : _ = _).trans (congrArg Value.bool (decide_eq_false h8))) rfl ?_)
          refine s_nil ?_
          refine t_norm (hK3 _ _ ?_)
          refine c_cond rfl (fun h13 => ?_) (fun h13 => ?_)
          · -- 127 < (c11.toNat : Int)
            refine wp_seq_k fun K14 hK14 => ?_
            refine c_region ?_
            refine s_op (o_move (v := (S s)) rfl ?_)
            refine s_op (o_assign (v := (.int .i64 0)) rfl ?_)
            refine s_op (o_assign (v := (S s)) rfl ?_)
            refine s_op (o_assign (v := (.bool false)) rfl ?_)
            refine s_nil ?_
            refine t_norm (hK14 _ _ ?_)
            refine wp_ret ?_
            refine t_ret (c_ret3 Tryd.results37 (v := (.int .i64 0)) rfl (x := (S s)) rfl (y := (.bool false)) rfl ?_)
            exact ⟨by rw [takeS_no (by first | exact .inl (by omega) | exact .inr (.inl (by omega)) | exact .inr (.inr ⟨by omega, c11, by simpa using hx12, by omega⟩))], hH⟩
          · -- not: 127 < (c11.toNat : Int)
            refine wp_skip ?_
            refine t_norm (hK2 _ _ ?_)
            refine wp_seq_k fun K15 hK15 => ?_
            refine c_region ?_
            refine s_op (o_assign (v := (.int .i64 0)) rfl ?_)
            refine s_nil ?_
            refine t_norm (hK15 _ _ ?_)
            refine wp_seq_k fun K16 hK16 => ?_
            refine wp_seq_k fun K17 hK17 => ?_
            refine c_region ?_
            refine s_op (o_move (v := (.int .i64 (m : Int))) rfl ?_)
            refine s_op (o_move (v := (.int .i64 0)) rfl ?_)
            refine s_nil ?_
            refine t_norm (hK17 _ _ ?_)
            refine wp_block ?_
            let I19 : Nat → (Nat → Value) → World → Prop := fun n__ r__ w__ => ∃ (i : Nat) (y : Int), n__ = m - i ∧ Has E w__ [R] ∧ (i ≤ m) ∧ (y = beVal (s.take i)) ∧ r__ 0 = (S s) ∧ r__ 1 = (.int .i64 (m : Int)) ∧ r__ 4 = (.int .i64 0) ∧ r__ 5 = (S ([] : List UInt8)) ∧ r__ 6 = (.bool false) ∧ r__ 7 = (.int .i64 y) ∧ r__ 29 = (.bool (decide (127 < (c11.toNat : Int)))) ∧ r__ 31 = (.int .i64 (m : Int)) ∧ r__ 32 = (.int .i64 (i : Int))
            refine c_loop I19 _ ⟨0, 0, rfl, hH, Nat.zero_le _, rfl, rfl, rfl, rfl, rfl, rfl, rfl, rfl, rfl, rfl⟩ ?_
            rintro n_ r22 w20 ⟨i, y, rfl, hH21, hi, hy, e18_0, e18_1, e18_4, e18_5, e18_6, e18_7, e18_29, e18_31, e18_32⟩
            have hb0 := beVal_nonneg (s.take i)
            have hb1 : i < m → beVal (s.take i) < 36028797018963968 := fun h => beVal_lt h (by omega) (by omega) (.inr (first_byte (by simpa using hx12) (by omega)))
            refine wp_seq_k fun K23 hK23 => ?_
            refine c_region ?_
            refine s_op (o_lss (a := (i : Int)) (b := (m : Int)) e18_32 e18_31 ?_)
            refine s_nil ?_
            refine t_norm (hK23 _ _ ?_)
            refine wp_seq_k fun K24 hK24 => ?_
            refine c_cond rfl (fun h25 => ?_) (fun h25 => ?_)
            · -- (i : Int) < (m : Int)
              refine wp_skip ?_
              refine t_norm (hK24 _ _ ?_)
              refine wp_seq_k fun K26 hK26 => ?_
              refine wp_block ?_
              refine wp_seq_k fun K27 hK27 => ?_
              refine c_region ?_
              refine s_op (o_move (v := (.int .i64 (i : Int))) e18_32 ?_)
              refine s_op (o_assign (v := (.int .i64 (i : Int))) rfl ?_)
              refine s_nil ?_
              refine t_norm (hK27 _ _ ?_)
              refine c_region ?_
              refine s_op (o_move (v := (.int .i64 y)) e18_7 ?_)
              refine s_op (o_shl (c := y * 256) rfl rfl (by omega) (shl_lit (by omega) (by omega) rfl) ?_)
              refine s_op (o_move (v := (S s)) e18_0 ?_)
              refine s_op (o_move (v := (.int .i64 (i : Int))) rfl ?_)
              obtain ⟨c28, hx29⟩ : ∃ x_, s[((i : Int)).toNat]? = some x_ := get_some (by omega)
              have c28_lt := c28.toNat_lt
              refine s_op (o_sidx Tryd.underlying9 rfl rfl (by omega) hx29 ?_)
              refine s_op (o_conv Tryd.underlying5 Tryd.underlying3 rfl (w_u8 _) ?_)
              refine s_op (o_or (c := y * 256 + (c28.toNat : Int)) rfl rfl (or8 (by omega) (by omega) _) ?_)
              refine s_op (o_assign (v := (.int .i64 (y * 256 + (c28.toNat : Int)))) rfl ?_)
              refine s_nil ?_
              refine b_norm ?_
              refine t_norm (hK26 _ _ ?_)
              refine c_region ?_
              refine s_op (o_add (a := (i : Int)) (b := 1) e18_32 rfl (w64 (by omega) (by omega)) ?_)
              refine s_op (o_move (v := (.int .i64 ((i : Int) + 1))) rfl ?_)
              refine s_nil ?_
              refine t_norm ⟨m - (i + 1), _, rfl, ?_, ?_⟩
              · omega
              · exact ⟨(i + 1), (y * 256 + (c28.toNat : Int)), rfl, hH21, (by omega), (by rw [take_succ_of (by simpa using hx29), beVal_snoc, ← hy]), e18_0, e18_1, e18_4, e18_5, e18_6, rfl, e18_29, e18_31, rfl⟩
            · -- not: (i : Int) < (m : Int)
              refine wp_exit ?_
              refine t_exit (t_exit (x_in (?_)))
              refine t_norm (hK16 _ _ ?_)
              refine wp_seq_k fun K30 hK30 => ?_
              refine c_flow [R] (fun i_ => match i_ with | _ => []) (fun i_ v_ h_ => match i_ with | 0 => v_ = (.int .i64 y) ∧ h_ = [] | 1 => v_ = (S s) ∧ h_ = [] | 2 => v_ = (.int .i64 (m : Int)) ∧ h_ = [] | 3 => v_ = (S (s.drop ((m : Int)).toNat)) ∧ h_ = [] | 4 => v_ = (.int .i64 y) ∧ h_ = [] | 5 => v_ = (S (s.drop ((m : Int)).toNat)) ∧ h_ = [] | 6 => v_ = (.bool true) ∧ h_ = [] | _ => True) mixed (by kernel_rfl) (flow_has (cs := []) hH21 rfl) ?_ ?_
              · intro i_ o_ ho_ r' w' G hs_ ht
                match i_, ho_ with
                | 0, ho_ =>
                  obtain rfl := Option.some.inj ho_
                  have e7 : r' 7 = (.int .i64 y) := (ht.was 7 (by kernel_rfl)).trans e18_7
                  have hG := ht.has.drop
                  refine o_move (v := (.int .i64 y)) e7 ?_
                  exact ⟨_, ⟨rfl, rfl⟩, hG⟩
                | 1, ho_ =>
                  obtain rfl := Option.some.inj ho_
                  have e0 : r' 0 = (S s) := (ht.was 0 (by kernel_rfl)).trans e18_0
                  have hG := ht.has.drop
                  refine o_move (v := (S s)) e0 ?_
                  exact ⟨_, ⟨rfl, rfl⟩, hG⟩
                | 2, ho_ =>
                  obtain rfl := Option.some.inj ho_
                  have e1 : r' 1 = (.int .i64 (m : Int)) := (ht.was 1 (by kernel_rfl)).trans e18_1
                  have hG := ht.has.drop
                  refine o_move (v := (.int .i64 (m : Int))) e1 ?_
                  exact ⟨_, ⟨rfl, rfl⟩, hG⟩
                | 3, ho_ =>
                  obtain rfl := Option.some.inj ho_
                  obtain ⟨e44, eh1⟩ := (ht.done 1 _ rfl rfl).1
                  obtain ⟨e45, eh2⟩ := (ht.done 2 _ rfl rfl).1
                  have hG := ht.has.drop
                  refine o_ssl_l Tryd.underlying9 e44 e45 (by omega) (by omega) ?_
                  exact ⟨_, ⟨rfl, rfl⟩, hG⟩
                | 4, ho_ =>
                  obtain rfl := Option.some.inj ho_
                  obtain ⟨e43, eh0⟩ := (ht.done 0 _ rfl rfl).1
                  have hG := ht.has.drop
                  refine o_assign (v := (.int .i64 y)) e43 ?_
                  exact ⟨_, ⟨rfl, rfl⟩, hG⟩
                | 5, ho_ =>
                  obtain rfl := Option.some.inj ho_
                  obtain ⟨e46, eh3⟩ := (ht.done 3 _ rfl rfl).1
                  have hG := ht.has.drop
                  refine o_assign (v := (S (s.drop ((m : Int)).toNat))) e46 ?_
                  exact ⟨_, ⟨rfl, rfl⟩, hG⟩
                | 6, ho_ =>
                  obtain rfl := Option.some.inj ho_
                  have hG := ht.has.drop
                  refine o_assign (v := (.bool true)) rfl ?_
                  exact ⟨_, ⟨rfl, rfl⟩, hG⟩
                | i_ + 7, ho_ => exact absurd ho_ (by simp)
              · intro vs31 hs32 w33 hT34 hH35
                obtain ⟨e0_, eh0_⟩ := hT34 0 _ rfl
                obtain ⟨e1_, eh1_⟩ := hT34 1 _ rfl
                obtain ⟨e2_, eh2_⟩ := hT34 2 _ rfl
                obtain ⟨e3_, eh3_⟩ := hT34 3 _ rfl
                obtain ⟨e4_, eh4_⟩ := hT34 4 _ rfl
                obtain ⟨e5_, eh5_⟩ := hT34 5 _ rfl
                obtain ⟨e6_, eh6_⟩ := hT34 6 _ rfl
                have hH36 : Has E w33 ([R] ++ []) := flow_back (cs := []) hH35 (by show (hs32 0 ++ (hs32 1 ++ (hs32 2 ++ (hs32 3 ++ (hs32 4 ++ (hs32 5 ++ (hs32 6 ++ []))))))) = _; rw [eh0_, eh1_, eh2_, eh3_, eh4_, eh5_, eh6_]; rfl)
                generalize hr38 : puts vs31 _ 0 _ = r37
                have e39_0 : r37 0 = (S s) := by rw [← hr38]; exact e18_0
                have e39_1 : r37 1 = (.int .i64 (m : Int)) := by rw [← hr38]; exact e18_1
                have e39_4 : r37 4 = (.int .i64 y) := by rw [← hr38]; exact e4_
                have e39_5 : r37 5 = (S (s.drop ((m : Int)).toNat)) := by rw [← hr38]; exact e5_
                have e39_6 : r37 6 = (.bool true) := by rw [← hr38]; exact e6_
                have e39_7 : r37 7 = (.int .i64 y) := by rw [← hr38]; exact e18_7
                have e39_29 : r37 29 = (.bool (decide (127 < (c11.toNat : Int)))) := by rw [← hr38]; exact e18_29
                have e39_31 : r37 31 = (.int .i64 (m : Int)) := by rw [← hr38]; exact e18_31
                have e39_32 : r37 32 = (.int .i64 (i : Int)) := by rw [← hr38]; exact e18_32
                have e39_33 : r37 33 = (.bool (decide ((i : Int) < (m : Int)))) := by rw [← hr38]; exact rfl
                refine t_norm (hK30 _ _ ?_)
                refine wp_ret ?_
                refine c_ret3 Tryd.results37 (v := (.int .i64 y)) e39_4 (x := (S (s.drop ((m : Int)).toNat))) e39_5 (y := (.bool true)) e39_6 ?_
                have e : i = m := by omega
                rw [e] at hy
                exact ⟨by rw [takeS_yes (by omega) (by omega) (by omega) (.inr (first_byte (by simpa using hx12) (by omega))), hy]; rfl, hH36⟩
        · -- not: (m : Int) = 8
          refine s_off (b' := false) 24 rfl (congrArg Value.bool (decide_eq_false h10)) rfl ?_
          refine s_off (b' := false) 24 rfl (congrArg Value.bool (decide_eq_false h10)) rfl ?_
          refine s_off (b' := false) 24 rfl (congrArg Value.bool (decide_eq_false h10)) rfl ?_
          refine s_on 21 rfl (congrArg Value.bool (decide_eq_false h8)) (o_pick_f (u := (.bool false)) ((rfl : _ = _).trans (congrArg Value.bool (decide_eq_false h10))) rfl ?_)
          refine s_op (o_pick_f (u := (.bool false)) ((rfl : _ = _).trans (congrArg Value.bool (decide_eq_false h8))) rfl ?_)
          refine s_nil ?_
          refine t_norm (hK3 _ _ ?_)
          refine c_false rfl rfl ?_
          refine wp_skip ?_
          refine t_norm (hK2 _ _ ?_)
          refine wp_seq_k fun K40 hK40 => ?_
          refine c_region ?_
          refine s_op (o_assign (v := (.int .i64 0)) rfl ?_)
          refine s_nil ?_
          refine t_norm (hK40 _ _ ?_)
          refine wp_seq_k fun K41 hK41 => ?_
          refine wp_seq_k fun K42 hK42 => ?_
          refine c_region ?_
          refine s_op (o_move (v := (.int .i64 (m : Int))) rfl ?_)
          refine s_op (o_move (v := (.int .i64 0)) rfl ?_)
          refine s_nil ?_
          refine t_norm (hK42 _ _ ?_)
          refine wp_block ?_
          let I44 : Nat → (Nat → Value) → World → Prop := fun n__ r__ w__ => ∃ (i : Nat) (y : Int), n__ = m - i ∧ Has E w__ [R] ∧ (i ≤ m) ∧ (y = beVal (s.take i)) ∧ r__ 0 = (S s) ∧ r__ 1 = (.int .i64 (m : Int)) ∧ r__ 4 = (.int .i64 0) ∧ r__ 5 = (S ([] : List UInt8)) ∧ r__ 6 = (.bool false) ∧ r__ 7 = (.int .i64 y) ∧ r__ 29 = (.bool false) ∧ r__ 31 = (.int .i64 (m : Int)) ∧ r__ 32 = (.int .i64 (i : Int))
          refine c_loop I44 _ ⟨0, 0, rfl, hH, Nat.zero_le _, rfl, rfl, rfl, rfl, rfl, rfl, rfl, rfl, rfl, rfl⟩ ?_
          rintro n_ r47 w45 ⟨i, y, rfl, hH46, hi, hy, e43_0, e43_1, e43_4, e43_5, e43_6, e43_7, e43_29, e43_31, e43_32⟩
          have hb0 := beVal_nonneg (s.take i)
          have hb1 : i < m → beVal (s.take i) < 36028797018963968 := fun h => beVal_lt h (by omega) (by omega) (.inl (by omega))
          refine wp_seq_k fun K48 hK48 => ?_
          refine c_region ?_
          refine s_op (o_lss (a := (i : Int)) (b := (m : Int)) e43_32 e43_31 ?_)
          refine s_nil ?_
          refine t_norm (hK48 _ _ ?_)
          refine wp_seq_k fun K49 hK49 => ?_
          refine c_cond rfl (fun h50 => ?_) (fun h50 => ?_)
          · -- (i : Int) < (m : Int)
            refine wp_skip ?_
            refine t_norm (hK49 _ _ ?_)
            refine wp_seq_k fun K51 hK51 => ?_
            refine wp_block ?_
            refine wp_seq_k fun K52 hK52 => ?_
            refine c_region ?_
            refine s_op (o_move (v := (.int .i64 (i : Int))) e43_32 ?_)
            refine s_op (o_assign (v := (.int .i64 (i : Int))) rfl ?_)
            refine s_nil ?_
            refine t_norm (hK52 _ _ ?_)
            refine c_region ?_
            refine s_op (o_move (v := (.int .i64 y)) e43_7 ?_)
            refine s_op (o_shl (c := y * 256) rfl rfl (by omega) (shl_lit (by omega) (by omega) rfl) ?_)
            refine s_op (o_move (v := (S s)) e43_0 ?_)
            refine s_op (o_move (v := (.int .i64 (i : Int))) rfl ?_)
            obtain ⟨c53, hx54⟩ : ∃ x_, s[((i : Int)).toNat]? = some x_ := get_some (by omega)
            have c53_lt := c53.toNat_lt
            refine s_op (o_sidx Tryd.underlying9 rfl rfl (by omega) hx54 ?_)
            refine s_op (o_conv Tryd.underlying5 Tryd.underlying3 rfl (w_u8 _) ?_)
            refine s_op (o_or (c := y * 256 + (c53.toNat : Int)) rfl rfl (or8 (by omega) (by omega) _) ?_)
            refine s_op (o_assign (v := (.int .i64 (y * 256 + (c53.toNat : Int)))) rfl ?_)
            refine s_nil ?_
            refine b_norm ?_
            refine t_norm (hK51 _ _ ?_)
            refine c_region ?_
            refine s_op (o_add (a := (i : Int)) (b := 1) e43_32 rfl (w64 (by omega) (by omega)) ?_)
            refine s_op (o_move (v := (.int .i64 ((i : Int) + 1))) rfl ?_)
            refine s_nil ?_
            refine t_norm ⟨m - (i + 1), _, rfl, ?_, ?_⟩
            · omega
            · exact ⟨(i + 1), (y * 256 + (c53.toNat : Int)), rfl, hH46, (by omega), (by rw [take_succ_of (by simpa using hx54), beVal_snoc, ← hy]), e43_0, e43_1, e43_4, e43_5, e43_6, rfl, e43_29, e43_31, rfl⟩
          · -- not: (i : Int) < (m : Int)
            refine wp_exit ?_
            refine t_exit (t_exit (x_in (?_)))
            refine t_norm (hK41 _ _ ?_)
            refine wp_seq_k fun K55 hK55 => ?_
            refine c_flow [R] (fun i_ => match i_ with | _ => []) (fun i_ v_ h_ => match i_ with | 0 => v_ = (.int .i64 y) ∧ h_ = [] | 1 => v_ = (S s) ∧ h_ = [] | 2 => v_ = (.int .i64 (m : Int)) ∧ h_ = [] | 3 => v_ = (S (s.drop ((m : Int)).toNat)) ∧ h_ = [] | 4 => v_ = (.int .i64 y) ∧ h_ = [] | 5 => v_ = (S (s.drop ((m : Int)).toNat)) ∧ h_ = [] | 6 => v_ = (.bool true) ∧ h_ = [] | _ => True) mixed (by kernel_rfl) (flow_has (cs := []) hH46 rfl) ?_ ?_
            · intro i_ o_ ho_ r' w' G hs_ ht
              match i_, ho_ with
              | 0, ho_ =>
                obtain rfl := Option.some.inj ho_
                have e7 : r' 7 = (.int .i64 y) := (ht.was 7 (by kernel_rfl)).trans e43_7
                have hG := ht.has.drop
                refine o_move (v := (.int .i64 y)) e7 ?_
                exact ⟨_, ⟨rfl, rfl⟩, hG⟩
              | 1, ho_ =>
                obtain rfl := Option.some.inj ho_
                have e0 : r' 0 = (S s) := (ht.was 0 (by kernel_rfl)).trans e43_0
                have hG := ht.has.drop
                refine o_move (v := (S s)) e0 ?_
                exact ⟨_, ⟨rfl, rfl⟩, hG⟩
              | 2, ho_ =>
                obtain rfl := Option.some.inj ho_
                have e1 : r' 1 = (.int .i64 (m : Int)) := (ht.was 1 (by kernel_rfl)).trans e43_1
                have hG := ht.has.drop
                refine o_move (v := (.int .i64 (m : Int))) e1 ?_
                exact ⟨_, ⟨rfl, rfl⟩, hG⟩
              | 3, ho_ =>
                obtain rfl := Option.some.inj ho_
                obtain ⟨e44, eh1⟩ := (ht.done 1 _ rfl rfl).1
                obtain ⟨e45, eh2⟩ := (ht.done 2 _ rfl rfl).1
                have hG := ht.has.drop
                refine o_ssl_l Tryd.underlying9 e44 e45 (by omega) (by omega) ?_
                exact ⟨_, ⟨rfl, rfl⟩, hG⟩
              | 4, ho_ =>
                obtain rfl := Option.some.inj ho_
                obtain ⟨e43, eh0⟩ := (ht.done 0 _ rfl rfl).1
                have hG := ht.has.drop
                refine o_assign (v := (.int .i64 y)) e43 ?_
                exact ⟨_, ⟨rfl, rfl⟩, hG⟩
              | 5, ho_ =>
                obtain rfl := Option.some.inj ho_
                obtain ⟨e46, eh3⟩ := (ht.done 3 _ rfl rfl).1
                have hG := ht.has.drop
                refine o_assign (v := (S (s.drop ((m : Int)).toNat))) e46 ?_
                exact ⟨_, ⟨rfl, rfl⟩, hG⟩
              | 6, ho_ =>
                obtain rfl := Option.some.inj ho_
                have hG := ht.has.drop
                refine o_assign (v := (.bool true)) rfl ?_
                exact ⟨_, ⟨rfl, rfl⟩, hG⟩
              | i_ + 7, ho_ => exact absurd ho_ (by simp)
            · intro vs56 hs57 w58 hT59 hH60
              obtain ⟨e0_, eh0_⟩ := hT59 0 _ rfl
              obtain ⟨e1_, eh1_⟩ := hT59 1 _ rfl
              obtain ⟨e2_, eh2_⟩ := hT59 2 _ rfl
              obtain ⟨e3_, eh3_⟩ := hT59 3 _ rfl
              obtain ⟨e4_, eh4_⟩ := hT59 4 _ rfl
              obtain ⟨e5_, eh5_⟩ := hT59 5 _ rfl
              obtain ⟨e6_, eh6_⟩ := hT59 6 _ rfl
              have hH61 : Has E w58 ([R] ++ []) := flow_back (cs := []) hH60 (by show (hs57 0 ++ (hs57 1 ++ (hs57 2 ++ (hs57 3 ++ (hs57 4 ++ (hs57 5 ++ (hs57 6 ++ []))))))) = _; rw [eh0_, eh1_, eh2_, eh3_, eh4_, eh5_, eh6_]; rfl)
              generalize hr63 : puts vs56 _ 0 _ = r62
              have e64_0 : r62 0 = (S s) := by rw [← hr63]; exact e43_0
              have e64_1 : r62 1 = (.int .i64 (m : Int)) := by rw [← hr63]; exact e43_1
              have e64_4 : r62 4 = (.int .i64 y) := by rw [← hr63]; exact e4_
              have e64_5 : r62 5 = (S (s.drop ((m : Int)).toNat)) := by rw [← hr63]; exact e5_
              have e64_6 : r62 6 = (.bool true) := by rw [← hr63]; exact e6_
              have e64_7 : r62 7 = (.int .i64 y) := by rw [← hr63]; exact e43_7
              have e64_29 : r62 29 = (.bool false) := by rw [← hr63]; exact e43_29
              have e64_31 : r62 31 = (.int .i64 (m : Int)) := by rw [← hr63]; exact e43_31
              have e64_32 : r62 32 = (.int .i64 (i : Int)) := by rw [← hr63]; exact e43_32
              have e64_33 : r62 33 = (.bool (decide ((i : Int) < (m : Int)))) := by rw [← hr63]; exact rfl
              refine t_norm (hK55 _ _ ?_)
              refine wp_ret ?_
              refine c_ret3 Tryd.results37 (v := (.int .i64 y)) e64_4 (x := (S (s.drop ((m : Int)).toNat))) e64_5 (y := (.bool true)) e64_6 ?_
              have e : i = m := by omega
              rw [e] at hy
              exact ⟨by rw [takeS_yes (by omega) (by omega) (by omega) (.inl (by omega)), hy]; rfl, hH61⟩
end Go.Q
